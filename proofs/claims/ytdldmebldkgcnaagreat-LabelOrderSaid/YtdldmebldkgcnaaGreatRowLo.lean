/-
  hachurelaw23.LabelOrder: whatever the numbers and the turn: it returns true; the arguments read behind the call what they read before. Conditions: none. Own work.
-/
import Derived.Test.YtdldmebldkgcnaaGreatGak
import Derived.Test.YtdldmebldkgcnaaGreatRw
set_option maxRecDepth 20000
set_option maxHeartbeats 4000000
set_option linter.unusedSimpArgs false
set_option linter.unusedVariables false
namespace Go.AM
theorem Ja {ls:List (List Int)} (hs:qf ls) {t:Int} (t0:0≤t) (t1:t< 256):Ev E 590 [eQ ls,.int .u8 t] ⟨.bool true,[]⟩:=by
 have Fv:=r4
 obtain⟨m,hN,oy⟩:=vG hs
 obtain⟨l,hl,kY,iO⟩:=zA hN.bd
 have hP:=hN.bd.p
 have Bj:=qH (m:=m) abV (l:=l) abV (fun h hx=>by have:=(kY h hx).1;omega)
 have WQ:=SD (m:=m) abV
 obtain⟨es,fs,ws,ps⟩:=m
 dsimp only at hP
 obtain⟨k,hk⟩: ∃k:Nat,k=t.toNat % (ps.length+1):=⟨_,rfl⟩
 have Gm:k≤ps.length:=by have:=Nat.mod_lt t.toNat (show 0 <ps.length+1 by omega);omega
 have iB: (ps.drop k++ps.take k).length=ps.length:=by simp;omega
 have WR:=qH (m:=⟨es,fs,ws,ps.drop k++ps.take k⟩) om (l:=l) abV (fun h hx=>by have:=(kY h hx).1;omega)
 dsimp only at Bj WQ WR
 rw[H0 hN.ids k] at WR
 have hlen: (cn l (bX ps)).length=ps.length:=by rw[lS];exact nj hN.named
 have aaq:=DX l (bX ps)
 rw[←aaq] at WQ
 obtain⟨L,hL⟩: ∃L,L=cn l (bX ps):=⟨_,rfl⟩
 rw[←hL] at Bj WR WQ hlen aaq
 have kZ:=Sr (l:=L) abV
 have lm: (ps.map Place.v).length=ps.length:=List.length_map ..
 have hwt:IntKind.i64.wrap t=t:=wrap64 abV abV
 have cL:IntKind.i64.wrap (((ps.map Place.v).length:Int)+1)≠0:=by rw[lm,wrap64 abV abV];omega
 have aiM:IntKind.i64.wrap ((IntKind.i64.wrap t).tmod (IntKind.i64.wrap (((ps.map Place.v).length:Int)+1)))=(k:Int):=by
  rw[lm,hwt]
  have:t.tmod ((ps.length:Int)+1)=(k:Int):=by
   rw[hk,akH t0,Int.natCast_emod];congr 1;omega
  rw[wrap64 (n:=(ps.length:Int)+1) abV abV,this]
  exact wrap64 abV abV
 have ad2: (IntKind.i64.wrap t).tmod (IntKind.i64.wrap (((ps.map Place.v).length:Int)+1))=(k:Int):=by
  rw[lm,hwt,wrap64 (n:=(ps.length:Int)+1) abV abV]
  rw[hk,akH t0,Int.natCast_emod];congr 1;omega
 refine Ev.EM rfl rfl rfl ?_
 refine WS.cut 5 (fun gK:Nat=> ⟨[(5,.bool true),(6,.ptr 112 gK 0 0),(7,.lit 2 (l.map dn.v)),(8,av k)],[(112,⟨gK,4,false,false,some [.agg [.lit 4 (es.map Edge.v),.lit 5 (fs.map aW.v),.lit 8 (ws.map Way.v),.lit 7 (ps.map Place.v)]]⟩)]⟩) (fun _=>True) ?_ ?_
 ·unfold aI.vo at oy
  conv=>whnf
  repeat' (first| intro g| refine nd ⟨rfl,cL⟩ ?_| apply ca Fv| apply ca oy| apply ca iO| refine st ?_| refine br ?_ ?_<;>intro hc| rfl) <;>conv=>whnf
  exact oX.mk g trivial (by(refine⟨?_,?_⟩ <;>repeat' (first| exact True.intro| refine And.intro (congrArg vi ad2) ?_| refine ai ?_| refine And.intro ?_ ?_)))
 rintro gK -
 have w1:aG (ps.map Place.v) (k:Int).toNat ((ps.map Place.v).length - (k:Int).toNat)=(ps.drop k).map Place.v:=by
  unfold aG;rw[Int.toNat_natCast,List.map_drop,List.take_of_length_le abW]
 have w2:aG (ps.map Place.v) 0 (k:Int).toNat=(ps.take k).map Place.v:=by
  unfold aG;rw[Int.toNat_natCast,List.drop_zero,List.map_take]
 refine WS.cut 4 (fun _:Unit=> ⟨[(5,.bool true),(6,.ptr 112 gK 0 0),(10,.lit 6 (L.map dj.v)),(11,.lit 6 (L.map dj.v)),(12,.lit 1 ((L.map dj.id).map vi))],[(112,⟨gK,4,false,false,some [.agg [.lit 4 (es.map Edge.v),.lit 5 (fs.map aW.v),.lit 8 (ws.map Way.v),.lit 7 (ps.map Place.v)]]⟩)]⟩) (fun _=>True) ?_ ?_
 ·have e1: ([]:List V)++(ps.drop k).map Place.v++(ps.take k).map Place.v=(ps.drop k++ps.take k).map Place.v:=by rw[ajx,ajk]
  have e2:0+((ps.drop k).map Place.v).length+((ps.take k).map Place.v).length=((ps.drop k++ps.take k).map Place.v).length:=abW
  conv=>whnf
  repeat' (first| intro g| refine wi w1 ?_| refine wi w2 ?_| apply ca WQ| apply ca WR| apply ca Bj| refine st ?_| refine br ?_ ?_<;>intro hc| rfl| rw[e1,e2]) <;>conv=>whnf
  exact oX.mk () trivial su
 rintro _ -
 have hQ: ∀ (i:Nat) (p:Place),(bX ps)[i]? =some p→p ∈ ps:=fun i p h=> (Bg hN.named p).1 (List.mem_of_getElem? h)
 refine WS.cut 1 (fun _:Unit=> ⟨[(5,.bool true),(6,.ptr 112 gK 0 0),(10,.lit 6 (L.map dj.v)),(11,.lit 6 (L.map dj.v)),(12,.lit 1 ((L.map dj.id).map vi))],[(112,⟨gK,4,false,false,some [.agg [.lit 4 (es.map Edge.v),.lit 5 (fs.map aW.v),.lit 8 (ws.map Way.v),.lit 7 (ps.map Place.v)]]⟩)]⟩) (fun _=>True) ?_ ?_
 ·conv=>whnf
  repeat' (first| ((exfalso;omega)) | intro g| apply ca kZ| refine st ?_| refine br ?_ ?_<;>intro hc| rfl) <;>conv=>whnf
  exact oX.mk () trivial su
 rintro _ -
 refine WS.of ?_
 conv=>whnf
 repeat' (first| intro g| refine st ?_| refine br ?_ ?_<;>intro hc| rfl) <;>conv=>whnf
 refine aL.by (fun ((i,w):Nat×Int)=> ⟨[(5,.bool true),(6,.ptr 112 gK 0 0),(10,.lit 6 (L.map dj.v)),(12,.lit 1 ((L.map dj.id).map vi)),(13,vi w),(14,av i)],[(112,⟨gK,4,false,false,some [.agg [.lit 4 (es.map Edge.v),.lit 5 (fs.map aW.v),.lit 8 (ws.map Way.v),.lit 7 (ps.map Place.v)]]⟩)]⟩)
  (fun (i,w)=>i≤ps.length∧ ∀p,(bX ps)[i]? =some p→p.weight≤w) (fun (i,_)=>ps.length - i) (0,1073741824) su ⟨abV,fun p hp=> (hN.ok p (hQ _ _ hp)).2.2⟩ ?_
 rintro⟨i,w⟩ ⟨hi,hw⟩
 try dsimp only at hi hw
 by_cases bl:i<ps.length
 case neg=> (conv=>whnf);repeat' ((first| ((exfalso;omega)) | intro g| refine st ?_| refine br ?_ ?_<;>intro hc| rfl) <;>conv=>whnf)
 obtain⟨x,hx⟩: ∃x,L[i]? =some x:=⟨_,aH abV⟩
 obtain⟨p,hp⟩: ∃p,(bX ps)[i]? =some p:=⟨_,aH (by rw[←lS l,←hL];omega)⟩
 have hxp:x.id=p.id:=by
  have h1: (L.map dj.id)[i]? =some x.id:=by rw[List.getElem?_map,hx];rfl
  rw[aaq,List.getElem?_map,hp] at h1
  injection h1 with h1;exact h1.symm
 have hpw:0≤p.weight∧p.weight≤1073741824:=(hN.ok p (hQ _ _ hp)).2
 have hle:=hw p hp
 have pN:sU ps x.id=p.weight:=by rw[hxp];exact SK hN.ids (hQ _ _ hp)
 conv=>whnf
 repeat' (first| intro g| refine st ?_| refine br ?_ ?_<;>intro hc| rfl) <;>conv=>whnf
 refine aL.by (fun j:Nat=> ⟨[(5,.bool true),(6,.ptr 112 gK 0 0),(10,.lit 6 (L.map dj.v)),(12,.lit 1 ((L.map dj.id).map vi)),(13,vi w),(14,av i),(15,vi (sU (ps.take j) x.id)),(16,av j)],[(112,⟨gK,4,false,false,some [.agg [.lit 4 (es.map Edge.v),.lit 5 (fs.map aW.v),.lit 8 (ws.map Way.v),.lit 7 (ps.map Place.v)]]⟩)]⟩)
  (fun j=>j≤ps.length) (fun j=>ps.length - j) 0 su abV ?_
 rintro j hj
 by_cases E2:j<ps.length
 ·obtain⟨y,hy⟩: ∃y,ps[j]? =some y:=⟨_,aH E2⟩
  have Fb:sU (ps.take (j+1)) x.id=if y.id=x.id then y.weight else sU (ps.take j) x.id:=by rw[jv hy,Bh]
  by_cases e:y.id=x.id
  ·rw[if_pos e] at Fb
   conv=>whnf
   repeat' (first| ((exfalso;omega)) | intro g| refine wi (aq hy rfl) ?_| refine wi (aq hx rfl) ?_| refine st ?_| refine br ?_ ?_<;>intro hc| rfl) <;>conv=>whnf
   exact aK.mk (j+1) om (by show j+1≤_;omega) (by(refine⟨?_,?_⟩ <;>repeat' (first| exact True.intro| refine And.intro (congrArg vi Fb) ?_| refine ai ?_| refine And.intro ?_ ?_)))
  ·rw[if_neg e] at Fb
   conv=>whnf
   repeat' (first| ((exfalso;omega)) | intro g| refine wi (aq hy rfl) ?_| refine wi (aq hx rfl) ?_| refine st ?_| refine br ?_ ?_<;>intro hc| rfl) <;>conv=>whnf
   exact aK.mk (j+1) om (by show j+1≤_;omega) (by(refine⟨?_,?_⟩ <;>repeat' (first| exact True.intro| refine And.intro (congrArg vi Fb) ?_| refine ai ?_| refine And.intro ?_ ?_)))
 have hj9:sU (ps.take j) x.id=p.weight:=by rw[List.take_of_length_le abV];exact pN
 rw[hj9]
 have xw: ∀q,(bX ps)[i+1]? =some q→q.weight≤p.weight:=fun q hq=>H2 hp hq abV
 have ah7: ((L.map dj.id).map vi)[i]? =some (vi x.id):=by rw[List.map_map,List.getElem?_map,hx];rfl
 conv=>whnf
 repeat' (first| ((exfalso;omega)) | intro g| refine wi (aq hx rfl) ?_| refine wi ah7 ?_| refine st ?_| refine br ?_ ?_<;>intro hc| rfl) <;>conv=>whnf
 exact aK.mk (i+1,p.weight) om ⟨abV,xw⟩ su
end Go.AM
namespace Go.AM
open Go.ChangeShapes Go.WideShapes Go.ChangeAt Go.RowKit Go.Proofs Go.Proofs.YtdldmebldkgcnaaGreat
set_option maxRecDepth 100000 in
theorem Jb (H:Type) (enc:TypeId×Value→H) (W:World) (base:Nat) (args:Array Value) (ds gs:List (DataW H)) (before:List MemPlace)
  (jF: ∀ (j:Nat) t v,Tryz.f6.params[j]? =some t→args[j]? =some v→Value.okWide Tryz.prog W .any base t v)
  (hW:DataW.Whole enc Tryz.prog Tryz.f6.params.toList Rows.labelOrderSpec.vars false W args.toList ds gs before):
  Calls Tryz.prog 6 args W fun e W'=> ∃v,e= .returned v∧Rows.labelOrderSpec.post enc Tryz.prog Tryz.f6 false true false false W args v W':=by
 have F9:=hW
 obtain⟨p,q,T6,hV,rfl,gz,Pl⟩:=hW
 have hA:DataW.TrodAll enc Tryz.prog W 0 (fun _=>true) true Tryz.f6.params.toList args.toList ds p:=T6
 rw[Tryz.params6] at hA jF
 obtain⟨v0,vs0,d0,ds0,p0,q0,jb,rfl,rfl,h0,r0⟩:=trodAll_cons hA
 obtain⟨v1,vs1,d1,ds1,p1,q1,rfl,rfl,rfl,h1,r1⟩:=trodAll_cons r0
 obtain⟨rfl,rfl,rfl⟩:=trodAll_nil r1
 obtain rfl:args= #[v0,v1]:=by cases args;simp_all
 obtain⟨rfl,rfl⟩:=trodVars_none hV
 clear T6
 have zg:=F9
 simp only[ajq] at F9
 obtain⟨a0,LD,LF,rfl⟩:=okWide_slice Tryz.underlying22 (jF 0 22 v0 rfl rfl)
 obtain⟨t1,rfl⟩:=okWide_int Tryz.underlying5 (jF 1 5 v1 rfl rfl)
 have h0k:=h0;have h1k:=h1
 obtain⟨rp,hf0⟩:=h0
 obtain⟨us0,g00,g01,g02,g03⟩:=trod_good (X:=X0) nH rp 22 _ _ aiO hf0
 obtain⟨ls,Fb,Cj,Ni⟩:=wy g00
 obtain⟨I7,XY⟩:=h1
 obtain⟨us1,g10,g11,g12,g13⟩:=trod_good (X:=X0) nH I7 5 _ _ aiO XY
 obtain⟨rfl,aao,aap⟩:=LH (X:=free X0) (μ:=still W fun _=> ⟨0,0,0⟩) (T:=5) Tryz.underlying5 (g13 fun _=> ⟨0,0,0⟩) g10
 have LG: ∀x ∈ p0,x.block<W.heap.size:=fun x hx=>F9.lt x (by simp[hx])
 have T7: ∀x ∈ p1,x.block<W.heap.size:=fun x hx=>F9.lt x (by simp[hx])
 have hm:maxLen< 9223372036854775808:=aiO
 refine(sB (F:=6) M3 rfl Tryz.func6 aiQ rfl (Ja (wz Fb Cj) (by simpa [IntKind.min,IntKind.signed,IntKind.bits] using aao) (by have:=aap;simp[IntKind.max,IntKind.signed,IntKind.bits] at this;omega)) (by simp[V.al,V.aw,pH,AM.aN (f:=V.int .u32) (fun _=>rfl)]) (vals:=[.slice a0 LD LF,.int .u8 t1])
  (fun φ=>by
    simp only[ag]
    exact⟨Ni _ _ _ (g03 φ),(by
     have h:=g13 φ
     have e1: (Value.int .u8 t1).cells.toList=[Value.int .u8 t1]:=rfl
     rw[e1] at h
     exact h.1),trivial⟩)).mono fun e W' ⟨he,hb,hz⟩=> ?_
 subst he
 refine⟨_,rfl,sA (pa:=p0++(p1++([]))) (pv:=[]) zg (fun _ _ _=> (trodAll_cons_mk (shut_bool Tryz.underlying4 _) trodAll_mk0))
  (fun sp vD=> (trodAll_cons_mk (WideElems.Trod_stays rG aiQ (of_decide_eq_true aiQ) h0k (fun x hx=>hb.same (LG x hx)) (fun x hx=>vD x (by simp[hx])))
    (trodAll_cons_mk (WideElems.Trod_stays rG aiQ (of_decide_eq_true aiQ) h1k (fun x hx=>hb.same (T7 x hx)) (fun x hx=>vD x (by simp[hx])))
    trodAll_mk0))) (fun _ _=>rfl) abW
  (pI hb _) hz (ok_one aiQ rfl (okWide_bool_mk Tryz.underlying4 _))⟩
set_option maxRecDepth 100000 in
theorem PA (os:Os) (started:os.Started) (H:Type) (enc:TypeId×Value→H):
  ReturnsInHanded {} Tryz.checked os 6 .any (Rows.labelOrderSpec.pre6 enc Tryz.prog Tryz.f6 Rows.labelOrderRow.domain false) (Rows.labelOrderSpec.post enc Tryz.prog Tryz.f6 false true false false):=by
 refine returnsInHanded_of_change (C:=Tryz.checked) M4 started aiQ Tryz.func6
  (ChangeSpec.witness6 (enc:=enc) (C:=Tryz.checked) false ⟨#[],#[.slice none 0 0,.int .u8 0],[]⟩ 8 aiQ aiQ aiQ aiQ) ?_
 intro W base args ds gs before jF hW _ _
 exact Jb H enc W base args ds gs before jF hW
theorem Ue:joinedFacts Tryz.prog 6 Tryz.f6 Rows.labelOrderSpec Rows.labelOrderRow=true:=by
 unfold joinedFacts
 simp only[Bool.and_eq_true]
 and_intros<;>decide+kernel
theorem Uf:Tryz.prog.funcNamed Rows.labelOrderRow.func=some 6:=aiQ
theorem WT:Rows.labelOrderRow.holds Tryz.pinned (OpenSpec.ofChange Rows.labelOrderSpec):=
 OpenClaim.holds_of_wide 6 Tryz.f6 rfl rfl rfl rfl rfl rfl rfl ⟨rfl,rfl,rfl,rfl,rfl⟩ rfl rfl rfl rfl rfl Uf Tryz.func6 Ue
  (of_decide_eq_true aiQ) (by unfold Func.isWrapper;first| (rw[if_pos (by decide+kernel)];kernel_rfl) | (rw[if_neg (by decide+kernel)];exact⟨rfl,rfl⟩))
  (fun os started H enc _=>PA os started H enc)
end Go.AM
namespace Go.Proofs.YtdldmebldkgcnaaGreat
theorem labelOrder_holds:Rows.LabelOrderSaid:=Go.AM.WT
#print axioms labelOrder_holds
end Go.Proofs.YtdldmebldkgcnaaGreat
