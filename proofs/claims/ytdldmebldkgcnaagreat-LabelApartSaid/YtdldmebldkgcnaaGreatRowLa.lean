/- Texts of the proof. -/
import Derived.Test.YtdldmebldkgcnaaGreatGak
import Derived.Test.YtdldmebldkgcnaaGreatRw
set_option maxRecDepth 20000
set_option maxHeartbeats 4000000
set_option linter.unusedSimpArgs false
set_option linter.unusedVariables false
namespace Go.AM
theorem Pv {ps:List Place} (h:vF ps):vF (bX ps):=by
 have h1: (bX ps).Perm (named ps):=jW (c:=fm) _
 have h2:vF (named ps):=List.Pairwise.sublist List.filter_sublist h
 exact(h1.pairwise_iff (R:=fun a b:Place=>a.id≠b.id) (fun h e=>h e.symm)).2 h2
theorem T3 (l:List dn) {ps:List Place} (h:vF ps): (cn l (bX ps)).Pairwise fun a b=>a.id≠b.id:=by
 have h1:=Pv h
 rw[show (cn l (bX ps)).Pairwise (fun a b=>a.id≠b.id)↔((cn l (bX ps)).map dj.id).Pairwise (· ≠ ·) from List.pairwise_map.symm,DX]
 exact List.pairwise_map.2 h1
theorem T4 {L:List dj} (h:L.Pairwise fun a b=>a.id≠b.id) (q:Int): (cY L q).Pairwise (· ≠ ·):=by
 unfold cY
 rw[List.pairwise_map]
 exact List.Pairwise.sublist List.filter_sublist h
theorem T5 {L:List dj} {q x:Int} {i:Nat} (h: (cY L q)[i]? =some x): ∃ (a:Nat) (y:dj),L[a]? =some y∧y.id=x∧0 <y.iG∧q≤y.iG*y.iG:=by
 have h1:=List.mem_of_getElem? h
 unfold cY at h1
 obtain⟨y,hy,rfl⟩:=ai9.1 h1
 obtain⟨hm,hd⟩:=ake.1 hy
 obtain⟨a,ha⟩:=ajL hm
 have hd:0 <y.iG∧q≤y.iG*y.iG:=by simpa using hd
 exact⟨a,y,ha,rfl,hd.1,hd.2⟩
theorem I4 {L:List dj} (h:L.Pairwise fun a b=>a.id≠b.id) {a:Nat} {y:dj} (ha:L[a]? =some y): ∀ (j:Nat) z,j<a→L[j]? =some z→z.id≠y.id:=fun j z hj hz=>by
 obtain⟨h1,rfl⟩:=aiS.1 ha
 obtain⟨h2,rfl⟩:=aiS.1 hz
 exact akp.1 h j a h2 h1 hj
theorem I5 {ls:List (List Int)} (hs:qf ls) {sq:List Int} (Ao: ∀x ∈ sq,0≤x∧x< 4294967296) (Xv:sq.length< 9223372036854775808):Ev E 587 [eQ ls,.lit 1 (sq.map (V.int .u32))] ⟨.bool true,[]⟩:=by
 have Fv:=r4
 obtain⟨m,hN,oy⟩:=vG hs
 obtain⟨l,hl,kY,iO⟩:=zA hN.bd
 have hP:=hN.bd.p
 have Bj:=qH (m:=m) abV (l:=l) abV (fun h hx=>by have:=(kY h hx).1;omega)
 have hlen: (cn l (bX m.az)).length=m.az.length:=by rw[lS];exact nj hN.named
 have CH:=AW l (bX m.az)
 have hpw:=T3 l hN.ids
 have X7: ∀ {i j:Nat} {x y:dj} {q:Int},i≠j→(cn l (bX m.az))[i]? =some x→(cn l (bX m.az))[j]? =some y→0 <x.iG→q≤x.iG*x.iG→0 <y.iG→q≤y.iG*y.iG→my x y q=false:=by
  intro i j x y q Jm hx hy x0 xq y0 yq
  by_cases h:i<j
  ·rw[A9];exact DY hx hy h x0 xq y0 yq
  ·exact DY hy hx abV y0 yq x0 xq
 obtain⟨L,hL⟩: ∃L,L=cn l (bX m.az):=⟨_,rfl⟩
 rw[←hL] at Bj hlen CH hpw X7
 clear hL
 obtain⟨es,fs,ws,ps⟩:=m
 dsimp only at hP hlen Bj
 have Xp:L.length< 1000000:=abV
 have lm: (L.map dj.v).length=L.length:=List.length_map ..
 refine Ev.EM rfl rfl rfl ?_
 refine WS.cut 5 (fun _:Unit=> ⟨[(1,.lit 1 (sq.map (V.int .u32))),(5,.bool true),(7,.lit 6 (L.map dj.v))],[]⟩) (fun _=>True) ?_ ?_
 ·unfold aI.vo at oy
  conv=>whnf
  repeat' (first| ((exfalso;omega)) | intro g| apply ca Fv| apply ca oy| apply ca iO| apply ca Bj| refine st ?_| refine br ?_ ?_<;>intro hc| rfl) <;>conv=>whnf
  exact oX.mk () trivial su
 rintro _ -
 clear Fv oy iO Bj hN kY
 refine WS.of ?_
 conv=>whnf
 repeat' (first| intro g| refine st ?_| refine br ?_ ?_<;>intro hc| rfl) <;>conv=>whnf
 refine aL.by (fun n:Nat=> ⟨[(1,.lit 1 (sq.map (V.int .u32))),(5,.bool true),(7,.lit 6 (L.map dj.v)),(8,av n)],[]⟩) (fun n=>n≤5∧n≤sq.length) (fun n=>5 - n) 0 su ⟨abV,abV⟩ ?_
 rintro n ⟨hn5,hn⟩
 by_cases h1:n<sq.length
 case neg=> (conv=>whnf);repeat' ((first| ((exfalso;omega)) | intro g| refine st ?_| refine br ?_ ?_<;>intro hc| rfl) <;>conv=>whnf)
 by_cases h5:n< 5
 case neg=> (conv=>whnf);repeat' ((first| ((exfalso;omega)) | intro g| refine st ?_| refine br ?_ ?_<;>intro hc| rfl) <;>conv=>whnf)
 obtain⟨a,ha⟩: ∃a,sq[n]? =some a:=⟨_,aH h1⟩
 have Gh:=Ao a (List.mem_of_getElem? ha)
 have hq:=SN Gh.1 Gh.2
 have hq9:a % 1100000 < 1100000:=Int.emod_lt_of_pos _ abV
 generalize a % 1100000=q at hq hq9
 have hsh:=A7 (l:=L) Xp CH (q:=q) abV
 have hS1: (cY L q).length< 1000000:=by have:=pg L q;omega
 have hSp:=T4 hpw q
 have hSa: ∀ {i:Nat} {x:Int},(cY L q)[i]? =some x→ ∃ (a:Nat) (y:dj),L[a]? =some y∧y.id=x∧0 <y.iG∧q≤y.iG*y.iG:=T5
 generalize cY L q=S at*
 conv=>whnf
 repeat' (first| ((exfalso;omega)) | intro g| refine nd ⟨rfl,aiO⟩ ?_| refine wi (aq ha rfl) ?_| apply ca hsh| refine st ?_| refine br ?_ ?_<;>intro hc| rfl| rw[hq]) <;>conv=>whnf
 refine aL.by (fun i:Nat=> ⟨[(1,.lit 1 (sq.map (V.int .u32))),(5,.bool true),(7,.lit 6 (L.map dj.v)),(8,av n),(9,vi q),(10,.lit 1 (S.map vi)),(11,av i)],[]⟩) (fun i=>i≤S.length) (fun i=>S.length - i) 0 su abV ?_
 rintro i hi
 by_cases Cw:i<S.length
 case neg=>
  conv=>whnf
  repeat' (first| ((exfalso;omega)) | intro g| refine st ?_| refine br ?_ ?_<;>intro hc| rfl) <;>conv=>whnf
  exact aK.mk (n+1) om ⟨abV,abV⟩ su
 obtain⟨x,hx⟩: ∃x,S[i]? =some x:=⟨_,aH Cw⟩
 obtain⟨xi,yi,hai,rfl,ti,qi⟩:=hSa hx
 have JY:=Bi Xp hai (I4 hpw hai)
 have aiK:=(aiS.1 hai).1
 conv=>whnf
 repeat' (first| intro g| refine st ?_| refine br ?_ ?_<;>intro hc| rfl) <;>conv=>whnf
 refine aL.by (fun k:Nat=> ⟨[(1,.lit 1 (sq.map (V.int .u32))),(5,.bool true),(7,.lit 6 (L.map dj.v)),(8,av n),(9,vi q),(10,.lit 1 (S.map vi)),(11,av i),(12,av k)],[]⟩) (fun k=>k≤i) (fun k=>i - k) 0 su abV ?_
 rintro k hk
 by_cases NC:k<i
 case neg=>
  conv=>whnf
  repeat' (first| ((exfalso;omega)) | intro g| refine st ?_| refine br ?_ ?_<;>intro hc| rfl) <;>conv=>whnf
  exact aK.mk (i+1) om (by show i+1≤_;omega) su
 obtain⟨x,uy⟩: ∃x,S[k]? =some x:=⟨_,aH abV⟩
 obtain⟨ak,yk,WK,rfl,tk,qk⟩:=hSa uy
 have CT:=Bi Xp WK (I4 hpw WK)
 have aiL:=(aiS.1 WK).1
 have cL:xi≠ak:=fun e=>by
  subst e
  rw[hai] at WK;injection WK with WK
  obtain⟨k1,e1⟩:=aiS.1 uy
  obtain⟨k2,e2⟩:=aiS.1 hx
  exact akp.1 hSp k i k1 k2 NC (by rw[e1,e2,WK])
 have hm:=vu yi yk q
 rw[X7 cL hai WK ti qi tk qk] at hm
 conv=>whnf
 repeat' (first| ((exfalso;omega)) | intro g| refine wi (aq hx rfl) ?_| refine wi (aq uy rfl) ?_| refine wi (aq hai rfl) ?_| refine wi (aq WK rfl) ?_| apply ca JY| apply ca CT| apply ca hm| refine st ?_| refine br ?_ ?_<;>intro hc| rfl) <;>conv=>whnf
 exact aK.mk (k+1) om (by show k+1≤_;omega) su
end Go.AM
namespace Go.AM
open Go.ChangeShapes Go.WideShapes Go.ChangeAt Go.RowKit Go.Proofs Go.Proofs.YtdldmebldkgcnaaGreat
set_option maxRecDepth 100000 in
theorem I6 (H:Type) (enc:TypeId×Value→H) (W:World) (base:Nat) (args:Array Value) (ds gs:List (DataW H)) (before:List MemPlace)
  (jF: ∀ (j:Nat) t v,Tryz.f3.params[j]? =some t→args[j]? =some v→Value.okWide Tryz.prog W .any base t v)
  (hW:DataW.Whole enc Tryz.prog Tryz.f3.params.toList Rows.labelApartSpec.vars false W args.toList ds gs before):
  Calls Tryz.prog 3 args W fun e W'=> ∃v,e= .returned v∧Rows.labelApartSpec.post enc Tryz.prog Tryz.f3 false true false false W args v W':=by
 have F9:=hW
 obtain⟨p,q,T6,hV,rfl,gz,Pl⟩:=hW
 have hA:DataW.TrodAll enc Tryz.prog W 0 (fun _=>true) true Tryz.f3.params.toList args.toList ds p:=T6
 rw[Tryz.params3] at hA jF
 obtain⟨v0,vs0,d0,ds0,p0,q0,jb,rfl,rfl,h0,r0⟩:=trodAll_cons hA
 obtain⟨v1,vs1,d1,ds1,p1,q1,rfl,rfl,rfl,h1,r1⟩:=trodAll_cons r0
 obtain⟨rfl,rfl,rfl⟩:=trodAll_nil r1
 obtain rfl:args= #[v0,v1]:=by cases args;simp_all
 obtain⟨rfl,rfl⟩:=trodVars_none hV
 clear T6
 have zg:=F9
 simp only[ajq] at F9
 obtain⟨a0,LD,LF,rfl⟩:=okWide_slice Tryz.underlying22 (jF 0 22 v0 rfl rfl)
 obtain⟨a1,aam,aan,rfl⟩:=okWide_slice Tryz.underlying23 (jF 1 23 v1 rfl rfl)
 have h0k:=h0;have h1k:=h1
 obtain⟨rp,hf0⟩:=h0
 obtain⟨us0,g00,g01,g02,g03⟩:=trod_good (X:=X0) nH rp 22 _ _ aiO hf0
 obtain⟨ls,Fb,Cj,Ni⟩:=wy g00
 obtain⟨I7,XY⟩:=h1
 obtain⟨us1,g10,g11,g12,g13⟩:=trod_good (X:=X0) nH I7 23 _ _ aiO XY
 obtain⟨sq,iv,mn,Cn⟩:=WL g10
 have LG: ∀x ∈ p0,x.block<W.heap.size:=fun x hx=>F9.lt x (by simp[hx])
 have T7: ∀x ∈ p1,x.block<W.heap.size:=fun x hx=>F9.lt x (by simp[hx])
 have hm:maxLen< 9223372036854775808:=aiO
 refine(sB (F:=3) M3 rfl Tryz.func3 aiQ rfl (I5 (wz Fb Cj) mn abV) (by simp[V.al,V.aw,pH,AM.aN (f:=V.int .u32) (fun _=>rfl)]) (vals:=[.slice a0 LD LF,.slice a1 aam aan])
  (fun φ=>by
    simp only[ag]
    exact⟨Ni _ _ _ (g03 φ),(by
     have h:=g13 φ
     have e1: (Value.slice a1 aam aan).cells.toList=[Value.slice a1 aam aan]:=rfl
     rw[e1] at h
     rcases Cn with⟨rfl,rfl⟩ | rfl
     ·exact Ga h.1
     ·exact h.1),trivial⟩)).mono fun e W' ⟨he,hb,hz⟩=> ?_
 subst he
 refine⟨_,rfl,sA (pa:=p0++(p1++([]))) (pv:=[]) zg (fun _ _ _=> (trodAll_cons_mk (shut_bool Tryz.underlying4 _) trodAll_mk0))
  (fun sp vD=> (trodAll_cons_mk (WideElems.Trod_stays rG aiQ (of_decide_eq_true aiQ) h0k (fun x hx=>hb.same (LG x hx)) (fun x hx=>vD x (by simp[hx])))
    (trodAll_cons_mk (WideElems.Trod_stays rG aiQ (of_decide_eq_true aiQ) h1k (fun x hx=>hb.same (T7 x hx)) (fun x hx=>vD x (by simp[hx])))
    trodAll_mk0))) (fun _ _=>rfl) abW
  (pI hb _) hz (ok_one aiQ rfl (okWide_bool_mk Tryz.underlying4 _))⟩
set_option maxRecDepth 100000 in
theorem Px (os:Os) (started:os.Started) (H:Type) (enc:TypeId×Value→H):
  ReturnsInHanded {} Tryz.checked os 3 .any (Rows.labelApartSpec.pre6 enc Tryz.prog Tryz.f3 Rows.labelApartRow.domain false) (Rows.labelApartSpec.post enc Tryz.prog Tryz.f3 false true false false):=by
 refine returnsInHanded_of_change (C:=Tryz.checked) M4 started aiQ Tryz.func3
  (ChangeSpec.witness6 (enc:=enc) (C:=Tryz.checked) false ⟨#[],#[.slice none 0 0,.slice none 0 0],[]⟩ 8 aiQ aiQ aiQ aiQ) ?_
 intro W base args ds gs before jF hW _ _
 exact I6 H enc W base args ds gs before jF hW
theorem T8:joinedFacts Tryz.prog 3 Tryz.f3 Rows.labelApartSpec Rows.labelApartRow=true:=by
 unfold joinedFacts
 simp only[Bool.and_eq_true]
 and_intros<;>decide+kernel
theorem T9:Tryz.prog.funcNamed Rows.labelApartRow.func=some 3:=aiQ
theorem WM:Rows.labelApartRow.holds Tryz.pinned (OpenSpec.ofChange Rows.labelApartSpec):=
 OpenClaim.holds_of_wide 3 Tryz.f3 rfl rfl rfl rfl rfl rfl rfl ⟨rfl,rfl,rfl,rfl,rfl⟩ rfl rfl rfl rfl rfl T9 Tryz.func3 T8
  (of_decide_eq_true aiQ) (by unfold Func.isWrapper;first| (rw[if_pos (by decide+kernel)];kernel_rfl) | (rw[if_neg (by decide+kernel)];exact⟨rfl,rfl⟩))
  (fun os started H enc _=>Px os started H enc)
end Go.AM
namespace Go.Proofs.YtdldmebldkgcnaaGreat
theorem labelApart_holds:Rows.LabelApartSaid:=Go.AM.WM
#print axioms labelApart_holds
end Go.Proofs.YtdldmebldkgcnaaGreat
