/-
  hachurelaw21.PartialRules: whatever the numbers and whatever is known: it returns true; the arguments read as0 before. Conditions: none. Own work.
-/
import Derived.Test.YtjmcpijpclfakaaGreatSeat
import Derived.Test.YtjmcpijpclfakaaGreatUi
import Derived.Test.YtjmcpijpclfakaaGreatOpsC
import Derived.WalkKit
import Derived.ProofKit
import Derived.OpenShut
import Derived.JoinedCond
import Derived.Carry
set_option linter.unusedSimpArgs false
set_option linter.unusedVariables false
namespace Go.AM
open Go.ChangeShapes Go.WideShapes Go.ChangeAt Go.RowKit Go.Proofs Go.Proofs.YtjmcpijpclfakaaGreat
theorem GG {W W':World} (h:Below W.heap.size W W') (may:MemPlace→Prop):W.keptBut W' may:=by
 have:=(World.keptBut_refl W may).2.2
 refine⟨h.os,h.output,fun i hi=> ?_⟩
 rw[h.block i hi]
 exact this i hi
theorem acG:ownKnob Tryz.prog.godebug=none:=by kernel_rfl
def SPe:List TypeId:=[22,23,26,24,65,63,3,9,47]
theorem xU:SPe.all (CT X0.P SPe)=true:=by kernel_rfl
theorem CU:laidOutB Tryz.prog=true:=by kernel_rfl
theorem R5:X0.P.cellsOf 3=1:=by kernel_rfl
theorem c9:X0.P.cellsOf 9=1:=by kernel_rfl
theorem c65:X0.P.cellsOf 65=4:=by kernel_rfl
theorem sQ {n:Nat} {us:List V} (h:TV X0.P n 3 us): ∃x:Int,us=[vi x]:=by
 have u3:X0.P.underlying 3=_:=Tryz.underlying3
 cases n with
 | zero=>simp[TV] at h
 | succ n=>
   simp only[TV,u3] at h
   obtain⟨x,rfl,hw⟩:=h
   exact⟨x,rfl⟩
theorem XM {n:Nat} {us:List V} (h:TV X0.P n 9 us): ∃x:dE,us=[.str x]∧x.length≤maxLen:=by
 have u9:X0.P.underlying 9=_:=Tryz.underlying9
 cases n with
 | zero=>simp[TV] at h
 | succ n=>
   simp only[TV,u9] at h
   obtain⟨x,rfl,hw⟩:=h
   exact⟨x,rfl,hw⟩
theorem P5 {n:Nat} {us:List V} (h:TV X0.P n 23 us): ∃a b c:Int,us=[vi a,vi b,vi c]:=by
 have u23:X0.P.underlying 23=_:=Tryz.underlying23
 cases n with
 | zero=>simp[TV] at h
 | succ n=>
   simp only[TV,u23,TVA,R5] at h
   obtain⟨a,b,rfl,h1,h2,a',b',rfl,h3,h4,Df,b'',rfl,h5,h6,rfl⟩:=h
   obtain⟨x,rfl⟩:=sQ h2
   obtain⟨y,rfl⟩:=sQ h4
   obtain⟨z,rfl⟩:=sQ h6
   exact⟨x,y,z,rfl⟩
theorem H9 {X:Ctx} {μ:Mu} {sz:Nat} {v:Value} (h:au X μ .nils v):au X μ (.lit sz []) v:=by
 simp only[au] at h ⊢
 obtain⟨a,rfl⟩:=h
 exact⟨rfl,rfl,a,0,[],rfl,Nat.le_refl _,by simp[ak],.inl trivial⟩
theorem zM {X:Ctx} {μ:Mu} {sz:Nat} {a:V} {l:List V} {v:Value} (ha:a= .nils∧l=[]∨a= .lit sz l) (h:au X μ a v):au X μ (.lit sz l) v:=by
 rcases ha with⟨rfl,rfl⟩ | rfl
 · exact H9 h
 · exact h
theorem xV {n:Nat} {us:List V} (h:TV X0.P n 22 us): ∃ (l:List Int) (a:V),l.length≤maxLen∧us=[a]∧(a= .nils∧l.map vi=[]∨a= .lit 1 (l.map vi)):=by
 have u22:X0.P.underlying 22=_:=Tryz.underlying22
 have u3:X0.P.underlying 3=_:=Tryz.underlying3
 cases n with
 | zero=>simp[TV] at h
 | succ n=>
   simp only[TV,u22,R5] at h
   rcases h with rfl| ⟨xs,rfl,LP,hx⟩
   · exact⟨[],_,by simp,rfl,.inl ⟨rfl,rfl⟩⟩
   · have: ∃l:List Int,xs=l.map vi:=by
      clear u22 LP
      induction xs with
      | nil=>exact⟨[],rfl⟩
      | cons x xs ih=>
        obtain⟨l,hl⟩:=ih (fun y hy=>hx y (by simp[hy]))
        obtain⟨ws,h1,h2⟩:=hx x (by simp)
        obtain⟨p,rfl⟩:=sQ h1
        exact⟨p::l,by simp[hl,h2,we,u3]⟩
     obtain⟨l,rfl⟩:=this
     exact⟨l,_,by simpa using LP,rfl,.inr rfl⟩
theorem P6 {n:Nat} {us:List V} (h:TV X0.P n 63 us): ∃ (nt:Bool) (l:List dE),l.length≤maxLen∧(∀s ∈ l,s.length≤maxLen)∧us=[lh nt l]:=by
 have u63:X0.P.underlying 63=_:=Tryz.underlying63
 have u9:X0.P.underlying 9=_:=Tryz.underlying9
 cases n with
 | zero=>simp[TV] at h
 | succ n=>
   simp only[TV,u63,c9] at h
   rcases h with rfl| ⟨xs,rfl,LP,hx⟩
   · exact⟨true,[],by simp,by simp,rfl⟩
   · have: ∃l:List dE,xs=l.map V.str∧ ∀s ∈ l,s.length≤maxLen:=by
      clear u63 LP
      induction xs with
      | nil=>exact⟨[],rfl,by simp⟩
      | cons x xs ih=>
        obtain⟨l,hl,JB⟩:=ih (fun y hy=>hx y (by simp[hy]))
        obtain⟨ws,h1,h2⟩:=hx x (by simp)
        obtain⟨p,rfl,hp⟩:=XM h1
        refine⟨p::l,by simp[hl,h2,we,u9],fun s hs=> ?_⟩
        rcases List.mem_cons.1 hs with rfl| hs
        · exact hp
        · exact JB s hs
     obtain⟨l,rfl,hl⟩:=this
     refine⟨false,l,by simpa using LP,hl,?_⟩
     cases l<;>rfl
theorem MO {n:Nat} {us:List V} (h:TV X0.P n 65 us): ∃k:bH,(k.texts.length≤maxLen∧ ∀s ∈ k.texts,s.length≤maxLen)∧ .agg us=k.v:=by
 have u65:X0.P.underlying 65=_:=Tryz.underlying65
 cases n with
 | zero=>simp[TV] at h
 | succ n=>
   simp only[TV,u65] at h
   obtain⟨a,b,rfl,h1,h2,a',b',rfl,h3,h4,Df,b'',rfl,h5,h6,a3,b3,rfl,h7,h8,rfl⟩:=h
   obtain⟨x,rfl⟩:=sQ h2
   obtain⟨y,rfl⟩:=sQ h4
   obtain⟨z,rfl⟩:=sQ h6
   obtain⟨nt,l,k1,k2,rfl⟩:=P6 h8
   exact⟨⟨x,y,z,nt,l⟩,⟨k1,k2⟩,rfl⟩
theorem MP {n:Nat} {us:List V} (h:TV X0.P n 24 us): ∃ (raw:List bH) (a:V),raw.length≤maxLen∧(∀k ∈ raw,k.texts.length≤maxLen∧ ∀s ∈ k.texts,s.length≤maxLen)∧
   us=[a]∧(a= .nils∧raw.map bH.v=[]∨a= .lit 4 (raw.map bH.v)):=by
 have u24:X0.P.underlying 24=_:=Tryz.underlying24
 have u65:X0.P.underlying 65=_:=Tryz.underlying65
 cases n with
 | zero=>simp[TV] at h
 | succ n=>
   simp only[TV,u24,c65] at h
   rcases h with rfl| ⟨xs,rfl,LP,hx⟩
   · exact⟨[],_,by simp,by simp,rfl,.inl ⟨rfl,rfl⟩⟩
   · have: ∃l:List bH,xs=l.map bH.v∧ ∀k ∈ l,k.texts.length≤maxLen∧ ∀s ∈ k.texts,s.length≤maxLen:=by
      clear u24 LP
      induction xs with
      | nil=>exact⟨[],rfl,by simp⟩
      | cons x xs ih=>
        obtain⟨l,hl,JB⟩:=ih (fun y hy=>hx y (by simp[hy]))
        obtain⟨ws,h1,h2⟩:=hx x (by simp)
        obtain⟨p,hp,hv⟩:=MO h1
        have Jt:x=p.v:=by rw[←hv,h2];simp[we,u65]
        refine⟨p::l,by simp[hl,Jt],fun s hs=> ?_⟩
        rcases List.mem_cons.1 hs with rfl| hs
        · exact hp
        · exact JB s hs
     obtain⟨l,rfl,hl⟩:=this
     exact⟨l,_,by simpa using LP,hl,rfl,.inr rfl⟩
theorem P7 {n:Nat} {us:List V} (h:TV X0.P n 26 us): ∃ (env kn:List Int) (raw:List bH) (a b c:V),us=[a,b,c]∧env.length≤maxLen∧kn.length≤maxLen∧raw.length≤maxLen∧
   (∀k ∈ raw,k.texts.length≤maxLen∧ ∀s ∈ k.texts,s.length≤maxLen)∧
   (a= .nils∧env.map vi=[]∨a= .lit 1 (env.map vi))∧(b= .nils∧kn.map vi=[]∨b= .lit 1 (kn.map vi))∧(c= .nils∧raw.map bH.v=[]∨c= .lit 4 (raw.map bH.v)):=by
 have u26:X0.P.underlying 26=_:=Tryz.underlying26
 cases n with
 | zero=>simp[TV] at h
 | succ n=>
   simp only[TV,u26] at h
   obtain⟨a,b,rfl,h1,h2,a',b',rfl,h3,h4,Df,b'',rfl,h5,h6,rfl⟩:=h
   obtain⟨l1,v1,k1,rfl,e1⟩:=xV h2
   obtain⟨l2,v2,k2,rfl,e2⟩:=xV h4
   obtain⟨l3,v3,k3,k4,rfl,e3⟩:=MP h6
   exact⟨l1,l2,l3,v1,v2,v3,rfl,k1,k2,k3,k4,e1,e2,e3⟩
theorem MQ {  n:Nat} {us:List V} (h:TV X0.P n 47 us): ∃ls:List (List Int),ls.length≤maxLen∧(∀l ∈ ls,l.length≤maxLen)∧
   ∀ (X:Ctx) (μ:Mu) (v:Value),ak X μ us [v]→au X μ (.lit 1 (ls.map fun m=>V.lit 1 (m.map vi))) v:=by
 have uTM:X0.P.underlying 47=_:=Tryz.underlying47
 have u22:X0.P.underlying 22=_:=Tryz.underlying22
 have c22:X0.P.cellsOf 22=1:=by kernel_rfl
 cases n with
 | zero=>simp[TV] at h
 | succ n=>
   simp only[TV,uTM,c22] at h
   rcases h with rfl| ⟨xs,rfl,LP,hx⟩
   · exact⟨[],by simp,by simp,fun X μ v hv=>by
       simp only[ak] at hv
       exact H9 hv.1⟩
   · have: ∃ls:List (List Int),ls.length=xs.length∧(∀l ∈ ls,l.length≤maxLen)∧V.ae xs=true∧xs.all V.dX=true∧
         ∀ (X:Ctx) (μ:Mu) (vs:List Value),ak X μ xs vs→ak X μ (ls.map fun m=>V.lit 1 (m.map vi)) vs:=by
       clear uTM LP
       induction xs with
       | nil=>exact⟨[],rfl,by simp,rfl,rfl,fun X μ vs h=>h⟩
       | cons x xs ih=>
         obtain⟨ls,e1,e2,e3,e4,e5⟩:=ih (fun y hy=>hx y (by simp[hy]))
         obtain⟨ws,h1,h2⟩:=hx x (by simp)
         obtain⟨l,a,k1,rfl,k2⟩:=xV h1
         have hxa:x=a:=by rw[h2];simp[we,u22]
         subst hxa
         refine⟨l::ls,by simp[e1],fun y hy=> ?_,?_,?_,fun X μ vs hv=> ?_⟩
         · rcases List.mem_cons.1 hy with rfl| hy
           · exact k1
           · exact e2 y hy
         · rcases k2 with⟨rfl,_⟩ | rfl
           · simpa [V.ae,V.aj] using e3
           · simpa [V.ae,V.aj] using e3
         · rcases k2 with⟨rfl,_⟩ | rfl
           · simpa [V.dX,V.aV] using e4
           · simpa [V.dX,V.aV] using e4
         · cases vs with
           | nil=>simp[ak] at hv
           | cons v vs=>
             simp only[ak,List.map_cons] at hv ⊢
             exact⟨zM k2 hv.1,e5 X μ vs hv.2⟩
     obtain⟨ls,e1,e2,e3,e4,e5⟩:=this
     refine⟨ls,by omega,e2,fun X μ v hv=> ?_⟩
     simp only[ak,au] at hv
     obtain⟨⟨h1,h2,a,cap,vs,rfl,h3,h4,h5⟩,_⟩:=hv
     simp only[au,List.length_map]
     refine⟨AM.bq (fun _=>rfl) _,by simp[List.all_eq_true,V.dX,V.aV],a,cap,vs,by rw[e1],by omega,e5 X μ vs h4,?_⟩
     rcases h5 with h5| h5
     · left
       have:ls=[]:=by
         have:ls.length=0:=by rw[e1,h5];rfl
         simpa using this
       rw[this];rfl
     · exact .inr h5
theorem EV {P:Program} {w:World} {r:Reach} {base:Nat} {t:TypeId} {v:Value} {k:Nat} {e:TypeId} (ht:P.underlying t=some (.array k e)) (h:Value.okWide P w r base t v): ∃cs,v= .agg cs:=by
 simp only[Value.okWide,ht] at h
 obtain⟨cs,h1,_⟩:=h
 exact⟨cs,h1⟩
theorem zN {P:Program} {w:World} {r:Reach} {base:Nat} {t:TypeId} {v:Value} {fs:Array Field} (ht:P.underlying t=some (.struct fs)) (h:Value.okWide P w r base t v): ∃cs,v= .agg cs:=by
 simp only[Value.okWide,ht] at h
 obtain⟨cs,h1,_⟩:=h
 exact⟨cs,h1⟩
theorem ai0 {H:Type} {enc:TypeId×Value→H} {P:Program} {f:Func} {s:ChangeSpec} {apart fresh handsOn again:Bool} {W W':World} {args:Array Value} {v:Value} {ds gs:List (DataW H)} {before pa pv:List MemPlace}
   (hW:DataW.Whole enc P f.params.toList s.vars apart W args.toList ds gs before)
   (jY: ∀ (b:Nat) (sp:Nat→Bool) (hd:Bool),DataW.TrodAll enc P W' b sp hd f.resultTypes.toList (v.resultList f.resultTypes.size) (s.fn H (ds++gs)).results [])
   (jw: ∀sp:Nat→Bool,(∀p ∈ before,sp p.block=true)→DataW.TrodAll enc P W' 0 sp true f.params.toList args.toList (s.fn H (ds++gs)).args pa)
   (ai1: ∀sp:Nat→Bool,(∀p ∈ before,sp p.block=true)→DataW.TrodVars enc P W' sp s.vars (s.fn H (ds++gs)).vars pv)
   (NJ:before=pa++pv) (hk:W.keptBut W' (· ∈ before)) (jn: ∀a,a.block<W.heap.size→W'.frozen? a=W.frozen? a)
   (CE: ∀ (j:Nat) (t:TypeId) (r:Value),f.resultTypes[j]? =some t→(v.resultList f.resultTypes.size)[j]? =some r→Value.okWide P W' .any 0 t r):
   s.post enc P f apart fresh handsOn again W args v W':=by
 have hold: ∀p ∈ before,(fun b=>decide (b<W.heap.size)) p.block=true:=fun p hp=>by simpa using hW.lt p hp
 have bY:=hW.lt
 refine⟨ds,gs,before,[],pa,pv,hW,jY _ _ _,jw _ hold,ai1 _ hold,World.keptBut_mono (fun p hp=> ⟨hp,?_⟩) hk,fun _=> ?_⟩
 · rw[NJ,List.mem_append] at hp
   exact Or.inr hp
 · obtain⟨_,_,_,_,_,hz,hn⟩:=hW
   refine⟨CE,_,_,([]++pa)++pv,⟨[]++pa,pv,trodAll_append (jw _ (fun _ _=>rfl)) (jY _ _ _),ai1 _ (fun _ _=>rfl),rfl,?_,?_⟩,?_⟩
   · intro b off hp
     have hb:MemPlace.cell b off ∈ before:=by rw[NJ];simpa using hp
     rw[jn _ (bY _ hb)]
     exact hz b off hb
   · intro ha
     have:=hn ha
     rw[NJ] at this
     simpa using this
   · intro p hp _
     rw[NJ]
     simpa using hp
set_option maxRecDepth 100000 in
theorem zO (H:Type) (enc:TypeId×Value→H) (W:World) (base:Nat) (args:Array Value) (ds gs:List (DataW H)) (before:List MemPlace)
  (bE: ∀ (j:Nat) t v,Tryz.f4.params[j]? =some t→args[j]? =some v→Value.okWide Tryz.prog W .any base t v)
  (hW:DataW.Whole enc Tryz.prog Tryz.f4.params.toList Rows.partialRulesSpec.vars false W args.toList ds gs before):
  Calls Tryz.prog 4 args W fun e W'=> ∃v,e= .returned v∧Rows.partialRulesSpec.post enc Tryz.prog Tryz.f4 false true false false W args v W':=by
 have YU:=hW
 obtain⟨p,q,hA0,hV,rfl,jn,NI⟩:=hW
 have hA:DataW.TrodAll enc Tryz.prog W 0 (fun _=>true) true Tryz.f4.params.toList args.toList ds p:=hA0
 rw[Tryz.params4] at hA bE
 obtain⟨v0,vs0,d0,ds0,p0,q0,jw,rfl,rfl,h0,r0⟩:=trodAll_cons hA
 obtain⟨v1,vs1,d1,ds1,p1,q1,rfl,rfl,rfl,h1,r1⟩:=trodAll_cons r0
 obtain⟨v2,vs2,d2,ds2,p2,q2,rfl,rfl,rfl,h2,r2⟩:=trodAll_cons r1
 obtain⟨v3,vs3,d3,ds3,p3,q3,rfl,rfl,rfl,h3,r3⟩:=trodAll_cons r2
 obtain⟨rfl,rfl,rfl⟩:=trodAll_nil r3
 obtain rfl:args= #[v0,v1,v2,v3]:=by cases args;simp_all
 obtain⟨rfl,rfl⟩:=trodVars_none hV
 clear hA0
 have hW2:=YU
 simp only[List.append_nil] at YU
 obtain⟨a,len,cap,rfl⟩:=okWide_slice Tryz.underlying22 (bE 0 22 v0 rfl rfl)
 obtain⟨c1,rfl⟩:=EV Tryz.underlying23 (bE 1 23 v1 rfl rfl)
 obtain⟨c2,rfl⟩:=zN Tryz.underlying26 (bE 2 26 v2 rfl rfl)
 obtain⟨a3,agh,agi,rfl⟩:=okWide_slice Tryz.underlying47 (bE 3 47 v3 rfl rfl)
 have h0k:=h0;have h1k:=h1;have h2k:=h2;have h3k:=h3
 obtain⟨EH,hf0⟩:=h0
 obtain⟨us0,g00,g01,g02,g03⟩:=trod_good (X:=X0) xU EH 22 _ _ (by decide) hf0
 obtain⟨l,a0,hl1,rfl,hl3⟩:=xV g00
 obtain⟨acH,hf1⟩:=h1
 obtain⟨us1,g10,g11,g12,g13⟩:=trod_good (X:=X0) xU acH 23 _ _ (by decide) hf1
 obtain⟨x1,x2,x3,rfl⟩:=P5 g10
 obtain⟨acI,Mr⟩:=h2
 obtain⟨us2,g20,g21,g22,g23⟩:=trod_good (X:=X0) xU acI 26 _ _ (by decide) Mr
 obtain⟨env,kn,raw,aE,aK,aR,rfl,hle,hlk,hlr,agj,hE3,hK3,hR3⟩:=P7 g20
 obtain⟨acJ,Xz⟩:=h3
 obtain⟨us3,g30,g31,ln,g33⟩:=trod_good (X:=X0) xU acJ 47 _ _ (by decide) Xz
 obtain⟨more,DE,cm,gR⟩:=MQ g30
 have agk: ∀x ∈ p0,x.block<W.heap.size:=fun x hx=>YU.lt x (by simp[hx])
 have agl: ∀x ∈ p1,x.block<W.heap.size:=fun x hx=>YU.lt x (by simp[hx])
 have Ek: ∀x ∈ p2,x.block<W.heap.size:=fun x hx=>YU.lt x (by simp[hx])
 have agm: ∀x ∈ p3,x.block<W.heap.size:=fun x hx=>YU.lt x (by simp[hx])
 have hm:maxLen< 9223372036854775808:=by decide
 have Sp: ∀ {φ:Nat→Row} {cs:List V} {c:Array Value},cs.all V.aV=true→ak (free X0) (still W φ) cs (Value.agg c).cells.toList→au (free X0) (still W φ) (.agg cs) (.agg c):=fun h1 h2=>by
  simp only[au]
  exact⟨h1,_,rfl,h2⟩
 refine(JU (F:=4) acK rfl Tryz.func4 (by kernel_rfl) rfl (xC (l:=l) (env:=env) (kn:=kn) (raw:=raw) (more:=more) x1 x2 x3 (by omega) (by omega) (by omega) (by omega)
    (fun k hk=>by
      have:=agj k hk
      exact⟨by omega,fun s hs=>by have:=this.2 s hs;omega⟩) (by omega) (fun m hm=>by have:=cm m hm;omega))
  (by simp only[V.ae,V.aj,AM.bq (f:=vi) (fun _=>rfl),AM.bq bH.pure,vi,Bool.and_self]) (vals:=[.slice a len cap,.agg c1,.agg c2,.slice a3 agh agi])
  (fun φ=>by
    simp only[ak]
    have e0:=g03 φ
    have b0: (Value.slice a len cap).cells.toList=[Value.slice a len cap]:=rfl
    rw[b0] at e0
    refine⟨zM hl3 e0.1,Sp rfl (g13 φ),Sp rfl ?_,gR _ _ _ (g33 φ),trivial⟩
    have e2:=g23 φ
    generalize (Value.agg c2).cells.toList=vs at e2
    match vs,e2 with
    | [w0,w1,w2],⟨j0,j1,j2,_⟩=>exact⟨zM hE3 j0,zM hK3 j1,zM hR3 j2,trivial⟩)).mono fun e W' ⟨he,hb,hz⟩=> ?_
 subst he
 refine⟨_,rfl,ai0 (pa:=p0++(p1++(p2++(p3++[])))) (pv:=[]) hW2 (fun _ _ _=> (trodAll_cons_mk (shut_bool Tryz.underlying4 _) trodAll_mk0))
  (fun sp se=> (trodAll_cons_mk (WideElems.Trod_stays CU (by kernel_rfl) (of_decide_eq_true (by kernel_rfl)) h0k (fun x hx=>hb.same (agk x hx)) (fun x hx=>se x (by simp[hx])))
    (trodAll_cons_mk (WideElems.Trod_stays CU (by kernel_rfl) (of_decide_eq_true (by kernel_rfl)) h1k (fun x hx=>hb.same (agl x hx)) (fun x hx=>se x (by simp[hx])))
    (trodAll_cons_mk (WideElems.Trod_stays CU (by kernel_rfl) (of_decide_eq_true (by kernel_rfl)) h2k (fun x hx=>hb.same (Ek x hx)) (fun x hx=>se x (by simp[hx])))
    (trodAll_cons_mk (WideElems.Trod_stays CU (by kernel_rfl) (of_decide_eq_true (by kernel_rfl)) h3k (fun x hx=>hb.same (agm x hx)) (fun x hx=>se x (by simp[hx]))) trodAll_mk0))))) (fun _ _=>rfl) (by simp)
  (GG hb _) hz (ok_one (by kernel_rfl) rfl (okWide_bool_mk Tryz.underlying4 _))⟩
set_option maxRecDepth 100000 in
theorem CV (os:Os) (started:os.Started) (H:Type) (enc:TypeId×Value→H):
  ReturnsInHanded {} Tryz.checked os 4 .any (Rows.partialRulesSpec.pre6 enc Tryz.prog Tryz.f4 Rows.partialRulesRow.domain false) (Rows.partialRulesSpec.post enc Tryz.prog Tryz.f4 false true false false):=by
 refine returnsInHanded_of_change (C:=Tryz.checked) acG started (by kernel_rfl) Tryz.func4
  (ChangeSpec.witness6 (enc:=enc) (C:=Tryz.checked) false ⟨#[],#[.slice none 0 0,.agg #[.int .i64 0,.int .i64 0,.int .i64 0],.agg #[.slice none 0 0,.slice none 0 0,.slice none 0 0],.slice none 0 0],[]⟩ 8 (by kernel_rfl) (by kernel_rfl) (by kernel_rfl) (by kernel_rfl)) ?_
 intro W base args ds gs before bE hW _ _
 exact zO H enc W base args ds gs before bE hW
theorem GH:Rows.partialRulesRow.holds Tryz.pinned (OpenSpec.ofChange Rows.partialRulesSpec):=
 OpenClaim.holds_of_wide 4 Tryz.f4 rfl rfl rfl rfl rfl rfl rfl ⟨rfl,rfl,rfl,rfl,rfl⟩ rfl rfl rfl rfl rfl (by kernel_rfl) Tryz.func4 (by kernel_rfl)
  (of_decide_eq_true (by kernel_rfl)) (by unfold Func.isWrapper;first| (rw[if_pos (by decide+kernel)];kernel_rfl) | (rw[if_neg (by decide+kernel)];exact⟨rfl,rfl⟩))
  (fun os started H enc _=>CV os started H enc)
end Go.AM
namespace Go.Proofs.YtjmcpijpclfakaaGreat
theorem partialRules_holds:Rows.PartialRulesSaid:=Go.AM.GH
#print axioms partialRules_holds
end Go.Proofs.YtjmcpijpclfakaaGreat
