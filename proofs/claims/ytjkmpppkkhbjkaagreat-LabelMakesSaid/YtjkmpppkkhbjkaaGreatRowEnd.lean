/-
  hachurelaw23.LabelMakes: whatever the numbers, places and histories: it returns true; the arguments read as0 before. Conditions: none. Own work, printed by mkrowlm.py.
-/
import Derived.Test.YtjkmpppkkhbjkaaGreatSeat
import Derived.Test.YtjkmpppkkhbjkaaGreatZz
import Derived.Test.YtjkmpppkkhbjkaaGreatOpsC
import Derived.WalkKit
import Derived.ProofKit
import Derived.OpenShut
import Derived.JoinedCond
import Derived.Carry
set_option linter.unusedSimpArgs false
set_option linter.unusedVariables false
namespace Go.AM
open Go.ChangeShapes Go.WideShapes Go.ChangeAt Go.RowKit Go.Proofs Go.Proofs.YtjkmpppkkhbjkaaGreat
theorem B8 {W W':World} (h:Below W.heap.size W W') (may:MemPlace→Prop):W.keptBut W' may:=by
 have:=(World.keptBut_refl W may).2.2
 refine⟨h.os,h.output,fun i hi=> ?_⟩
 rw[h.block i hi]
 exact this i hi
theorem Yj:ownKnob Tryz.prog.godebug=none:=by kernel_rfl
def SGs:List TypeId:=[22,43,26,23,58,52,24,63,61,60,3,9]
theorem yz:SGs.all (yu X0.P SGs)=true:=by kernel_rfl
theorem B9:laidOutB Tryz.prog=true:=by kernel_rfl
theorem gQ {n:Nat} {us:List V} (h:TV X0.P n 3 us): ∃x:Int,us=[vi x]∧ -9223372036854775808≤x∧x< 9223372036854775808:=by
 have u3:X0.P.underlying 3=_:=Tryz.underlying3
 cases n with
 | zero=>simp[TV] at h
 | succ n=>
   simp only[TV,u3] at h
   obtain⟨x,rfl,hw⟩:=h
   simp only[Lit.wf,Bool.and_eq_true,decide_eq_true_eq,IntKind.min,IntKind.max,IntKind.signed,IntKind.bits] at hw
   exact⟨x,rfl,by simpa using hw.1,by have:=hw.2;simp at this;omega⟩
theorem HK {n:Nat} {us:List V} (h:TV X0.P n 9 us): ∃x:vF,us=[.str x]:=by
 have u9:X0.P.underlying 9=_:=Tryz.underlying9
 cases n with
 | zero=>simp[TV] at h
 | succ n=>
   simp only[TV,u9] at h
   obtain⟨x,rfl,hw⟩:=h
   exact⟨x,rfl⟩
theorem c3:X0.P.cellsOf 3=1:=by kernel_rfl
theorem c7:X0.P.cellsOf 58=7:=by kernel_rfl
theorem c5:X0.P.cellsOf 60=5:=by kernel_rfl
theorem c2:X0.P.cellsOf 63=2:=by kernel_rfl
theorem tB {X:Ctx} {μ:Mu} {sz:Nat} {v:Value} (h:ak X μ .nils v):ak X μ (.lit sz []) v:=by
 simp only[ak] at h ⊢
 obtain⟨a,rfl⟩:=h
 exact⟨rfl,rfl,a,0,[],rfl,Nat.le_refl _,by simp[aj],.inl trivial⟩
theorem HL {X:Ctx} {μ:Mu} {sz:Nat} {a:V} {l:List V} {v:Value} (ha:a= .nils∧l=[]∨a= .lit sz l) (h:ak X μ a v):ak X μ (.lit sz l) v:=by
 rcases ha with⟨rfl,rfl⟩ | rfl
 · exact tB h
 · exact h
theorem JQ {n:Nat} {us:List V} (h:TV X0.P n 43 us): ∃l:List Int,l.length≤maxLen∧(us=[.nils]∧l=[]∨us=[eH l]):=by
 have M5:X0.P.underlying 43=_:=Tryz.underlying43
 have u3:X0.P.underlying 3=_:=Tryz.underlying3
 cases n with
 | zero=>simp[TV] at h
 | succ n=>
   simp only[TV,M5,c3] at h
   rcases h with rfl| ⟨xs,rfl,GM,hx⟩
   · exact⟨[],by simp,.inl ⟨rfl,rfl⟩⟩
   · have: ∃l:List Int,xs=l.map vi:=by
      clear M5 GM
      induction xs with
      | nil=>exact⟨[],rfl⟩
      | cons x xs ih=>
        obtain⟨l,hl⟩:=ih (fun y hy=>hx y (by simp[hy]))
        obtain⟨ws,h1,h2⟩:=hx x (by simp)
        obtain⟨p,rfl,_⟩:=gQ h1
        exact⟨p::l,by simp[hl,h2,mV,u3]⟩
     obtain⟨l,rfl⟩:=this
     exact⟨l,by simpa using GM,.inr rfl⟩
theorem HM {  n:Nat} {us:List V} (h:TV X0.P n 22 us): ∃ls:List (List Int),ls.length≤maxLen∧(∀l ∈ ls,l.length≤maxLen)∧
   ∀ (X:Ctx) (μ:Mu) (v:Value),aj X μ us [v]→ak X μ (fa ls) v:=by
 have Yk:X0.P.underlying 22=_:=Tryz.underlying22
 have M5:X0.P.underlying 43=_:=Tryz.underlying43
 have c55:X0.P.cellsOf 43=1:=by kernel_rfl
 cases n with
 | zero=>simp[TV] at h
 | succ n=>
   simp only[TV,Yk,c55] at h
   rcases h with rfl| ⟨xs,rfl,GM,hx⟩
   · exact⟨[],by simp,by simp,fun X μ v hv=>by
       simp only[aj] at hv
       exact tB hv.1⟩
   · have: ∃ls:List (List Int),ls.length=xs.length∧(∀l ∈ ls,l.length≤maxLen)∧V.aq xs=true∧xs.all V.cJ=true∧
         ∀ (X:Ctx) (μ:Mu) (vs:List Value),aj X μ xs vs→aj X μ (ls.map eH) vs:=by
       clear Yk GM
       induction xs with
       | nil=>exact⟨[],rfl,by simp,rfl,rfl,fun X μ vs h=>h⟩
       | cons x xs ih=>
         obtain⟨ls,e1,e2,e3,e4,e5⟩:=ih (fun y hy=>hx y (by simp[hy]))
         obtain⟨ws,h1,h2⟩:=hx x (by simp)
         obtain⟨l,k1,k2⟩:=JQ h1
         have qL:x= .nils∧l=[]∨x=eH l:=by
           rcases k2 with⟨rfl,rfl⟩ | rfl
           · exact .inl ⟨by simp[h2,mV,M5],rfl⟩
           · exact .inr (by simp[h2,mV,M5])
         refine⟨l::ls,by simp[e1],fun y hy=> ?_,?_,?_,fun X μ vs hv=> ?_⟩
         · rcases List.mem_cons.1 hy with rfl| hy
           · exact k1
           · exact e2 y hy
         · rcases qL with⟨rfl,_⟩ | rfl
           · simpa [V.aq,V.aB] using e3
           · simpa [V.aq,V.aB,eH] using e3
         · rcases qL with⟨rfl,_⟩ | rfl
           · simpa [V.cJ,V.aK] using e4
           · simpa [V.cJ,V.aK,eH] using e4
         · cases vs with
           | nil=>simp[aj] at hv
           | cons v vs=>
             simp only[aj,List.map_cons] at hv ⊢
             refine⟨?_,e5 X μ vs hv.2⟩
             rcases qL with⟨rfl,rfl⟩ | rfl
             · exact tB hv.1
             · exact hv.1
     obtain⟨ls,e1,e2,e3,e4,e5⟩:=this
     refine⟨ls,by omega,e2,fun X μ v hv=> ?_⟩
     simp only[aj,ak] at hv
     obtain⟨⟨h1,h2,a,cap,vs,rfl,h3,h4,h5⟩,_⟩:=hv
     simp only[fa,ak,List.length_map]
     refine⟨AM.bP (fun _=>rfl) _,by simp[List.all_eq_true,V.cJ,V.aK,eH],a,cap,vs,by rw[e1],by omega,e5 X μ vs h4,?_⟩
     rcases h5 with h5| h5
     · left
       have:ls=[]:=by
         have:ls.length=0:=by rw[e1,h5];rfl
         simpa using this
       rw[this];rfl
     · exact .inr h5
theorem Yl {n:Nat} {us:List V} (h:TV X0.P n 52 us): ∃a b:Int,us=[vi a,vi b]:=by
 have u25:X0.P.underlying 52=_:=Tryz.underlying52
 cases n with
 | zero=>simp[TV] at h
 | succ n=>
   simp only[TV,u25,Lb,c3] at h
   obtain⟨a,b,rfl,h1,h2,a',b',rfl,h3,h4,rfl⟩:=h
   obtain⟨x,rfl,_⟩:=gQ h2
   obtain⟨y,rfl,_⟩:=gQ h4
   exact⟨x,y,rfl⟩
theorem HN {n:Nat} {us:List V} (h:TV X0.P n 58 us): ∃p:Place,.agg us=p.v:=by
 have u:X0.P.underlying 58=_:=Tryz.underlying58
 cases n with
 | zero=>simp[TV] at h
 | succ n=>
   simp only[TV,u,Lb] at h
   obtain⟨a,b,rfl,h1,h2,a',b',rfl,h3,h4,a1,b1,rfl,h5,h6,a2,b2,rfl,h7,h8,a3,b3,rfl,h9,h10,a4,b4,rfl,Ic,h12,rfl⟩:=h
   obtain⟨x1,rfl,_⟩:=gQ h2
   obtain⟨x2,x3,rfl⟩:=Yl h4
   obtain⟨x4,rfl⟩:=HK h6
   obtain⟨x5,rfl⟩:=HK h8
   obtain⟨x6,rfl,_⟩:=gQ h10
   obtain⟨x7,rfl,_⟩:=gQ h12
   exact⟨⟨x1,x2,x3,x4,x5,x6,x7⟩,rfl⟩
theorem HO {n:Nat} {us:List V} (h:TV X0.P n 60 us): ∃p:Event,.agg us=p.v:=by
 have u:X0.P.underlying 60=_:=Tryz.underlying60
 cases n with
 | zero=>simp[TV] at h
 | succ n=>
   simp only[TV,u,Lb] at h
   obtain⟨a,b,rfl,h1,h2,a',b',rfl,h3,h4,a1,b1,rfl,h5,h6,a2,b2,rfl,h7,h8,a3,b3,rfl,h9,h10,rfl⟩:=h
   obtain⟨x1,rfl,_⟩:=gQ h2
   obtain⟨x2,rfl,_⟩:=gQ h4
   obtain⟨x3,rfl,_⟩:=gQ h6
   obtain⟨x4,rfl,_⟩:=gQ h8
   obtain⟨x5,rfl,_⟩:=gQ h10
   exact⟨⟨x1,x2,x3,x4,x5⟩,rfl⟩
theorem Ca {α:Type} {n:Nat} {e:TypeId} {f:α→V} (el: ∀ {us:List V},TV X0.P n e us→ ∃p:α,.agg us=f p) (me: ∀ws,mV X0.P e ws= .agg ws):
   ∀ {xs:List V},(∀x ∈ xs,∃ws,TV X0.P n e ws∧x=mV X0.P e ws)→ ∃l:List α,xs=l.map f
 | [],_=> ⟨[],rfl⟩
 | x::xs,hx=>by
   obtain⟨l,hl⟩:=Ca el me (xs:=xs) (fun y hy=>hx y (by simp[hy]))
   obtain⟨ws,h1,h2⟩:=hx x (by simp)
   obtain⟨p,hp⟩:=el h1
   exact⟨p::l,by rw[hl,h2,me,hp];rfl⟩
theorem EC {n:Nat} {us:List V} (h:TV X0.P n 23 us): ∃ (l:List Place) (a:V),l.length≤maxLen∧us=[a]∧(a= .nils∧l.map Place.v=[]∨a= .lit 7 (l.map Place.v)):=by
 have u24:X0.P.underlying 23=_:=Tryz.underlying23
 have u65:X0.P.underlying 58=_:=Tryz.underlying58
 cases n with
 | zero=>simp[TV] at h
 | succ n=>
   simp only[TV,u24,c7] at h
   rcases h with rfl| ⟨xs,rfl,GM,hx⟩
   · exact⟨[],_,by simp,rfl,.inl ⟨rfl,rfl⟩⟩
   · obtain⟨l,rfl⟩:=Ca HN (fun ws=>by simp[mV,u65]) hx
     exact⟨l,_,by simpa using GM,rfl,.inr rfl⟩
theorem ED {n:Nat} {us:List V} (h:TV X0.P n 61 us): ∃ (l:List Event) (a:V),us=[a]∧(a= .nils∧l.map Event.v=[]∨a= .lit 5 (l.map Event.v)):=by
 have u24:X0.P.underlying 61=_:=Tryz.underlying61
 have u65:X0.P.underlying 60=_:=Tryz.underlying60
 cases n with
 | zero=>simp[TV] at h
 | succ n=>
   simp only[TV,u24,c5] at h
   rcases h with rfl| ⟨xs,rfl,GM,hx⟩
   · exact⟨[],_,rfl,.inl ⟨rfl,rfl⟩⟩
   · obtain⟨l,rfl⟩:=Ca HO (fun ws=>by simp[mV,u65]) hx
     exact⟨l,_,rfl,.inr rfl⟩
structure Ym (h:bI) (x:V):Prop where
 pure:V.aB x=true
 cJ:V.cJ x=true
 rel: ∀ (X:Ctx) (μ:Mu) (v:Value),ak X μ x v→ak X μ h.v v
theorem JR {n:Nat} {us:List V} (h:TV X0.P n 63 us): ∃p:bI,Ym p (.agg us):=by
 have u:X0.P.underlying 63=_:=Tryz.underlying63
 cases n with
 | zero=>simp[TV] at h
 | succ n=>
   simp only[TV,u,Lb] at h
   obtain⟨a,b,rfl,h1,h2,a',b',rfl,h3,h4,rfl⟩:=h
   obtain⟨x1,rfl,_⟩:=gQ h2
   obtain⟨l,w,rfl,hw⟩:=ED h4
   refine⟨⟨x1,l⟩,?_,?_,fun X μ v hv=> ?_⟩
   · rcases hw with⟨rfl,_⟩ | rfl
     · rfl
     · simp[V.aB,V.aq,AM.bP (f:=Event.v) (fun _=>rfl)]
   · rcases hw with⟨rfl,_⟩ | rfl<;>rfl
   · simp only[ak,bI.v] at hv ⊢
     obtain⟨k1,vs,rfl,k2⟩:=hv
     refine⟨rfl,vs,rfl,?_⟩
     generalize vs.toList=us at k2
     match us,k2 with
     | [w0,w1],⟨j0,j1,_⟩=>exact⟨j0,HL hw j1,trivial⟩
theorem HP {n:Nat} {us:List V} (h:TV X0.P n 24 us): ∃ (hs:List bI) (a:V),hs.length≤maxLen∧us=[a]∧a.aB=true∧
   ∀ (X:Ctx) (μ:Mu) (v:Value),ak X μ a v→ak X μ (.lit 2 (hs.map bI.v)) v:=by
 have Yk:X0.P.underlying 24=_:=Tryz.underlying24
 have M5:X0.P.underlying 63=_:=Tryz.underlying63
 cases n with
 | zero=>simp[TV] at h
 | succ n=>
   simp only[TV,Yk,c2] at h
   rcases h with rfl| ⟨xs,rfl,GM,hx⟩
   · exact⟨[],_,by simp,rfl,rfl,fun X μ v hv=>tB hv⟩
   · have: ∃ls:List bI,ls.length=xs.length∧V.aq xs=true∧xs.all V.cJ=true∧
         ∀ (X:Ctx) (μ:Mu) (vs:List Value),aj X μ xs vs→aj X μ (ls.map bI.v) vs:=by
       clear Yk GM
       induction xs with
       | nil=>exact⟨[],rfl,rfl,rfl,fun X μ vs h=>h⟩
       | cons x xs ih=>
         obtain⟨ls,e1,e3,e4,e5⟩:=ih (fun y hy=>hx y (by simp[hy]))
         obtain⟨ws,h1,h2⟩:=hx x (by simp)
         obtain⟨p,k⟩:=JR h1
         have qL:x= .agg ws:=by simp[h2,mV,M5]
         subst qL
         refine⟨p::ls,by simp[e1],by rw[V.aq,k.pure,e3];rfl,by rw[List.all_cons,k.cJ,e4];rfl,fun X μ vs hv=> ?_⟩
         cases vs with
         | nil=>simp[aj] at hv
         | cons v vs=>
           simp only[aj,List.map_cons] at hv ⊢
           exact⟨k.rel X μ v hv.1,e5 X μ vs hv.2⟩
     obtain⟨ls,e1,e3,e4,e5⟩:=this
     refine⟨ls,_,by omega,rfl,by simp[V.aB,e3],fun X μ v hv=> ?_⟩
     simp only[ak] at hv
     obtain⟨h1,h2,a,cap,vs,rfl,h3,h4,h5⟩:=hv
     simp only[ak,List.length_map]
     refine⟨bI.bP _,by rw[List.all_eq_true];intro y hy;obtain⟨z,_,rfl⟩:=List.mem_map.1 hy;rfl,a,cap,vs,by rw[e1],by omega,e5 X μ vs h4,?_⟩
     rcases h5 with h5| h5
     · left
       have:ls=[]:=by
         have:ls.length=0:=by rw[e1,h5];rfl
         simpa using this
       rw[this];rfl
     · exact .inr h5
theorem M6 {n:Nat} {us:List V} (h:TV X0.P n 26 us): ∃ (r:Raw) (a b:V),us=[a,b]∧r.ps.length≤maxLen∧r.hs.length≤maxLen∧
   (a= .nils∧r.ps.map Place.v=[]∨a= .lit 7 (r.ps.map Place.v))∧ ∀ (X:Ctx) (μ:Mu) (v:Value),ak X μ b v→ak X μ (.lit 2 (r.hs.map bI.v)) v:=by
 have u26:X0.P.underlying 26=_:=Tryz.underlying26
 cases n with
 | zero=>simp[TV] at h
 | succ n=>
   simp only[TV,u26,Lb] at h
   obtain⟨a,b,rfl,h1,h2,a',b',rfl,h3,h4,rfl⟩:=h
   obtain⟨l1,v1,k1,rfl,e1⟩:=EC h2
   obtain⟨l2,v2,k2,rfl,_,e2⟩:=HP h4
   exact⟨⟨l1,l2⟩,v1,v2,rfl,k1,k2,e1,e2⟩
theorem Av {P:Program} {w:World} {r:Reach} {base:Nat} {t:TypeId} {v:Value} {fs:Array Field} (ht:P.underlying t=some (.struct fs)) (h:Value.okWide P w r base t v): ∃cs,v= .agg cs:=by
 obtain⟨cs,h1,_⟩:=okWide_struct ht h
 exact⟨cs,h1⟩
theorem Raw.pure (r:Raw):V.aB r.v=true:=by
 simp[Raw.v,V.aB,V.aq,bI.bP,AM.bP (f:=Place.v) (fun _=>rfl)]
set_option maxRecDepth 100000 in
theorem Aw (H:Type) (enc:TypeId×Value→H) (W:World) (base:Nat) (args:Array Value) (ds gs:List (DataW H)) (before:List MemPlace)
  (vd: ∀ (j:Nat) t v,Tryz.f3.params[j]? =some t→args[j]? =some v→Value.okWide Tryz.prog W .any base t v)
  (hW:DataW.Whole enc Tryz.prog Tryz.f3.params.toList Rows.labelMakesSpec.vars false W args.toList ds gs before):
  Calls Tryz.prog 3 args W fun e W'=> ∃v,e= .returned v∧Rows.labelMakesSpec.post enc Tryz.prog Tryz.f3 false true false false W args v W':=by
 have M7:=hW
 obtain⟨p,q,hA0,hV,rfl,fN,Ik⟩:=hW
 have hA:DataW.TrodAll enc Tryz.prog W 0 (fun _=>true) true Tryz.f3.params.toList args.toList ds p:=hA0
 rw[Tryz.params3] at hA vd
 obtain⟨v0,vs0,d0,ds0,p0,q0,fq,rfl,rfl,h0,r0⟩:=trodAll_cons hA
 obtain⟨v1,vs1,d1,ds1,p1,q1,rfl,rfl,rfl,h1,r1⟩:=trodAll_cons r0
 obtain⟨v2,vs2,d2,ds2,p2,q2,rfl,rfl,rfl,h2,r2⟩:=trodAll_cons r1
 obtain⟨rfl,rfl,rfl⟩:=trodAll_nil r2
 obtain rfl:args= #[v0,v1,v2]:=by cases args;simp_all
 obtain⟨rfl,rfl⟩:=trodVars_none hV
 clear hA0
 have hW2:=M7
 simp only[List.append_nil] at M7
 obtain⟨a,len,cap,rfl⟩:=okWide_slice Tryz.underlying22 (vd 0 22 v0 rfl rfl)
 obtain⟨c1,rfl⟩:=Av Tryz.underlying26 (vd 1 26 v1 rfl rfl)
 obtain⟨n2,rfl⟩: ∃n,v2= .int .i64 n:=okWide_int Tryz.underlying3 (vd 2 3 v2 rfl rfl)
 have h0k:=h0;have h1k:=h1;have h2k:=h2
 obtain⟨Ad,hf0⟩:=h0
 obtain⟨us0,g00,g01,g02,g03⟩:=trod_good (X:=X0) yz Ad 22 _ _ (by decide) hf0
 obtain⟨ls,YL,Bg,NU⟩:=HM g00
 obtain⟨Yn,Ju⟩:=h1
 obtain⟨us1,g10,fL,gR,g13⟩:=trod_good (X:=X0) yz Yn 26 _ _ (by decide) Ju
 obtain⟨r,aP,aH,rfl,hrp,hrh,hP3,hH3⟩:=M6 g10
 obtain⟨Yo,Hg⟩:=h2
 obtain⟨us2,g20,g21,g22,g23⟩:=trod_good (X:=X0) yz Yo 3 _ _ (by decide) Hg
 obtain⟨n,rfl,KS,Jd⟩:=gQ g20
 have aaN: ∀x ∈ p0,x.block<W.heap.size:=fun x hx=>M7.lt x (by simp[hx])
 have aaO: ∀x ∈ p1,x.block<W.heap.size:=fun x hx=>M7.lt x (by simp[hx])
 have kl: ∀x ∈ p2,x.block<W.heap.size:=fun x hx=>M7.lt x (by simp[hx])
 have hm:maxLen< 9223372036854775808:=by decide
 have M8:r5 ls:=⟨by omega,fun l hl=>by have:=Bg l hl;omega⟩
 refine(Er (F:=3) Yp rfl Tryz.func3 (by kernel_rfl) rfl (Yq M8 r (by omega) (by omega) KS Jd) (by simp[V.aq,V.aB,fa,vi,Raw.pure,AM.bP (f:=eH) (fun _=>rfl)]) (vals:=[.slice a len cap,.agg c1,.int .i64 n2])
  (fun φ=>by
    simp only[aj]
    refine⟨NU _ _ _ (g03 φ),?_,?_,trivial⟩
    · have e2:=g13 φ
      have b0: (Value.agg c1).cells.toList=c1.toList:=rfl
      rw[b0] at e2
      simp only[Raw.v,ak]
      refine⟨rfl,c1,rfl,?_⟩
      generalize c1.toList=vs at e2
      match vs,e2 with
      | [w0,w1],⟨j0,j1,_⟩=>exact⟨HL hP3 j0,hH3 _ _ _ j1,trivial⟩
    · have e2:=g23 φ
      have b0: (Value.int .i64 n2).cells.toList=[Value.int .i64 n2]:=rfl
      rw[b0] at e2
      exact e2.1)).mono fun e W' ⟨he,hb,hz⟩=> ?_
 subst he
 refine⟨_,rfl,Ep (pa:=p0++(p1++(p2++[]))) (pv:=[]) hW2 (fun _ _ _=> (trodAll_cons_mk (shut_bool Tryz.underlying4 _) trodAll_mk0))
  (fun sp sO=> (trodAll_cons_mk (WideElems.Trod_stays B9 (by kernel_rfl) (of_decide_eq_true (by kernel_rfl)) h0k (fun x hx=>hb.same (aaN x hx)) (fun x hx=>sO x (by simp[hx])))
    (trodAll_cons_mk (WideElems.Trod_stays B9 (by kernel_rfl) (of_decide_eq_true (by kernel_rfl)) h1k (fun x hx=>hb.same (aaO x hx)) (fun x hx=>sO x (by simp[hx])))
    (trodAll_cons_mk (WideElems.Trod_stays B9 (by kernel_rfl) (of_decide_eq_true (by kernel_rfl)) h2k (fun x hx=>hb.same (kl x hx)) (fun x hx=>sO x (by simp[hx]))) trodAll_mk0)))) (fun _ _=>rfl) (by simp)
  (B8 hb _) hz (ok_one (by kernel_rfl) rfl (okWide_bool_mk Tryz.underlying4 _))⟩
set_option maxRecDepth 100000 in
theorem EE (os:Os) (started:os.Started) (H:Type) (enc:TypeId×Value→H):
  ReturnsInHanded {} Tryz.checked os 3 .any (Rows.labelMakesSpec.pre6 enc Tryz.prog Tryz.f3 Rows.labelMakesRow.domain false) (Rows.labelMakesSpec.post enc Tryz.prog Tryz.f3 false true false false):=by
 refine returnsInHanded_of_change (C:=Tryz.checked) Yj started (by kernel_rfl) Tryz.func3
  (ChangeSpec.witness6 (enc:=enc) (C:=Tryz.checked) false ⟨#[],#[.slice none 0 0,.agg #[.slice none 0 0,.slice none 0 0],.int .i64 0],[]⟩ 8 (by kernel_rfl) (by kernel_rfl) (by kernel_rfl) (by kernel_rfl)) ?_
 intro W base args ds gs before vd hW _ _
 exact Aw H enc W base args ds gs before vd hW
theorem JS:Rows.labelMakesRow.holds Tryz.pinned (OpenSpec.ofChange Rows.labelMakesSpec):=
 OpenClaim.holds_of_wide 3 Tryz.f3 rfl rfl rfl rfl rfl rfl rfl ⟨rfl,rfl,rfl,rfl,rfl⟩ rfl rfl rfl rfl rfl (by kernel_rfl) Tryz.func3 (by kernel_rfl)
  (of_decide_eq_true (by kernel_rfl)) (by unfold Func.isWrapper;first| (rw[if_pos (by decide+kernel)];kernel_rfl) | (rw[if_neg (by decide+kernel)];exact⟨rfl,rfl⟩))
  (fun os started H enc _=>EE os started H enc)
end Go.AM
namespace Go.Proofs.YtjkmpppkkhbjkaaGreat
theorem labelMakes_holds:Rows.LabelMakesSaid:=Go.AM.JS
#print axioms labelMakes_holds
end Go.Proofs.YtjkmpppkkhbjkaaGreat
