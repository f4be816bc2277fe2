/- Texts of the proof. -/
import Derived.Test.YtdifmldbllaeiaaGreatUf
import Derived.StillTailTactics
import Derived.RangeFuncNested
import Derived.RangeFuncLeaves
import Derived.Shelf.Abstract
import Derived.Shelf.RegionOpen
import Derived.OwnWalkIn
import Derived.TacticsInMore
import Derived.LoopNIn
import Derived.LoopIn
set_option maxHeartbeats 4000000
set_option linter.unusedSimpArgs false
set_option linter.unusedVariables false
namespace Go.AM
open Go Go.RowKit
mutual
def V.flat:V→Bool
 | .bool _| .int .. | .float _| .str _| .nilp| .nilfn| .nili| .nils| .any| .sl .. | .ptr .. =>true
 | .lit _ []=>true
 | .agg cs=>V.mu cs
 | .tuple cs=>V.mu cs
 | _=>false
def V.mu:List V→Bool
 | []=>true
 | c::cs=>V.flat c &&V.mu cs
end
mutual
theorem aj.flat {X:Ctx} {w w':World} {φ:Nat→Row} {O:Nat→Obj}: ∀ {x:V} {v:Value},x.flat=true→aj X ⟨w,φ,O⟩ x v→aj X ⟨w',φ,O⟩ x v
 | .bool _,_,_,h| .int ..,_,_,h| .float _,_,_,h| .str _,_,_,h| .nilp,_,_,h| .nilfn,_,_,h| .nili,_,_,h| .nils,_,_,h=>by simpa [aj] using h
 | .any,_,_,_=>by simp[aj]
 | .sl ..,_,_,h=>by simpa only[aj] using h
 | .ptr ..,_,_,h=>by simpa only[aj] using h
 | .lit sz [],_,_,h=>by
   simp only[aj] at h ⊢
   obtain⟨h0,jx,a,cap,vs,h1,h2,h3,_⟩:=h
   exact⟨h0,jx,a,cap,vs,h1,h2,by cases vs<;>simp_all[ag],.inl trivial⟩
 | .agg cs,_,hf,h=>by
   simp only[aj] at h ⊢
   obtain⟨h1,vs,rfl,h2⟩:=h
   exact⟨h1,vs,rfl,ag.flat (by simpa [V.flat] using hf) h2⟩
 | .tuple cs,_,hf,h=>by
   simp only[aj] at h ⊢
   obtain⟨vs,rfl,h2⟩:=h
   exact⟨vs,rfl,ag.flat (by simpa [V.flat] using hf) h2⟩
 | .lit sz (x::xs),_,hf,_=>by simp[V.flat] at hf
 | .bfn ..,_,hf,_| .fn ..,_,hf,_| .iface ..,_,hf,_| .own ..,_,hf,_| .msl ..,_,hf,_| .mptr ..,_,hf,_| .eptr ..,_,hf,_| .litk ..,_,hf,_| .epk ..,_,hf,_| .mp ..,_,hf,_| .it ..,_,hf,_| .mlit _,_,hf,_=>by simp[V.flat] at hf
theorem ag.flat {X:Ctx} {w w':World} {φ:Nat→Row} {O:Nat→Obj}: ∀ {xs:List V} {vs:List Value},V.mu xs=true→ag X ⟨w,φ,O⟩ xs vs→ag X ⟨w',φ,O⟩ xs vs
 | [],[],_,_=>by simp[ag]
 | [],_::_,_,h=>by simp[ag] at h
 | _::_,[],_,h=>by simp[ag] at h
 | x::xs,v::vs,hf,h=>by
   simp only[V.mu,af2] at hf
   simp only[ag] at h ⊢
   exact⟨aj.flat hf.1 h.1,ag.flat hf.2 h.2⟩
end
def JQ (O:Nat→Obj):Prop:= ∀r es,(O r).es=some es→0 < (O r).sz∧V.mu es=true
theorem ba.flat {X:Ctx} {w w':World} {φ:Nat→Row} {O:Nat→Obj} (ho:ba X ⟨w,φ,O⟩) (hf:JQ O) (bF:w.heap.size≤w'.heap.size)
  (hk: ∀r,(O r).es.isSome=true→(φ r).cap≠0→w'.heap[(φ r).bV]? =w.heap[(φ r).bV]?):ba X ⟨w',φ,O⟩:=by
 refine⟨fun r es bo=> ?_,ho.inj,ho.sS,fun b hb=>af9 (ho.blt b hb) bF⟩
 obtain⟨h1,h2⟩:=hf r es bo
 left
 obtain⟨q1,q2,q3,q4⟩:=ho.row r es bo h1
 refine⟨q1,q2,q3,?_⟩
 by_cases hc: (φ r).cap=0
 ·exact .inl hc
 ·rcases q4 with q4| ⟨c,T,vs,k1,k2,k3,k4⟩
  ·exact absurd q4 hc
  ·have hb:=hk r (by rw[bo];rfl) hc
   exact .inr ⟨c,T,vs,by rw[hb];exact k1,k2,ag.flat h2 k3,k4.bS hb⟩
section
variable {E:TrEnv} {B B':Nat→Prop} {K:Nat×Nat} {w w':World} {φ φ':Nat→Row} {O O':Nat→Obj}
def SR (E:TrEnv) (B B':Nat→Prop) (K:Nat×Nat) (μ μ':Mu):Prop:=
 ∀b,b<μ.w.heap.size→ ¬Own ⟨E,B,K⟩ μ b→μ'.w.heap[b]? =μ.w.heap[b]? ∧ ¬Own ⟨E,B',K⟩ μ' b
theorem SR.lt {μ μ':Mu} (h:SR E B B' K μ μ') {b:Nat} (hb:b<μ.w.heap.size) (hn: ¬Own ⟨E,B,K⟩ μ b):b<μ'.w.heap.size:=by
 have h1:=(h b hb hn).1
 rw[agl hb] at h1
 exact(af1.1 h1).1
mutual
theorem aj.move {μ μ':Mu} (hk:SR E B B' K μ μ'): ∀ {x:V} {v:Value},x.au=true→aj ⟨E,B,K⟩ μ x v→aj ⟨E,B',K⟩ μ' x v
 | .bool _,_,_,h| .int ..,_,_,h| .float _,_,_,h| .str _,_,_,h| .nilp,_,_,h| .nilfn,_,_,h| .nili,_,_,h| .nils,_,_,h=>by simpa [aj] using h
 | .any,_,_,_=>by simp[aj]
 | .own ..,_,hp,h| .msl ..,_,hp,h| .mptr ..,_,hp,h| .sl ..,_,hp,h| .ptr ..,_,hp,h| .mp ..,_,hp,h| .it ..,_,hp,h=>by simp[V.au] at hp
 | .agg cs,_,hp,h=>by
   simp only[aj] at h ⊢
   obtain⟨h1,vs,rfl,h2⟩:=h
   exact⟨h1,vs,rfl,ag.move hk (by simpa [V.au] using hp) h2⟩
 | .tuple cs,_,hp,h=>by
   simp only[aj] at h ⊢
   obtain⟨vs,rfl,h2⟩:=h
   exact⟨vs,rfl,ag.move hk (by simpa [V.au] using hp) h2⟩
 | .bfn f cs,_,hp,h=>by
   simp only[aj] at h ⊢
   obtain⟨F,cv,rfl,h1,h2⟩:=h
   exact⟨F,cv,rfl,h1,ag.move hk (by simpa [V.au] using hp) h2⟩
 | .fn f cs,_,hp,h=>by
   simp only[aj] at h ⊢
   obtain⟨F,cv,rfl,h1,h2⟩:=h
   exact⟨F,cv,rfl,h1,ag.move hk (by simpa [V.au] using hp) h2⟩
 | .iface t x,_,hp,h=>by
   simp only[aj] at h ⊢
   obtain⟨T,y,rfl,h1,h2⟩:=h
   exact⟨T,y,rfl,h1,aj.move hk (by simpa [V.au] using hp) h2⟩
 | .lit sz xs,_,hp,h=>by
   simp only[aj] at h ⊢
   obtain⟨h0,jx,a,cap,vs,rfl,h1,h2,h3⟩:=h
   refine⟨h0,jx,a,cap,vs,rfl,h1,ag.move hk h0 h2,h3.imp id ?_⟩
   rintro⟨b,o,rfl,hb,hs,hr⟩
   obtain⟨k1,k3⟩:=hk b hs hb
   exact⟨b,o,rfl,k3,hk.lt hs hb,hr.bS k1⟩
 | .eptr e off,_,hp,h=>by
   simp only[aj] at h ⊢
   obtain⟨h0,jx,b,o,sz,x,rfl,hb,hs,h1,hr⟩:=h
   obtain⟨k1,k3⟩:=hk b hs hb
   exact⟨h0,jx,b,o,sz,x,rfl,k3,hk.lt hs hb,aj.move hk h0 h1,hr.bS k1⟩
 | .litk sz xs,_,hp,h=>by
   simp only[aj] at h ⊢
   obtain⟨h0,jx,a,cap,vs,rfl,h1,h2,h3⟩:=h
   refine⟨h0,jx,a,cap,vs,rfl,h1,ag.move hk h0 h2,h3.imp id ?_⟩
   rintro⟨rfl,hb,hs,hr⟩
   obtain⟨k1,k3⟩:=hk _ hs hb
   exact⟨rfl,k3,hk.lt hs hb,hr.bS k1⟩
 | .epk i sz e off,_,hp,h=>by
   simp only[aj] at h ⊢
   obtain⟨h0,jx,x,rfl,hb,hs,h1,hr⟩:=h
   obtain⟨k1,k3⟩:=hk _ hs hb
   exact⟨h0,jx,x,rfl,k3,hk.lt hs hb,aj.move hk h0 h1,hr.bS k1⟩
 | .mlit es,_,hp,h=>by
   simp only[aj] at h ⊢
   obtain⟨h0,h⟩:=h
   refine⟨h0,h.imp id ?_⟩
   rintro⟨a,ents,clock,rfl,hb,hs,h1,h2⟩
   obtain⟨k1,k3⟩:=hk a hs hb
   exact⟨a,ents,clock,rfl,k3,hk.lt hs hb,by rw[k1];exact h1,ag.move hk h0 h2⟩
theorem ag.move {μ μ':Mu} (hk:SR E B B' K μ μ'): ∀ {xs:List V} {vs:List Value},V.ak xs=true→ag ⟨E,B,K⟩ μ xs vs→ag ⟨E,B',K⟩ μ' xs vs
 | [],[],_,_=>by simp[ag]
 | [],_::_,_,h=>by simp[ag] at h
 | _::_,[],_,h=>by simp[ag] at h
 | x::xs,v::vs,hp,h=>by
   simp only[V.ak,af2] at hp
   simp only[ag] at h ⊢
   exact⟨aj.move hk hp.1 h.1,ag.move hk hp.2 h.2⟩
end
end
structure zj (b:Nat) (A A':World):Prop where
 size:A'.heap.size=A.heap.size
 os:A'.os=A.os
 output:A'.output=A.output
 tape:A'.tape=A.tape
 other: ∀i,i≠b→A'.heap[i]? =A.heap[i]?
theorem dd.aeC {X:Ctx} {μb:Mu} {T:Nat→V} {a:Go.Act} {l:Nat} {Dq:Option Nat} {L:Loop} {O:Nat→Obj} {φ:Nat→Row} {W W':World} {b:Nat} (h:dd X μb T a l Dq L O φ W) (hT: ∀t,(T t).flat=true) (hO:JQ O)
  (ht:zj b W W') (hb:μb.w.heap.size≤b) (hn: ∀r,(O r).es.isSome=true→(φ r).cap≠0→(φ r).bV≠b) (hl:b≠l) (hD: ∀D,Dq=some D→b≠D):dd X μb T a l Dq L O φ W':=by
 refine⟨⟨fun t=>aj.flat (hT t) (h.rel.tmps t),h.rel.a8.flat hO (Nat.le_of_eq ht.size.symm) fun r h1 h2=>ht.other _ (hn r h1 h2)⟩,?_,(ht.other l hl.symm).trans h.q9,fun D hd=> (ht.other D (hD D hd).symm).trans (h.ML D hd)⟩
 have le:=h.le
 refine⟨by show _≤W'.heap.size;rw[ht.size];exact le.size,fun i hi gR=> ⟨(ht.other i ae0).trans (le.bS i hi gR).1,(le.bS i hi gR).2⟩,le.gen,le.row,ht.os.trans le.os,ht.output.trans le.output,ht.tape.trans le.tape,fun ad LI=> ?_⟩
 have:=le.frozen ad LI
 rw[←this]
 show W'.frozen? ad=W.frozen? ad
 simp only[World.frozen?,ht.other ad.block ae0]
end Go.AM
namespace Go.AM
open Go Go.RowKit
def aaw (X:Ctx) (x:List V) (v:Array Value):Prop:= ∀μ,ag X μ x v.toList
structure SU (J:Nat→(Nat→Prop)→World→Prop):Prop extends AbidesF J where
 put: ∀k F b A A',J k F A→F b→zj b A A'→J k F A'
def PH (X:Ctx) (μ0:Mu) (gf:Nat) (lb:Array Value) (xs:List (List V)) (F0:Nat→Prop) (w:World):Prop:=
 ∀ (l:Nat) (J:Nat→(Nat→Prop)→World→Prop) (W0:World),w.grownBy W0 none→SU J→
  (∀ (k:Nat) F W1 v x,xs[k]? =some x→aaw X x v→J k F W1→YieldAt (Fr none) 0 X.P l v W1 fun e W'=>e= .returned (.bool true)∧J (k+1) F W'∧(∀b,b<μ0.w.heap.size→ ¬μ0.own b→W'.heap[b]? =W1.heap[b]?)∧ ∀b,F b→W'.heap[b]? =W1.heap[b]?)→
  J 0 F0 W0→CallsIn (Fr none) 0 X.P gf (#[.func (.yield l) #[] #[]]++lb) W0 fun e W'=> (∃v,e= .returned v)∧ ∃F,J xs.length F W'
def gU (O O':Nat→Obj):Prop:= ∀r,O' r=O r∨O' r={O r with es:=none}
theorem gU.gen {O O':Nat→Obj} (h:gU O O') (r:Nat): (O' r).gen=(O r).gen∧(O' r).sz=(O r).sz:=by
 rcases h r with h| h<;>rw[h] <;>exact⟨rfl,rfl⟩
theorem gU.own {O O':Nat→Obj} (h:gU O O') {w:World} {φ:Nat→Row} {b:Nat} (ho:Mu.own ⟨w,φ,O'⟩ b):Mu.own ⟨w,φ,O⟩ b:=by
 obtain⟨r,h1,h2,h3,h4⟩:=ho
 rcases h r with k| k
 ·rw[show (⟨w,φ,O'⟩:Mu).O r=O r from k] at h1 h2
  exact⟨r,h1,h2,h3,h4⟩
 ·rw[show (⟨w,φ,O'⟩:Mu).O r={O r with es:=none} from k] at h1
  simp at h1
theorem gU.le {O O':Nat→Obj} (h:gU O O') (w:World) (φ:Nat→Row):Le ⟨w,φ,O⟩ ⟨w,φ,O'⟩:=
 ⟨af6 _,fun b _ hn=> ⟨rfl,fun ho=>hn (h.own ho)⟩,fun r=>Nat.le_of_eq (h.gen r).1.symm,fun r _=> ⟨rfl,(h.gen r).2⟩,rfl,rfl,rfl,fun _ _=>rfl⟩
theorem gU.keeps {O O':Nat→Obj} (h:gU O O') {r:Nat} (hs: (O' r).es.isSome=true):O' r=O r:=by
 rcases h r with k| k
 ·exact k
 ·rw[k] at hs;simp at hs
theorem gU.a8 {X:Ctx} {w:World} {φ:Nat→Row} {O O':Nat→Obj} (h:gU O O') (ho:ba X ⟨w,φ,O⟩):ba X ⟨w,φ,O'⟩:=by
 have kp: ∀ {r:Nat},(O' r).es.isSome=true→(O r).es.isSome=true:=fun {r} hs=>by rw[←h.keeps hs];exact hs
 refine⟨fun r es bo=> ?_,fun r r' cF h1 h2 h3 h4=>ho.inj r r' cF (kp h1) (kp h2) h3 h4,fun r h1 h2=>ho.sS r (kp h1) h2,ho.blt⟩
 have fm: (O' r).es=some es:=bo
 have e:=h.keeps (r:=r) (by rw[fm];rfl)
 rw[e] at fm
 exact fR.bS (h.le w φ) (ho.ok r es fm) (h.gen r).2 rfl fun _=>rfl
theorem gU.loop {X:Ctx} {μb:Mu} {T:Nat→V} {a:Go.Act} {l:Nat} {Dq:Option Nat} {L:Loop} {O O':Nat→Obj} {φ:Nat→Row} {W:World} (hf:gU O O') (h:dd X μb T a l Dq L O φ W):dd X μb T a l Dq L O' φ W:=
 ⟨⟨fun t=>aj.mono (hf.le W φ) (h.rel.tmps t),hf.a8 h.rel.a8⟩,h.le.trans (hf.le W φ),h.q9,h.ML⟩
theorem Dc {X:Ctx} {n:Fp} {g:Operand} {ps:Array Tmp} {assign body:Code} {rec:aS→St→Option (aP×St)} {ta tb:aS} (hA: ∀l,zk X ⟨n.tm,0,some l⟩ assign rec ta) (hB: ∀l,zk X ⟨n.tm,0,some l⟩ body rec tb)
  {μ0:Mu} {T:Nat→V} {Pk:Nat→(Nat→Obj)→Prop} {O0:Nat→Obj} (hP0:Pk 0 O0) {a:Go.Act} {w:World} {φ:Nat→Row} (j3:Marks n μ0.w a.defers) (ho0:ba X μ0) (XA:n.ro=none) (bF:a.tmps.size=n.tm) (hr:Rel X T a ⟨w,φ,O0⟩) (hle:Le μ0 ⟨w,φ,O0⟩)
  (CC: ∀p ∈ ps.toList,p<n.tm) {gf:Nat} {lb:Array Value} (hg:a.eval g= .func (.func gf) #[] lb) (enters: ∀args w,(callFunc gf args).run X.P w= .ok (.enter gf args) w) {xs:List (List V)} (hlen: ∀x ∈ xs,x.length=ps.size)
  (hT: ∀t,(T t).flat=true) (hO: ∀k O,Pk k O→JQ O)
  (step: ∀k x O,xs[k]? =some x→Pk k O→ ∃σ1 σ2 O',rec ta ⟨jr T ps.toList x,O⟩=some (.normal,σ1)∧rec tb σ1=some (.normal,σ2)∧gU σ2.O O'∧Pk (k+1) O')
  {F0:Nat→Prop} (D2: ∀b,F0 b→b<w.heap.size∧ ¬Mu.own ⟨w,φ,O0⟩ b∧μ0.w.heap.size≤b)
  (hn: ∀k O,Pk k O→ ∀r,(O r).es.isSome=true→(O r).fz=false)
  (pM:PH X μ0 gf lb xs F0 w):
  (Code.rangeFunc g ps assign body).wpIn (Fr n.ro) 0 X.P (fun ex a' w'=>ex= .normal∧ ∃O,Pk xs.length O∧jy X μ0 n ⟨T,O⟩ a' w') a w:=by
 refine wpIn_rangeFunc fun fn mc=> ?_
 obtain⟨l,Dq,dD,W1,V6,eK,hl,PI,PJ⟩:=BR (P:=X.P) n.ro (by rw[XA];simp) fn a.tmps ps assign body
 replace hl:w.heap.size≤l:=hl
 replace PJ: ∀D,Dq=some D→w.heap.size≤D∧D≠l∧W1.heap[D]? =some (.deferred (some [])):=PJ
 obtain⟨cY,gh⟩: ∃cY:LoopState→Option Code→Loop,cY=fun st pe=> {state:=st,pending:=pe,fn,tmps:=a.tmps,params:=ps,assign,body,defers:=dD}:=⟨_,rfl⟩
 have cF: ∀D,Dq=some D→D≠l:=fun D hD=> (PJ D hD).2.1
 have hlm:μ0.w.heap.size≤l:=agm hle.size hl
 have SP:dd X μ0 T a l Dq (cY .ready none) O0 φ W1:=by
  have hb: ∀k,k<w.heap.size→W1.heap[k]? =w.heap[k]? :=fun k hk=>eK.block k hk afU
  have st:iz X ⟨w,φ,O0⟩ W1:=mw (μ:=⟨w,φ,O0⟩) eK
  refine⟨⟨fun t=>aj.ck st (hr.tmps t),hr.a8.ck st fun r h1 h2=>hb _ (sx hr.a8 h1 h2)⟩,?_,by rw[gh];exact PI,fun D hD=> (PJ D hD).2.2⟩
  have SV:μ0.w.heap.size≤w.heap.size:=hle.size
  exact⟨agm SV eK.size,fun b kI gR=> ⟨(hb b ae0).trans (hle.bS b kI gR).1,(hle.bS b kI gR).2⟩,hle.gen,hle.row,eK.os.trans hle.os,eK.output.trans hle.output,eK.tape.trans hle.tape,fun ad LI=>by
    have:=hle.frozen ad LI
    rw[←this]
    show W1.frozen? ad=w.frozen? ad
    simp only[World.frozen?,hb ad.block ae0]⟩
 refine⟨l,_,W1,{target:= .fn (.func gf) lb,args:= #[.func (.yield l) #[] #[]]},W1,gf,#[.func (.yield l) #[] #[]]++lb,W1,V6,?_,fun _ _=>trivial,?_,fun h=>by simp[Fr,Fence.wide] at h,?_⟩
 ·simp only[resolve,hg]
  simp[go_sem]
 ·simp[invoke,go_sem,enters]
 have hblk: ∀ {k:Nat} {O:Nat→Obj} {W:World} {φ':Nat→Row} {b:Nat},Pk k O→ ¬Mu.own ⟨W,φ',O⟩ b→ ∀r,(O r).es.isSome=true→(φ' r).cap≠0→(φ' r).bV≠b:=fun hp gR r h1 h2 h3=>gR ⟨r,h1,hn _ _ hp r h1,h2,h3⟩
 have key:=pM l (fun k F W=> ∃O φ',Pk k O∧dd X μ0 T a l Dq (cY .ready none) O φ' W∧ ∀b,F b→b<W.heap.size∧ ¬Mu.own ⟨W,φ',O⟩ b∧b≠l∧(∀D,Dq=some D→b≠D)∧μ0.w.heap.size≤b) W1 eK
  ⟨⟨fun k F A B ⟨O,φ',hp,h1,h3⟩ hg=> ⟨O,φ',hp,h1.grow hg,fun b hb=>by
    rcases hb with hb| ⟨xO,pF⟩
    ·exact⟨af9 (h3 b hb).1 hg.size,(h3 b hb).2⟩
    ·refine⟨pF,?_,fun jM=> ?_,fun D hD hbD=> ?_,?_⟩
     ·  rintro⟨r,q1,_,q3,q4⟩
        have:=sx (μ:=⟨A,φ',O⟩) h1.rel.a8 q1 q3
        have hq: (φ' r).bV=b:=q4
        have: (φ' r).bV<A.heap.size:=this
        omega
     ·  subst jM
        have:=(af1.1 h1.q9).1
        omega
     ·  subst hbD
        have:=(af1.1 (h1.ML b hD)).1
        omega
     ·  have:μ0.w.heap.size≤A.heap.size:=h1.le.size
        omega⟩,fun k F F' A ⟨O,φ',hp,h1,h3⟩ hF=> ⟨O,φ',hp,h1,fun b hb=>h3 b (hF b hb)⟩⟩,
    fun k F b A A' ⟨O,φ',hp,h1,h3⟩ hF ht=> ⟨O,φ',hp,h1.aeC hT (hO k O hp) ht (h3 b hF).2.2.2.2 (hblk hp (h3 b hF).2.1) (h3 b hF).2.2.1 (h3 b hF).2.2.2.1,fun i hi=> ⟨by rw[ht.size];exact(h3 i hi).1,(h3 i hi).2⟩⟩⟩ ?round
  ⟨O0,φ,hP0,SP,fun b hb=> ⟨af9 (D2 b hb).1 eK.size,(D2 b hb).2.1,by have:=(D2 b hb).1;omega,fun D hD=>by have:=(D2 b hb).1;have:=(PJ D hD).1;omega,(D2 b hb).2.2⟩⟩
 case round=>
  rintro k F W v x hx re ⟨O,φ',hp,j8,hF⟩
  have Q7:=hlen x (List.mem_of_getElem? hx)
  obtain⟨σ1,σ2,O',h1,h2,hfg,Hj⟩:=step k x O hx hp
  have aax:=j8.le
  have SX:ag X ⟨W,φ',O⟩ x v.toList:=re _
  have lE:v.size=ps.size:=by
    have:=SX.length
    rw[←Q7,this];simp
  have Ha:=Dd (ps:=ps.toList) (T:=T) (tmps:=a.tmps) SX j8.rel.tmps (by rw[bF];exact CC)
  have FJ: ((ps.zip v).foldl (fun tmps (p:Tmp×Value)=>tmps.setIfInBounds p.1 p.2) a.tmps)=(ps.toList.zip v.toList).foldl (fun t p=>t.setIfInBounds p.1 p.2) a.tmps:=by
    rw[←Array.foldl_toList,Array.toList_zip]
  have hy:=run_yield (P:=X.P) (args:=v) j8.q9 (by rw[gh];exact lE)
  rw[gh] at hy
  refine⟨fn,_,assign,body,hy,roundIn_of_wpIn mc ?_⟩
  have j4:jy X ⟨W,φ',O⟩ ⟨n.tm,0,some l⟩ ⟨jr T ps.toList x,O⟩ {tmps:=(ps.zip v).foldl (fun tmps (p:Tmp×Value)=>tmps.setIfInBounds p.1 p.2) a.tmps,defers:=[]} W:=by
    refine⟨Marks.nil (agI _) (fun l' xH=>by injection xH with xH;subst xH;exact⟨_,j8.q9⟩),by show Array.size _=n.tm;rw[FJ,Ha.2];exact bF,φ',⟨fun t=> ?_,j8.rel.a8⟩,Le.refl _⟩
    show aj X _ _ (Array.getD _ t undef)
    rw[FJ];exact Ha.1 t
  refine wpIn_mono (hA l _ _ _ _ _ _ h1 j4) fun ex a1 w1 hq=> ?_
  obtain⟨rfl,Fb,xp,φ1,ve,zl⟩:=hq
  have FK: ∀ {b:Nat} {o:Go.Obj},W.heap[b]? =some o→o.isCells=false→o.isWalk=false→w1.heap[b]? =some o:=fun {b o} hb i1 i2=>
    (zl.bS b (af1.1 hb).1 (dh j8.rel.a8 hb i1 i2)).1.trans hb
  have De:dd X μ0 T a l Dq (cY .ready none) σ1.O φ1 w1:=⟨⟨fun t=>aj.mono zl (j8.rel.tmps t),ve.a8⟩,j8.le.trans zl,FK j8.q9 rfl rfl,fun D hD=>FK (j8.ML D hD) rfl rfl⟩
  show ∃w₂,_∧_
  refine⟨_,run_beginRound De.q9 (by rw[gh]),?_⟩
  have mR:dd X μ0 T a l Dq (cY .busy none) σ1.O φ1 (w1.putObj l (.loop (cY .busy none))):=De.put hlm cF
  have PK: ({cY .ready none with state:= .busy}:Loop)=cY .busy none:=by rw[gh]
  rw[PK]
  have st2:iz X ⟨w1,φ1,σ1.O⟩ (w1.putObj l (.loop (cY .busy none))):=iA (μ:=⟨w1,φ1,σ1.O⟩) De.q9 rfl rfl
  have JR:jy X ⟨w1.putObj l (.loop (cY .busy none)),φ1,σ1.O⟩ ⟨n.tm,0,some l⟩ σ1 a1 (w1.putObj l (.loop (cY .busy none))):=by
    refine⟨?_,xp,φ1,⟨fun t=>aj.ck st2 (ve.tmps t),mR.rel.a8⟩,Le.refl _⟩
    obtain⟨_,Ds,m1,m2,m3⟩:=Fb
    refine⟨⟨agI _,fun l' xH=>by injection xH with xH;subst xH;exact⟨_,mR.q9⟩⟩,Ds,m1,m2,fun D hD=> ⟨agI _,?_⟩⟩
    rw[World.putObj_heap_other (fun e=>by have:=(m3 D hD).2;rw[e,De.q9] at this;simp at this)]
    exact(m3 D hD).2
  refine wpIn_mono (hB l _ _ _ _ _ _ h2 JR) fun ex a3 w3 hq=> ?_
  obtain⟨rfl,_,_,φ3,SE,sy⟩:=hq
  have nz: ∀ {b:Nat} {o:Go.Obj},(w1.putObj l (.loop (cY .busy none))).heap[b]? =some o→o.isCells=false→o.isWalk=false→w3.heap[b]? =some o:=fun {b o} hb i1 i2=>
    (sy.bS b (af1.1 hb).1 (dh mR.rel.a8 hb i1 i2)).1.trans hb
  have Df:dd X μ0 T a l Dq (cY .busy none) σ2.O φ3 w3:=⟨⟨fun t=>aj.mono sy (mR.rel.tmps t),SE.a8⟩,mR.le.trans sy,nz mR.q9 rfl rfl,fun D hD=>nz (mR.ML D hD) rfl rfl⟩
  have FL:dd X μ0 T a l Dq (cY .ready none) σ2.O φ3 (w3.putObj l (.loop (cY .ready none))):=Df.put hlm cF
  have aeD:=hfg.loop FL
  have e4: ({cY .busy none with state:=if (none:Option Code).isNone then .ready else .done,pending:=none}:Loop)=cY .ready none:=by rw[gh];rfl
  have Re: ∀b,F b→(w3.putObj l (.loop (cY .ready none))).heap[b]? =W.heap[b]? ∧b<w3.heap.size∧ ¬Mu.own ⟨w3,φ3,σ2.O⟩ b:=fun b hb=>by
    obtain⟨f1,f2,f3,_⟩:=hF b hb
    have g1:=zl.bS b f1 f2
    have s1:W.heap.size≤w1.heap.size:=zl.size
    have s2: (w1.putObj l (.loop (cY .busy none))).heap.size≤w3.heap.size:=sy.size
    have s3: (w1.putObj l (.loop (cY .busy none))).heap.size=w1.heap.size:=World.putObj_size ..
    have g2:=sy.bS b (by show b< (w1.putObj l (.loop (cY .busy none))).heap.size;omega) g1.2
    refine⟨?_,ae0,g2.2⟩
    rw[World.putObj_heap_other f3,show w3.heap[b]? =(w1.putObj l (.loop (cY .busy none))).heap[b]? from g2.1,World.putObj_heap_other f3]
    exact g1.1
  have s4: (w3.putObj l (.loop (cY .ready none))).heap.size=w3.heap.size:=World.putObj_size ..
  refine⟨_,_,run_endRound none Df.q9,rfl,⟨O',φ3,Hj,by rw[e4];exact aeD,fun b hb=> ?_⟩,fun b hb gR=> ?_,fun b hb=> ?_⟩
  · rw[e4]
    exact⟨by rw[s4];exact(Re b hb).2.1,fun ho=> (Re b hb).2.2 (hfg.own ho),(hF b hb).2.2⟩
  · rw[e4]
    exact(FL.le.bS b hb gR).1.trans (j8.le.bS b hb gR).1.symm
  ·rw[e4];exact(Re b hb).1
 refine CallsIn.mono (show CallsIn (Fr n.ro) (0 - 1) X.P gf _ W1 _ from by rw[XA];exact key) ?_
 rintro ending W' ⟨⟨v,rfl⟩,_,O,φ',hp,j8,_⟩
 refine⟨none,_,by have:=run_endLoop (P:=X.P) j8.q9 (by rw[gh];simp);rw[this,gh],rfl,?_⟩
 have aay:dd X μ0 T a l Dq (cY .exhausted none) O φ' (W'.putObj l (.loop (cY .exhausted none))):=j8.put hlm cF
 rw[gh] at aay
 exact⟨O,hp,vy (w:=μ0.w) (φ:=μ0.φ) (O0:=μ0.O) j3 bF ho0 (Le.refl _) aay fun D hD=>agm hle.size (PJ D hD).1⟩
end Go.AM
namespace Go.Proofs
open Go.RowKit Go.AM Go.Proofs.YtdifmldbllaeiaaGreat
attribute [local go_sem] ltk lF jz cZ
set_option maxRecDepth 100000 in
theorem Ic (W:World) (s0 s1 s2 s3:Value) (d:Int):
  Calls Tryz.prog 57 #[.agg #[s0,s1,s2,s3],.int .i64 d] W fun e W'=>e= .returned (.func (.func 101) #[] #[.pointer (some ⟨W.heap.size,0,none⟩),.pointer (some ⟨W.heap.size+1,0,none⟩)])∧W'=(W.alloc (.cells #[s0,s1,s2,s3] 30)).alloc (.cells #[.int .i64 d] 3):=by
 go_enter Tryz.func57,Tryz.ntmps57
 go_wp2
 exact bodyPost_ret (by simp[results,show Tryz.f57.results= #[.tmp 4] from rfl]) rfl ⟨rfl,rfl⟩
end Go.Proofs
namespace Go.AM
open Go Go.RowKit
theorem FM: ∀ {cs:List V},V.ak cs=true→ ∀c ∈ cs,c.au=true
 | [],_,c,h=>by simp at h
 | x::cs,hp,c,h=>by
   simp only[V.ak,af2] at hp
   rcases af7.1 h with rfl| h
   ·exact hp.1
   ·exact FM hp.2 c h
def jk:Nat→Obj:=fun _=>bE
def zm:Nat→Row:=fun _=> ⟨0,0,0⟩
theorem zn {w:World} {φ:Nat→Row} {b:Nat}: ¬Mu.own ⟨w,φ,jk⟩ b:=by
 rintro⟨r,h,_⟩
 simp[jk,bE] at h
theorem LJ {E:TrEnv} {B:Nat→Prop} {K:Nat×Nat} {w:World} {φ:Nat→Row} (hB: ∀b,B b→b<w.heap.size):ba ⟨E,B,K⟩ ⟨w,φ,jk⟩:=
 ⟨fun r es h=>by simp[jk,bE] at h,fun r r' _ h=>by simp[jk,bE] at h,fun r h=>by simp[jk,bE] at h,hB⟩
theorem FN.rel {Y:Ctx} {μ:Mu} {n:Nat} {v:V} {rs:List Nat} {val:Value} (h:FN Y μ n v rs val) (hp:v.au=true):aj Y μ v val:=by
 cases h with
 | cell h=>
   cases h with
   | pure _ h=>exact h
   | sl=>simp[V.au] at hp
   | own=>simp[V.au] at hp
 | agg hc h=>
   rename_i cs vals
   have Dg:V.ak cs=true:=by simpa [V.au] using hp
   have:=(h.aV Dg).1
   simp only[aj]
   refine⟨?_,_,rfl,this⟩
   rw[af5] at hc ⊢
   intro c V7
   have h1:=hc c V7
   have h2:=FM Dg c V7
   cases c<;>simp_all[V.jc,V.aR,V.au]
theorem pN.SY {Y:Ctx} {μ:Mu} {n:Nat} {vs:List V} {rs:List Nat} {vals:List Value} (h:pN Y μ n vs rs vals) (hp:V.ak vs=true):ag Y μ vs vals:=by
 induction h with
 | nil=>simp[ag]
 | cons h hs ih=>
   simp only[V.ak,af2] at hp
   simp only[ag]
   exact⟨h.rel hp.1,ih hp.2⟩
theorem wK {args:List V} (h:V.ak args=true): (enter args).O=jk:=by rw[dT h];rfl
theorem ou {X:TrEnv} {F:FuncId} {fn:Func} {c:Code} (mc:X.P.funcs[F]? =some fn) (gQ: (fn.name== "runtime.NumGoroutine")=false) (hb:fn.body=some c) (args:Array Value) (w:World): (callFunc F args).run X.P w= .ok (.enter F args) w:=by
 simp[callFunc,Sem.run_bind,program,Sem.run,mc,hb]
 simpa using gQ
theorem bG.aV {X:TrEnv} {F:FuncId} {fn:Func} {c:Code} (mc:X.P.funcs[F]? =some fn) (gQ: (fn.name== "runtime.NumGoroutine")=false) (hb:fn.body=some c) {args:List V} {res:eL} (h:bG X F args res)
   (Ha:V.ak args=true) (hpr:res.val.au=true) {B:Nat→Prop} {K:Nat×Nat} {w:World} (hB: ∀b,B b→b<w.heap.size) {vals:List Value} (hv:ag ⟨X,B,K⟩ ⟨w,zm,jk⟩ args vals):
   Calls X.P F vals.toArray w fun e w'=> ∃val,e= .returned val∧w.grownBy w' none∧aj ⟨X,B,K⟩ ⟨w',zm,jk⟩ res.val val:=by
 have hO:=wK Ha
 have hT: ∀t x,args[t]? =some x→(enter args).T t=x:=fun t x hx=>by
   rw[dT Ha];simp[hx]
 have h1:=h B K w zm vals hv.length.symm (fun t v hvt=>by
   rw[hO]
   have hl:=hv.length
   have ht:t<args.length:=by rw[hl];exact(af0.1 hvt).1
   rw[hT t _ (af3 ht)]
   obtain⟨v',xS,hr⟩:=hv.get (af3 ht)
   rw[hvt] at xS;injection xS with xS;subst xS;exact hr) (by rw[hO];exact LJ hB)
 rw[ou mc gQ hb] at h1
 refine Calls.mono h1 ?_
 rintro e w' he
 cases e with
 | panicked c=>exact he.elim
 | outgrown=>exact he.elim
 | returned val=>
   obtain⟨φ',T',O',v0,refs,hle,eS,hrel,SZ,_,_⟩:=he
   rw[hO] at hle
   refine⟨val,rfl,⟨hle.os,hle.tape,hle.output,hle.size,fun k hk _=> (hle.bS k hk zn).1⟩,?_⟩
   have h2:aj ⟨X,B,K⟩ ⟨w',φ',O'⟩ res.val val:=by
    generalize res.val=rv at SZ hpr ⊢
    cases SZ with
    | one h=>exact(mS eS (T:=T') hrel h).rel hpr
    | many h=>
      simp only[aj] at hrel ⊢
      obtain⟨vs,rfl,RT⟩:=hrel
      exact⟨vs,rfl,(lG eS (T:=T') RT h).SY (by simpa [V.au] using hpr)⟩
   exact aj.move (μ:=⟨w',φ',O'⟩) (μ':=⟨w',zm,jk⟩) (fun b hb hn=> ⟨rfl,fun ho=>hn (ho.imp (fun h=> (zn h).elim) id)⟩) hpr h2
end Go.AM
namespace Go.Proofs
open Go.RowKit Go.Shelf Go.AM Go.Proofs.YtdifmldbllaeiaaGreat
attribute [local go_sem] Oper.semAt_some ltk lF jz cZ
@[local go_sem] theorem LH: (Fr none).round=none:=rfl
structure Sl where
 a:Option Addr
 n:Nat
 c:Nat
inductive Phase where
 | head (k:Nat) (b:Int) (s0 s1 s2 s3:Sl)
 | XB (k:Nat) (s0 s1 s2 s3:Sl) (c0 a c2 c3 c4:Int)
 | app (k:Nat) (c0 a c2 c3 c4:Int) (s0 s1 s2 s3:Sl)
 | done
def GV (c0 a c2 c3 c4:Int):Value:= .agg #[.int .i64 c0,.int .i64 a,.int .i64 c2,.int .i64 c3,.int .i64 c4]
theorem BS {F:Fence} {n:Nat} {P:Program} {md:Region.Mode} {ops:Array Oper} {Q:Exit→Go.Act→World→Prop} (I:Array Bool→Go.Act→World→Prop) (bF: ∀an a w,I an a w→an.size=ops.size)
   (mq: ∀an a w i,I an a w→i ∈ Region.ready md ops an→wpOpIn F n P ops Q i (I (an.setIfInBounds i true)) a w)
   (sm: ∀an a w,I an a w→Region.ready md ops an=[]→Q .normal a w):
   ∀ (fuel:Nat) (an:Array Bool) (a:Go.Act) (w:World),I an a w→an.toList.countP (fun b=> !b)≤fuel→wpAnyIn F n P md ops Q fuel an a w
 | 0,an,a,w,h,hf=>by
   have hr:Region.ready md ops an=[]:=by
    apply List.eq_nil_iff_forall_not_mem.2
    intro i hi
    have hl:=Dh (mem_ready.1 hi).1
    have:=xU hl
    omega
   exact⟨hr,sm _ _ _ h hr⟩
 | fuel+1,an,a,w,h,hf=>by
   refine⟨fun hr=>sm _ _ _ h hr,fun i hi=>wpOpIn_mono (fun a' w' hI=>BS I bF mq sm fuel _ a' w' hI ?_) (mq _ _ _ i h hi)⟩
   have hl:=Dh (mem_ready.1 hi).1
   have:=xU hl
   simp only[ahO]
   omega
theorem nA {r:Option Nat} {P:Program} {ops:Array Oper} {Q:Exit→Go.Act→World→Prop} {i:Nat} {o:Oper} {K:Go.Act→World→Prop} {a:Go.Act} {w:World} (ho:ops[i]? =some o) (hg:o.guard=none) (hd: ∀c,o.op≠ .defer c) (h:o.wp P a w K Q):wpOpIn (Fr r) 0 P ops Q i K a w:=by
 unfold wpOpIn
 rw[ho]
 simp only[Region.wanted,hg,if_true]
 exact qL hd h
theorem ov {md:Region.Mode} {ops:Array Oper} {an:Array Bool} {n:Nat} (bF:an.size=n) (hr:Region.ready md ops an=[]) {j:Nat} {o:Oper} (ho:ops[j]? =some o) (FO: ∀e ∈ o.after,Region.binds md e=true→an.getD e.on false=true) (hj:j<n:=by decide):an.getD j false=true:=by
 cases h:an.getD j true with
 | false=>
   have:j ∈ Region.ready md ops an:=mem_ready.2 ⟨h,o,ho,FO⟩
   rw[hr] at this;cases this
 | true=>
   have hl:j<an.size:=ae0
   simp only[Array.getD,hl,dite_true] at h ⊢
   exact h
def fM (Bm:Nat) (w:World) (r0 r1 r2 r3:Sl):World:=
 (((w.setCell ⟨Bm,0,none⟩ (.slice r0.a r0.n r0.c)).setCell ⟨Bm,1,none⟩ (.slice r1.a r1.n r1.c)).setCell ⟨Bm,2,none⟩ (.slice r2.a r2.n r2.c)).setCell ⟨Bm,3,none⟩ (.slice r3.a r3.n r3.c)
theorem AH (Bm:Nat) (w:World) (r0 r1 r2 r3:Sl):zj Bm w (fM Bm w r0 r1 r2 r3):=
 ⟨by simp[fM,World.setCell],rfl,rfl,rfl,fun i hi=>by
   simp only[fM]
   rw[Below.heap_setCell _ _ _ _ hi,Below.heap_setCell _ _ _ _ hi,Below.heap_setCell _ _ _ _ hi,Below.heap_setCell _ _ _ _ hi]⟩
theorem LK {Bm:Nat} {w:World} {r0 r1 r2 r3:Sl} {x0 x1 x2 x3:Value} {t:TypeId} (h:w.heap[Bm]? =some (.cells #[x0,x1,x2,x3] t)): (fM Bm w r0 r1 r2 r3).heap[Bm]? =some (.cells #[.slice r0.a r0.n r0.c,.slice r1.a r1.n r1.c,.slice r2.a r2.n r2.c,.slice r3.a r3.n r3.c] t):=by
 obtain⟨hl,h⟩:=af1.1 h
 simp only[fM,World.setCell]
 rw[agl (by simpa using hl)]
 simp[Array.getElem_modify,h]
structure StI (mk:Value→Value→Value→Value→Go.Act) (Wd Ws:World) (vR vP va:Value) (an:Array Bool) (act:Go.Act) (w:World):Prop where
 sz:an.size=5
 w:Hid (w=if an.getD 3 false=true then Ws else Wd)
 ac: ∃x4 XC XD XE,act=mk x4 XC XD XE∧(an.getD 0 false=true→XC=vR)∧(an.getD 1 false=true→XD=vP)∧(an.getD 2 false=true→XE=va)∧(an.getD 4 false=true→x4=va)
set_option maxRecDepth 100000 in
theorem LL (l Bm Bd:Nat) (d:Int) (G:Phase→(Nat→Prop)→World→Prop)
  (eK: ∀ph S A B,G ph S A→A.grownBy B none→G ph (fun b=>S b∨(A.heap.size≤b∧b<B.heap.size)) B) (JS: ∀ph S S' A,G ph S A→(∀b,S' b→S b)→G ph S' A) (fj: ∀ph S A A',G ph S A→zj Bm A A'→G ph S A')
  (h74: ∀k b s0 s1 s2 s3 S W,G (.head k b s0 s1 s2 s3) S W→k< 200→Calls Tryz.prog 14 #[.agg #[.slice s0.a s0.n s0.c,.slice s1.a s1.n s1.c,.slice s2.a s2.n s2.c,.slice s3.a s3.n s3.c],.int .i64 d,.int .i64 b] W fun e W'=> ∃c0 a c2 c3 c4 ok,e= .returned (.tuple #[GV c0 a c2 c3 c4,.bool ok])∧W.grownBy W' none∧((ok=true∧G (.XB k s0 s1 s2 s3 c0 a c2 c3 c4) S W')∨(ok=false∧G .done S W')))
  (h75: ∀k s0 s1 s2 s3 c0 a c2 c3 c4 S W,G (.XB k s0 s1 s2 s3 c0 a c2 c3 c4) S W→Calls Tryz.prog 15 #[.agg #[.slice s0.a s0.n s0.c,.slice s1.a s1.n s1.c,.slice s2.a s2.n s2.c,.slice s3.a s3.n s3.c],GV c0 a c2 c3 c4] W fun e W'=> ∃t0 t1 t2 t3 err,e= .returned (.tuple #[.agg #[.slice t0.a t0.n t0.c,.slice t1.a t1.n t1.c,.slice t2.a t2.n t2.c,.slice t3.a t3.n t3.c],.int .i64 err])∧W.grownBy W' none∧((err=0∧G (.app k c0 a c2 c3 c4 t0 t1 t2 t3) S W')∨(err≠0∧G .done S W')))
  (hY: ∀k c0 a c2 c3 c4 t0 t1 t2 t3 S W,G (.app k c0 a c2 c3 c4 t0 t1 t2 t3) S W→YieldAt (Fr none) 0 Tryz.prog l #[GV c0 a c2 c3 c4,.agg #[.slice t0.a t0.n t0.c,.slice t1.a t1.n t1.c,.slice t2.a t2.n t2.c,.slice t3.a t3.n t3.c]] W fun e W'=>e= .returned (.bool true)∧G (.head (k+1) a t0 t1 t2 t3) S W'∧ ∀b,S b→W'.heap[b]? =W.heap[b]?)
  (sm: ∀b s0 s1 s2 s3 S W,G (.head 200 b s0 s1 s2 s3) S W→G .done S W)
  (W:World) (s0 s1 s2 s3:Sl) (S:Nat→Prop) (hSm:S Bm) (hSd:S Bd) (cF:Bd≠Bm) (FB:W.heap[Bm]? =some (.cells #[.slice s0.a s0.n s0.c,.slice s1.a s1.n s1.c,.slice s2.a s2.n s2.c,.slice s3.a s3.n s3.c] 30)) (MM:W.heap[Bd]? =some (.cells #[.int .i64 d] 3))
  (h0:G (.head 0 0 s0 s1 s2 s3) S W):
  CallsIn (Fr none) 1 Tryz.prog 101 #[.func (.yield l) #[] #[],.pointer (some ⟨Bm,0,none⟩),.pointer (some ⟨Bd,0,none⟩)] W fun ex W'=> (∃v,ex= .returned v)∧ ∃S,G .done S W':=by
 refine callsIn_of_wp Tryz.func101 rfl trivial ?_ rfl
 simp only[Tryz.ntmps101,ahv,agb,agi,Nat.reduceAdd,Nat.reduceSub,ahr,ahs,ahN,ahA,agH,ags]
 have Fy:Tryz.prog.follows .mixedOrders=true:=afW
 gi_wp2
 gi_loopw [4,9] (fun b i wr=> ∃k:Nat,k≤200∧i= .int .i64 k∧ ∃b' t0 t1 t2 t3,b= .int .i64 b'∧G (.head k b' t0 t1 t2 t3) (fun x=>x=Bm∨x=Bd) wr∧wr.heap[Bm]? =some (.cells #[.slice t0.a t0.n t0.c,.slice t1.a t1.n t1.c,.slice t2.a t2.n t2.c,.slice t3.a t3.n t3.c] 30)∧wr.heap[Bd]? =some (.cells #[.int .i64 d] 3)) (fun b i _=>200 - (intOf i).toNat)
 case atStart=>exact⟨0,agI _,rfl,0,s0,s1,s2,s3,rfl,JS _ _ _ _ h0 (by rintro b (rfl| rfl) <;>assumption),FB,MM⟩
 case round=>
  clear h0 FB MM hSm hSd
  obtain⟨k,hk,rfl,b',t0,t1,t2,t3,rfl,hG,FB,MM⟩:=hrel
  by_cases bk:k< 200
  ·have qA: (k:Int) < 200:=ae0
   have m0:wr.cell? ⟨Bm,0,none⟩=some (.slice t0.a t0.n t0.c):=by simp[World.cell?,FB]
   have m1:wr.cell? ⟨Bm,1,none⟩=some (.slice t1.a t1.n t1.c):=by simp[World.cell?,FB]
   have m2:wr.cell? ⟨Bm,2,none⟩=some (.slice t2.a t2.n t2.c):=by simp[World.cell?,FB]
   have m3:wr.cell? ⟨Bm,3,none⟩=some (.slice t3.a t3.n t3.c):=by simp[World.cell?,FB]
   have m4:wr.cell? ⟨Bd,0,none⟩=some (.int .i64 d):=by simp[World.cell?,MM]
   have c1:=h74 _ _ _ _ _ _ _ _ hG bk
   gi_wp2
   refine⟨trivial,CallsIn.mono (callsIn_wide.2 c1:CallsIn (Fr none) 0 Tryz.prog 14 _ wr _) ?_⟩
   rintro e w2 ⟨c0,a,c2,c3,c4,ok,rfl,hg,Q9⟩
   clear m0 m1 m2 m3 m4 c1
   have Am:wr.heap.size≤w2.heap.size:=hg.size
   have S4:Bm<wr.heap.size:=(af1.1 FB).1
   have S5:Bd<wr.heap.size:=(af1.1 MM).1
   have LM:w2.heap[Bm]? =some (.cells #[.slice t0.a t0.n t0.c,.slice t1.a t1.n t1.c,.slice t2.a t2.n t2.c,.slice t3.a t3.n t3.c] 30):=(hg.block _ S4 afU).trans FB
   have aaz:w2.heap[Bd]? =some (.cells #[.int .i64 d] 3):=(hg.block _ S5 afU).trans MM
   have m0:w2.cell? ⟨Bm,0,none⟩=some (.slice t0.a t0.n t0.c):=by simp[World.cell?,LM]
   have m1:w2.cell? ⟨Bm,1,none⟩=some (.slice t1.a t1.n t1.c):=by simp[World.cell?,LM]
   have m2:w2.cell? ⟨Bm,2,none⟩=some (.slice t2.a t2.n t2.c):=by simp[World.cell?,LM]
   have m3:w2.cell? ⟨Bm,3,none⟩=some (.slice t3.a t3.n t3.c):=by simp[World.cell?,LM]
   have Mz:Bm<w2.heap.size:=ae0
   have aeE:Bm≠w2.heap.size:=ae0
   have aaA:w2.heap.size≠Bm:=ae0
   unfold GV
   rcases Q9 with⟨rfl,hG1⟩ | ⟨rfl,hG1⟩
   ·   have Rf:=World.grownBy_alloc w2 (.cells #[.int .i64 c0,.int .i64 a,.int .i64 c2,.int .i64 c3,.int .i64 c4] 55) none
       have Rg: (w2.alloc (.cells #[.int .i64 c0,.int .i64 a,.int .i64 c2,.int .i64 c3,.int .i64 c4] 55)).heap.size=w2.heap.size+1:=World.size_alloc _ _
       have hBe: (w2.alloc (.cells #[.int .i64 c0,.int .i64 a,.int .i64 c2,.int .i64 c3,.int .i64 c4] 55)).heap[w2.heap.size]? =some (.cells #[.int .i64 c0,.int .i64 a,.int .i64 c2,.int .i64 c3,.int .i64 c4] 55):=World.alloc_heap_new _ _
       have hG2:=eK _ _ _ _ hG1 Rf
       have hG3:=JS _ _ (fun x=> (x=Bm∨x=Bd)∨x=w2.heap.size) _ hG2 (by rintro b (h| rfl);exact .inl h;exact .inr ⟨af6 _,ae0⟩)
       have c2':=h75 _ _ _ _ _ _ _ _ _ _ _ _ hG3
       gi_wp2
       refine⟨trivial,CallsIn.mono (callsIn_wide.2 c2':CallsIn (Fr none) 0 Tryz.prog 15 _ _ _) ?_⟩
       rintro e w4 ⟨r0,r1,r2,r3,err,rfl,hg4,aeF⟩
       clear m0 m1 m2 m3 c2' hG2 hG3 hG1 Mz aeE aaA
       have hz4:w2.heap.size+1≤w4.heap.size:=by have:=hg4.size;omega
       have Ie:w4.heap[w2.heap.size]? =some (.cells #[.int .i64 c0,.int .i64 a,.int .i64 c2,.int .i64 c3,.int .i64 c4] 55):=(hg4.block _ ae0 afU).trans hBe
       have aaB:w4.heap[Bm]? =some (.cells #[.slice t0.a t0.n t0.c,.slice t1.a t1.n t1.c,.slice t2.a t2.n t2.c,.slice t3.a t3.n t3.c] 30):=(hg4.block _ ae0 afU).trans ((Rf.block _ ae0 afU).trans LM)
       have aaC:w4.heap[Bd]? =some (.cells #[.int .i64 d] 3):=(hg4.block _ ae0 afU).trans ((Rf.block _ ae0 afU).trans aaz)
       have aaD:w2.heap.size<w4.heap.size:=ae0
       have Ul:Bm<w4.heap.size:=ae0
       have Um:Bd<w4.heap.size:=ae0
       have aeG:Bm≠w2.heap.size:=ae0
       generalize w2.heap.size=Be at*
       clear Rf Rg hBe LM aaz Am hg FB MM S4 S5 hg4
       have m0:w4.cell? ⟨Be,0,none⟩=some (.int .i64 c0):=by simp[World.cell?,Ie]
       have m1:w4.cell? ⟨Be,1,none⟩=some (.int .i64 a):=by simp[World.cell?,Ie]
       have m2:w4.cell? ⟨Be,2,none⟩=some (.int .i64 c2):=by simp[World.cell?,Ie]
       have m3:w4.cell? ⟨Be,3,none⟩=some (.int .i64 c3):=by simp[World.cell?,Ie]
       have m4:w4.cell? ⟨Be,4,none⟩=some (.int .i64 c4):=by simp[World.cell?,Ie]
       rcases aeF with⟨rfl,hG4⟩ | ⟨afL,hG4⟩
       ·have Rf:=World.grownBy_alloc w4 (.cells #[.slice r0.a r0.n r0.c,.slice r1.a r1.n r1.c,.slice r2.a r2.n r2.c,.slice r3.a r3.n r3.c] 30) none
        have Rg: (w4.alloc (.cells #[.slice r0.a r0.n r0.c,.slice r1.a r1.n r1.c,.slice r2.a r2.n r2.c,.slice r3.a r3.n r3.c] 30)).heap.size=w4.heap.size+1:=World.size_alloc _ _
        have hBn: (w4.alloc (.cells #[.slice r0.a r0.n r0.c,.slice r1.a r1.n r1.c,.slice r2.a r2.n r2.c,.slice r3.a r3.n r3.c] 30)).heap[w4.heap.size]? =some (.cells #[.slice r0.a r0.n r0.c,.slice r1.a r1.n r1.c,.slice r2.a r2.n r2.c,.slice r3.a r3.n r3.c] 30):=World.alloc_heap_new _ _
        have hG5:=eK _ _ _ _ hG4 Rf
        have hG6:=JS _ _ (fun x=> ((x=Bm∨x=Bd)∨x=Be)∨x=w4.heap.size) _ hG5 (by rintro b (h| rfl);exact .inl h;exact .inr ⟨af6 _,ae0⟩)
        obtain⟨fn,tmps,assign,body,hy,hR⟩:=hY _ _ _ _ _ _ _ _ _ _ _ _ hG6
        unfold GV at hy
        gi_wp2
        refine RoundIn.mono hR ?_
        rintro e w6 ⟨rfl,hG7,FP⟩
        clear hG5 hG6 hR hy hG4 m0 m1 m2 m3 m4
        have Ig:w6.heap[Bm]? =some (.cells #[.slice t0.a t0.n t0.c,.slice t1.a t1.n t1.c,.slice t2.a t2.n t2.c,.slice t3.a t3.n t3.c] 30):=(FP _ (.inl (.inl (.inl rfl)))).trans ((Rf.block _ Ul afU).trans aaB)
        have aaE:w6.heap[Bd]? =some (.cells #[.int .i64 d] 3):=(FP _ (.inl (.inl (.inr rfl)))).trans ((Rf.block _ Um afU).trans aaC)
        have aaF:w6.heap[Be]? =some (.cells #[.int .i64 c0,.int .i64 a,.int .i64 c2,.int .i64 c3,.int .i64 c4] 55):=(FP _ (.inl (.inr rfl))).trans ((Rf.block _ aaD afU).trans Ie)
        have PL:=(FP _ (.inr rfl)).trans hBn
        have S6:Bm≠w4.heap.size:=ae0
        generalize w4.heap.size=Bn at*
        clear Rf Rg hBn FP aaB aaC Ie aaD Ul Um hz4
        have n0:w6.cell? ⟨Bn,0,none⟩=some (.slice r0.a r0.n r0.c):=by simp[World.cell?,PL]
        have n1:w6.cell? ⟨Bn,1,none⟩=some (.slice r1.a r1.n r1.c):=by simp[World.cell?,PL]
        have n2:w6.cell? ⟨Bn,2,none⟩=some (.slice r2.a r2.n r2.c):=by simp[World.cell?,PL]
        have n3:w6.cell? ⟨Bn,3,none⟩=some (.slice r3.a r3.n r3.c):=by simp[World.cell?,PL]
        have m1:w6.cell? ⟨Be,1,none⟩=some (.int .i64 a):=by simp[World.cell?,aaF]
        have q0:w6.cell? ⟨Bm,0,none⟩=some (.slice t0.a t0.n t0.c):=by simp[World.cell?,Ig]
        have q1:w6.cell? ⟨Bm,1,none⟩=some (.slice t1.a t1.n t1.c):=by simp[World.cell?,Ig]
        have q2:w6.cell? ⟨Bm,2,none⟩=some (.slice t2.a t2.n t2.c):=by simp[World.cell?,Ig]
        have q3:w6.cell? ⟨Bm,3,none⟩=some (.slice t3.a t3.n t3.c):=by simp[World.cell?,Ig]
        have z0: ∀o p,w6.frozen? ⟨Bm,o,p⟩=false:=by intro o p;simp[World.frozen?,Ig]
        simp only[]
        gi_wp2
        refine zg (n:=0) (wpIn_region_any Fy ?_)
        obtain⟨Wd,S7⟩: ∃Wd,Wd=World.drew w6:=⟨_,rfl⟩
        have hrd: ∀x:Bool,(if x=true then fM Bm Wd r0 r1 r2 r3 else Wd).cell? ⟨Bn,0,none⟩=some (.slice r0.a r0.n r0.c)∧(if x=true then fM Bm Wd r0 r1 r2 r3 else Wd).cell? ⟨Bn,1,none⟩=some (.slice r1.a r1.n r1.c)∧(if x=true then fM Bm Wd r0 r1 r2 r3 else Wd).cell? ⟨Bn,2,none⟩=some (.slice r2.a r2.n r2.c)∧(if x=true then fM Bm Wd r0 r1 r2 r3 else Wd).cell? ⟨Bn,3,none⟩=some (.slice r3.a r3.n r3.c)∧(if x=true then fM Bm Wd r0 r1 r2 r3 else Wd).cell? ⟨Be,1,none⟩=some (.int .i64 a):=by
         have e1: ∀b,b≠Bm→ ∀o,(fM Bm Wd r0 r1 r2 r3).cell? ⟨b,o,none⟩=w6.cell? ⟨b,o,none⟩:=fun b hb o=>by
          rw[S7];simp only[fM,World.cell?];rw[Below.heap_setCell _ _ _ _ hb,Below.heap_setCell _ _ _ _ hb,Below.heap_setCell _ _ _ _ hb,Below.heap_setCell _ _ _ _ hb];rfl
         have e2: ∀a,Wd.cell? a=w6.cell? a:=fun a=>by rw[S7];rfl
         intro x
         cases x
         ·exact⟨(e2 _).trans n0,(e2 _).trans n1,(e2 _).trans n2,(e2 _).trans n3,(e2 _).trans m1⟩
         ·exact⟨(e1 _ S6.symm _).trans n0,(e1 _ S6.symm _).trans n1,(e1 _ S6.symm _).trans n2,(e1 _ S6.symm _).trans n3,(e1 _ aeG.symm _).trans m1⟩
        have z0': ∀o p,Wd.frozen? ⟨Bm,o,p⟩=false:=by rw[S7];exact z0
        have qd0:Wd.cell? ⟨Bm,0,none⟩=some (.slice t0.a t0.n t0.c):=by rw[S7];exact q0
        have qd1:Wd.cell? ⟨Bm,1,none⟩=some (.slice t1.a t1.n t1.c):=by rw[S7];exact q1
        have qd2:Wd.cell? ⟨Bm,2,none⟩=some (.slice t2.a t2.n t2.c):=by rw[S7];exact q2
        have qd3:Wd.cell? ⟨Bm,3,none⟩=some (.slice t3.a t3.n t3.c):=by rw[S7];exact q3
        have Ih:Hid (Wd=World.drew w6):=S7
        clear S7
        refine BS (StI (fun x4 XC XD XE=> {tmps:= #[.func (.yield l) #[] #[],.pointer (some ⟨Bm,0,none⟩),.pointer (some ⟨Bd,0,none⟩),undef,x4,.pointer (some ⟨Be,0,none⟩),.bool true,.pointer (some ⟨Bn,0,none⟩),.int .i64 0,.int .i64 k,.bool true,
          .tuple #[GV c0 a c2 c3 c4,.bool true],.agg #[.slice t0.a t0.n t0.c,.slice t1.a t1.n t1.c,.slice t2.a t2.n t2.c,.slice t3.a t3.n t3.c],.int .i64 d,.int .i64 b',.tuple #[GV c0 a c2 c3 c4,.bool true],GV c0 a c2 c3 c4,.bool true,.bool true,.bool false,.tuple #[.agg #[.slice r0.a r0.n r0.c,.slice r1.a r1.n r1.c,.slice r2.a r2.n r2.c,.slice r3.a r3.n r3.c],.int .i64 0],.agg #[.slice t0.a t0.n t0.c,.slice t1.a t1.n t1.c,.slice t2.a t2.n t2.c,.slice t3.a t3.n t3.c],GV c0 a c2 c3 c4,.tuple #[.agg #[.slice r0.a r0.n r0.c,.slice r1.a r1.n r1.c,.slice r2.a r2.n r2.c,.slice r3.a r3.n r3.c],.int .i64 0],.agg #[.slice r0.a r0.n r0.c,.slice r1.a r1.n r1.c,.slice r2.a r2.n r2.c,.slice r3.a r3.n r3.c],
          .int .i64 0,.int .i64 0,.bool false,.bool false,.func (.yield l) #[] #[],GV c0 a c2 c3 c4,.agg #[.slice r0.a r0.n r0.c,.slice r1.a r1.n r1.c,.slice r2.a r2.n r2.c,.slice r3.a r3.n r3.c],.bool true,.bool false,.bool false,XC,XD,XE,u38],defers:=[]}) Wd (fM Bm Wd r0 r1 r2 r3) (.agg #[.slice r0.a r0.n r0.c,.slice r1.a r1.n r1.c,.slice r2.a r2.n r2.c,.slice r3.a r3.n r3.c]) (.pointer (some ⟨Be,1,none⟩)) (.int .i64 a)) (fun an act w h=>h.1.trans rfl) ?_ ?_ _ _ _ _ ?_ afV
        ·rintro an act w i ⟨bF,hw,x4,XC,XD,XE,rfl,k0,k1,k2,k4⟩ hi
         dsimp only
         obtain⟨V8,o,ho,FO⟩:=mem_ready.1 hi
         have afM:i< 5:=by
          rcases ahd i 5 with h| h
          ·exact h
          ·rw[agX (by simpa using h)] at ho;cases ho
         rcases(by omega:i=0∨i=1∨i=2∨i=3∨i=4) with rfl| rfl| rfl| rfl| rfl
         ·have up: ∀j,j≠0→(an.setIfInBounds 0 true).getD j false=an.getD j false:=fun j h=>getD_set_ne _ (ag8 h)
          have se: (an.setIfInBounds 0 true).getD 0 false=true:=by simp[Array.getD,bF]
          have rd:w.cell? ⟨Bn,0,none⟩=some (.slice r0.a r0.n r0.c)∧w.cell? ⟨Bn,1,none⟩=some (.slice r1.a r1.n r1.c)∧w.cell? ⟨Bn,2,none⟩=some (.slice r2.a r2.n r2.c)∧w.cell? ⟨Bn,3,none⟩=some (.slice r3.a r3.n r3.c)∧w.cell? ⟨Be,1,none⟩=some (.int .i64 a):=by rw[show w=_ from hw];exact hrd _
          obtain⟨rd0,rd1,rd2,rd3,rd4⟩:=rd
          refine nA rfl rfl afU ?_
          go_simp
          exact⟨by simpa using bF,by rw[up 3 afV];exact hw,_,_,_,_,rfl,fun _=>rfl,fun h=>k1 (by rwa [up 1 afV] at h),fun h=>k2 (by rwa [up 2 afV] at h),fun h=>k4 (by rwa [up 4 afV] at h)⟩
         ·have up: ∀j,j≠1→(an.setIfInBounds 1 true).getD j false=an.getD j false:=fun j h=>getD_set_ne _ (ag8 h)
          have se: (an.setIfInBounds 1 true).getD 1 false=true:=by simp[Array.getD,bF]
          refine nA rfl rfl afU ?_
          go_simp
          exact⟨by simpa using bF,by rw[up 3 afV];exact hw,_,_,_,_,rfl,fun h=>k0 (by rwa [up 0 afV] at h),fun _=>rfl,fun h=>k2 (by rwa [up 2 afV] at h),fun h=>k4 (by rwa [up 4 afV] at h)⟩
         ·have up: ∀j,j≠2→(an.setIfInBounds 2 true).getD j false=an.getD j false:=fun j h=>getD_set_ne _ (ag8 h)
          have se: (an.setIfInBounds 2 true).getD 2 false=true:=by simp[Array.getD,bF]
          have q1':an.getD 1 false=true:=(by simp at ho;subst ho;exact FO ⟨1,.data⟩ afU rfl)
          obtain rfl:=k1 q1'
          have rd:w.cell? ⟨Bn,0,none⟩=some (.slice r0.a r0.n r0.c)∧w.cell? ⟨Bn,1,none⟩=some (.slice r1.a r1.n r1.c)∧w.cell? ⟨Bn,2,none⟩=some (.slice r2.a r2.n r2.c)∧w.cell? ⟨Bn,3,none⟩=some (.slice r3.a r3.n r3.c)∧w.cell? ⟨Be,1,none⟩=some (.int .i64 a):=by rw[show w=_ from hw];exact hrd _
          obtain⟨rd0,rd1,rd2,rd3,rd4⟩:=rd
          refine nA rfl rfl afU ?_
          go_simp
          exact⟨by simpa using bF,by rw[up 3 afV];exact hw,_,_,_,_,rfl,fun h=>k0 (by rwa [up 0 afV] at h),fun _=>rfl,fun _=>rfl,fun h=>k4 (by rwa [up 4 afV] at h)⟩
         ·have up: ∀j,j≠3→(an.setIfInBounds 3 true).getD j false=an.getD j false:=fun j h=>getD_set_ne _ (ag8 h)
          have se: (an.setIfInBounds 3 true).getD 3 false=true:=by simp[Array.getD,bF]
          have q0':an.getD 0 false=true:=(by simp at ho;subst ho;exact FO ⟨0,.data⟩ afU rfl)
          obtain rfl:=k0 q0'
          have n3':an.getD 3 false=false:=by have h1:an.getD 3 true=false:=V8;simp only[Array.getD,bF] at h1 ⊢;simpa using h1
          unfold Hid at hw
          rw[n3'] at hw
          obtain rfl:w=Wd:=hw
          refine nA rfl rfl afU ?_
          go_simp
          exact⟨by simpa using bF,by rw[se];rfl,_,_,_,_,rfl,fun _=>rfl,fun h=>k1 (by rwa [up 1 afV] at h),fun h=>k2 (by rwa [up 2 afV] at h),fun h=>k4 (by rwa [up 4 afV] at h)⟩
         ·have up: ∀j,j≠4→(an.setIfInBounds 4 true).getD j false=an.getD j false:=fun j h=>getD_set_ne _ (ag8 h)
          have se: (an.setIfInBounds 4 true).getD 4 false=true:=by simp[Array.getD,bF]
          have q2':an.getD 2 false=true:=(by simp at ho;subst ho;exact FO ⟨2,.data⟩ afU rfl)
          obtain rfl:=k2 q2'
          refine nA rfl rfl afU ?_
          go_simp
          exact⟨by simpa using bF,by rw[up 3 afV];exact hw,_,_,_,_,rfl,fun h=>k0 (by rwa [up 0 afV] at h),fun h=>k1 (by rwa [up 1 afV] at h),fun _=>rfl,fun _=>rfl⟩
        ·rintro an act w ⟨bF,hw,x4,XC,XD,XE,rfl,k0,k1,k2,k4⟩ hr
         unfold Hid at hw
         have l0:an.getD 0 false=true:=fG bF hr rfl afU
         have l1:an.getD 1 false=true:=ov bF hr rfl (fun e he hb=>by(have kE:e=⟨3,.gcOnly .lateStores⟩:=by simpa using he);subst kE;exact absurd hb afV)
         have l2:an.getD 2 false=true:=ov bF hr rfl (fun e he hb=>by(have kE:e=⟨1,.data⟩∨e=⟨3,.gcOnly .lateStores⟩:=by simpa using he);rcases kE with rfl| rfl;exact l1;exact absurd hb afV)
         have l3:an.getD 3 false=true:=ov bF hr rfl (fun e he hb=>by(have kE:e=⟨0,.data⟩∨e=⟨0,.phase⟩∨e=⟨1,.textOnly .lateStores⟩∨e=⟨2,.textOnly .lateStores⟩:=by simpa using he);rcases kE with rfl| rfl| rfl| rfl;exact l0;exact l0;exact l1;exact l2)
         have l4:an.getD 4 false=true:=ov bF hr rfl (fun e he hb=>by(have kE:e=⟨2,.data⟩∨e=⟨3,.chain⟩∨e=⟨0,.phase⟩∨e=⟨1,.phase⟩∨e=⟨2,.phase⟩∨e=⟨3,.phase⟩:=by simpa using he);rcases kE with rfl| rfl| rfl| rfl| rfl| rfl;exact l2;exact l3;exact l0;exact l1;exact l2;exact l3)
         obtain rfl:=k0 l0
         obtain rfl:=k1 l1
         obtain rfl:=k2 l2
         obtain rfl:=k4 l4
         rw[l3] at hw
         obtain rfl:w=fM Bm Wd r0 r1 r2 r3:=hw
         have hT:zj Bm Wd (fM Bm Wd r0 r1 r2 r3):=AH Bm Wd r0 r1 r2 r3
         unfold Hid at Ih
         have hG8:G (.head (k+1) a r0 r1 r2 r3) (fun x=>x=Bm∨x=Bd) Wd:=JS _ _ _ _ (eK _ _ _ _ hG7 (show w6.grownBy Wd none by rw[Ih];exact⟨rfl,rfl,rfl,af6 _,fun _ _ _=>rfl⟩)) (fun b hb=> .inl (.inl (.inl hb)))
         have hG9:=fj _ _ _ _ hG8 hT
         have aeH: (fM Bm Wd r0 r1 r2 r3).heap[Bm]? =some (.cells #[.slice r0.a r0.n r0.c,.slice r1.a r1.n r1.c,.slice r2.a r2.n r2.c,.slice r3.a r3.n r3.c] 30):=LK (by rw[Ih];exact Ig)
         have aeI: (fM Bm Wd r0 r1 r2 r3).heap[Bd]? =some (.cells #[.int .i64 d] 3):=(hT.other _ cF).trans (by rw[Ih];exact aaE)
         generalize fM Bm Wd r0 r1 r2 r3=Ws at*
         clear k0 k1 k2 k4 hr bF l0 l1 l2 l3 l4 hT hrd z0' qd0 qd1 qd2 qd3
         have RP:IntKind.i64.wrap ((k:Int)+1)=(k:Int)+1:=wrap64 ae0 ae0
         rename_i MK
         clear Ig aaE aaF PL n0 n1 n2 n3 m1 q0 q1 q2 q3 z0 hG7 hG8 Ih
         refine MK _ _ ?_
         unfold GV
         dsimp only
         gi_wp2
         exact⟨⟨k+1,ae0,rfl,a,r0,r1,r2,r3,rfl,hG9,aeH,aeI⟩,by simp only[intOf];omega⟩
        ·refine⟨afU,?_,_,_,_,_,rfl,?_,?_,?_,?_⟩
         ·unfold Hid at Ih ⊢;rw[Ih];simp[Array.getD]
         all_goals (intro h;simp[Array.getD] at h)
       ·gi_wp2
        refine⟨fun _ h=> (by cases h),?_⟩
        gi_wp2
        exact⟨rfl,_,results_none (fn:=Tryz.f101) rfl _ _ _,⟨_,rfl⟩,_,eK _ _ _ _ hG4 (World.grownBy_alloc _ _ none)⟩
   ·   gi_wp2
       exact⟨rfl,_,results_none (fn:=Tryz.f101) rfl _ _ _,⟨_,rfl⟩,_,eK _ _ _ _ hG1 (World.grownBy_alloc _ _ none)⟩
  ·have qA: ¬ (k:Int) < 200:=ae0
   obtain rfl:k=200:=ae0
   gi_wp2
   exact⟨rfl,_,results_none (fn:=Tryz.f101) rfl _ _ _,⟨_,rfl⟩,_,sm _ _ _ _ _ _ _ hG⟩
end Go.Proofs
namespace Go.AM
open Go Go.RowKit Go.Proofs Go.Proofs.YtdifmldbllaeiaaGreat
def FQ (c0 a c2 c3 c4:Int):V:= .agg [.int .i64 c0,.int .i64 a,.int .i64 c2,.int .i64 c3,.int .i64 c4]
theorem BT {e:V} {x:Int} (h:Kq e=some x): ∃c0 c2 c3 c4,e=FQ c0 x c2 c3 c4:=by
 unfold Kq at h
 split at h
 ·injection h with h;subst h;exact⟨_,_,_,_,rfl⟩
 ·simp at h
theorem ui {C:Nat→List V→Option eL} {d:Int}: ∀ {n:Nat} {m:V} {b:Int} {evs r:List V},gN C d n m b evs=some r→ ∃rest,r=evs++rest
 | 0,_,_,evs,r,h=>by
   simp only[gN,afY] at h
   exact⟨[],by rw[h,agJ]⟩
 | n+1,m,b,evs,r,h=>by
   unfold gN at h
   split at h
   ·split at h
    ·split at h
     ·split at h
      ·obtain⟨rest,rfl⟩:=ui h
       exact⟨_,ag4 ..⟩
      ·injection h with h;exact⟨[],by rw[h,agJ]⟩
     ·simp at h
    ·simp at h
   ·split at h
    ·injection h with h;exact⟨[],by rw[h,agJ]⟩
    ·simp at h
   ·simp at h
theorem zo {C:Nat→List V→Option eL} {d:Int} {n:Nat} {m:V} {b:Int} {evs r:List V} (h:gN C d (n+1) m b evs=some r):
  ∃c0 a c2 c3 c4 ok,C 644 [m,.int .i64 d,.int .i64 b]=some ⟨.tuple [FQ c0 a c2 c3 c4,.bool ok],[]⟩∧(ok=false∧r=evs∨ok=true∧ ∃m' err,C 645 [m,FQ c0 a c2 c3 c4]=some ⟨.tuple [m',.int .i64 err],[]⟩∧kj m'=true∧
   (err=0∧gN C d n m' a (evs++[FQ c0 a c2 c3 c4])=some r∨err≠0∧r=evs)):=by
 unfold gN at h
 split at h
 ·rename_i e h1
  split at h
  ·rename_i x m' err h2 h3
   obtain⟨c0,c2,c3,c4,rfl⟩:=BT h2
   split at h
   ·rename_i hm
    refine⟨c0,x,c2,c3,c4,true,h1,.inr ⟨rfl,m',err,h3,hm,?_⟩⟩
    split at h
    ·rename_i he;exact .inl ⟨he,h⟩
    ·rename_i he;injection h with h;exact .inr ⟨he,h.symm⟩
   ·simp at h
  ·simp at h
 ·rename_i e h1
  split at h
  ·rename_i x h2
   obtain⟨c0,c2,c3,c4,rfl⟩:=BT h2
   injection h with h
   exact⟨c0,x,c2,c3,c4,false,h1,.inl ⟨rfl,h.symm⟩⟩
  ·simp at h
 ·simp at h
theorem sA {m:V} (h:kj m=true): ∃z0 l0 z1 l1 z2 l2 z3 l3,m= .agg [.lit z0 l0,.lit z1 l1,.lit z2 l2,.lit z3 l3]:=by
 unfold kj at h
 split at h
 ·rename_i e f w p
  simp only[af2] at h
  obtain⟨h0,h1,h2,h3⟩:=h
  cases e<;>simp[o7] at h0
  cases f<;>simp[o7] at h1
  cases w<;>simp[o7] at h2
  cases p<;>simp[o7] at h3
  exact⟨_,_,_,_,_,_,_,_,rfl⟩
 ·simp at h
theorem iB {m:V} (h:kj m=true):m.au=true:=by
 obtain⟨_,_,_,_,_,_,_,_,rfl⟩:=sA h
 rfl
def mapVal (s0 s1 s2 s3:Sl):Value:= .agg #[.slice s0.a s0.n s0.c,.slice s1.a s1.n s1.c,.slice s2.a s2.n s2.c,.slice s3.a s3.n s3.c]
theorem BU {X:Ctx} {μ:Mu} {m:V} (h:kj m=true) {v:Value} (hv:aj X μ m v): ∃s0 s1 s2 s3,v=mapVal s0 s1 s2 s3:=by
 obtain⟨_,_,_,_,_,_,_,_,rfl⟩:=sA h
 simp only[aj] at hv
 obtain⟨_,vs,rfl,hv⟩:=hv
 rcases vs with⟨vs⟩
 rcases vs with _| ⟨v0,_| ⟨v1,_| ⟨v2,_| ⟨v3,_| ⟨v4,vs⟩⟩⟩⟩⟩ <;>simp only[ag,aj,and_true,and_false] at hv
 obtain⟨⟨_,_,a0,k0,_,rfl,_⟩,⟨_,_,a1,k1,_,rfl,_⟩,⟨_,_,a2,k2,_,rfl,_⟩,⟨_,_,a3,k3,_,rfl,_⟩⟩:=hv
 exact⟨⟨a0,_,k0⟩,⟨a1,_,k1⟩,⟨a2,_,k2⟩,⟨a3,_,k3⟩,rfl⟩
def Ban (U:Nat→Prop) (z Bm:Nat) (F:Nat→Prop) (W:World):Nat→Prop:=fun b=>b<W.heap.size∧(b=Bm∨U b∨(z≤b∧ ¬F b))
theorem JT {U:Nat→Prop} {z Bm:Nat} {F:Nat→Prop} {W:World} {b:Nat} (hb:b<W.heap.size) (h: ¬Ban U z Bm F W b):b≠Bm∧ ¬U b∧(b<z∨F b):=by
 refine⟨fun e=>h ⟨hb,.inl e⟩,fun e=>h ⟨hb,.inr (.inl e)⟩,?_⟩
 rcases ahd b z with h1| h1
 ·exact .inl h1
 ·refine .inr (ahQ fun h2=>h ⟨hb,.inr (.inr ⟨h1,h2⟩)⟩)
theorem Di {U:Nat→Prop} {z Bm:Nat} {F:Nat→Prop} {W:World} {b:Nat} (h1:b≠Bm) (h0: ¬U b) (h2:b<z∨F b): ¬Ban U z Bm F W b:=by
 rintro⟨_,h| h| ⟨h3,h4⟩⟩
 ·exact h1 h
 ·exact h0 h
 ·rcases h2 with h| h
  ·omega
  ·exact h4 h
def FR (X:TrEnv) (K:Nat×Nat) (U:Nat→Prop) (z Bm:Nat) (F:Nat→Prop) (W:World) (m:V) (s0 s1 s2 s3:Sl):Prop:=aj ⟨X,Ban U z Bm F W,K⟩ ⟨W,zm,jk⟩ m (mapVal s0 s1 s2 s3)
theorem FT {X:TrEnv} {B:Nat→Prop} {K:Nat×Nat} {W:World} {b:Nat}:Own ⟨X,B,K⟩ ⟨W,zm,jk⟩ b↔B b:=⟨fun h=>h.elim (fun h=> (zn h).elim) id,.inr⟩
theorem BV {X:TrEnv} {B B':Nat→Prop} {K:Nat×Nat} {W W':World} {m:V} {v:Value} (hp:m.au=true) (h:aj ⟨X,B,K⟩ ⟨W,zm,jk⟩ m v) (hk: ∀b,b<W.heap.size→ ¬B b→W'.heap[b]? =W.heap[b]? ∧ ¬B' b):aj ⟨X,B',K⟩ ⟨W',zm,jk⟩ m v:=
 aj.move (μ:=⟨W,zm,jk⟩) (μ':=⟨W',zm,jk⟩) (fun b hb hn=>by
  obtain⟨h1,h2⟩:=hk b hb (fun h=>hn (.inr h))
  exact⟨h1,fun h=>h2 (FT.1 h)⟩) hp h
end Go.AM
namespace Go.AM
open Go Go.RowKit Go.Proofs Go.Proofs.YtdifmldbllaeiaaGreat
theorem FU {F:Fence} {n:Nat} {P:Program} {l:Nat} {v:Array Value} {W:World} {R R':Ending→World→Prop} (h:YieldAt F n P l v W R) (hm: ∀e W',R e W'→R' e W'):YieldAt F n P l v W R':=by
 obtain⟨fn,tmps,assign,body,hy,hR⟩:=h
 exact⟨fn,tmps,assign,body,hy,hR.mono hm⟩
section
variable (X:TrEnv) (K:Nat×Nat) (U:Nat→Prop) (z Bm:Nat) (C:Nat→List V→Option eL) (d:Int) (r:List V) (J:Nat→(Nat→Prop)→World→Prop)
def XF:Phase→(Nat→Prop)→World→Prop
 | .head k b s0 s1 s2 s3,F,W=> ∃m evs,kj m=true∧evs.length=k∧k≤200∧gN C d (200 - k) m b evs=some r∧FR X K U z Bm F W m s0 s1 s2 s3
 | .XB k s0 s1 s2 s3 c0 a c2 c3 c4,F,W=> ∃m evs m' err,kj m=true∧evs.length=k∧k< 200∧C 645 [m,FQ c0 a c2 c3 c4]=some ⟨.tuple [m',.int .i64 err],[]⟩∧kj m'=true∧
    (err=0∧gN C d (200 - (k+1)) m' a (evs++[FQ c0 a c2 c3 c4])=some r∨err≠0∧r=evs)∧FR X K U z Bm F W m s0 s1 s2 s3
 | .app k c0 a c2 c3 c4 s0 s1 s2 s3,F,W=> ∃m evs,kj m=true∧evs.length=k∧k< 200∧gN C d (200 - (k+1)) m a (evs++[FQ c0 a c2 c3 c4])=some r∧FR X K U z Bm F W m s0 s1 s2 s3
 | .done,_,_=>True
def BW:Phase→Nat
 | .head k .. | .XB k .. | .app k .. =>k
 | .done=>r.length
def GPh (ph:Phase) (S:Nat→Prop) (W:World):Prop:= ∃F,J (BW r ph) F W∧(∀x,S x→F x)∧F Bm∧Bm<W.heap.size∧XF X K U z Bm C d r ph F W
end
theorem XF.move {X:TrEnv} {K:Nat×Nat} {U:Nat→Prop} {z Bm:Nat} {C:Nat→List V→Option eL} {d:Int} {r:List V} {ph:Phase} {F F':Nat→Prop} {W W':World} (h:XF X K U z Bm C d r ph F W) (hk: ∀b,b<W.heap.size→b≠Bm→ ¬U b→b<z∨F b→W'.heap[b]? =W.heap[b]? ∧(b<z∨F' b)):XF X K U z Bm C d r ph F' W':=by
 have mv: ∀ {m s0 s1 s2 s3},kj m=true→FR X K U z Bm F W m s0 s1 s2 s3→FR X K U z Bm F' W' m s0 s1 s2 s3:=fun hm h=>BV (iB hm) h fun b hb hn=>by
   obtain⟨h1,h0,h2⟩:=JT hb hn
   obtain⟨h3,h4⟩:=hk b hb h1 h0 h2
   exact⟨h3,Di h1 h0 h4⟩
 cases ph with
 | head k b s0 s1 s2 s3=>
   obtain⟨m,evs,h1,h2,h3,h4,h5⟩:=h
   exact⟨m,evs,h1,h2,h3,h4,mv h1 h5⟩
 | XB k s0 s1 s2 s3 c0 a c2 c3 c4=>
   obtain⟨m,evs,m',err,h1,h2,h3,h4,h5,h6,h7⟩:=h
   exact⟨m,evs,m',err,h1,h2,h3,h4,h5,h6,mv h1 h7⟩
 | app k c0 a c2 c3 c4 s0 s1 s2 s3=>
   obtain⟨m,evs,h1,h2,h3,h4,h5⟩:=h
   exact⟨m,evs,h1,h2,h3,h4,mv h1 h5⟩
 | done=>trivial
theorem PM {X:Ctx} {μ:Mu} {c0 a c2 c3 c4:Int}:aj X μ (FQ c0 a c2 c3 c4) (GV c0 a c2 c3 c4):=by
 unfold FQ GV
 simp[aj,ag,V.aR]
theorem S8 {X:Ctx} {μ:Mu} {x:V} {err:Int} {vs:Array Value} (h:ag X μ [x,.int .i64 err] vs.toList): ∃v,aj X μ x v∧vs= #[v,.int .i64 err]:=by
 rcases vs with⟨vs⟩
 rcases vs with _| ⟨v0,_| ⟨v1,_| ⟨v2,vs⟩⟩⟩ <;>simp only[ag,aj,and_true,and_false] at h
 obtain⟨h0,rfl⟩:=h
 exact⟨v0,h0,rfl⟩
theorem V9 {X:Ctx} {μ:Mu} {c0 a c2 c3 c4:Int} {ok:Bool} {v:Value} (h:aj X μ (.tuple [FQ c0 a c2 c3 c4,.bool ok]) v):v= .tuple #[GV c0 a c2 c3 c4,.bool ok]:=by
 simp only[aj] at h
 obtain⟨vs,rfl,h⟩:=h
 rcases vs with⟨vs⟩
 rcases vs with _| ⟨v0,_| ⟨v1,_| ⟨v2,vs⟩⟩⟩ <;>simp only[ag,aj,and_true,and_false] at h
 obtain⟨h0,rfl⟩:=h
 unfold FQ at h0
 simp only[aj] at h0
 obtain⟨_,ws,rfl,h0⟩:=h0
 rcases ws with⟨ws⟩
 rcases ws with _| ⟨x0,_| ⟨x1,_| ⟨x2,_| ⟨x3,_| ⟨x4,_| ⟨x5,ws⟩⟩⟩⟩⟩⟩ <;>simp only[ag,aj,and_true,and_false] at h0
 obtain⟨rfl,rfl,rfl,rfl,rfl⟩:=h0
 rfl
theorem FV {X:TrEnv} (hP:X.P=Tryz.prog) {C:bn} (hC: ∀f F vs res,X.fo F=some f→C f vs=some res→bG X F vs res) (h74:X.fo 14=some 644) (h75:X.fo 15=some 645) {B:Nat→Prop} {K:Nat×Nat}
  {w0:World} {d:Int} {m:V} {s0 s1 s2 s3:Sl} {r:List V} (hm:kj m=true) (ah:gN C d 200 m 0 []=some r) {φ:Nat→Row} {O0:Nat→Obj} (hv:aj ⟨X,B,K⟩ ⟨w0,φ,O0⟩ m (mapVal s0 s1 s2 s3)) (hU: ∀b,Mu.own ⟨w0,φ,O0⟩ b→b<w0.heap.size) {w:World} {Bm Bd:Nat} (afN:w0.heap.size≤Bm) (cF:Bd≠Bm)
  (FB:w.heap[Bm]? =some (.cells #[.slice s0.a s0.n s0.c,.slice s1.a s1.n s1.c,.slice s2.a s2.n s2.c,.slice s3.a s3.n s3.c] 30)) (MM:w.heap[Bd]? =some (.cells #[.int .i64 d] 3)) (hold: ∀b,b<w0.heap.size→w.heap[b]? =w0.heap[b]?):
  PH ⟨X,B,K⟩ ⟨w0,φ,O0⟩ 101 #[.pointer (some ⟨Bm,0,none⟩),.pointer (some ⟨Bd,0,none⟩)] (r.map fun e=> [e,.any]) (fun b=>b=Bm∨b=Bd) w:=by
 intro l J W0 hg hJ Wb h0
 have S4:Bm<w.heap.size:=(af1.1 FB).1
 have S5:Bd<w.heap.size:=(af1.1 MM).1
 have afO:=hg.size
 rw[List.length_map]
 have key:=LL l Bm Bd d (GPh X K (Mu.own ⟨w0,φ,O0⟩) w0.heap.size Bm C d r J) ?grow ?less ?put ?c74 ?c75 ?yield ?fin W0 s0 s1 s2 s3 (fun b=>b=Bm∨b=Bd) (.inl rfl) (.inr rfl) cF ((hg.block _ S4 afU).trans FB) ((hg.block _ S5 afU).trans MM) ?start
 case grow=>
  rintro ph S A B ⟨F,h1,h2,h3,h4,h5⟩ hg
  refine⟨_,hJ.grow _ _ _ _ h1 hg,fun x hx=>hx.imp (h2 x) id,.inl h3,af9 h4 hg.size,h5.move fun b hb Dj hu pF=> ⟨hg.block b hb afU,pF.imp id .inl⟩⟩
 case less=>
  rintro ph S S' A ⟨F,h1,h2,h3,h4,h5⟩ hS
  exact⟨F,h1,fun x hx=>h2 x (hS x hx),h3,h4,h5⟩
 case put=>
  rintro ph S A A' ⟨F,h1,h2,h3,h4,h5⟩ ht
  exact⟨F,hJ.put _ _ _ _ _ h1 h3 ht,h2,h3,by rw[ht.size];exact h4,h5.move fun b hb Dj hu pF=> ⟨ht.other b Dj,pF⟩⟩
 case c74=>
  rintro k b t0 t1 t2 t3 S W ⟨F,h1,h2,h3,h4,m,evs,hm,hk,JL,hG,hM⟩ bk
  rw[show 200 - k=(200 - (k+1))+1 by omega] at hG
  obtain⟨c0,a,c2,c3,c4,ok,hc,Q9⟩:=zo hG
  have hs:=hC 644 14 _ _ h74 hc
  have pM:=bG.aV (X:=X) (fn:=Tryz.f14) (by rw[hP];exact Tryz.func14) afW rfl hs (by simp[V.ak,V.au,iB hm]) rfl (B:=Ban (Mu.own ⟨w0,φ,O0⟩) w0.heap.size Bm F W) (K:=K) (w:=W) (fun b hb=>hb.1) (vals:=[mapVal t0 t1 t2 t3,.int .i64 d,.int .i64 b]) (by simp only[ag,aj];exact⟨hM,trivial,trivial,trivial⟩)
  rw[hP] at pM
  refine Calls.mono pM ?_
  rintro e W' ⟨val,rfl,wJ,zp⟩
  obtain rfl:=V9 zp
  refine⟨c0,a,c2,c3,c4,ok,rfl,wJ,?_⟩
  have mv:=fun {ph:Phase} (h5:XF X K (Mu.own ⟨w0,φ,O0⟩) w0.heap.size Bm C d r ph F W)=>h5.move (F':=fun b=>F b∨(W.heap.size≤b∧b<W'.heap.size)) (W':=W') fun b hb Dj hu pF=> ⟨wJ.block b hb afU,pF.imp id .inl⟩
  rcases Q9 with⟨rfl,rfl⟩ | ⟨rfl,m',err,q1,q2,q3⟩
  ·exact .inr ⟨rfl,_,hJ.grow _ _ _ _ (show J (BW r .done) F W by rw[show BW r .done=k from hk];exact h1) wJ,fun x hx=> .inl (h2 x hx),.inl h3,af9 h4 wJ.size,trivial⟩
  ·exact .inl ⟨rfl,_,hJ.grow _ _ _ _ h1 wJ,fun x hx=> .inl (h2 x hx),.inl h3,af9 h4 wJ.size,mv (ph:= .XB k t0 t1 t2 t3 c0 a c2 c3 c4) ⟨m,evs,m',err,hm,hk,bk,q1,q2,q3,hM⟩⟩
 case c75=>
  rintro k t0 t1 t2 t3 c0 a c2 c3 c4 S W ⟨F,h1,h2,h3,h4,m,evs,m',err,hm,hk,bk,hc,D3,hor,hM⟩
  have hs:=hC 645 15 _ _ h75 hc
  have pM:=bG.aV (X:=X) (fn:=Tryz.f15) (by rw[hP];exact Tryz.func15) afW rfl hs (by simp[V.ak,V.au,iB hm,FQ]) (by simp[V.ak,V.au,iB D3]) (B:=Ban (Mu.own ⟨w0,φ,O0⟩) w0.heap.size Bm F W) (K:=K) (w:=W) (fun b hb=>hb.1) (vals:=[mapVal t0 t1 t2 t3,GV c0 a c2 c3 c4]) (by simp only[ag];exact⟨hM,PM,trivial⟩)
  rw[hP] at pM
  refine Calls.mono pM ?_
  rintro e W' ⟨val,rfl,wJ,zp⟩
  simp only[aj] at zp
  obtain⟨vs,rfl,lE⟩:=zp
  obtain⟨v1,XG,rfl⟩:=S8 lE
  obtain⟨u0,u1,u2,u3,rfl⟩:=BU D3 XG
  refine⟨u0,u1,u2,u3,err,rfl,wJ,?_⟩
  rcases hor with⟨rfl,hG⟩ | ⟨he,rfl⟩
  ·refine .inl ⟨rfl,_,hJ.grow _ _ _ _ h1 wJ,fun x hx=> .inl (h2 x hx),.inl h3,af9 h4 wJ.size,m',evs,D3,hk,bk,hG,?_⟩
   refine BV (iB D3) XG fun b hb hn=> ⟨rfl,?_⟩
   by_cases hbW:b<W.heap.size
   ·   obtain⟨k1,k0,k2⟩:=JT hbW hn
       exact Di k1 k0 (k2.imp id .inl)
   ·exact Di ae0 (fun h=>by have:=hU b h;omega) (.inr (.inr ⟨ae0,hb⟩))
  ·exact .inr ⟨he,_,hJ.grow _ _ _ _ (show J (BW r .done) F W by rw[show BW r .done=k from hk];exact h1) wJ,fun x hx=> .inl (h2 x hx),.inl h3,af9 h4 wJ.size,trivial⟩
 case yield=>
  rintro k c0 a c2 c3 c4 t0 t1 t2 t3 S W ⟨F,h1,h2,h3,h4,m,evs,hm,hk,bk,hG,hM⟩
  obtain⟨rest,hr⟩:=ui hG
  have hx: (r.map fun e=> [e,V.any])[k]? =some [FQ c0 a c2 c3 c4,.any]:=by
   rw[hr,←hk];simp
  have hy:=Wb k F W #[GV c0 a c2 c3 c4,mapVal t0 t1 t2 t3] _ hx (fun μ=>by simp only[ag];exact⟨PM,by simp[aj],trivial⟩) h1
  rw[show (⟨X,B,K⟩:Ctx).P=Tryz.prog from hP] at hy
  refine FU hy ?_
  rintro e W' ⟨rfl,q1,q2,q3⟩
  refine⟨rfl,⟨F,q1,h2,h3,?_,?_⟩,fun b hb=>q3 b (h2 b hb)⟩
  ·have:=q3 Bm h3
   rw[agl h4] at this
   exact(af1.1 this).1
  ·have h5:XF X K (Mu.own ⟨w0,φ,O0⟩) w0.heap.size Bm C d r (.head (k+1) a t0 t1 t2 t3) F W:=⟨m,evs++[FQ c0 a c2 c3 c4],hm,by simp[hk],ae0,hG,hM⟩
   exact h5.move fun b hb Dj hu pF=> ⟨pF.elim (fun h=>q2 b h hu) (q3 b),pF⟩
 case fin=>
  rintro b t0 t1 t2 t3 S W ⟨F,h1,h2,h3,h4,m,evs,hm,hk,JL,hG,hM⟩
  have:evs=r:=by simpa [gN] using hG
  subst this
  exact⟨F,by show J _ F W;rw[show BW evs .done=200 from hk];exact h1,h2,h3,h4,trivial⟩
 case start=>
  refine⟨_,h0,fun x hx=>hx,.inl rfl,ae0,m,[],hm,rfl,ae0,ah,?_⟩
  refine aj.move (μ:=⟨w0,φ,O0⟩) (μ':=⟨W0,zm,jk⟩) (fun b hb hn=> ⟨(hg.block b (by have:=(af1.1 FB).1;have:b<w0.heap.size:=hb;omega) afU).trans (hold b hb),fun h=> ?_⟩) (iB hm) hv
  have kI:b<w0.heap.size:=hb
  exact Di ae0 (fun h=>hn (.inl h)) (.inl kI) (FT.1 h)
 rw[show (⟨X,B,K⟩:Ctx).P=Tryz.prog from hP]
 refine CallsIn.mono (callsIn_wide.2 (callsIn_wide.1 key):CallsIn (Fr none) 0 Tryz.prog 101 _ W0 _) ?_
 rintro e W' ⟨hv,S,F,hJ9,_⟩
 exact⟨hv,F,hJ9⟩
end Go.AM
