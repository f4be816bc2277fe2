/- Texts of the proof. -/
import Derived.Test.YtdldmebldkgcnaaGreatUf
import Derived.StillTailTactics
import Derived.RangeFuncNested
import Derived.RangeFuncLeaves
import Derived.Shelf.Abstract
import Derived.Shelf.RegionOpen
import Derived.OwnWalkIn
import Derived.TacticsInMore
import Derived.LoopNIn
import Derived.LoopIn
set_option maxHeartbeats 4000000
set_option linter.unusedSimpArgs false
set_option linter.unusedVariables false
namespace Go.AM
open Go Go.RowKit
mutual
def V.flat:V→Bool
 | .bool _| .int .. | .float _| .str _| .nilp| .nilfn| .nili| .nils| .any| .sl .. | .ptr .. =>true
 | .lit _ []=>true
 | .agg cs=>V.np cs
 | .tuple cs=>V.np cs
 | _=>false
def V.np:List V→Bool
 | []=>true
 | c::cs=>V.flat c &&V.np cs
end
mutual
theorem aj.flat {X:Ctx} {w w':World} {φ:Nat→Row} {O:Nat→Obj}: ∀ {x:V} {v:Value},x.flat=true→aj X ⟨w,φ,O⟩ x v→aj X ⟨w',φ,O⟩ x v
 | .bool _,_,_,h| .int ..,_,_,h| .float _,_,_,h| .str _,_,_,h| .nilp,_,_,h| .nilfn,_,_,h| .nili,_,_,h| .nils,_,_,h=>by simpa [aj] using h
 | .any,_,_,_=>by simp[aj]
 | .sl ..,_,_,h=>by simpa only[aj] using h
 | .ptr ..,_,_,h=>by simpa only[aj] using h
 | .lit sz [],_,_,h=>by
   simp only[aj] at h ⊢
   obtain⟨h0,jX,a,cap,vs,h1,h2,h3,_⟩:=h
   exact⟨h0,jX,a,cap,vs,h1,h2,by cases vs<;>simp_all[ag],.inl trivial⟩
 | .agg cs,_,hf,h=>by
   simp only[aj] at h ⊢
   obtain⟨h1,vs,rfl,h2⟩:=h
   exact⟨h1,vs,rfl,ag.flat (by simpa [V.flat] using hf) h2⟩
 | .tuple cs,_,hf,h=>by
   simp only[aj] at h ⊢
   obtain⟨vs,rfl,h2⟩:=h
   exact⟨vs,rfl,ag.flat (by simpa [V.flat] using hf) h2⟩
 | .lit sz (x::xs),_,hf,_=>by simp[V.flat] at hf
 | .bfn ..,_,hf,_| .fn ..,_,hf,_| .iface ..,_,hf,_| .own ..,_,hf,_| .msl ..,_,hf,_| .mptr ..,_,hf,_| .eptr ..,_,hf,_| .litk ..,_,hf,_| .epk ..,_,hf,_| .mp ..,_,hf,_| .it ..,_,hf,_| .mlit _,_,hf,_=>by simp[V.flat] at hf
theorem ag.flat {X:Ctx} {w w':World} {φ:Nat→Row} {O:Nat→Obj}: ∀ {xs:List V} {vs:List Value},V.np xs=true→ag X ⟨w,φ,O⟩ xs vs→ag X ⟨w',φ,O⟩ xs vs
 | [],[],_,_=>by simp[ag]
 | [],_::_,_,h=>by simp[ag] at h
 | _::_,[],_,h=>by simp[ag] at h
 | x::xs,v::vs,hf,h=>by
   simp only[V.np,Bool.and_eq_true] at hf
   simp only[ag] at h ⊢
   exact⟨aj.flat hf.1 h.1,ag.flat hf.2 h.2⟩
end
def MB (O:Nat→Obj):Prop:= ∀r es,(O r).es=some es→0 < (O r).sz∧V.np es=true
theorem bk.flat {X:Ctx} {w w':World} {φ:Nat→Row} {O:Nat→Obj} (ho:bk X ⟨w,φ,O⟩) (hf:MB O) (bI:w.heap.size≤w'.heap.size)
  (hk: ∀r,(O r).es.isSome=true→(φ r).cap≠0→w'.heap[(φ r).bY]? =w.heap[(φ r).bY]?):bk X ⟨w',φ,O⟩:=by
 refine⟨fun r es bq=> ?_,ho.inj,ho.uz,fun b hb=>ai2 (ho.blt b hb) bI⟩
 obtain⟨h1,h2⟩:=hf r es bq
 left
 obtain⟨q1,q2,q3,q4⟩:=ho.row r es bq h1
 refine⟨q1,q2,q3,?_⟩
 by_cases hc: (φ r).cap=0
 ·exact .inl hc
 ·rcases q4 with q4| ⟨c,T,vs,k1,k2,k3,k4⟩
  ·exact absurd q4 hc
  ·have hb:=hk r (by rw[bq];rfl) hc
   exact .inr ⟨c,T,vs,by rw[hb];exact k1,k2,ag.flat h2 k3,k4.bS hb⟩
section
variable {E:TrEnv} {B B':Nat→Prop} {K:Nat×Nat} {w w':World} {φ φ':Nat→Row} {O O':Nat→Obj}
def V8 (E:TrEnv) (B B':Nat→Prop) (K:Nat×Nat) (μ μ':Mu):Prop:=
 ∀b,b<μ.w.heap.size→ ¬Own ⟨E,B,K⟩ μ b→μ'.w.heap[b]? =μ.w.heap[b]? ∧ ¬Own ⟨E,B',K⟩ μ' b
theorem V8.lt {μ μ':Mu} (h:V8 E B B' K μ μ') {b:Nat} (hb:b<μ.w.heap.size) (hn: ¬Own ⟨E,B,K⟩ μ b):b<μ'.w.heap.size:=by
 have h1:=(h b hb hn).1
 rw[ajd hb] at h1
 exact(aiV.1 h1).1
mutual
theorem aj.move {μ μ':Mu} (hk:V8 E B B' K μ μ'): ∀ {x:V} {v:Value},x.aw=true→aj ⟨E,B,K⟩ μ x v→aj ⟨E,B',K⟩ μ' x v
 | .bool _,_,_,h| .int ..,_,_,h| .float _,_,_,h| .str _,_,_,h| .nilp,_,_,h| .nilfn,_,_,h| .nili,_,_,h| .nils,_,_,h=>by simpa [aj] using h
 | .any,_,_,_=>by simp[aj]
 | .own ..,_,hp,h| .msl ..,_,hp,h| .mptr ..,_,hp,h| .sl ..,_,hp,h| .ptr ..,_,hp,h| .mp ..,_,hp,h| .it ..,_,hp,h=>by simp[V.aw] at hp
 | .agg cs,_,hp,h=>by
   simp only[aj] at h ⊢
   obtain⟨h1,vs,rfl,h2⟩:=h
   exact⟨h1,vs,rfl,ag.move hk (by simpa [V.aw] using hp) h2⟩
 | .tuple cs,_,hp,h=>by
   simp only[aj] at h ⊢
   obtain⟨vs,rfl,h2⟩:=h
   exact⟨vs,rfl,ag.move hk (by simpa [V.aw] using hp) h2⟩
 | .bfn f cs,_,hp,h=>by
   simp only[aj] at h ⊢
   obtain⟨F,cv,rfl,h1,h2⟩:=h
   exact⟨F,cv,rfl,h1,ag.move hk (by simpa [V.aw] using hp) h2⟩
 | .fn f cs,_,hp,h=>by
   simp only[aj] at h ⊢
   obtain⟨F,cv,rfl,h1,h2⟩:=h
   exact⟨F,cv,rfl,h1,ag.move hk (by simpa [V.aw] using hp) h2⟩
 | .iface t x,_,hp,h=>by
   simp only[aj] at h ⊢
   obtain⟨T,y,rfl,h1,h2⟩:=h
   exact⟨T,y,rfl,h1,aj.move hk (by simpa [V.aw] using hp) h2⟩
 | .lit sz xs,_,hp,h=>by
   simp only[aj] at h ⊢
   obtain⟨h0,jX,a,cap,vs,rfl,h1,h2,h3⟩:=h
   refine⟨h0,jX,a,cap,vs,rfl,h1,ag.move hk h0 h2,h3.imp id ?_⟩
   rintro⟨b,o,rfl,hb,hs,hr⟩
   obtain⟨k1,k3⟩:=hk b hs hb
   exact⟨b,o,rfl,k3,hk.lt hs hb,hr.bS k1⟩
 | .eptr e off,_,hp,h=>by
   simp only[aj] at h ⊢
   obtain⟨h0,jX,b,o,sz,x,rfl,hb,hs,h1,hr⟩:=h
   obtain⟨k1,k3⟩:=hk b hs hb
   exact⟨h0,jX,b,o,sz,x,rfl,k3,hk.lt hs hb,aj.move hk h0 h1,hr.bS k1⟩
 | .litk sz xs,_,hp,h=>by
   simp only[aj] at h ⊢
   obtain⟨h0,jX,a,cap,vs,rfl,h1,h2,h3⟩:=h
   refine⟨h0,jX,a,cap,vs,rfl,h1,ag.move hk h0 h2,h3.imp id ?_⟩
   rintro⟨rfl,hb,hs,hr⟩
   obtain⟨k1,k3⟩:=hk _ hs hb
   exact⟨rfl,k3,hk.lt hs hb,hr.bS k1⟩
 | .epk i sz e off,_,hp,h=>by
   simp only[aj] at h ⊢
   obtain⟨h0,jX,x,rfl,hb,hs,h1,hr⟩:=h
   obtain⟨k1,k3⟩:=hk _ hs hb
   exact⟨h0,jX,x,rfl,k3,hk.lt hs hb,aj.move hk h0 h1,hr.bS k1⟩
 | .mlit es,_,hp,h=>by
   simp only[aj] at h ⊢
   obtain⟨h0,h⟩:=h
   refine⟨h0,h.imp id ?_⟩
   rintro⟨a,ents,clock,rfl,hb,hs,h1,h2⟩
   obtain⟨k1,k3⟩:=hk a hs hb
   exact⟨a,ents,clock,rfl,k3,hk.lt hs hb,by rw[k1];exact h1,ag.move hk h0 h2⟩
theorem ag.move {μ μ':Mu} (hk:V8 E B B' K μ μ'): ∀ {xs:List V} {vs:List Value},V.al xs=true→ag ⟨E,B,K⟩ μ xs vs→ag ⟨E,B',K⟩ μ' xs vs
 | [],[],_,_=>by simp[ag]
 | [],_::_,_,h=>by simp[ag] at h
 | _::_,[],_,h=>by simp[ag] at h
 | x::xs,v::vs,hp,h=>by
   simp only[V.al,Bool.and_eq_true] at hp
   simp only[ag] at h ⊢
   exact⟨aj.move hk hp.1 h.1,ag.move hk hp.2 h.2⟩
end
end
structure Bt (b:Nat) (A A':World):Prop where
 size:A'.heap.size=A.heap.size
 os:A'.os=A.os
 output:A'.output=A.output
 tape:A'.tape=A.tape
 other: ∀i,i≠b→A'.heap[i]? =A.heap[i]?
theorem dp.ahs {X:Ctx} {μb:Mu} {T:Nat→V} {a:Go.Act} {l:Nat} {Dq:Option Nat} {L:Loop} {O:Nat→Obj} {φ:Nat→Row} {W W':World} {b:Nat} (h:dp X μb T a l Dq L O φ W) (hT: ∀t,(T t).flat=true) (hO:MB O)
  (ht:Bt b W W') (hb:μb.w.heap.size≤b) (hn: ∀r,(O r).es.isSome=true→(φ r).cap≠0→(φ r).bY≠b) (hl:b≠l) (hD: ∀D,Dq=some D→b≠D):dp X μb T a l Dq L O φ W':=by
 refine⟨⟨fun t=>aj.flat (hT t) (h.rel.tmps t),h.rel.bg.flat hO (Nat.le_of_eq ht.size.symm) fun r h1 h2=>ht.other _ (hn r h1 h2)⟩,?_,(ht.other l hl.symm).trans h.sD,fun D hd=> (ht.other D (hD D hd).symm).trans (h.PX D hd)⟩
 have le:=h.le
 refine⟨by show _≤W'.heap.size;rw[ht.size];exact le.size,fun i hi ij=> ⟨(ht.other i abV).trans (le.bS i hi ij).1,(le.bS i hi ij).2⟩,le.gen,le.row,ht.os.trans le.os,ht.output.trans le.output,ht.tape.trans le.tape,fun ad OO=> ?_⟩
 have:=le.frozen ad OO
 rw[←this]
 show W'.frozen? ad=W.frozen? ad
 simp only[World.frozen?,ht.other ad.block abV]
end Go.AM
namespace Go.AM
open Go Go.RowKit
def ac9 (X:Ctx) (x:List V) (v:Array Value):Prop:= ∀μ,ag X μ x v.toList
structure V9 (J:Nat→(Nat→Prop)→World→Prop):Prop extends AbidesF J where
 put: ∀k F b A A',J k F A→F b→Bt b A A'→J k F A'
def SY (X:Ctx) (μ0:Mu) (gf:Nat) (lb:Array Value) (xs:List (List V)) (F0:Nat→Prop) (w:World):Prop:=
 ∀ (l:Nat) (J:Nat→(Nat→Prop)→World→Prop) (W0:World),w.grownBy W0 none→V9 J→
  (∀ (k:Nat) F W1 v x,xs[k]? =some x→ac9 X x v→J k F W1→YieldAt (Fr none) 0 X.P l v W1 fun e W'=>e= .returned (.bool true)∧J (k+1) F W'∧(∀b,b<μ0.w.heap.size→ ¬μ0.own b→W'.heap[b]? =W1.heap[b]?)∧ ∀b,F b→W'.heap[b]? =W1.heap[b]?)→
  J 0 F0 W0→CallsIn (Fr none) 0 X.P gf (#[.func (.yield l) #[] #[]]++lb) W0 fun e W'=> (∃v,e= .returned v)∧ ∃F,J xs.length F W'
def iz (O O':Nat→Obj):Prop:= ∀r,O' r=O r∨O' r={O r with es:=none}
theorem iz.gen {O O':Nat→Obj} (h:iz O O') (r:Nat): (O' r).gen=(O r).gen∧(O' r).sz=(O r).sz:=by
 rcases h r with h| h<;>rw[h] <;>exact⟨rfl,rfl⟩
theorem iz.own {O O':Nat→Obj} (h:iz O O') {w:World} {φ:Nat→Row} {b:Nat} (ho:Mu.own ⟨w,φ,O'⟩ b):Mu.own ⟨w,φ,O⟩ b:=by
 obtain⟨r,h1,h2,h3,h4⟩:=ho
 rcases h r with k| k
 ·rw[show (⟨w,φ,O'⟩:Mu).O r=O r from k] at h1 h2
  exact⟨r,h1,h2,h3,h4⟩
 ·rw[show (⟨w,φ,O'⟩:Mu).O r={O r with es:=none} from k] at h1
  simp at h1
theorem iz.le {O O':Nat→Obj} (h:iz O O') (w:World) (φ:Nat→Row):Le ⟨w,φ,O⟩ ⟨w,φ,O'⟩:=
 ⟨aiZ _,fun b _ hn=> ⟨rfl,fun ho=>hn (h.own ho)⟩,fun r=>Nat.le_of_eq (h.gen r).1.symm,fun r _=> ⟨rfl,(h.gen r).2⟩,rfl,rfl,rfl,fun _ _=>rfl⟩
theorem iz.keeps {O O':Nat→Obj} (h:iz O O') {r:Nat} (hs: (O' r).es.isSome=true):O' r=O r:=by
 rcases h r with k| k
 ·exact k
 ·rw[k] at hs;simp at hs
theorem iz.bg {X:Ctx} {w:World} {φ:Nat→Row} {O O':Nat→Obj} (h:iz O O') (ho:bk X ⟨w,φ,O⟩):bk X ⟨w,φ,O'⟩:=by
 have kp: ∀ {r:Nat},(O' r).es.isSome=true→(O r).es.isSome=true:=fun {r} hs=>by rw[←h.keeps hs];exact hs
 refine⟨fun r es bq=> ?_,fun r r' cL h1 h2 h3 h4=>ho.inj r r' cL (kp h1) (kp h2) h3 h4,fun r h1 h2=>ho.uz r (kp h1) h2,ho.blt⟩
 have fG: (O' r).es=some es:=bq
 have e:=h.keeps (r:=r) (by rw[fG];rfl)
 rw[e] at fG
 exact gu.bS (h.le w φ) (ho.ok r es fG) (h.gen r).2 rfl fun _=>rfl
theorem iz.loop {X:Ctx} {μb:Mu} {T:Nat→V} {a:Go.Act} {l:Nat} {Dq:Option Nat} {L:Loop} {O O':Nat→Obj} {φ:Nat→Row} {W:World} (hf:iz O O') (h:dp X μb T a l Dq L O φ W):dp X μb T a l Dq L O' φ W:=
 ⟨⟨fun t=>aj.mono (hf.le W φ) (h.rel.tmps t),hf.bg h.rel.bg⟩,h.le.trans (hf.le W φ),h.sD,h.PX⟩
theorem Fx {X:Ctx} {n:Fp} {g:Operand} {ps:Array Tmp} {assign body:Code} {rec:aY→St→Option (aR×St)} {ta tb:aY} (hA: ∀l,Bu X ⟨n.tm,0,some l⟩ assign rec ta) (hB: ∀l,Bu X ⟨n.tm,0,some l⟩ body rec tb)
  {μ0:Mu} {T:Nat→V} {Pk:Nat→(Nat→Obj)→Prop} {O0:Nat→Obj} (hP0:Pk 0 O0) {a:Go.Act} {w:World} {φ:Nat→Row} (kE:Marks n μ0.w a.defers) (ho0:bk X μ0) (hro:n.ro=none) (bI:a.tmps.size=n.tm) (hr:Rel X T a ⟨w,φ,O0⟩) (hle:Le μ0 ⟨w,φ,O0⟩)
  (ER: ∀p ∈ ps.toList,p<n.tm) {gf:Nat} {lb:Array Value} (hg:a.eval g= .func (.func gf) #[] lb) (enters: ∀args w,(callFunc gf args).run X.P w= .ok (.enter gf args) w) {xs:List (List V)} (hlen: ∀x ∈ xs,x.length=ps.size)
  (hT: ∀t,(T t).flat=true) (hO: ∀k O,Pk k O→MB O)
  (step: ∀k x O,xs[k]? =some x→Pk k O→ ∃σ1 σ2 O',rec ta ⟨jQ T ps.toList x,O⟩=some (.normal,σ1)∧rec tb σ1=some (.normal,σ2)∧iz σ2.O O'∧Pk (k+1) O')
  {F0:Nat→Prop} (Gn: ∀b,F0 b→b<w.heap.size∧ ¬Mu.own ⟨w,φ,O0⟩ b∧μ0.w.heap.size≤b)
  (hn: ∀k O,Pk k O→ ∀r,(O r).es.isSome=true→(O r).fz=false)
  (qJ:SY X μ0 gf lb xs F0 w):
  (Code.rangeFunc g ps assign body).wpIn (Fr n.ro) 0 X.P (fun ex a' w'=>ex= .normal∧ ∃O,Pk xs.length O∧jY X μ0 n ⟨T,O⟩ a' w') a w:=by
 refine wpIn_rangeFunc fun fn mS=> ?_
 obtain⟨l,Dq,dD,W1,ZI,eY,hl,SZ,S4⟩:=D4 (P:=X.P) n.ro (by rw[hro];simp) fn a.tmps ps assign body
 replace hl:w.heap.size≤l:=hl
 replace S4: ∀D,Dq=some D→w.heap.size≤D∧D≠l∧W1.heap[D]? =some (.deferred (some [])):=S4
 obtain⟨dd,gM⟩: ∃dd:LoopState→Option Code→Loop,dd=fun st pe=> {state:=st,pending:=pe,fn,tmps:=a.tmps,params:=ps,assign,body,defers:=dD}:=⟨_,rfl⟩
 have cL: ∀D,Dq=some D→D≠l:=fun D hD=> (S4 D hD).2.1
 have hlm:μ0.w.heap.size≤l:=ajb hle.size hl
 have V6:dp X μ0 T a l Dq (dd .ready none) O0 φ W1:=by
  have hb: ∀k,k<w.heap.size→W1.heap[k]? =w.heap[k]? :=fun k hk=>eY.block k hk abW
  have st:iT X ⟨w,φ,O0⟩ W1:=nq (μ:=⟨w,φ,O0⟩) eY
  refine⟨⟨fun t=>aj.cq st (hr.tmps t),hr.bg.cq st fun r h1 h2=>hb _ (tX hr.bg h1 h2)⟩,?_,by rw[gM];exact SZ,fun D hD=> (S4 D hD).2.2⟩
  have Wa:μ0.w.heap.size≤w.heap.size:=hle.size
  exact⟨ajb Wa eY.size,fun b kK ij=> ⟨(hb b abV).trans (hle.bS b kK ij).1,(hle.bS b kK ij).2⟩,hle.gen,hle.row,eY.os.trans hle.os,eY.output.trans hle.output,eY.tape.trans hle.tape,fun ad OO=>by
    have:=hle.frozen ad OO
    rw[←this]
    show W1.frozen? ad=w.frozen? ad
    simp only[World.frozen?,hb ad.block abV]⟩
 refine⟨l,_,W1,{target:= .fn (.func gf) lb,args:= #[.func (.yield l) #[] #[]]},W1,gf,#[.func (.yield l) #[] #[]]++lb,W1,ZI,?_,fun _ _=>trivial,?_,fun h=>by simp[Fr,Fence.wide] at h,?_⟩
 ·simp only[resolve,hg]
  simp[go_sem]
 ·simp[invoke,go_sem,enters]
 have hblk: ∀ {k:Nat} {O:Nat→Obj} {W:World} {φ':Nat→Row} {b:Nat},Pk k O→ ¬Mu.own ⟨W,φ',O⟩ b→ ∀r,(O r).es.isSome=true→(φ' r).cap≠0→(φ' r).bY≠b:=fun hp ij r h1 h2 h3=>ij ⟨r,h1,hn _ _ hp r h1,h2,h3⟩
 have key:=qJ l (fun k F W=> ∃O φ',Pk k O∧dp X μ0 T a l Dq (dd .ready none) O φ' W∧ ∀b,F b→b<W.heap.size∧ ¬Mu.own ⟨W,φ',O⟩ b∧b≠l∧(∀D,Dq=some D→b≠D)∧μ0.w.heap.size≤b) W1 eY
  ⟨⟨fun k F A B ⟨O,φ',hp,h1,h3⟩ hg=> ⟨O,φ',hp,h1.grow hg,fun b hb=>by
    rcases hb with hb| ⟨Cm,tO⟩
    ·exact⟨ai2 (h3 b hb).1 hg.size,(h3 b hb).2⟩
    ·refine⟨tO,?_,fun lf=> ?_,fun D hD hbD=> ?_,?_⟩
     ·  rintro⟨r,q1,_,q3,q4⟩
        have:=tX (μ:=⟨A,φ',O⟩) h1.rel.bg q1 q3
        have hq: (φ' r).bY=b:=q4
        have: (φ' r).bY<A.heap.size:=this
        omega
     ·  subst lf
        have:=(aiV.1 h1.sD).1
        omega
     ·  subst hbD
        have:=(aiV.1 (h1.PX b hD)).1
        omega
     ·  have:μ0.w.heap.size≤A.heap.size:=h1.le.size
        omega⟩,fun k F F' A ⟨O,φ',hp,h1,h3⟩ hF=> ⟨O,φ',hp,h1,fun b hb=>h3 b (hF b hb)⟩⟩,
    fun k F b A A' ⟨O,φ',hp,h1,h3⟩ hF ht=> ⟨O,φ',hp,h1.ahs hT (hO k O hp) ht (h3 b hF).2.2.2.2 (hblk hp (h3 b hF).2.1) (h3 b hF).2.2.1 (h3 b hF).2.2.2.1,fun i hi=> ⟨by rw[ht.size];exact(h3 i hi).1,(h3 i hi).2⟩⟩⟩ ?round
  ⟨O0,φ,hP0,V6,fun b hb=> ⟨ai2 (Gn b hb).1 eY.size,(Gn b hb).2.1,by have:=(Gn b hb).1;omega,fun D hD=>by have:=(Gn b hb).1;have:=(S4 D hD).1;omega,(Gn b hb).2.2⟩⟩
 case round=>
  rintro k F W v x hx sE ⟨O,φ',hp,kJ,hF⟩
  have Uz:=hlen x (List.mem_of_getElem? hx)
  obtain⟨σ1,σ2,O',h1,h2,hfg,JS⟩:=step k x O hx hp
  have ada:=kJ.le
  have Wb:ag X ⟨W,φ',O⟩ x v.toList:=sE _
  have nn:v.size=ps.size:=by
    have:=Wb.length
    rw[←Uz,this];simp
  have JK:=Fy (ps:=ps.toList) (T:=T) (tmps:=a.tmps) Wb kJ.rel.tmps (by rw[bI];exact ER)
  have H8: ((ps.zip v).foldl (fun tmps (p:Tmp×Value)=>tmps.setIfInBounds p.1 p.2) a.tmps)=(ps.toList.zip v.toList).foldl (fun t p=>t.setIfInBounds p.1 p.2) a.tmps:=by
    rw[←Array.foldl_toList,Array.toList_zip]
  have hy:=run_yield (P:=X.P) (args:=v) kJ.sD (by rw[gM];exact nn)
  rw[gM] at hy
  refine⟨fn,_,assign,body,hy,roundIn_of_wpIn mS ?_⟩
  have kG:jY X ⟨W,φ',O⟩ ⟨n.tm,0,some l⟩ ⟨jQ T ps.toList x,O⟩ {tmps:=(ps.zip v).foldl (fun tmps (p:Tmp×Value)=>tmps.setIfInBounds p.1 p.2) a.tmps,defers:=[]} W:=by
    refine⟨Marks.nil (ajG _) (fun l' Ak=>by injection Ak with Ak;subst Ak;exact⟨_,kJ.sD⟩),by show Array.size _=n.tm;rw[H8,JK.2];exact bI,φ',⟨fun t=> ?_,kJ.rel.bg⟩,Le.refl _⟩
    show aj X _ _ (Array.getD _ t undef)
    rw[H8];exact JK.1 t
  refine wpIn_mono (hA l _ _ _ _ _ _ h1 kG) fun ex a1 w1 hq=> ?_
  obtain⟨rfl,Hv,zd,φ1,wH,Bv⟩:=hq
  have H9: ∀ {b:Nat} {o:Go.Obj},W.heap[b]? =some o→o.isCells=false→o.isWalk=false→w1.heap[b]? =some o:=fun {b o} hb i1 i2=>
    (Bv.bS b (aiV.1 hb).1 (dr kJ.rel.bg hb i1 i2)).1.trans hb
  have Fz:dp X μ0 T a l Dq (dd .ready none) σ1.O φ1 w1:=⟨⟨fun t=>aj.mono Bv (kJ.rel.tmps t),wH.bg⟩,kJ.le.trans Bv,H9 kJ.sD rfl rfl,fun D hD=>H9 (kJ.PX D hD) rfl rfl⟩
  show ∃w₂,_∧_
  refine⟨_,run_beginRound Fz.sD (by rw[gM]),?_⟩
  have nP:dp X μ0 T a l Dq (dd .busy none) σ1.O φ1 (w1.putObj l (.loop (dd .busy none))):=Fz.put hlm cL
  have S5: ({dd .ready none with state:= .busy}:Loop)=dd .busy none:=by rw[gM]
  rw[S5]
  have st2:iT X ⟨w1,φ1,σ1.O⟩ (w1.putObj l (.loop (dd .busy none))):=iU (μ:=⟨w1,φ1,σ1.O⟩) Fz.sD rfl rfl
  have MC:jY X ⟨w1.putObj l (.loop (dd .busy none)),φ1,σ1.O⟩ ⟨n.tm,0,some l⟩ σ1 a1 (w1.putObj l (.loop (dd .busy none))):=by
    refine⟨?_,zd,φ1,⟨fun t=>aj.cq st2 (wH.tmps t),nP.rel.bg⟩,Le.refl _⟩
    obtain⟨_,Ds,m1,m2,m3⟩:=Hv
    refine⟨⟨ajG _,fun l' Ak=>by injection Ak with Ak;subst Ak;exact⟨_,nP.sD⟩⟩,Ds,m1,m2,fun D hD=> ⟨ajG _,?_⟩⟩
    rw[World.putObj_heap_other (fun e=>by have:=(m3 D hD).2;rw[e,Fz.sD] at this;simp at this)]
    exact(m3 D hD).2
  refine wpIn_mono (hB l _ _ _ _ _ _ h2 MC) fun ex a3 w3 hq=> ?_
  obtain⟨rfl,_,_,φ3,VM,tY⟩:=hq
  have oz: ∀ {b:Nat} {o:Go.Obj},(w1.putObj l (.loop (dd .busy none))).heap[b]? =some o→o.isCells=false→o.isWalk=false→w3.heap[b]? =some o:=fun {b o} hb i1 i2=>
    (tY.bS b (aiV.1 hb).1 (dr nP.rel.bg hb i1 i2)).1.trans hb
  have FA:dp X μ0 T a l Dq (dd .busy none) σ2.O φ3 w3:=⟨⟨fun t=>aj.mono tY (nP.rel.tmps t),VM.bg⟩,nP.le.trans tY,oz nP.sD rfl rfl,fun D hD=>oz (nP.PX D hD) rfl rfl⟩
  have Ia:dp X μ0 T a l Dq (dd .ready none) σ2.O φ3 (w3.putObj l (.loop (dd .ready none))):=FA.put hlm cL
  have aht:=hfg.loop Ia
  have e4: ({dd .busy none with state:=if (none:Option Code).isNone then .ready else .done,pending:=none}:Loop)=dd .ready none:=by rw[gM];rfl
  have UG: ∀b,F b→(w3.putObj l (.loop (dd .ready none))).heap[b]? =W.heap[b]? ∧b<w3.heap.size∧ ¬Mu.own ⟨w3,φ3,σ2.O⟩ b:=fun b hb=>by
    obtain⟨f1,f2,f3,_⟩:=hF b hb
    have g1:=Bv.bS b f1 f2
    have s1:W.heap.size≤w1.heap.size:=Bv.size
    have s2: (w1.putObj l (.loop (dd .busy none))).heap.size≤w3.heap.size:=tY.size
    have s3: (w1.putObj l (.loop (dd .busy none))).heap.size=w1.heap.size:=World.putObj_size ..
    have g2:=tY.bS b (by show b< (w1.putObj l (.loop (dd .busy none))).heap.size;omega) g1.2
    refine⟨?_,abV,g2.2⟩
    rw[World.putObj_heap_other f3,show w3.heap[b]? =(w1.putObj l (.loop (dd .busy none))).heap[b]? from g2.1,World.putObj_heap_other f3]
    exact g1.1
  have s4: (w3.putObj l (.loop (dd .ready none))).heap.size=w3.heap.size:=World.putObj_size ..
  refine⟨_,_,run_endRound none FA.sD,rfl,⟨O',φ3,JS,by rw[e4];exact aht,fun b hb=> ?_⟩,fun b hb ij=> ?_,fun b hb=> ?_⟩
  · rw[e4]
    exact⟨by rw[s4];exact(UG b hb).2.1,fun ho=> (UG b hb).2.2 (hfg.own ho),(hF b hb).2.2⟩
  · rw[e4]
    exact(Ia.le.bS b hb ij).1.trans (kJ.le.bS b hb ij).1.symm
  ·rw[e4];exact(UG b hb).1
 refine CallsIn.mono (show CallsIn (Fr n.ro) (0 - 1) X.P gf _ W1 _ from by rw[hro];exact key) ?_
 rintro ending W' ⟨⟨v,rfl⟩,_,O,φ',hp,kJ,_⟩
 refine⟨none,_,by have:=run_endLoop (P:=X.P) kJ.sD (by rw[gM];simp);rw[this,gM],rfl,?_⟩
 have adb:dp X μ0 T a l Dq (dd .exhausted none) O φ' (W'.putObj l (.loop (dd .exhausted none))):=kJ.put hlm cL
 rw[gM] at adb
 exact⟨O,hp,xz (w:=μ0.w) (φ:=μ0.φ) (O0:=μ0.O) kE bI ho0 (Le.refl _) adb fun D hD=>ajb hle.size (S4 D hD).1⟩
end Go.AM
namespace Go.Proofs
open Go.RowKit Go.AM Go.Proofs.YtdldmebldkgcnaaGreat
attribute [local go_sem] ltk mz jZ df
set_option maxRecDepth 100000 in
theorem KU (W:World) (s0 s1 s2 s3:Value) (d:Int):
  Calls Tryz.prog 47 #[.agg #[s0,s1,s2,s3],.int .i64 d] W fun e W'=>e= .returned (.func (.func 73) #[] #[.pointer (some ⟨W.heap.size,0,none⟩),.pointer (some ⟨W.heap.size+1,0,none⟩)])∧W'=(W.alloc (.cells #[s0,s1,s2,s3] 30)).alloc (.cells #[.int .i64 d] 3):=by
 go_enter Tryz.func47,Tryz.ntmps47
 go_wp2
 exact bodyPost_ret (by simp[results,show Tryz.f47.results= #[.tmp 4] from rfl]) rfl ⟨rfl,rfl⟩
end Go.Proofs
namespace Go.AM
open Go Go.RowKit
theorem Ib: ∀ {cs:List V},V.al cs=true→ ∀c ∈ cs,c.aw=true
 | [],_,c,h=>by simp at h
 | x::cs,hp,c,h=>by
   simp only[V.al,Bool.and_eq_true] at hp
   rcases ai0.1 h with rfl| h
   ·exact hp.1
   ·exact Ib hp.2 c h
def jK:Nat→Obj:=fun _=>bH
def Bw:Nat→Row:=fun _=> ⟨0,0,0⟩
theorem By {w:World} {φ:Nat→Row} {b:Nat}: ¬Mu.own ⟨w,φ,jK⟩ b:=by
 rintro⟨r,h,_⟩
 simp[jK,bH] at h
theorem OP {E:TrEnv} {B:Nat→Prop} {K:Nat×Nat} {w:World} {φ:Nat→Row} (hB: ∀b,B b→b<w.heap.size):bk ⟨E,B,K⟩ ⟨w,φ,jK⟩:=
 ⟨fun r es h=>by simp[jK,bH] at h,fun r r' _ h=>by simp[jK,bH] at h,fun r h=>by simp[jK,bH] at h,hB⟩
theorem Ic.rel {Y:Ctx} {μ:Mu} {n:Nat} {v:V} {rs:List Nat} {val:Value} (h:Ic Y μ n v rs val) (hp:v.aw=true):aj Y μ v val:=by
 cases h with
 | cell h=>
   cases h with
   | pure _ h=>exact h
   | sl=>simp[V.aw] at hp
   | own=>simp[V.aw] at hp
 | agg hc h=>
   rename_i cs vals
   have FB:V.al cs=true:=by simpa [V.aw] using hp
   have:=(h.aN FB).1
   simp only[aj]
   refine⟨?_,_,rfl,this⟩
   rw[aiY] at hc ⊢
   intro c ZJ
   have h1:=hc c ZJ
   have h2:=Ib FB c ZJ
   cases c<;>simp_all[V.jx,V.aT,V.aw]
theorem qK.Wc {Y:Ctx} {μ:Mu} {n:Nat} {vs:List V} {rs:List Nat} {vals:List Value} (h:qK Y μ n vs rs vals) (hp:V.al vs=true):ag Y μ vs vals:=by
 induction h with
 | nil=>simp[ag]
 | cons h hs ih=>
   simp only[V.al,Bool.and_eq_true] at hp
   simp only[ag]
   exact⟨h.rel hp.1,ih hp.2⟩
theorem yA {args:List V} (h:V.al args=true): (enter args).O=jK:=by rw[ef h];rfl
theorem pk {X:TrEnv} {F:FuncId} {fn:Func} {c:Code} (mS:X.P.funcs[F]? =some fn) (iu: (fn.name== "runtime.NumGoroutine")=false) (hb:fn.body=some c) (args:Array Value) (w:World): (callFunc F args).run X.P w= .ok (.enter F args) w:=by
 simp[callFunc,Sem.run_bind,program,Sem.run,mS,hb]
 simpa using iu
theorem bJ.aN {X:TrEnv} {F:FuncId} {fn:Func} {c:Code} (mS:X.P.funcs[F]? =some fn) (iu: (fn.name== "runtime.NumGoroutine")=false) (hb:fn.body=some c) {args:List V} {res:eZ} (h:bJ X F args res)
   (JK:V.al args=true) (hpr:res.val.aw=true) {B:Nat→Prop} {K:Nat×Nat} {w:World} (hB: ∀b,B b→b<w.heap.size) {vals:List Value} (hv:ag ⟨X,B,K⟩ ⟨w,Bw,jK⟩ args vals):
   Calls X.P F vals.toArray w fun e w'=> ∃val,e= .returned val∧w.grownBy w' none∧aj ⟨X,B,K⟩ ⟨w',Bw,jK⟩ res.val val:=by
 have hO:=yA JK
 have hT: ∀t x,args[t]? =some x→(enter args).T t=x:=fun t x hx=>by
   rw[ef JK];simp[hx]
 have h1:=h B K w Bw vals hv.length.symm (fun t v hvt=>by
   rw[hO]
   have hl:=hv.length
   have ht:t<args.length:=by rw[hl];exact(aiS.1 hvt).1
   rw[hT t _ (aiW ht)]
   obtain⟨v',zB,hr⟩:=hv.get (aiW ht)
   rw[hvt] at zB;injection zB with zB;subst zB;exact hr) (by rw[hO];exact OP hB)
 rw[pk mS iu hb] at h1
 refine Calls.mono h1 ?_
 rintro e w' he
 cases e with
 | panicked c=>exact he.elim
 | outgrown=>exact he.elim
 | returned val=>
   obtain⟨φ',T',O',v0,refs,hle,fi,hrel,We,_,_⟩:=he
   rw[hO] at hle
   refine⟨val,rfl,⟨hle.os,hle.tape,hle.output,hle.size,fun k hk _=> (hle.bS k hk By).1⟩,?_⟩
   have h2:aj ⟨X,B,K⟩ ⟨w',φ',O'⟩ res.val val:=by
    generalize res.val=rv at We hpr ⊢
    cases We with
    | one h=>exact(nQ fi (T:=T') hrel h).rel hpr
    | many h=>
      simp only[aj] at hrel ⊢
      obtain⟨vs,rfl,Q7⟩:=hrel
      exact⟨vs,rfl,(mA fi (T:=T') Q7 h).Wc (by simpa [V.aw] using hpr)⟩
   exact aj.move (μ:=⟨w',φ',O'⟩) (μ':=⟨w',Bw,jK⟩) (fun b hb hn=> ⟨rfl,fun ho=>hn (ho.imp (fun h=> (By h).elim) id)⟩) hpr h2
end Go.AM
namespace Go.Proofs
open Go.RowKit Go.Shelf Go.AM Go.Proofs.YtdldmebldkgcnaaGreat
attribute [local go_sem] Oper.semAt_some ltk mz jZ df
@[local go_sem] theorem aaH: (Fr none).round=none:=rfl
structure Sl where
 a:Option Addr
 n:Nat
 c:Nat
inductive Phase where
 | head (k:Nat) (b:Int) (s0 s1 s2 s3:Sl)
 | got (k:Nat) (s0 s1 s2 s3:Sl) (c0 a c2 c3 c4:Int)
 | app (k:Nat) (c0 a c2 c3 c4:Int) (s0 s1 s2 s3:Sl)
 | done
def Jr (c0 a c2 c3 c4:Int):Value:= .agg #[.int .i64 c0,.int .i64 a,.int .i64 c2,.int .i64 c3,.int .i64 c4]
theorem D5 {F:Fence} {n:Nat} {P:Program} {md:Region.Mode} {ops:Array Oper} {Q:Exit→Go.Act→World→Prop} (I:Array Bool→Go.Act→World→Prop) (bI: ∀ar a w,I ar a w→ar.size=ops.size)
   (jt: ∀ar a w i,I ar a w→i ∈ Region.ready md ops ar→wpOpIn F n P ops Q i (I (ar.setIfInBounds i true)) a w)
   (xu: ∀ar a w,I ar a w→Region.ready md ops ar=[]→Q .normal a w):
   ∀ (fuel:Nat) (ar:Array Bool) (a:Go.Act) (w:World),I ar a w→ar.toList.countP (fun b=> !b)≤fuel→wpAnyIn F n P md ops Q fuel ar a w
 | 0,ar,a,w,h,hf=>by
   have hr:Region.ready md ops ar=[]:=by
    apply List.eq_nil_iff_forall_not_mem.2
    intro i hi
    have hl:=FC (mem_ready.1 hi).1
    have:=zC hl
    omega
   exact⟨hr,xu _ _ _ h hr⟩
 | fuel+1,ar,a,w,h,hf=>by
   refine⟨fun hr=>xu _ _ _ h hr,fun i hi=>wpOpIn_mono (fun a' w' hI=>D5 I bI jt xu fuel _ a' w' hI ?_) (jt _ _ _ i h hi)⟩
   have hl:=FC (mem_ready.1 hi).1
   have:=zC hl
   simp only[akI]
   omega
theorem oA {r:Option Nat} {P:Program} {ops:Array Oper} {Q:Exit→Go.Act→World→Prop} {i:Nat} {o:Oper} {K:Go.Act→World→Prop} {a:Go.Act} {w:World} (ho:ops[i]? =some o) (hg:o.guard=none) (hd: ∀c,o.op≠ .defer c) (h:o.wp P a w K Q):wpOpIn (Fr r) 0 P ops Q i K a w:=by
 unfold wpOpIn
 rw[ho]
 simp only[Region.wanted,hg,if_true]
 exact r6 hd h
theorem pn {md:Region.Mode} {ops:Array Oper} {ar:Array Bool} {n:Nat} (bI:ar.size=n) (hr:Region.ready md ops ar=[]) {j:Nat} {o:Oper} (ho:ops[j]? =some o) (Ie: ∀e ∈ o.after,Region.binds md e=true→ar.getD e.on false=true) (hj:j<n:=by decide):ar.getD j false=true:=by
 cases h:ar.getD j true with
 | false=>
   have:j ∈ Region.ready md ops ar:=mem_ready.2 ⟨h,o,ho,Ie⟩
   rw[hr] at this;cases this
 | true=>
   have hl:j<ar.size:=abV
   simp only[Array.getD,hl,dite_true] at h ⊢
   exact h
def gg (Bm:Nat) (w:World) (r0 r1 r2 r3:Sl):World:=
 (((w.setCell ⟨Bm,0,none⟩ (.slice r0.a r0.n r0.c)).setCell ⟨Bm,1,none⟩ (.slice r1.a r1.n r1.c)).setCell ⟨Bm,2,none⟩ (.slice r2.a r2.n r2.c)).setCell ⟨Bm,3,none⟩ (.slice r3.a r3.n r3.c)
theorem CM (Bm:Nat) (w:World) (r0 r1 r2 r3:Sl):Bt Bm w (gg Bm w r0 r1 r2 r3):=
 ⟨by simp[gg,World.setCell],rfl,rfl,rfl,fun i hi=>by
   simp only[gg]
   rw[Below.heap_setCell _ _ _ _ hi,Below.heap_setCell _ _ _ _ hi,Below.heap_setCell _ _ _ _ hi,Below.heap_setCell _ _ _ _ hi]⟩
theorem OQ {Bm:Nat} {w:World} {r0 r1 r2 r3:Sl} {x0 x1 x2 x3:Value} {t:TypeId} (h:w.heap[Bm]? =some (.cells #[x0,x1,x2,x3] t)): (gg Bm w r0 r1 r2 r3).heap[Bm]? =some (.cells #[.slice r0.a r0.n r0.c,.slice r1.a r1.n r1.c,.slice r2.a r2.n r2.c,.slice r3.a r3.n r3.c] t):=by
 obtain⟨hl,h⟩:=aiV.1 h
 simp only[gg,World.setCell]
 rw[ajd (by simpa using hl)]
 simp[Array.getElem_modify,h]
structure StI (mk:Value→Value→Value→Value→Go.Act) (Wd Ws:World) (vR vP va:Value) (ar:Array Bool) (act:Go.Act) (w:World):Prop where
 sz:ar.size=5
 w:Hid (w=if ar.getD 3 false=true then Ws else Wd)
 ac: ∃x4 x35 x36 x37,act=mk x4 x35 x36 x37∧(ar.getD 0 false=true→x35=vR)∧(ar.getD 1 false=true→x36=vP)∧(ar.getD 2 false=true→x37=va)∧(ar.getD 4 false=true→x4=va)
set_option maxRecDepth 100000 in
theorem OR (l Bm Bd:Nat) (d:Int) (G:Phase→(Nat→Prop)→World→Prop)
  (eY: ∀ph S A B,G ph S A→A.grownBy B none→G ph (fun b=>S b∨(A.heap.size≤b∧b<B.heap.size)) B) (MD: ∀ph S S' A,G ph S A→(∀b,S' b→S b)→G ph S' A) (fE: ∀ph S A A',G ph S A→Bt Bm A A'→G ph S A')
  (h74: ∀k b s0 s1 s2 s3 S W,G (.head k b s0 s1 s2 s3) S W→k< 200→Calls Tryz.prog 74 #[.agg #[.slice s0.a s0.n s0.c,.slice s1.a s1.n s1.c,.slice s2.a s2.n s2.c,.slice s3.a s3.n s3.c],.int .i64 d,.int .i64 b] W fun e W'=> ∃c0 a c2 c3 c4 ok,e= .returned (.tuple #[Jr c0 a c2 c3 c4,.bool ok])∧W.grownBy W' none∧((ok=true∧G (.got k s0 s1 s2 s3 c0 a c2 c3 c4) S W')∨(ok=false∧G .done S W')))
  (h75: ∀k s0 s1 s2 s3 c0 a c2 c3 c4 S W,G (.got k s0 s1 s2 s3 c0 a c2 c3 c4) S W→Calls Tryz.prog 75 #[.agg #[.slice s0.a s0.n s0.c,.slice s1.a s1.n s1.c,.slice s2.a s2.n s2.c,.slice s3.a s3.n s3.c],Jr c0 a c2 c3 c4] W fun e W'=> ∃t0 t1 t2 t3 err,e= .returned (.tuple #[.agg #[.slice t0.a t0.n t0.c,.slice t1.a t1.n t1.c,.slice t2.a t2.n t2.c,.slice t3.a t3.n t3.c],.int .i64 err])∧W.grownBy W' none∧((err=0∧G (.app k c0 a c2 c3 c4 t0 t1 t2 t3) S W')∨(err≠0∧G .done S W')))
  (hY: ∀k c0 a c2 c3 c4 t0 t1 t2 t3 S W,G (.app k c0 a c2 c3 c4 t0 t1 t2 t3) S W→YieldAt (Fr none) 0 Tryz.prog l #[Jr c0 a c2 c3 c4,.agg #[.slice t0.a t0.n t0.c,.slice t1.a t1.n t1.c,.slice t2.a t2.n t2.c,.slice t3.a t3.n t3.c]] W fun e W'=>e= .returned (.bool true)∧G (.head (k+1) a t0 t1 t2 t3) S W'∧ ∀b,S b→W'.heap[b]? =W.heap[b]?)
  (xu: ∀b s0 s1 s2 s3 S W,G (.head 200 b s0 s1 s2 s3) S W→G .done S W)
  (W:World) (s0 s1 s2 s3:Sl) (S:Nat→Prop) (hSm:S Bm) (hSd:S Bd) (cL:Bd≠Bm) (H5:W.heap[Bm]? =some (.cells #[.slice s0.a s0.n s0.c,.slice s1.a s1.n s1.c,.slice s2.a s2.n s2.c,.slice s3.a s3.n s3.c] 30)) (PY:W.heap[Bd]? =some (.cells #[.int .i64 d] 3))
  (h0:G (.head 0 0 s0 s1 s2 s3) S W):
  CallsIn (Fr none) 1 Tryz.prog 73 #[.func (.yield l) #[] #[],.pointer (some ⟨Bm,0,none⟩),.pointer (some ⟨Bd,0,none⟩)] W fun ex W'=> (∃v,ex= .returned v)∧ ∃S,G .done S W':=by
 refine callsIn_of_wp Tryz.func73 rfl trivial ?_ rfl
 simp only[Tryz.ntmps73,akF,ai5,ajc,Nat.reduceAdd,Nat.reduceSub,akM,akN,List.push_toArray,akU,ajx,ajn]
 have Jq:Tryz.prog.follows .mixedOrders=true:=aiQ
 gi_wp2
 gi_loopw [4,9] (fun b i wr=> ∃k:Nat,k≤200∧i= .int .i64 k∧ ∃b' t0 t1 t2 t3,b= .int .i64 b'∧G (.head k b' t0 t1 t2 t3) (fun x=>x=Bm∨x=Bd) wr∧wr.heap[Bm]? =some (.cells #[.slice t0.a t0.n t0.c,.slice t1.a t1.n t1.c,.slice t2.a t2.n t2.c,.slice t3.a t3.n t3.c] 30)∧wr.heap[Bd]? =some (.cells #[.int .i64 d] 3)) (fun b i _=>200 - (intOf i).toNat)
 case atStart=>exact⟨0,ajG _,rfl,0,s0,s1,s2,s3,rfl,MD _ _ _ _ h0 (by rintro b (rfl| rfl) <;>assumption),H5,PY⟩
 case round=>
  clear h0 H5 PY hSm hSd
  obtain⟨k,hk,rfl,b',t0,t1,t2,t3,rfl,hG,H5,PY⟩:=hrel
  by_cases bl:k< 200
  ·have sM: (k:Int) < 200:=abV
   have m0:wr.cell? ⟨Bm,0,none⟩=some (.slice t0.a t0.n t0.c):=by simp[World.cell?,H5]
   have m1:wr.cell? ⟨Bm,1,none⟩=some (.slice t1.a t1.n t1.c):=by simp[World.cell?,H5]
   have m2:wr.cell? ⟨Bm,2,none⟩=some (.slice t2.a t2.n t2.c):=by simp[World.cell?,H5]
   have m3:wr.cell? ⟨Bm,3,none⟩=some (.slice t3.a t3.n t3.c):=by simp[World.cell?,H5]
   have m4:wr.cell? ⟨Bd,0,none⟩=some (.int .i64 d):=by simp[World.cell?,PY]
   have c1:=h74 _ _ _ _ _ _ _ _ hG bl
   gi_wp2
   refine⟨trivial,CallsIn.mono (callsIn_wide.2 c1:CallsIn (Fr none) 0 Tryz.prog 74 _ wr _) ?_⟩
   rintro e w2 ⟨c0,a,c2,c3,c4,ok,rfl,hg,vC⟩
   clear m0 m1 m2 m3 m4 c1
   have Co:wr.heap.size≤w2.heap.size:=hg.size
   have Wf:Bm<wr.heap.size:=(aiV.1 H5).1
   have Wg:Bd<wr.heap.size:=(aiV.1 PY).1
   have OS:w2.heap[Bm]? =some (.cells #[.slice t0.a t0.n t0.c,.slice t1.a t1.n t1.c,.slice t2.a t2.n t2.c,.slice t3.a t3.n t3.c] 30):=(hg.block _ Wf abW).trans H5
   have ade:w2.heap[Bd]? =some (.cells #[.int .i64 d] 3):=(hg.block _ Wg abW).trans PY
   have m0:w2.cell? ⟨Bm,0,none⟩=some (.slice t0.a t0.n t0.c):=by simp[World.cell?,OS]
   have m1:w2.cell? ⟨Bm,1,none⟩=some (.slice t1.a t1.n t1.c):=by simp[World.cell?,OS]
   have m2:w2.cell? ⟨Bm,2,none⟩=some (.slice t2.a t2.n t2.c):=by simp[World.cell?,OS]
   have m3:w2.cell? ⟨Bm,3,none⟩=some (.slice t3.a t3.n t3.c):=by simp[World.cell?,OS]
   have PM:Bm<w2.heap.size:=abV
   have ahu:Bm≠w2.heap.size:=abV
   have adf:w2.heap.size≠Bm:=abV
   unfold Jr
   rcases vC with⟨rfl,hG1⟩ | ⟨rfl,hG1⟩
   ·   have UH:=World.grownBy_alloc w2 (.cells #[.int .i64 c0,.int .i64 a,.int .i64 c2,.int .i64 c3,.int .i64 c4] 52) none
       have UI: (w2.alloc (.cells #[.int .i64 c0,.int .i64 a,.int .i64 c2,.int .i64 c3,.int .i64 c4] 52)).heap.size=w2.heap.size+1:=World.size_alloc _ _
       have hBe: (w2.alloc (.cells #[.int .i64 c0,.int .i64 a,.int .i64 c2,.int .i64 c3,.int .i64 c4] 52)).heap[w2.heap.size]? =some (.cells #[.int .i64 c0,.int .i64 a,.int .i64 c2,.int .i64 c3,.int .i64 c4] 52):=World.alloc_heap_new _ _
       have hG2:=eY _ _ _ _ hG1 UH
       have hG3:=MD _ _ (fun x=> (x=Bm∨x=Bd)∨x=w2.heap.size) _ hG2 (by rintro b (h| rfl);exact .inl h;exact .inr ⟨aiZ _,abV⟩)
       have c2':=h75 _ _ _ _ _ _ _ _ _ _ _ _ hG3
       gi_wp2
       refine⟨trivial,CallsIn.mono (callsIn_wide.2 c2':CallsIn (Fr none) 0 Tryz.prog 75 _ _ _) ?_⟩
       rintro e w4 ⟨r0,r1,r2,r3,err,rfl,hg4,ahv⟩
       clear m0 m1 m2 m3 c2' hG2 hG3 hG1 PM ahu adf
       have hz4:w2.heap.size+1≤w4.heap.size:=by have:=hg4.size;omega
       have KV:w4.heap[w2.heap.size]? =some (.cells #[.int .i64 c0,.int .i64 a,.int .i64 c2,.int .i64 c3,.int .i64 c4] 52):=(hg4.block _ abV abW).trans hBe
       have adg:w4.heap[Bm]? =some (.cells #[.slice t0.a t0.n t0.c,.slice t1.a t1.n t1.c,.slice t2.a t2.n t2.c,.slice t3.a t3.n t3.c] 30):=(hg4.block _ abV abW).trans ((UH.block _ abV abW).trans OS)
       have adh:w4.heap[Bd]? =some (.cells #[.int .i64 d] 3):=(hg4.block _ abV abW).trans ((UH.block _ abV abW).trans ade)
       have adi:w2.heap.size<w4.heap.size:=abV
       have XC:Bm<w4.heap.size:=abV
       have XD:Bd<w4.heap.size:=abV
       have ahw:Bm≠w2.heap.size:=abV
       generalize w2.heap.size=Be at*
       clear UH UI hBe OS ade Co hg H5 PY Wf Wg hg4
       have m0:w4.cell? ⟨Be,0,none⟩=some (.int .i64 c0):=by simp[World.cell?,KV]
       have m1:w4.cell? ⟨Be,1,none⟩=some (.int .i64 a):=by simp[World.cell?,KV]
       have m2:w4.cell? ⟨Be,2,none⟩=some (.int .i64 c2):=by simp[World.cell?,KV]
       have m3:w4.cell? ⟨Be,3,none⟩=some (.int .i64 c3):=by simp[World.cell?,KV]
       have m4:w4.cell? ⟨Be,4,none⟩=some (.int .i64 c4):=by simp[World.cell?,KV]
       rcases ahv with⟨rfl,hG4⟩ | ⟨aiB,hG4⟩
       ·have UH:=World.grownBy_alloc w4 (.cells #[.slice r0.a r0.n r0.c,.slice r1.a r1.n r1.c,.slice r2.a r2.n r2.c,.slice r3.a r3.n r3.c] 30) none
        have UI: (w4.alloc (.cells #[.slice r0.a r0.n r0.c,.slice r1.a r1.n r1.c,.slice r2.a r2.n r2.c,.slice r3.a r3.n r3.c] 30)).heap.size=w4.heap.size+1:=World.size_alloc _ _
        have hBn: (w4.alloc (.cells #[.slice r0.a r0.n r0.c,.slice r1.a r1.n r1.c,.slice r2.a r2.n r2.c,.slice r3.a r3.n r3.c] 30)).heap[w4.heap.size]? =some (.cells #[.slice r0.a r0.n r0.c,.slice r1.a r1.n r1.c,.slice r2.a r2.n r2.c,.slice r3.a r3.n r3.c] 30):=World.alloc_heap_new _ _
        have hG5:=eY _ _ _ _ hG4 UH
        have hG6:=MD _ _ (fun x=> ((x=Bm∨x=Bd)∨x=Be)∨x=w4.heap.size) _ hG5 (by rintro b (h| rfl);exact .inl h;exact .inr ⟨aiZ _,abV⟩)
        obtain⟨fn,tmps,assign,body,hy,hR⟩:=hY _ _ _ _ _ _ _ _ _ _ _ _ hG6
        unfold Jr at hy
        gi_wp2
        refine RoundIn.mono hR ?_
        rintro e w6 ⟨rfl,hG7,Ig⟩
        clear hG5 hG6 hR hy hG4 m0 m1 m2 m3 m4
        have KW:w6.heap[Bm]? =some (.cells #[.slice t0.a t0.n t0.c,.slice t1.a t1.n t1.c,.slice t2.a t2.n t2.c,.slice t3.a t3.n t3.c] 30):=(Ig _ (.inl (.inl (.inl rfl)))).trans ((UH.block _ XC abW).trans adg)
        have adj:w6.heap[Bd]? =some (.cells #[.int .i64 d] 3):=(Ig _ (.inl (.inl (.inr rfl)))).trans ((UH.block _ XD abW).trans adh)
        have adk:w6.heap[Be]? =some (.cells #[.int .i64 c0,.int .i64 a,.int .i64 c2,.int .i64 c3,.int .i64 c4] 52):=(Ig _ (.inl (.inr rfl))).trans ((UH.block _ adi abW).trans KV)
        have S6:=(Ig _ (.inr rfl)).trans hBn
        have Wh:Bm≠w4.heap.size:=abV
        generalize w4.heap.size=Bn at*
        clear UH UI hBn Ig adg adh KV adi XC XD hz4
        have n0:w6.cell? ⟨Bn,0,none⟩=some (.slice r0.a r0.n r0.c):=by simp[World.cell?,S6]
        have n1:w6.cell? ⟨Bn,1,none⟩=some (.slice r1.a r1.n r1.c):=by simp[World.cell?,S6]
        have n2:w6.cell? ⟨Bn,2,none⟩=some (.slice r2.a r2.n r2.c):=by simp[World.cell?,S6]
        have n3:w6.cell? ⟨Bn,3,none⟩=some (.slice r3.a r3.n r3.c):=by simp[World.cell?,S6]
        have m1:w6.cell? ⟨Be,1,none⟩=some (.int .i64 a):=by simp[World.cell?,adk]
        have q0:w6.cell? ⟨Bm,0,none⟩=some (.slice t0.a t0.n t0.c):=by simp[World.cell?,KW]
        have q1:w6.cell? ⟨Bm,1,none⟩=some (.slice t1.a t1.n t1.c):=by simp[World.cell?,KW]
        have q2:w6.cell? ⟨Bm,2,none⟩=some (.slice t2.a t2.n t2.c):=by simp[World.cell?,KW]
        have q3:w6.cell? ⟨Bm,3,none⟩=some (.slice t3.a t3.n t3.c):=by simp[World.cell?,KW]
        have z0: ∀o p,w6.frozen? ⟨Bm,o,p⟩=false:=by intro o p;simp[World.frozen?,KW]
        simp only[]
        gi_wp2
        refine Bk (n:=0) (wpIn_region_any Jq ?_)
        obtain⟨Wd,Wi⟩: ∃Wd,Wd=World.drew w6:=⟨_,rfl⟩
        have hrd: ∀x:Bool,(if x=true then gg Bm Wd r0 r1 r2 r3 else Wd).cell? ⟨Bn,0,none⟩=some (.slice r0.a r0.n r0.c)∧(if x=true then gg Bm Wd r0 r1 r2 r3 else Wd).cell? ⟨Bn,1,none⟩=some (.slice r1.a r1.n r1.c)∧(if x=true then gg Bm Wd r0 r1 r2 r3 else Wd).cell? ⟨Bn,2,none⟩=some (.slice r2.a r2.n r2.c)∧(if x=true then gg Bm Wd r0 r1 r2 r3 else Wd).cell? ⟨Bn,3,none⟩=some (.slice r3.a r3.n r3.c)∧(if x=true then gg Bm Wd r0 r1 r2 r3 else Wd).cell? ⟨Be,1,none⟩=some (.int .i64 a):=by
         have e1: ∀b,b≠Bm→ ∀o,(gg Bm Wd r0 r1 r2 r3).cell? ⟨b,o,none⟩=w6.cell? ⟨b,o,none⟩:=fun b hb o=>by
          rw[Wi];simp only[gg,World.cell?];rw[Below.heap_setCell _ _ _ _ hb,Below.heap_setCell _ _ _ _ hb,Below.heap_setCell _ _ _ _ hb,Below.heap_setCell _ _ _ _ hb];rfl
         have e2: ∀a,Wd.cell? a=w6.cell? a:=fun a=>by rw[Wi];rfl
         intro x
         cases x
         ·exact⟨(e2 _).trans n0,(e2 _).trans n1,(e2 _).trans n2,(e2 _).trans n3,(e2 _).trans m1⟩
         ·exact⟨(e1 _ Wh.symm _).trans n0,(e1 _ Wh.symm _).trans n1,(e1 _ Wh.symm _).trans n2,(e1 _ Wh.symm _).trans n3,(e1 _ ahw.symm _).trans m1⟩
        have z0': ∀o p,Wd.frozen? ⟨Bm,o,p⟩=false:=by rw[Wi];exact z0
        have qd0:Wd.cell? ⟨Bm,0,none⟩=some (.slice t0.a t0.n t0.c):=by rw[Wi];exact q0
        have qd1:Wd.cell? ⟨Bm,1,none⟩=some (.slice t1.a t1.n t1.c):=by rw[Wi];exact q1
        have qd2:Wd.cell? ⟨Bm,2,none⟩=some (.slice t2.a t2.n t2.c):=by rw[Wi];exact q2
        have qd3:Wd.cell? ⟨Bm,3,none⟩=some (.slice t3.a t3.n t3.c):=by rw[Wi];exact q3
        have KX:Hid (Wd=World.drew w6):=Wi
        clear Wi
        refine D5 (StI (fun x4 x35 x36 x37=> {tmps:= #[.func (.yield l) #[] #[],.pointer (some ⟨Bm,0,none⟩),.pointer (some ⟨Bd,0,none⟩),undef,x4,.pointer (some ⟨Be,0,none⟩),.bool true,.pointer (some ⟨Bn,0,none⟩),.int .i64 0,.int .i64 k,.bool true,
          .tuple #[Jr c0 a c2 c3 c4,.bool true],.agg #[.slice t0.a t0.n t0.c,.slice t1.a t1.n t1.c,.slice t2.a t2.n t2.c,.slice t3.a t3.n t3.c],.int .i64 d,.int .i64 b',.tuple #[Jr c0 a c2 c3 c4,.bool true],Jr c0 a c2 c3 c4,.bool true,.bool true,.bool false,.tuple #[.agg #[.slice r0.a r0.n r0.c,.slice r1.a r1.n r1.c,.slice r2.a r2.n r2.c,.slice r3.a r3.n r3.c],.int .i64 0],.agg #[.slice t0.a t0.n t0.c,.slice t1.a t1.n t1.c,.slice t2.a t2.n t2.c,.slice t3.a t3.n t3.c],Jr c0 a c2 c3 c4,.tuple #[.agg #[.slice r0.a r0.n r0.c,.slice r1.a r1.n r1.c,.slice r2.a r2.n r2.c,.slice r3.a r3.n r3.c],.int .i64 0],.agg #[.slice r0.a r0.n r0.c,.slice r1.a r1.n r1.c,.slice r2.a r2.n r2.c,.slice r3.a r3.n r3.c],
          .int .i64 0,.int .i64 0,.bool false,.bool false,.func (.yield l) #[] #[],Jr c0 a c2 c3 c4,.agg #[.slice r0.a r0.n r0.c,.slice r1.a r1.n r1.c,.slice r2.a r2.n r2.c,.slice r3.a r3.n r3.c],.bool true,.bool false,.bool false,x35,x36,x37,u38],defers:=[]}) Wd (gg Bm Wd r0 r1 r2 r3) (.agg #[.slice r0.a r0.n r0.c,.slice r1.a r1.n r1.c,.slice r2.a r2.n r2.c,.slice r3.a r3.n r3.c]) (.pointer (some ⟨Be,1,none⟩)) (.int .i64 a)) (fun ar act w h=>h.1.trans rfl) ?_ ?_ _ _ _ _ ?_ aiO
        ·rintro ar act w i ⟨bI,hw,x4,x35,x36,x37,rfl,k0,k1,k2,k4⟩ hi
         dsimp only
         obtain⟨ZK,o,ho,Ie⟩:=mem_ready.1 hi
         have aiC:i< 5:=by
          rcases akn i 5 with h| h
          ·exact h
          ·rw[aj0 (by simpa using h)] at ho;cases ho
         rcases(by omega:i=0∨i=1∨i=2∨i=3∨i=4) with rfl| rfl| rfl| rfl| rfl
         ·have up: ∀j,j≠0→(ar.setIfInBounds 0 true).getD j false=ar.getD j false:=fun j h=>getD_set_ne _ (aj4 h)
          have se: (ar.setIfInBounds 0 true).getD 0 false=true:=by simp[Array.getD,bI]
          have rd:w.cell? ⟨Bn,0,none⟩=some (.slice r0.a r0.n r0.c)∧w.cell? ⟨Bn,1,none⟩=some (.slice r1.a r1.n r1.c)∧w.cell? ⟨Bn,2,none⟩=some (.slice r2.a r2.n r2.c)∧w.cell? ⟨Bn,3,none⟩=some (.slice r3.a r3.n r3.c)∧w.cell? ⟨Be,1,none⟩=some (.int .i64 a):=by rw[show w=_ from hw];exact hrd _
          obtain⟨rd0,rd1,rd2,rd3,rd4⟩:=rd
          refine oA rfl rfl abW ?_
          go_simp
          exact⟨by simpa using bI,by rw[up 3 aiO];exact hw,_,_,_,_,rfl,fun _=>rfl,fun h=>k1 (by rwa [up 1 aiO] at h),fun h=>k2 (by rwa [up 2 aiO] at h),fun h=>k4 (by rwa [up 4 aiO] at h)⟩
         ·have up: ∀j,j≠1→(ar.setIfInBounds 1 true).getD j false=ar.getD j false:=fun j h=>getD_set_ne _ (aj4 h)
          have se: (ar.setIfInBounds 1 true).getD 1 false=true:=by simp[Array.getD,bI]
          refine oA rfl rfl abW ?_
          go_simp
          exact⟨by simpa using bI,by rw[up 3 aiO];exact hw,_,_,_,_,rfl,fun h=>k0 (by rwa [up 0 aiO] at h),fun _=>rfl,fun h=>k2 (by rwa [up 2 aiO] at h),fun h=>k4 (by rwa [up 4 aiO] at h)⟩
         ·have up: ∀j,j≠2→(ar.setIfInBounds 2 true).getD j false=ar.getD j false:=fun j h=>getD_set_ne _ (aj4 h)
          have se: (ar.setIfInBounds 2 true).getD 2 false=true:=by simp[Array.getD,bI]
          have q1':ar.getD 1 false=true:=(by simp at ho;subst ho;exact Ie ⟨1,.data⟩ abW rfl)
          obtain rfl:=k1 q1'
          have rd:w.cell? ⟨Bn,0,none⟩=some (.slice r0.a r0.n r0.c)∧w.cell? ⟨Bn,1,none⟩=some (.slice r1.a r1.n r1.c)∧w.cell? ⟨Bn,2,none⟩=some (.slice r2.a r2.n r2.c)∧w.cell? ⟨Bn,3,none⟩=some (.slice r3.a r3.n r3.c)∧w.cell? ⟨Be,1,none⟩=some (.int .i64 a):=by rw[show w=_ from hw];exact hrd _
          obtain⟨rd0,rd1,rd2,rd3,rd4⟩:=rd
          refine oA rfl rfl abW ?_
          go_simp
          exact⟨by simpa using bI,by rw[up 3 aiO];exact hw,_,_,_,_,rfl,fun h=>k0 (by rwa [up 0 aiO] at h),fun _=>rfl,fun _=>rfl,fun h=>k4 (by rwa [up 4 aiO] at h)⟩
         ·have up: ∀j,j≠3→(ar.setIfInBounds 3 true).getD j false=ar.getD j false:=fun j h=>getD_set_ne _ (aj4 h)
          have se: (ar.setIfInBounds 3 true).getD 3 false=true:=by simp[Array.getD,bI]
          have q0':ar.getD 0 false=true:=(by simp at ho;subst ho;exact Ie ⟨0,.data⟩ abW rfl)
          obtain rfl:=k0 q0'
          have n3':ar.getD 3 false=false:=by have h1:ar.getD 3 true=false:=ZK;simp only[Array.getD,bI] at h1 ⊢;simpa using h1
          unfold Hid at hw
          rw[n3'] at hw
          obtain rfl:w=Wd:=hw
          refine oA rfl rfl abW ?_
          go_simp
          exact⟨by simpa using bI,by rw[se];rfl,_,_,_,_,rfl,fun _=>rfl,fun h=>k1 (by rwa [up 1 aiO] at h),fun h=>k2 (by rwa [up 2 aiO] at h),fun h=>k4 (by rwa [up 4 aiO] at h)⟩
         ·have up: ∀j,j≠4→(ar.setIfInBounds 4 true).getD j false=ar.getD j false:=fun j h=>getD_set_ne _ (aj4 h)
          have se: (ar.setIfInBounds 4 true).getD 4 false=true:=by simp[Array.getD,bI]
          have q2':ar.getD 2 false=true:=(by simp at ho;subst ho;exact Ie ⟨2,.data⟩ abW rfl)
          obtain rfl:=k2 q2'
          refine oA rfl rfl abW ?_
          go_simp
          exact⟨by simpa using bI,by rw[up 3 aiO];exact hw,_,_,_,_,rfl,fun h=>k0 (by rwa [up 0 aiO] at h),fun h=>k1 (by rwa [up 1 aiO] at h),fun _=>rfl,fun _=>rfl⟩
        ·rintro ar act w ⟨bI,hw,x4,x35,x36,x37,rfl,k0,k1,k2,k4⟩ hr
         unfold Hid at hw
         have l0:ar.getD 0 false=true:=fU bI hr rfl abW
         have l1:ar.getD 1 false=true:=pn bI hr rfl (fun e he hb=>by(have lD:e=⟨3,.gcOnly .lateStores⟩:=by simpa using he);subst lD;exact absurd hb aiO)
         have l2:ar.getD 2 false=true:=pn bI hr rfl (fun e he hb=>by(have lD:e=⟨1,.data⟩∨e=⟨3,.gcOnly .lateStores⟩:=by simpa using he);rcases lD with rfl| rfl;exact l1;exact absurd hb aiO)
         have l3:ar.getD 3 false=true:=pn bI hr rfl (fun e he hb=>by(have lD:e=⟨0,.data⟩∨e=⟨0,.phase⟩∨e=⟨1,.textOnly .lateStores⟩∨e=⟨2,.textOnly .lateStores⟩:=by simpa using he);rcases lD with rfl| rfl| rfl| rfl;exact l0;exact l0;exact l1;exact l2)
         have l4:ar.getD 4 false=true:=pn bI hr rfl (fun e he hb=>by(have lD:e=⟨2,.data⟩∨e=⟨3,.chain⟩∨e=⟨0,.phase⟩∨e=⟨1,.phase⟩∨e=⟨2,.phase⟩∨e=⟨3,.phase⟩:=by simpa using he);rcases lD with rfl| rfl| rfl| rfl| rfl| rfl;exact l2;exact l3;exact l0;exact l1;exact l2;exact l3)
         obtain rfl:=k0 l0
         obtain rfl:=k1 l1
         obtain rfl:=k2 l2
         obtain rfl:=k4 l4
         rw[l3] at hw
         obtain rfl:w=gg Bm Wd r0 r1 r2 r3:=hw
         have hT:Bt Bm Wd (gg Bm Wd r0 r1 r2 r3):=CM Bm Wd r0 r1 r2 r3
         unfold Hid at KX
         have hG8:G (.head (k+1) a r0 r1 r2 r3) (fun x=>x=Bm∨x=Bd) Wd:=MD _ _ _ _ (eY _ _ _ _ hG7 (show w6.grownBy Wd none by rw[KX];exact⟨rfl,rfl,rfl,aiZ _,fun _ _ _=>rfl⟩)) (fun b hb=> .inl (.inl (.inl hb)))
         have hG9:=fE _ _ _ _ hG8 hT
         have ahx: (gg Bm Wd r0 r1 r2 r3).heap[Bm]? =some (.cells #[.slice r0.a r0.n r0.c,.slice r1.a r1.n r1.c,.slice r2.a r2.n r2.c,.slice r3.a r3.n r3.c] 30):=OQ (by rw[KX];exact KW)
         have ahy: (gg Bm Wd r0 r1 r2 r3).heap[Bd]? =some (.cells #[.int .i64 d] 3):=(hT.other _ cL).trans (by rw[KX];exact adj)
         generalize gg Bm Wd r0 r1 r2 r3=Ws at*
         clear k0 k1 k2 k4 hr bI l0 l1 l2 l3 l4 hT hrd z0' qd0 qd1 qd2 qd3
         have Xn:IntKind.i64.wrap ((k:Int)+1)=(k:Int)+1:=wrap64 abV abV
         rename_i PW
         clear KW adj adk S6 n0 n1 n2 n3 m1 q0 q1 q2 q3 z0 hG7 hG8 KX
         refine PW _ _ ?_
         unfold Jr
         dsimp only
         gi_wp2
         exact⟨⟨k+1,abV,rfl,a,r0,r1,r2,r3,rfl,hG9,ahx,ahy⟩,by simp only[intOf];omega⟩
        ·refine⟨abW,?_,_,_,_,_,rfl,?_,?_,?_,?_⟩
         ·unfold Hid at KX ⊢;rw[KX];simp[Array.getD]
         all_goals (intro h;simp[Array.getD] at h)
       ·gi_wp2
        refine⟨fun _ h=> (by cases h),?_⟩
        gi_wp2
        exact⟨rfl,_,results_none (fn:=Tryz.f73) rfl _ _ _,⟨_,rfl⟩,_,eY _ _ _ _ hG4 (World.grownBy_alloc _ _ none)⟩
   ·   gi_wp2
       exact⟨rfl,_,results_none (fn:=Tryz.f73) rfl _ _ _,⟨_,rfl⟩,_,eY _ _ _ _ hG1 (World.grownBy_alloc _ _ none)⟩
  ·have sM: ¬ (k:Int) < 200:=abV
   obtain rfl:k=200:=abV
   gi_wp2
   exact⟨rfl,_,results_none (fn:=Tryz.f73) rfl _ _ _,⟨_,rfl⟩,_,xu _ _ _ _ _ _ _ hG⟩
end Go.Proofs
namespace Go.AM
open Go Go.RowKit Go.Proofs Go.Proofs.YtdldmebldkgcnaaGreat
def Ih (c0 a c2 c3 c4:Int):V:= .agg [.int .i64 c0,.int .i64 a,.int .i64 c2,.int .i64 c3,.int .i64 c4]
theorem D6 {e:V} {x:Int} (h:JD e=some x): ∃c0 c2 c3 c4,e=Ih c0 x c2 c3 c4:=by
 unfold JD at h
 split at h
 ·injection h with h;subst h;exact⟨_,_,_,_,rfl⟩
 ·simp at h
theorem vJ {C:Nat→List V→Option eZ} {d:Int}: ∀ {n:Nat} {m:V} {b:Int} {evs r:List V},gH C d n m b evs=some r→ ∃rest,r=evs++rest
 | 0,_,_,evs,r,h=>by
   simp only[gH,aiT] at h
   exact⟨[],by rw[h,ajq]⟩
 | n+1,m,b,evs,r,h=>by
   unfold gH at h
   split at h
   ·split at h
    ·split at h
     ·split at h
      ·obtain⟨rest,rfl⟩:=vJ h
       exact⟨_,ajR ..⟩
      ·injection h with h;exact⟨[],by rw[h,ajq]⟩
     ·simp at h
    ·simp at h
   ·split at h
    ·injection h with h;exact⟨[],by rw[h,ajq]⟩
    ·simp at h
   ·simp at h
theorem Bz {C:Nat→List V→Option eZ} {d:Int} {n:Nat} {m:V} {b:Int} {evs r:List V} (h:gH C d (n+1) m b evs=some r):
  ∃c0 a c2 c3 c4 ok,C 644 [m,.int .i64 d,.int .i64 b]=some ⟨.tuple [Ih c0 a c2 c3 c4,.bool ok],[]⟩∧(ok=false∧r=evs∨ok=true∧ ∃m' err,C 645 [m,Ih c0 a c2 c3 c4]=some ⟨.tuple [m',.int .i64 err],[]⟩∧kS m'=true∧
   (err=0∧gH C d n m' a (evs++[Ih c0 a c2 c3 c4])=some r∨err≠0∧r=evs)):=by
 unfold gH at h
 split at h
 ·rename_i e h1
  split at h
  ·rename_i x m' err h2 h3
   obtain⟨c0,c2,c3,c4,rfl⟩:=D6 h2
   split at h
   ·rename_i hm
    refine⟨c0,x,c2,c3,c4,true,h1,.inr ⟨rfl,m',err,h3,hm,?_⟩⟩
    split at h
    ·rename_i he;exact .inl ⟨he,h⟩
    ·rename_i he;injection h with h;exact .inr ⟨he,h.symm⟩
   ·simp at h
  ·simp at h
 ·rename_i e h1
  split at h
  ·rename_i x h2
   obtain⟨c0,c2,c3,c4,rfl⟩:=D6 h2
   injection h with h
   exact⟨c0,x,c2,c3,c4,false,h1,.inl ⟨rfl,h.symm⟩⟩
  ·simp at h
 ·simp at h
theorem tZ {m:V} (h:kS m=true): ∃z0 l0 z1 l1 z2 l2 z3 l3,m= .agg [.lit z0 l0,.lit z1 l1,.lit z2 l2,.lit z3 l3]:=by
 unfold kS at h
 split at h
 ·rename_i e f w p
  simp only[Bool.and_eq_true] at h
  obtain⟨h0,h1,h2,h3⟩:=h
  cases e<;>simp[pY] at h0
  cases f<;>simp[pY] at h1
  cases w<;>simp[pY] at h2
  cases p<;>simp[pY] at h3
  exact⟨_,_,_,_,_,_,_,_,rfl⟩
 ·simp at h
theorem iV {m:V} (h:kS m=true):m.aw=true:=by
 obtain⟨_,_,_,_,_,_,_,_,rfl⟩:=tZ h
 rfl
def mapVal (s0 s1 s2 s3:Sl):Value:= .agg #[.slice s0.a s0.n s0.c,.slice s1.a s1.n s1.c,.slice s2.a s2.n s2.c,.slice s3.a s3.n s3.c]
theorem D7 {X:Ctx} {μ:Mu} {m:V} (h:kS m=true) {v:Value} (hv:aj X μ m v): ∃s0 s1 s2 s3,v=mapVal s0 s1 s2 s3:=by
 obtain⟨_,_,_,_,_,_,_,_,rfl⟩:=tZ h
 simp only[aj] at hv
 obtain⟨_,vs,rfl,hv⟩:=hv
 rcases vs with⟨vs⟩
 rcases vs with _| ⟨v0,_| ⟨v1,_| ⟨v2,_| ⟨v3,_| ⟨v4,vs⟩⟩⟩⟩⟩ <;>simp only[ag,aj,and_true,and_false] at hv
 obtain⟨⟨_,_,a0,k0,_,rfl,_⟩,⟨_,_,a1,k1,_,rfl,_⟩,⟨_,_,a2,k2,_,rfl,_⟩,⟨_,_,a3,k3,_,rfl,_⟩⟩:=hv
 exact⟨⟨a0,_,k0⟩,⟨a1,_,k1⟩,⟨a2,_,k2⟩,⟨a3,_,k3⟩,rfl⟩
def Ban (U:Nat→Prop) (z Bm:Nat) (F:Nat→Prop) (W:World):Nat→Prop:=fun b=>b<W.heap.size∧(b=Bm∨U b∨(z≤b∧ ¬F b))
theorem ME {U:Nat→Prop} {z Bm:Nat} {F:Nat→Prop} {W:World} {b:Nat} (hb:b<W.heap.size) (h: ¬Ban U z Bm F W b):b≠Bm∧ ¬U b∧(b<z∨F b):=by
 refine⟨fun e=>h ⟨hb,.inl e⟩,fun e=>h ⟨hb,.inr (.inl e)⟩,?_⟩
 rcases akn b z with h1| h1
 ·exact .inl h1
 ·refine .inr (akQ fun h2=>h ⟨hb,.inr (.inr ⟨h1,h2⟩)⟩)
theorem FD {U:Nat→Prop} {z Bm:Nat} {F:Nat→Prop} {W:World} {b:Nat} (h1:b≠Bm) (h0: ¬U b) (h2:b<z∨F b): ¬Ban U z Bm F W b:=by
 rintro⟨_,h| h| ⟨h3,h4⟩⟩
 ·exact h1 h
 ·exact h0 h
 ·rcases h2 with h| h
  ·omega
  ·exact h4 h
def Ii (X:TrEnv) (K:Nat×Nat) (U:Nat→Prop) (z Bm:Nat) (F:Nat→Prop) (W:World) (m:V) (s0 s1 s2 s3:Sl):Prop:=aj ⟨X,Ban U z Bm F W,K⟩ ⟨W,Bw,jK⟩ m (mapVal s0 s1 s2 s3)
theorem Ij {X:TrEnv} {B:Nat→Prop} {K:Nat×Nat} {W:World} {b:Nat}:Own ⟨X,B,K⟩ ⟨W,Bw,jK⟩ b↔B b:=⟨fun h=>h.elim (fun h=> (By h).elim) id,.inr⟩
theorem D8 {X:TrEnv} {B B':Nat→Prop} {K:Nat×Nat} {W W':World} {m:V} {v:Value} (hp:m.aw=true) (h:aj ⟨X,B,K⟩ ⟨W,Bw,jK⟩ m v) (hk: ∀b,b<W.heap.size→ ¬B b→W'.heap[b]? =W.heap[b]? ∧ ¬B' b):aj ⟨X,B',K⟩ ⟨W',Bw,jK⟩ m v:=
 aj.move (μ:=⟨W,Bw,jK⟩) (μ':=⟨W',Bw,jK⟩) (fun b hb hn=>by
  obtain⟨h1,h2⟩:=hk b hb (fun h=>hn (.inr h))
  exact⟨h1,fun h=>h2 (Ij.1 h)⟩) hp h
end Go.AM
namespace Go.AM
open Go Go.RowKit Go.Proofs Go.Proofs.YtdldmebldkgcnaaGreat
theorem Ik {F:Fence} {n:Nat} {P:Program} {l:Nat} {v:Array Value} {W:World} {R R':Ending→World→Prop} (h:YieldAt F n P l v W R) (hm: ∀e W',R e W'→R' e W'):YieldAt F n P l v W R':=by
 obtain⟨fn,tmps,assign,body,hy,hR⟩:=h
 exact⟨fn,tmps,assign,body,hy,hR.mono hm⟩
section
variable (X:TrEnv) (K:Nat×Nat) (U:Nat→Prop) (z Bm:Nat) (C:Nat→List V→Option eZ) (d:Int) (r:List V) (J:Nat→(Nat→Prop)→World→Prop)
def RPh:Phase→(Nat→Prop)→World→Prop
 | .head k b s0 s1 s2 s3,F,W=> ∃m evs,kS m=true∧evs.length=k∧k≤200∧gH C d (200 - k) m b evs=some r∧Ii X K U z Bm F W m s0 s1 s2 s3
 | .got k s0 s1 s2 s3 c0 a c2 c3 c4,F,W=> ∃m evs m' err,kS m=true∧evs.length=k∧k< 200∧C 645 [m,Ih c0 a c2 c3 c4]=some ⟨.tuple [m',.int .i64 err],[]⟩∧kS m'=true∧
    (err=0∧gH C d (200 - (k+1)) m' a (evs++[Ih c0 a c2 c3 c4])=some r∨err≠0∧r=evs)∧Ii X K U z Bm F W m s0 s1 s2 s3
 | .app k c0 a c2 c3 c4 s0 s1 s2 s3,F,W=> ∃m evs,kS m=true∧evs.length=k∧k< 200∧gH C d (200 - (k+1)) m a (evs++[Ih c0 a c2 c3 c4])=some r∧Ii X K U z Bm F W m s0 s1 s2 s3
 | .done,_,_=>True
def D9:Phase→Nat
 | .head k .. | .got k .. | .app k .. =>k
 | .done=>r.length
def GPh (ph:Phase) (S:Nat→Prop) (W:World):Prop:= ∃F,J (D9 r ph) F W∧(∀x,S x→F x)∧F Bm∧Bm<W.heap.size∧RPh X K U z Bm C d r ph F W
end
theorem RPh.move {X:TrEnv} {K:Nat×Nat} {U:Nat→Prop} {z Bm:Nat} {C:Nat→List V→Option eZ} {d:Int} {r:List V} {ph:Phase} {F F':Nat→Prop} {W W':World} (h:RPh X K U z Bm C d r ph F W) (hk: ∀b,b<W.heap.size→b≠Bm→ ¬U b→b<z∨F b→W'.heap[b]? =W.heap[b]? ∧(b<z∨F' b)):RPh X K U z Bm C d r ph F' W':=by
 have mv: ∀ {m s0 s1 s2 s3},kS m=true→Ii X K U z Bm F W m s0 s1 s2 s3→Ii X K U z Bm F' W' m s0 s1 s2 s3:=fun hm h=>D8 (iV hm) h fun b hb hn=>by
   obtain⟨h1,h0,h2⟩:=ME hb hn
   obtain⟨h3,h4⟩:=hk b hb h1 h0 h2
   exact⟨h3,FD h1 h0 h4⟩
 cases ph with
 | head k b s0 s1 s2 s3=>
   obtain⟨m,evs,h1,h2,h3,h4,h5⟩:=h
   exact⟨m,evs,h1,h2,h3,h4,mv h1 h5⟩
 | got k s0 s1 s2 s3 c0 a c2 c3 c4=>
   obtain⟨m,evs,m',err,h1,h2,h3,h4,h5,h6,h7⟩:=h
   exact⟨m,evs,m',err,h1,h2,h3,h4,h5,h6,mv h1 h7⟩
 | app k c0 a c2 c3 c4 s0 s1 s2 s3=>
   obtain⟨m,evs,h1,h2,h3,h4,h5⟩:=h
   exact⟨m,evs,h1,h2,h3,h4,mv h1 h5⟩
 | done=>trivial
theorem S7 {X:Ctx} {μ:Mu} {c0 a c2 c3 c4:Int}:aj X μ (Ih c0 a c2 c3 c4) (Jr c0 a c2 c3 c4):=by
 unfold Ih Jr
 simp[aj,ag,V.aT]
theorem Wj {X:Ctx} {μ:Mu} {x:V} {err:Int} {vs:Array Value} (h:ag X μ [x,.int .i64 err] vs.toList): ∃v,aj X μ x v∧vs= #[v,.int .i64 err]:=by
 rcases vs with⟨vs⟩
 rcases vs with _| ⟨v0,_| ⟨v1,_| ⟨v2,vs⟩⟩⟩ <;>simp only[ag,aj,and_true,and_false] at h
 obtain⟨h0,rfl⟩:=h
 exact⟨v0,h0,rfl⟩
theorem ZL {X:Ctx} {μ:Mu} {c0 a c2 c3 c4:Int} {ok:Bool} {v:Value} (h:aj X μ (.tuple [Ih c0 a c2 c3 c4,.bool ok]) v):v= .tuple #[Jr c0 a c2 c3 c4,.bool ok]:=by
 simp only[aj] at h
 obtain⟨vs,rfl,h⟩:=h
 rcases vs with⟨vs⟩
 rcases vs with _| ⟨v0,_| ⟨v1,_| ⟨v2,vs⟩⟩⟩ <;>simp only[ag,aj,and_true,and_false] at h
 obtain⟨h0,rfl⟩:=h
 unfold Ih at h0
 simp only[aj] at h0
 obtain⟨_,ws,rfl,h0⟩:=h0
 rcases ws with⟨ws⟩
 rcases ws with _| ⟨x0,_| ⟨x1,_| ⟨x2,_| ⟨x3,_| ⟨x4,_| ⟨x5,ws⟩⟩⟩⟩⟩⟩ <;>simp only[ag,aj,and_true,and_false] at h0
 obtain⟨rfl,rfl,rfl,rfl,rfl⟩:=h0
 rfl
theorem Il {X:TrEnv} (hP:X.P=Tryz.prog) {C:bo} (hC: ∀f F vs res,X.fH F=some f→C f vs=some res→bJ X F vs res) (h74:X.fH 74=some 644) (h75:X.fH 75=some 645) {B:Nat→Prop} {K:Nat×Nat}
  {w0:World} {d:Int} {m:V} {s0 s1 s2 s3:Sl} {r:List V} (hm:kS m=true) (ah:gH C d 200 m 0 []=some r) {φ:Nat→Row} {O0:Nat→Obj} (hv:aj ⟨X,B,K⟩ ⟨w0,φ,O0⟩ m (mapVal s0 s1 s2 s3)) (hU: ∀b,Mu.own ⟨w0,φ,O0⟩ b→b<w0.heap.size) {w:World} {Bm Bd:Nat} (aiD:w0.heap.size≤Bm) (cL:Bd≠Bm)
  (H5:w.heap[Bm]? =some (.cells #[.slice s0.a s0.n s0.c,.slice s1.a s1.n s1.c,.slice s2.a s2.n s2.c,.slice s3.a s3.n s3.c] 30)) (PY:w.heap[Bd]? =some (.cells #[.int .i64 d] 3)) (hold: ∀b,b<w0.heap.size→w.heap[b]? =w0.heap[b]?):
  SY ⟨X,B,K⟩ ⟨w0,φ,O0⟩ 73 #[.pointer (some ⟨Bm,0,none⟩),.pointer (some ⟨Bd,0,none⟩)] (r.map fun e=> [e,.any]) (fun b=>b=Bm∨b=Bd) w:=by
 intro l J W0 hg hJ ZM h0
 have Wf:Bm<w.heap.size:=(aiV.1 H5).1
 have Wg:Bd<w.heap.size:=(aiV.1 PY).1
 have aiE:=hg.size
 rw[List.length_map]
 have key:=OR l Bm Bd d (GPh X K (Mu.own ⟨w0,φ,O0⟩) w0.heap.size Bm C d r J) ?grow ?less ?put ?c74 ?c75 ?yield ?fin W0 s0 s1 s2 s3 (fun b=>b=Bm∨b=Bd) (.inl rfl) (.inr rfl) cL ((hg.block _ Wf abW).trans H5) ((hg.block _ Wg abW).trans PY) ?start
 case grow=>
  rintro ph S A B ⟨F,h1,h2,h3,h4,h5⟩ hg
  refine⟨_,hJ.grow _ _ _ _ h1 hg,fun x hx=>hx.imp (h2 x) id,.inl h3,ai2 h4 hg.size,h5.move fun b hb FE hu tO=> ⟨hg.block b hb abW,tO.imp id .inl⟩⟩
 case less=>
  rintro ph S S' A ⟨F,h1,h2,h3,h4,h5⟩ hS
  exact⟨F,h1,fun x hx=>h2 x (hS x hx),h3,h4,h5⟩
 case put=>
  rintro ph S A A' ⟨F,h1,h2,h3,h4,h5⟩ ht
  exact⟨F,hJ.put _ _ _ _ _ h1 h3 ht,h2,h3,by rw[ht.size];exact h4,h5.move fun b hb FE hu tO=> ⟨ht.other b FE,tO⟩⟩
 case c74=>
  rintro k b t0 t1 t2 t3 S W ⟨F,h1,h2,h3,h4,m,evs,hm,hk,Mv,hG,hM⟩ bl
  rw[show 200 - k=(200 - (k+1))+1 by omega] at hG
  obtain⟨c0,a,c2,c3,c4,ok,hc,vC⟩:=Bz hG
  have hs:=hC 644 74 _ _ h74 hc
  have qJ:=bJ.aN (X:=X) (fn:=Tryz.f74) (by rw[hP];exact Tryz.func74) aiQ rfl hs (by simp[V.al,V.aw,iV hm]) rfl (B:=Ban (Mu.own ⟨w0,φ,O0⟩) w0.heap.size Bm F W) (K:=K) (w:=W) (fun b hb=>hb.1) (vals:=[mapVal t0 t1 t2 t3,.int .i64 d,.int .i64 b]) (by simp only[ag,aj];exact⟨hM,trivial,trivial,trivial⟩)
  rw[hP] at qJ
  refine Calls.mono qJ ?_
  rintro e W' ⟨val,rfl,yz,BA⟩
  obtain rfl:=ZL BA
  refine⟨c0,a,c2,c3,c4,ok,rfl,yz,?_⟩
  have mv:=fun {ph:Phase} (h5:RPh X K (Mu.own ⟨w0,φ,O0⟩) w0.heap.size Bm C d r ph F W)=>h5.move (F':=fun b=>F b∨(W.heap.size≤b∧b<W'.heap.size)) (W':=W') fun b hb FE hu tO=> ⟨yz.block b hb abW,tO.imp id .inl⟩
  rcases vC with⟨rfl,rfl⟩ | ⟨rfl,m',err,q1,q2,q3⟩
  ·exact .inr ⟨rfl,_,hJ.grow _ _ _ _ (show J (D9 r .done) F W by rw[show D9 r .done=k from hk];exact h1) yz,fun x hx=> .inl (h2 x hx),.inl h3,ai2 h4 yz.size,trivial⟩
  ·exact .inl ⟨rfl,_,hJ.grow _ _ _ _ h1 yz,fun x hx=> .inl (h2 x hx),.inl h3,ai2 h4 yz.size,mv (ph:= .got k t0 t1 t2 t3 c0 a c2 c3 c4) ⟨m,evs,m',err,hm,hk,bl,q1,q2,q3,hM⟩⟩
 case c75=>
  rintro k t0 t1 t2 t3 c0 a c2 c3 c4 S W ⟨F,h1,h2,h3,h4,m,evs,m',err,hm,hk,bl,hc,Gp,hor,hM⟩
  have hs:=hC 645 75 _ _ h75 hc
  have qJ:=bJ.aN (X:=X) (fn:=Tryz.f75) (by rw[hP];exact Tryz.func75) aiQ rfl hs (by simp[V.al,V.aw,iV hm,Ih]) (by simp[V.al,V.aw,iV Gp]) (B:=Ban (Mu.own ⟨w0,φ,O0⟩) w0.heap.size Bm F W) (K:=K) (w:=W) (fun b hb=>hb.1) (vals:=[mapVal t0 t1 t2 t3,Jr c0 a c2 c3 c4]) (by simp only[ag];exact⟨hM,S7,trivial⟩)
  rw[hP] at qJ
  refine Calls.mono qJ ?_
  rintro e W' ⟨val,rfl,yz,BA⟩
  simp only[aj] at BA
  obtain⟨vs,rfl,nn⟩:=BA
  obtain⟨v1,hv1,rfl⟩:=Wj nn
  obtain⟨u0,u1,u2,u3,rfl⟩:=D7 Gp hv1
  refine⟨u0,u1,u2,u3,err,rfl,yz,?_⟩
  rcases hor with⟨rfl,hG⟩ | ⟨he,rfl⟩
  ·refine .inl ⟨rfl,_,hJ.grow _ _ _ _ h1 yz,fun x hx=> .inl (h2 x hx),.inl h3,ai2 h4 yz.size,m',evs,Gp,hk,bl,hG,?_⟩
   refine D8 (iV Gp) hv1 fun b hb hn=> ⟨rfl,?_⟩
   by_cases hbW:b<W.heap.size
   ·   obtain⟨k1,k0,k2⟩:=ME hbW hn
       exact FD k1 k0 (k2.imp id .inl)
   ·exact FD abV (fun h=>by have:=hU b h;omega) (.inr (.inr ⟨abV,hb⟩))
  ·exact .inr ⟨he,_,hJ.grow _ _ _ _ (show J (D9 r .done) F W by rw[show D9 r .done=k from hk];exact h1) yz,fun x hx=> .inl (h2 x hx),.inl h3,ai2 h4 yz.size,trivial⟩
 case yield=>
  rintro k c0 a c2 c3 c4 t0 t1 t2 t3 S W ⟨F,h1,h2,h3,h4,m,evs,hm,hk,bl,hG,hM⟩
  obtain⟨rest,hr⟩:=vJ hG
  have hx: (r.map fun e=> [e,V.any])[k]? =some [Ih c0 a c2 c3 c4,.any]:=by
   rw[hr,←hk];simp
  have hy:=ZM k F W #[Jr c0 a c2 c3 c4,mapVal t0 t1 t2 t3] _ hx (fun μ=>by simp only[ag];exact⟨S7,by simp[aj],trivial⟩) h1
  rw[show (⟨X,B,K⟩:Ctx).P=Tryz.prog from hP] at hy
  refine Ik hy ?_
  rintro e W' ⟨rfl,q1,q2,q3⟩
  refine⟨rfl,⟨F,q1,h2,h3,?_,?_⟩,fun b hb=>q3 b (h2 b hb)⟩
  ·have:=q3 Bm h3
   rw[ajd h4] at this
   exact(aiV.1 this).1
  ·have h5:RPh X K (Mu.own ⟨w0,φ,O0⟩) w0.heap.size Bm C d r (.head (k+1) a t0 t1 t2 t3) F W:=⟨m,evs++[Ih c0 a c2 c3 c4],hm,by simp[hk],abV,hG,hM⟩
   exact h5.move fun b hb FE hu tO=> ⟨tO.elim (fun h=>q2 b h hu) (q3 b),tO⟩
 case fin=>
  rintro b t0 t1 t2 t3 S W ⟨F,h1,h2,h3,h4,m,evs,hm,hk,Mv,hG,hM⟩
  have:evs=r:=by simpa [gH] using hG
  subst this
  exact⟨F,by show J _ F W;rw[show D9 evs .done=200 from hk];exact h1,h2,h3,h4,trivial⟩
 case start=>
  refine⟨_,h0,fun x hx=>hx,.inl rfl,abV,m,[],hm,rfl,abV,ah,?_⟩
  refine aj.move (μ:=⟨w0,φ,O0⟩) (μ':=⟨W0,Bw,jK⟩) (fun b hb hn=> ⟨(hg.block b (by have:=(aiV.1 H5).1;have:b<w0.heap.size:=hb;omega) abW).trans (hold b hb),fun h=> ?_⟩) (iV hm) hv
  have kK:b<w0.heap.size:=hb
  exact FD abV (fun h=>hn (.inl h)) (.inl kK) (Ij.1 h)
 rw[show (⟨X,B,K⟩:Ctx).P=Tryz.prog from hP]
 refine CallsIn.mono (callsIn_wide.2 (callsIn_wide.1 key):CallsIn (Fr none) 0 Tryz.prog 73 _ W0 _) ?_
 rintro e W' ⟨hv,S,F,hJ9,_⟩
 exact⟨hv,F,hJ9⟩
end Go.AM
