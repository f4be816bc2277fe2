/- Texts of the proof. -/
import Derived.Test.YtgjbecccmiehkaaGreatGaa
import Derived.KernelRfl
set_option maxRecDepth 20000
set_option maxHeartbeats 4000000
set_option linter.unusedSimpArgs false
set_option linter.unusedVariables false
namespace Go.AM.Dr
theorem cn (a:Int):ko a=1∧0 <a∨ko a=0∧a=0∨ko a= -1∧a< 0:=by
 unfold ko
 repeat' split
 all_goals omega
theorem xF (a b:Int):ko a*ko b=ko (a*b):=by
 rcases cn a with⟨e,h⟩ | ⟨e,h⟩ | ⟨e,h⟩ <;>rcases cn b with⟨f,k⟩ | ⟨f,k⟩ | ⟨f,k⟩
 all_goals rw[e,f]
 ·have:=Int.mul_pos h k;unfold ko;rw[if_pos this];rfl
 ·subst k;simp only[Int.mul_zero];rfl
 ·have:=Int.mul_neg_of_pos_of_neg h k;unfold ko;rw[if_neg (by omega),if_pos this];rfl
 ·subst h;simp only[Int.zero_mul];rfl
 ·subst h;simp only[Int.zero_mul];rfl
 ·subst h;simp only[Int.zero_mul];rfl
 ·have:=Int.mul_neg_of_neg_of_pos h k;unfold ko;rw[if_neg (by omega),if_pos this];rfl
 ·subst k;simp only[Int.mul_zero];rfl
 ·have:=Int.mul_pos_of_neg_of_neg h k;unfold ko;rw[if_pos this];rfl
theorem Dd (a b:Int):IntKind.i64.wrap (ko a*ko b)=ko (a*b):=by
 rw[xF]
 have:=cn (a*b)
 exact wrap64 (by omega) (by omega)
theorem I5 {p q:Int} (h:ko p≠ko q):ko (IntKind.i64.wrap (ko p - ko q))=ko (p - q):=by
 have hp:=cn p;have hq:=cn q
 rw[wrap64 (by omega) (by omega)]
 have:=cn (ko p - ko q);have:=cn (p - q)
 omega
theorem I6 {p q:Int} (h:ko p=ko q):ko p*kD p.natAbs q.natAbs=ko (p - q):=by
 have hp:=cn p;have hq:=cn q
 have:=cn (p - q)
 rcases hp with⟨e,h1⟩ | ⟨e,h1⟩ | ⟨e,h1⟩
 ·rw[e];unfold kD;repeat' split
  all_goals omega
 ·rw[e];omega
 ·rw[e];unfold kD;repeat' split
  all_goals omega
theorem De (b d:Int):Ev E 289 [.agg [.int .u64 0,.int .u64 b],.agg [.int .u64 0,.int .u64 d]] ⟨vi (kD b d),[]⟩:=by
 have h:=zn 0 0
 have h2:=zn b d
 have e:kD 0 0=0:=rfl
 rw[e] at h
 refine Ev.aO rfl rfl rfl ?_
 conv=>whnf
 repeat' (first| intro g| apply ca h| apply ca h2| refine st ?_| refine br ?_ ?_<;>intro hc| rfl) <;>conv=>whnf
section
variable {a b:Int} (a0: -40000≤a) (a1:a≤40000) (b0: -40000≤b) (b1:b≤40000)
include a0 a1 b0 b1
theorem zo:Ev E 288 [vi a,vi b] ⟨.agg [.int .u64 0,.int .u64 ((a*b).natAbs:Int)],[]⟩:=by
 have h:=F8 (a:=a.natAbs) (b:=b.natAbs) (by omega) (by omega)
 rw[←Int.natAbs_mul] at h
 have h1:=zm a0 a1
 have h2:=zm b0 b1
 refine Ev.aO rfl rfl rfl ?_
 conv=>whnf
 repeat' (first| intro g| apply ca h| apply ca h1| apply ca h2| refine st ?_| refine br ?_ ?_<;>intro hc| rfl) <;>conv=>whnf
variable {c d:Int} (c0: -40000≤c) (c1:c≤40000) (d0: -40000≤d) (d1:d≤40000)
include c0 c1 d0 d1
theorem Ee:Ev E 277 [vi a,vi b,vi c,vi d] ⟨vi (ko (a*b - c*d)),[]⟩:=by
 have t1:=zo a0 a1 b0 b1
 have t2:=zo c0 c1 d0 d1
 have w1:=Dd a b;have w2:=Dd c d
 by_cases h:ko (a*b)=ko (c*d)
 ·have hm:=I6 h
  have hr:=cn (a*b - c*d)
  have hw:IntKind.i64.wrap (ko (a*b)*kD ((a*b).natAbs:Int) ((c*d).natAbs:Int))=ko (a*b - c*d):=by rw[hm];exact wrap64 (by omega) (by omega)
  refine Ev.aO rfl rfl rfl ?_
  conv=>whnf
  repeat' (first| intro g| apply ca (zl _) | apply ca t1| apply ca t2| apply ca (De _ _) | refine st ?_| refine br ?_ ?_<;>intro hc| rfl) <;>conv=>whnf
  rw[w1,hw]
 ·have hs:=I5 h
  refine Ev.aO rfl rfl rfl ?_
  conv=>whnf
  repeat' (first| intro g| apply ca (zl _) | apply ca t1| apply ca t2| apply ca (De _ _) | refine st ?_| refine br ?_ ?_<;>intro hc| rfl) <;>conv=>whnf
  rw[w1,w2,hs]
end
end Go.AM.Dr
namespace Go.AM.Dr
def lV (p:Pt):Prop:=(-16384≤p.x∧p.x≤16384)∧ -16384≤p.y∧p.y≤16384
instance (p:Pt):Decidable (lV p):=by unfold lV;infer_instance
def dT (a b p:Pt):Int:=(b.x - a.x)*(p.y - a.y) - (b.y - a.y)*(p.x - a.x)
def fb (a b p:Pt):Int:=ko (dT a b p)
def lx (a b:Pt):Prop:=a.x<b.x∨a.x=b.x∧a.y<b.y
instance (a b:Pt):Decidable (lx a b):=by unfold lx;infer_instance
def oh (a b:Pt):Pt:=if lx b a then b else a
def mc (a b:Pt):Pt:=if lx b a then a else b
def di (a b c d:Pt):Pt:=if lx (oh a b) (oh c d) then oh c d else oh a b
def toP (a b c d:Pt):Pt:=if lx (mc c d) (mc a b) then mc c d else mc a b
def jQ (a b c d:Pt):Prop:=fb a b c=0∧fb a b d=0∧fb c d a=0∧fb c d b=0
instance (a b c d:Pt):Decidable (jQ a b c d):=by unfold jQ;infer_instance
def dj (a b c d:Pt):Int:=
 if jQ a b c d then(if lx (toP a b c d) (di a b c d) then 0 else if toP a b c d=di a b c d then 1 else 2)
 else if 0 <fb a b c*fb a b d∨0 <fb c d a*fb c d b then 0 else 1
def nR (a b p:Pt):Prop:=((a.x≤p.x∨b.x≤p.x)∧(p.x≤a.x∨p.x≤b.x))∧(a.y≤p.y∨b.y≤p.y)∧(p.y≤a.y∨p.y≤b.y)
instance (a b p:Pt):Decidable (nR a b p):=by unfold nR;infer_instance
def v8 (a b p:Pt):Bool:=decide (nR a b p∧fb a b p=0)
theorem Ga (a p:Pt):fb a a p=0:=by unfold fb dT;simp[ko]
theorem Gb {a b:Pt} (h:a.x=b.x) (k:a.y=b.y):a=b:=by cases a;cases b;simp_all
theorem fH (a:Pt): ¬lx a a:=by unfold lx;omega
theorem oZ {a b:Pt} (h: ¬lx a b) (k: ¬lx b a):a=b:=by unfold lx at h k;exact Gb (by omega) (by omega)
theorem o6 (a b c d:Pt):dj a b c d=dj c d a b:=by
 have hf:jQ a b c d↔jQ c d a b:=by unfold jQ;constructor<;> (rintro⟨h1,h2,h3,h4⟩;exact⟨h3,h4,h1,h2⟩)
 have h1:di a b c d=di c d a b:=by
  unfold di
  by_cases h:lx (oh a b) (oh c d)
  ·have: ¬lx (oh c d) (oh a b):=by unfold lx at*;omega
   simp[h,this]
  ·by_cases k:lx (oh c d) (oh a b)
   ·simp[h,k]
   ·rw[if_neg h,if_neg k];exact oZ h k
 have h2:toP a b c d=toP c d a b:=by
  unfold toP
  by_cases h:lx (mc c d) (mc a b)
  ·have: ¬lx (mc a b) (mc c d):=by unfold lx at*;omega
   simp[h,this]
  ·by_cases k:lx (mc a b) (mc c d)
   ·simp[h,k]
   ·rw[if_neg h,if_neg k];exact(oZ h k).symm
 unfold dj
 rw[h1,h2]
 simp only[hf,Or.comm (a:=0 <fb a b c*fb a b d)]
theorem Ku {D E u v:Int} (hD:0 <D) (h:D*v=E*u) (h0:0≤u) (h1:u≤D): (0≤E→0≤v∧v≤E)∧(E< 0→E≤v∧v≤0):=by
 constructor
 ·intro hE
  have k1:=Int.mul_nonneg hE h0
  have k2:=Int.mul_le_mul_of_nonneg_left h1 hE
  exact⟨Int.le_of_mul_le_mul_left (a:=D) (by rw[Int.mul_zero];omega) hD,Int.le_of_mul_le_mul_left (a:=D) (by rw[h,Int.mul_comm D E];exact k2) hD⟩
 ·intro hE
  have k1:=Int.mul_nonneg (a:= -E) (by omega) h0
  have k2:=Int.mul_le_mul_of_nonneg_left h1 (show 0≤ -E by omega)
  simp only[Int.neg_mul] at k1 k2
  exact⟨Int.le_of_mul_le_mul_left (a:=D) (by rw[h,Int.mul_comm D E];omega) hD,Int.le_of_mul_le_mul_left (a:=D) (by rw[Int.mul_zero];omega) hD⟩
theorem Gc {a b p:Pt} (Iu:a.x<b.x) (h: (b.x - a.x)*(p.y - a.y)=(b.y - a.y)*(p.x - a.x)): (¬lx p a∧ ¬lx b p)↔nR a b p:=by
 have hD:0 <b.x - a.x:=by omega
 unfold lx nR
 constructor
 ·rintro⟨h1,h2⟩
  have:=Ku hD h (by omega) (by omega)
  omega
 ·intro hb
  have:=Ku hD h (by omega) (by omega)
  have e0:p.x - a.x=0→p.y - a.y=0:=fun e=>by
   rw[e,Int.mul_zero] at h
   exact(Int.mul_eq_zero.1 h).resolve_left (by omega)
  have e1:p.x=b.x→p.y=b.y:=fun e=>by
   rw[e,Int.mul_comm (b.y - a.y)] at h
   have:=Int.eq_of_mul_eq_mul_left (by omega) h
   omega
  omega
theorem Gd (a b p:Pt):dT b a p= - dT a b p:=by
 unfold dT
 have e1: (a.x - b.x)*(p.y - b.y)=(b.x - a.x)*(b.y - p.y):=by rw[←Int.neg_mul_neg];congr 1 <;>omega
 have e2: (a.y - b.y)*(p.x - b.x)=(b.y - a.y)*(b.x - p.x):=by rw[←Int.neg_mul_neg];congr 1 <;>omega
 have e3: (b.x - a.x)*(b.y - p.y)=(b.x - a.x)*(b.y - a.y) - (b.x - a.x)*(p.y - a.y):=by rw[←Int.mul_sub];congr 1;omega
 have e4: (b.y - a.y)*(b.x - p.x)=(b.x - a.x)*(b.y - a.y) - (b.y - a.y)*(p.x - a.x):=by rw[Int.mul_comm (b.x - a.x) (b.y - a.y),←Int.mul_sub];congr 1;omega
 omega
theorem jm {a b p:Pt} (h:fb a b p=0): (¬lx p (oh a b)∧ ¬lx (mc a b) p)↔nR a b p:=by
 have e:dT a b p=0:=by have:=cn (dT a b p);unfold fb at h;omega
 have hd: (b.x - a.x)*(p.y - a.y)=(b.y - a.y)*(p.x - a.x):=by unfold dT at e;omega
 rcases Int.lt_trichotomy a.x b.x with Iu| Iu| Iu
 ·have hn: ¬lx b a:=by unfold lx;omega
  unfold oh mc
  rw[if_neg hn,if_neg hn]
  exact Gc Iu hd
 ·have hz: (b.y - a.y)*(p.x - a.x)=0:=by rw[←hd,show b.x - a.x=0 by omega,Int.zero_mul]
  have hx:b.y≠a.y→p.x=a.x:=fun bQ=>by
   have:=(Int.mul_eq_zero.1 hz).resolve_left (by omega)
   omega
  unfold oh mc
  by_cases hn:lx b a
  ·rw[if_pos hn,if_pos hn]
   clear hd hz e h
   unfold lx nR at*;omega
  ·rw[if_neg hn,if_neg hn]
   clear hd hz e h
   unfold lx nR at*;omega
 ·have hn:lx b a:=by unfold lx;omega
  unfold oh mc
  rw[if_pos hn,if_pos hn]
  have e':dT b a p=0:=by rw[Gd,e];rfl
  have:=Gc (p:=p) Iu (by unfold dT at e';omega)
  rw[this]
  unfold nR;omega
theorem Ge (a p:Pt):fb p p a=0:=Ga p a
theorem I7 (a b p:Pt):decide (dj a b p p=1)=v8 a b p:=by
 have hl:oh p p=p:=by unfold oh;split<;>rfl
 have hh:mc p p=p:=by unfold mc;split<;>rfl
 unfold v8
 congr 1
 apply propext
 by_cases h:fb a b p=0
 ·have hf:jQ a b p p:=⟨h,h,Ge _ _,Ge _ _⟩
  rw[←jm h]
  unfold dj di toP
  rw[if_pos hf,hl,hh]
  by_cases h1:lx (oh a b) p
  ·have vU: ¬lx p (oh a b):=by unfold lx at*;omega
   rw[if_pos h1]
   by_cases h2:lx p (mc a b)
   ·have BE: ¬lx (mc a b) p:=by unfold lx at*;omega
    rw[if_pos h2,if_neg (fH p),if_pos rfl]
    simp[h,vU,BE]
   ·rw[if_neg h2]
    by_cases h3:lx (mc a b) p
    ·rw[if_pos h3];simp[h3]
    · have:=oZ h2 h3
      rw[if_neg h3,if_pos this.symm];simp[h,vU,h3]
  ·rw[if_neg h1]
   by_cases h4:lx p (oh a b)
   ·have h5:lx p (mc a b):=by unfold oh mc at*;split at h4<;> (rename_i hq;simp only[hq,if_true,if_false];unfold lx at*;omega)
    rw[if_pos h5,if_pos h4];simp[h4]
   ·have e:=oZ h1 h4
    rw[e]
    by_cases h2:lx p (mc a b)
    · have BE: ¬lx (mc a b) p:=by unfold lx at*;omega
      rw[if_pos h2,if_neg (fH p),if_pos rfl]
      simp[h,fH,BE]
    · rw[if_neg h2]
      by_cases h3:lx (mc a b) p
      ·rw[if_pos h3];simp[h3]
      ·have:=oZ h2 h3
       rw[if_neg h3,if_pos this.symm];simp[h,fH,h3]
 ·have hf: ¬jQ a b p p:=fun k=>h k.1
  have hs:0 <fb a b p*fb a b p:=by
   have:=cn (dT a b p)
   unfold fb at h ⊢
   rcases this with⟨e,_⟩ | ⟨e,_⟩ | ⟨e,_⟩
   ·rw[e];decide
   ·exact absurd e h
   ·rw[e];decide
  unfold dj
  rw[if_neg hf,if_pos (.inl hs)]
  simp[h]
end Go.AM.Dr
namespace Go.AM
def Wn (a:Bool) (sz:Nat):aM:=
  (.seq (.region [od 9 (.bin .lss (.tmp 8) (.tmp 7))])
  (.seq (.cond (.tmp 9)
  .skip
  (.exit 0))
  (.seq (.block 1 (.seq (.region [od 10 (.move (.tmp 8)),od 5 (.move (.tmp 10))])
  (.seq (.region [od 11 (.move (.tmp 1)),od 12 (.move (.tmp 0)),od 13 (.move (.tmp 5)),od 14 (.indexAddr sz (.tmp 12) (.tmp 13)),
 od 15 (.load a sz (.tmp 14)),od 16 (.call 272 false (.tmp 11) [(.tmp 15)])])
  (.cond (.tmp 16)
  (.seq (.region [od 17 (.move (.tmp 5)),od 4 (.move (.tmp 17))])
  .ret)
  .skip))))
  (.region [od 18 (.bin .add (.tmp 8) (ic 1)),od 8 (.move (.tmp 18))]))))
def UW (a:Bool) (sz:Nat):bF:=⟨2,19,[],[.tmp 4],(.seq (.region [od 4 (.move (ic 0))])
 (.seq (.seq (.region [od 6 (.move (.tmp 0)),od 7 (.len (.tmp 6)),od 8 (.move (ic 0))])
 (.block 0 (.loop (Wn a sz))))
 (.seq (.region [od 4 (.move (ic (-1)))])
 .ret))),none⟩
theorem xG {α:Type} {v:α→V} {a:Bool} {sz k:Nat} (hv: ∀x,(v x).aq=true) (hq: ∀x,mq a 0 sz (v x)= .done (v x)) {l:List α} {g:Nat} {caps:List V} (OO:V.al caps=true) {p:α→Bool} (hlen:l.length< 4611686018427387904)
  (hp: ∀x,Ev E g (v x::caps) ⟨.bool (p x),[]⟩) (hm:du E g=[]) (hF:E.fn k=some (UW a sz):=by rfl) (hX: ∀gj,E.ext k gj=none:=by intro _;rfl) (hh:E.hyb k=none:=by rfl):Ev E k [.lit sz (l.map v),.fn g caps] ⟨vi (firstIdx p l),[]⟩:=by
 have I8:V.al (l.map v)=true:=AM.cA hv l
 refine Ev.aO hF (hX _) rfl ?_ rfl hh
 conv=>whnf
 repeat' (first| intro g| refine nd (by simp[V.al,V.aq,OO,I8]) ?_| refine st ?_| refine br ?_ ?_<;>intro hc| rfl) <;>conv=>whnf
 refine a8.by (fun i:Nat=> ⟨[(0,.lit sz (l.map v)),(1,.fn g caps),(7,aL (l.map v).length),(8,aL i)],[]⟩) (fun i=>i≤l.length∧ ∀ (j:Nat) y,j<i→l[j]? =some y→p y=false) (fun i=>l.length - i) 0 ?_ ?_ ?_
 ·exact su
 ·simp
 rintro i ⟨hi,ig⟩
 have b7:=OO
 by_cases bz:i<l.length
 ·have hx:l[i]? =some l[i]:=bp bz
  have UX:=hp l[i]
  have UY:=hq l[i]
  have QL:=hv l[i]
  generalize l[i]=x at hx UX UY QL
  have wb: (l.map v)[i]? =some (v x):=by simp[hx]
  have Kh:V.al (v x::caps)=true:=by simp only[V.al,QL,OO];rfl
  conv=>whnf
  repeat' (first| intro g| refine wi wb ?_| refine st ?_| refine br ?_ ?_<;>intro hc| rfl| refine xB hm Kh UX rfl ?_| ((change ei E (mq a 0 sz (v x)) _ _;rw[UY]))) <;>conv=>whnf
  ·rw[mm ig hx hc]
  ·refine bo.mk (i+1) om ?_ su
   refine⟨Zl,fun j y hj hy=> ?_⟩
   by_cases e:j=i
   ·subst e
    rw[hx] at hy
    injection hy with hy;subst hy;exact hc
   ·exact ig j y Zl hy
 ·conv=>whnf
  repeat' (first| intro g| refine st ?_| refine br ?_ ?_<;>intro hc| rfl) <;>conv=>whnf
  rw[firstIdx_none fun j y hy=>ig j y (by have:=(Zs.1 hy).1;omega) hy]
def Wo (j:Nat):bF:=⟨2,9,[],[.tmp 4],(.seq (.region [od 4 (.move (.const (.bool false)))])
  (.seq (.region [od 5 (.move (.tmp 0)),od 6 (.move (.tmp 1)),od 7 (.call 128 false (fc j) [(.tmp 5),(.tmp 6)]),od 8 (.bin .geq (.tmp 7) (ic 0)),
 od 4 (.move (.tmp 8))])
  .ret)),none⟩
theorem uo {α:Type} {v:α→V} {a:Bool} {sz k j:Nat} (hv: ∀x,(v x).aq=true) (hq: ∀x,mq a 0 sz (v x)= .done (v x)) {l:List α} {g:Nat} {caps:List V} (hc:V.al caps=true) {p:α→Bool} (hlen:l.length< 4611686018427387904)
  (hp: ∀x,Ev E g (v x::caps) ⟨.bool (p x),[]⟩) (hm:du E g=[]) (hF:E.fn j=some (UW a sz):=by rfl) (hX: ∀gj,E.ext j gj=none:=by intro _;rfl) (hh:E.hyb j=none:=by rfl)
  (kF:E.fn k=some (Wo j):=by rfl) (kX: ∀gj,E.ext k gj=none:=by intro _;rfl) (kh:E.hyb k=none:=by rfl):Ev E k [.lit sz (l.map v),.fn g caps] ⟨.bool (decide (0≤firstIdx p l)),[]⟩:=by
 have h:=xG (k:=j) hv hq hc hlen hp hm hF hX hh
 have I8:V.al (l.map v)=true:=AM.cA hv l
 have SY:du E j=[]:=by simp only[du,hF];rfl
 refine Ev.aO kF (kX _) rfl ?_ rfl kh
 conv=>whnf
 repeat' (first| intro g| refine nd (by simp[V.al,V.aq,hc,I8]) ?_| refine st ?_| refine br ?_ ?_<;>intro hc| rfl) <;>conv=>whnf
 refine xB SY (by simp[V.al,V.aq,hc,I8]) h rfl ?_
 exact dr
end Go.AM
namespace Go.AM.Dr
theorem Gf {l:List Int} {g:Nat} {caps:List V} (hc:V.al caps=true) {p:Int→Bool} (hlen:l.length< 4611686018427387904)
  (hp: ∀x:Int,Ev E g (vi x::caps) ⟨.bool (p x),[]⟩) (hm:du E g=[]):Ev E 259 [.lit 1 (l.map vi),.fn g caps] ⟨.bool (decide (0≤firstIdx p l)),[]⟩:=by
 exact uo (a:=false) (j:=280) (fun _=>rfl) (fun _=>rfl) hc hlen hp hm
theorem zp {l:List Pt} {g:Nat} {caps:List V} (hc:V.al caps=true) {p:Pt→Bool} (hlen:l.length< 4611686018427387904)
  (hp: ∀x:Pt,Ev E g (Pt.v x::caps) ⟨.bool (p x),[]⟩) (hm:du E g=[]):Ev E 187 [.lit 2 (l.map Pt.v),.fn g caps] ⟨.bool (decide (0≤firstIdx p l)),[]⟩:=by
 exact uo (a:=true) (j:=224) (fun _=>rfl) (fun _=>rfl) hc hlen hp hm
theorem Ef {l:List Place} {g:Nat} {caps:List V} (hc:V.al caps=true) {p:Place→Bool} (hlen:l.length< 4611686018427387904)
  (hp: ∀x:Place,Ev E g (Place.v x::caps) ⟨.bool (p x),[]⟩) (hm:du E g=[]):Ev E 554 [.lit 7 (l.map Place.v),.fn g caps] ⟨.bool (decide (0≤firstIdx p l)),[]⟩:=by
 exact uo (a:=true) (j:=33) (fun _=>rfl) (fun _=>rfl) hc hlen hp hm
theorem Gg {l:List Edge} {g:Nat} {caps:List V} (hc:V.al caps=true) {p:Edge→Bool} (hlen:l.length< 4611686018427387904)
  (hp: ∀x:Edge,Ev E g (Edge.v x::caps) ⟨.bool (p x),[]⟩) (hm:du E g=[]):Ev E 216 [.lit 4 (l.map Edge.v),.fn g caps] ⟨vi (firstIdx p l),[]⟩:=by
 exact xG (a:=true) (fun _=>rfl) (fun _=>rfl) hc hlen hp hm
theorem Gh {l:List da} {g:Nat} {caps:List V} (hc:V.al caps=true) {p:da→Bool} (hlen:l.length< 4611686018427387904)
  (hp: ∀x:da,Ev E g (da.v x::caps) ⟨.bool (p x),[]⟩) (hm:du E g=[]):Ev E 179 [.lit 5 (l.map da.v),.fn g caps] ⟨vi (firstIdx p l),[]⟩:=by
 exact xG (a:=true) (fun _=>rfl) (fun _=>rfl) hc hlen hp hm
end Go.AM.Dr
namespace Go.AM.Dr
theorem nz {α:Type} (p:α→Bool) (l:List α):decide (0≤firstIdx p l)=l.any p:=by
 rcases er p l with⟨h,k⟩ | ⟨i,x,h,k,hp⟩
 ·rw[h]
  symm
  rw[show decide ((0:Int)≤ -1)=false from rfl,List.any_eq_false]
  intro x hx
  obtain⟨i,hi,rfl⟩:=List.getElem_of_mem hx
  simp[k i _ (bp hi)]
 ·rw[h]
  symm
  rw[decide_eq_true (by omega),List.any_eq_true]
  exact⟨x,List.mem_of_getElem? k,hp⟩
theorem OP {n:Int} (h0:0≤n) (h1:n≤1152921504606846976) (x:Int):Ev E 260 [vi x,.eptr (vi n) 0] ⟨.bool (decide (x< -n∨n<x)),[]⟩:=by
 have hw:IntKind.i64.wrap (0 - n)= -n:=wt
 refine Ev.aO rfl rfl rfl ?_
 conv=>whnf
 repeat' (first| intro g| refine st ?_| refine br ?_ ?_<;>intro hc| rfl) <;>conv=>whnf
 ·rw[hw] at hc
  rw[decide_eq_true (Or.inl hc)]
 ·rw[hw] at hc
  simp[hc]
theorem wc {n:Int} (h0:0≤n) (h1:n≤1152921504606846976) (x y:Int):Ev E 227 [vi n,.lit 1 [vi x,vi y]] ⟨.bool (decide ((-n≤x∧x≤n)∧ -n≤y∧y≤n)),[]⟩:=by
 have h:Ev E 259 [.lit 1 [vi x,vi y],.fn 260 [.eptr (vi n) 0]] ⟨_,[]⟩:=Gf (l:=[x,y]) (caps:=[.eptr (vi n) 0]) rfl (by simp) (OP h0 h1) rfl
 rw[nz] at h
 have e: (!([x,y].any fun x=>decide (x< -n∨n<x)))=decide ((-n≤x∧x≤n)∧ -n≤y∧y≤n):=by
  rw[Bool.eq_iff_iff]
  simp only[List.any_cons,List.any_nil,Bool.or_false,Bool.not_eq_true',Bool.or_eq_false_iff,decide_eq_false_iff_not,decide_eq_true_eq]
  omega
 refine Ev.aO rfl rfl rfl ?_
 rw[←e]
 conv=>whnf
 repeat' (first| intro g| apply ca h| refine st ?_| refine br ?_ ?_<;>intro hc| rfl) <;>conv=>whnf
def Eg (p:Pt):Prop:=(-1152921504606846976≤p.x∧p.x≤1152921504606846976)∧ -1152921504606846976≤p.y∧p.y≤1152921504606846976
instance (p:Pt):Decidable (Eg p):=by unfold Eg;infer_instance
theorem lV.Wp {p:Pt} (h:lV p):Eg p:=by unfold lV Eg at*;omega
theorem OQ (p:Pt):Ev E 276 [p.v] ⟨.bool (!decide (Eg p)),[]⟩:=by
 have h:=wc (n:=1152921504606846976) (by omega) (by omega) p.x p.y
 refine Ev.aO rfl rfl rfl ?_
 conv=>whnf
 repeat' (first| intro g| apply ca h| refine st ?_| refine br ?_ ?_<;>intro hc| rfl) <;>conv=>whnf
theorem Gi {l:List Pt} (hl:l.length< 1000) (hk: ∀p ∈ l,lV p):Ev E 251 [.lit 2 (l.map Pt.v)] ⟨.bool true,[]⟩:=by
 have h:=zp (l:=l) (caps:=[]) rfl (by omega) OQ rfl
 rw[nz] at h
 have e: (l.any fun p=> !decide (Eg p))=false:=by
  rw[List.any_eq_false]
  intro p hp;simp[(hk p hp).Wp]
 rw[e] at h
 refine Ev.aO rfl rfl rfl ?_
 conv=>whnf
 repeat' (first| intro g| apply ca h| refine st ?_| refine br ?_ ?_<;>intro hc| rfl) <;>conv=>whnf
theorem BF (p:Pt):Ev E 189 [p.v] ⟨.bool (decide (lV p)),[]⟩:=by
 have h:=wc (n:=16384) (by omega) (by omega) p.x p.y
 refine Ev.aO rfl rfl rfl ?_
 conv=>whnf
 repeat' (first| intro g| apply ca h| refine st ?_| refine br ?_ ?_<;>intro hc| rfl) <;>conv=>whnf
theorem OR (p:Pt):Ev E 220 [p.v] ⟨.bool (!decide (lV p)),[]⟩:=by
 refine Ev.aO rfl rfl rfl ?_
 conv=>whnf
 repeat' (first| intro g| apply ca (BF _) | refine st ?_| refine br ?_ ?_<;>intro hc| rfl) <;>conv=>whnf
def jn (l:List Pt):Bool:=l.all fun p=>decide (lV p)
theorem uq {l:List Pt} (hl:l.length< 1000000):Ev E 181 [.lit 2 (l.map Pt.v)] ⟨.bool (jn l),[]⟩:=by
 have h:=zp (l:=l) (caps:=[]) rfl (by omega) OR rfl
 rw[nz] at h
 have e: (!(l.any fun p=> !decide (lV p)))=jn l:=by
  unfold jn
  rw[List.all_eq_not_any_not]
 refine Ev.aO rfl rfl rfl ?_
 rw[←e]
 conv=>whnf
 repeat' (first| intro g| apply ca h| refine st ?_| refine br ?_ ?_<;>intro hc| rfl) <;>conv=>whnf
theorem xH (a b:Pt):Ev E 37 [a.v,b.v] ⟨(Pt.mk (vr (a.x - b.x)) (vr (a.y - b.y))).v,[]⟩:=by
 refine Ev.aO rfl rfl rfl ?_
 conv=>whnf
 repeat' (first| intro g| refine st ?_| refine br ?_ ?_<;>intro hc| rfl) <;>conv=>whnf
theorem Df {a b:Pt} (ha:lV a) (hb:lV b):Ev E 37 [a.v,b.v] ⟨(Pt.mk (a.x - b.x) (a.y - b.y)).v,[]⟩:=by
 have h:=xH a b
 unfold lV at ha hb
 rwa [BB (by omega) (by omega),BB (by omega) (by omega)] at h
theorem jR {a b p:Pt} (ha:lV a) (hb:lV b) (hp:lV p):Ev E 252 [a.v,b.v,p.v] ⟨vi (fb a b p),[]⟩:=by
 have QM:Ev E 251 [.lit 2 [a.v,b.v,p.v]] ⟨.bool true,[]⟩:=Gi (l:=[a,b,p]) (by simp) (by simp;exact⟨ha,hb,hp⟩)
 have s1:=Df hb ha
 have s2:=Df hp ha
 have SZ:=Ga a p
 unfold lV at ha hb hp
 have hs:=Ee (a:=b.x - a.x) (b:=p.y - a.y) (c:=b.y - a.y) (d:=p.x - a.x) (by omega) (by omega) (by omega) (by omega) (by omega) (by omega) (by omega) (by omega)
 refine Ev.aO rfl rfl rfl ?_
 conv=>whnf
 repeat' (first| intro g| apply ca QM| apply ca s1| apply ca s2| apply ca hs| refine st ?_| refine br ?_ ?_<;>intro hc| rfl) <;>conv=>whnf
 have e:a.x=b.x∧a.y=b.y:=by simpa using hc
 obtain rfl:=Gb e.1 e.2
 rw[SZ]
def BG (a b:Pt):Int:=Ed (kD a.x b.x) (kD a.y b.y)
theorem qc (a b:Pt):BG a b= -1∧lx a b∨BG a b=1∧lx b a∨BG a b=0∧a=b:=by
 by_cases h:lx a b
 ·left;refine⟨?_,h⟩
  unfold BG Ed kD lx at*;repeat' split
  all_goals omega
 ·by_cases k:lx b a
  ·right;left;refine⟨?_,k⟩
   unfold BG Ed kD lx at*;repeat' split
   all_goals omega
  ·have:=oZ h k
   subst this
   right;right;refine⟨?_,rfl⟩
   unfold BG Ed kD;repeat' split
   all_goals omega
theorem mF (a b:Pt):Ev E 254 [a.v,b.v] ⟨vi (BG a b),[]⟩:=by
 refine Ev.aO rfl rfl rfl ?_
 conv=>whnf
 repeat' (first| intro g| apply ca (oY _ _) | apply ca (F7 _ _) | refine st ?_| refine br ?_ ?_<;>intro hc| rfl) <;>conv=>whnf
theorem uk (a b:Pt):Ev E 253 [.msl 2 [a.v,b.v] 0 2,.fn 254 []] ⟨.tuple [],[(0,[(oh a b).v,(mc a b).v])]⟩:=by
 have hp:=nA (ny 0 1) [[a.x,a.y],[b.x,b.y]]
 have hs:=(Go.Sort.pdq_sorts (Go.Proofs.ltOf (Ft 0 1)) (ny 0 1) [[a.x,a.y],[b.x,b.y]].toArray 0 2 (Go.Lib.bitLen 2) true true (by omega) (by simp) (.inl rfl)).2 0 1 (by omega) (by omega) (by omega)
 have hex:E.ext 253 [.msl 2 [a.v,b.v] 0 2,.fn 254 []]=some ⟨.tuple [],[(0,(o7 (Ft 0 1) [[a.x,a.y],[b.x,b.y]]).map nS)]⟩:=rfl
 obtain⟨L,hL⟩: ∃L,o7 (Ft 0 1) [[a.x,a.y],[b.x,b.y]]=L:=⟨_,rfl⟩
 have hD:Go.Sort.pdq (Go.Proofs.ltOf (Ft 0 1)) [[a.x,a.y],[b.x,b.y]].toArray 0 2 (Go.Lib.bitLen 2) true true=L.toArray:=by rw[←hL];unfold o7;simp
 rw[hD] at hs
 rw[hL] at hp hex
 clear hD hL
 refine Ev.ext (hex.trans ?_)
 match L,hp.length_eq with
 | [u,v],_=>
   have fw:Go.Proofs.ltOf (Ft 0 1) v u=false:=by simpa using hs
   rw[xI] at fw
   have hc: (u=[a.x,a.y]∧v=[b.x,b.y])∨(u=[b.x,b.y]∧v=[a.x,a.y]):=by
     have hm:=(hp.mem_iff (a:=u)).1 (by simp)
     simp only[List.mem_cons,List.not_mem_nil,or_false] at hm
     rcases hm with rfl| rfl
     ·exact .inl ⟨rfl,by simpa using (List.perm_cons _).1 hp⟩
     ·exact .inr ⟨rfl,by simpa using (List.perm_cons _).1 (hp.trans (List.Perm.swap _ _ _))⟩
   rcases hc with⟨rfl,rfl⟩ | ⟨rfl,rfl⟩
   · have hn: ¬lx b a:=by unfold lx;simpa using fw
     unfold oh mc
     rw[if_neg hn,if_neg hn];rfl
   · have hn: ¬lx a b:=by unfold lx;simpa using fw
     unfold oh mc
     by_cases h:lx b a
     ·rw[if_pos h,if_pos h];rfl
     ·obtain rfl:=oZ hn h
      first| rfl| (rw[if_neg h,if_neg h];rfl) | (simp only[if_neg h];rfl)
theorem I9 (p q:Pt):Ev E 255 [.lit 2 [p.v,q.v],.fn 254 []] ⟨(if lx p q then q else p).v,[]⟩:=by
 have hc:=qc p q
 have qd:=qc q p
 refine Ev.aO rfl rfl rfl ?_
 have hm:du E 254=[]:=rfl
 conv=>whnf
 repeat' (first| intro g| refine st ?_| refine br ?_ ?_<;>intro hc| rfl) <;>conv=>whnf
 rename_i g1
 refine a8.by (fun ((i,r):Nat×Pt)=> ⟨[(0,.lit 2 [p.v,q.v]),(1,.fn 254 []),(4,.ptr 80 g1 0 0),(5,.ptr 96 g 0 0),(6,aL (i+1))],[(80,⟨g1,2,false,false,some [.agg [vi 0,vi 0]]⟩),(96,⟨g,2,false,false,some [r.v]⟩)]⟩)
  (fun (i,r)=>i≤1∧(i=0→r=p)∧(i=1→r=if lx p q then q else p)) (fun (i,_)=>1 - i) (0,p) su ⟨by simp,by simp,by simp⟩ ?_
 rintro⟨i,r⟩ ⟨hi,Lt,tg⟩
 try dsimp only at hi Lt tg
 rcases(by omega:i=0∨i=1) with rfl| rfl
 ·obtain rfl:=Lt rfl
  conv=>whnf
  repeat' (first| intro g| refine sf (mF _ _) ?_| refine st ?_| refine br ?_ ?_<;>intro hc| rfl) <;>conv=>whnf
  ·refine bo.mk (1,q) om ⟨by simp,by simp,fun _=> ?_⟩ su
   rw[if_pos]
   rcases qd with⟨e,k⟩ | ⟨e,k⟩ | ⟨e,k⟩
   ·first| exact k| omega
   ·first| exact k| omega
   ·omega
  ·refine bo.mk (1,r) om ⟨by simp,by simp,fun _=> ?_⟩ su
   rw[if_neg]
   intro h
   rcases qd with⟨e,k⟩ | ⟨e,k⟩ | ⟨e,k⟩
   ·first| omega| (unfold lx at*;omega)
   ·first| omega| (unfold lx at*;omega)
   ·subst k;exact fH _ h
 ·obtain rfl:=tg rfl
  conv=>whnf
  repeat' (first| intro g| refine st ?_| refine br ?_ ?_<;>intro hc| rfl) <;>conv=>whnf
theorem Ja (p q:Pt):Ev E 175 [.lit 2 [p.v,q.v],.fn 254 []] ⟨(if lx q p then q else p).v,[]⟩:=by
 have hc:=qc p q
 have qd:=qc q p
 refine Ev.aO rfl rfl rfl ?_
 have hm:du E 254=[]:=rfl
 conv=>whnf
 repeat' (first| intro g| refine st ?_| refine br ?_ ?_<;>intro hc| rfl) <;>conv=>whnf
 rename_i g1
 refine a8.by (fun ((i,r):Nat×Pt)=> ⟨[(0,.lit 2 [p.v,q.v]),(1,.fn 254 []),(4,.ptr 80 g1 0 0),(5,.ptr 96 g 0 0),(6,aL (i+1))],[(80,⟨g1,2,false,false,some [.agg [vi 0,vi 0]]⟩),(96,⟨g,2,false,false,some [r.v]⟩)]⟩)
  (fun (i,r)=>i≤1∧(i=0→r=p)∧(i=1→r=if lx q p then q else p)) (fun (i,_)=>1 - i) (0,p) su ⟨by simp,by simp,by simp⟩ ?_
 rintro⟨i,r⟩ ⟨hi,Lt,tg⟩
 try dsimp only at hi Lt tg
 rcases(by omega:i=0∨i=1) with rfl| rfl
 ·obtain rfl:=Lt rfl
  conv=>whnf
  repeat' (first| intro g| refine sf (mF _ _) ?_| refine st ?_| refine br ?_ ?_<;>intro hc| rfl) <;>conv=>whnf
  ·refine bo.mk (1,q) om ⟨by simp,by simp,fun _=> ?_⟩ su
   rw[if_pos]
   rcases qd with⟨e,k⟩ | ⟨e,k⟩ | ⟨e,k⟩
   ·first| exact k| omega
   ·first| exact k| omega
   ·omega
  ·refine bo.mk (1,r) om ⟨by simp,by simp,fun _=> ?_⟩ su
   rw[if_neg]
   intro h
   rcases qd with⟨e,k⟩ | ⟨e,k⟩ | ⟨e,k⟩
   ·first| omega| (unfold lx at*;omega)
   ·first| omega| (unfold lx at*;omega)
   ·subst k;exact fH _ h
 ·obtain rfl:=tg rfl
  conv=>whnf
  repeat' (first| intro g| refine st ?_| refine br ?_ ?_<;>intro hc| rfl) <;>conv=>whnf
end Go.AM.Dr
namespace Go.AM.Dr
section
variable {a b c d p:Pt} (ha:lV a) (hb:lV b) (hc:lV c) (hd:lV d) (hp:lV p)
include ha hb hc hd in
theorem Dg:Ev E 222 [a.v,b.v,c.v,d.v] ⟨vi (dj a b c d),[]⟩:=by
 have QM:Ev E 251 [.lit 2 [a.v,b.v,c.v,d.v]] ⟨.bool true,[]⟩:=Gi (l:=[a,b,c,d]) (by simp) (by simp;exact⟨ha,hb,hc,hd⟩)
 have s1:=jR ha hb hc
 have s2:=jR ha hb hd
 have s3:=jR hc hd ha
 have s4:=jR hc hd hb
 have r1:=cn (dT a b c);have r2:=cn (dT a b d);have r3:=cn (dT c d a);have r4:=cn (dT c d b)
 have w1:IntKind.i64.wrap (fb a b c*fb a b d)=fb a b c*fb a b d:=by unfold fb;rw[Dd,xF]
 have w2:IntKind.i64.wrap (fb c d a*fb c d b)=fb c d a*fb c d b:=by unfold fb;rw[Dd,xF]
 have h1:=uk a b
 have h2:=uk c d
 refine Ev.aO rfl rfl rfl ?_
 by_cases hf:jQ a b c d
 ·have hm:dj a b c d=if lx (toP a b c d) (di a b c d) then 0 else if toP a b c d=di a b c d then 1 else 2:=by unfold dj;rw[if_pos hf]
  rw[hm]
  obtain⟨f1,f2,f3,f4⟩:=hf
  rw[f1] at s1;rw[f2] at s2;rw[f3] at s3;rw[f4] at s4
  have Dh:Ev E 255 [.lit 2 [(oh a b).v,(oh c d).v],.fn 254 []] ⟨(di a b c d).v,[]⟩:=I9 _ _
  have Wq:Ev E 175 [.lit 2 [(mc a b).v,(mc c d).v],.fn 254 []] ⟨(toP a b c d).v,[]⟩:=Ja _ _
  have OO:=mF (toP a b c d) (di a b c d)
  have hl:=qc (toP a b c d) (di a b c d)
  conv=>whnf
  repeat' (first| intro g| refine nd ⟨rfl,rfl,rfl⟩ ?_| apply ca QM| apply ca s1| apply ca s2| apply ca s3| apply ca s4| apply ca h1| apply ca h2| apply ca Dh| apply ca Wq| apply ca OO| refine st ?_| refine br ?_ ?_<;>intro hc| rfl) <;>conv=>whnf
  rcases hl with⟨e,k⟩ | ⟨e,k⟩ | ⟨e,k⟩
  ·rw[e,if_pos k];rfl
  ·have k1: ¬lx (toP a b c d) (di a b c d):=fun h=>by unfold lx at*;omega
   have k2:toP a b c d≠di a b c d:=fun h=>by rw[h] at k;exact fH _ k
   rw[e,if_neg k1,if_neg k2];rfl
  ·rw[e,k,if_neg (fH _),if_pos rfl];rfl
 ·have hm:dj a b c d=if 0 <fb a b c*fb a b d∨0 <fb c d a*fb c d b then 0 else 1:=by unfold dj;rw[if_neg hf]
  rw[hm]
  conv=>whnf
  repeat' (first| intro g| refine nd ⟨rfl,rfl,rfl⟩ ?_| apply ca QM| apply ca s1| apply ca s2| apply ca s3| apply ca s4| apply ca h1| apply ca h2| refine st ?_| refine br ?_ ?_<;>intro hc| rfl) <;>conv=>whnf
  all_goals (try simp only[w1,w2] at*)
  all_goals first
   | rw[if_pos (by omega)]
   | rw[if_neg (by omega)]
   | (exfalso;simp at*;exact hf (by unfold jQ;simp[*]))
   | (exfalso;exact hf (by unfold jQ;simp_all))
   | trace_state
end
end Go.AM.Dr
namespace Go.AM.Dr
section
variable {a b c d p:Pt} (ha:lV a) (hb:lV b) (hc:lV c) (hd:lV d) (hp:lV p)
include ha hb hp in
theorem xJ:Ev E 223 [a.v,b.v,p.v] ⟨.bool (v8 a b p),[]⟩:=by
 have h:=Dg ha hb hp hp
 rw[←I7]
 refine Ev.aO rfl rfl rfl ?_
 conv=>whnf
 repeat' (first| intro g| apply ca h| refine st ?_| refine br ?_ ?_<;>intro hc| rfl) <;>conv=>whnf
include ha hb hc hd in
theorem ur:Ev E 184 [.agg [vi a.x,vi a.y,vi b.x,vi b.y],.agg [vi c.x,vi c.y,vi d.x,vi d.y]] ⟨vi (dj a b c d),[]⟩:=by
 have h:=Dg ha hb hc hd
 refine Ev.aO rfl rfl rfl ?_
 conv=>whnf
 repeat' (first| intro g| apply ca h| refine st ?_| refine br ?_ ?_<;>intro hc| rfl) <;>conv=>whnf
include ha hb hp in
theorem zr:Ev E 186 [.agg [vi a.x,vi a.y,vi b.x,vi b.y],p.v] ⟨.bool (v8 a b p),[]⟩:=by
 have h:=xJ ha hb hp
 refine Ev.aO rfl rfl rfl ?_
 conv=>whnf
 repeat' (first| intro g| apply ca h| refine st ?_| refine br ?_ ?_<;>intro hc| rfl) <;>conv=>whnf
def mn (x y:Int):Int:=if y<x then y else x
def mx (x y:Int):Int:=if x<y then y else x
theorem Jb (x y z:Int):Ev E 429 [.lit 1 [vi x,vi y,vi z]] ⟨vi (mn (mn x y) z),[]⟩:=by
 refine Ev.aO rfl rfl rfl ?_
 conv=>whnf
 repeat' (first| intro g| refine st ?_| refine br ?_ ?_<;>intro hc| rfl) <;>conv=>whnf
 refine a8.by (fun ((i,r):Nat×Int)=> ⟨[(0,.lit 1 [vi x,vi y,vi z]),(3,vi r),(4,aL (i+1))],[]⟩)
  (fun (i,r)=>i≤2∧(i=0→r=x)∧(i=1→r=mn x y)∧(i=2→r=mn (mn x y) z)) (fun (i,_)=>2 - i) (0,x) su (by simp) ?_
 rintro⟨i,r⟩ ⟨hi,h0,h1,h2⟩
 try dsimp only at hi h0 h1 h2
 rcases(by omega:i=0∨i=1∨i=2) with rfl| rfl| rfl
 ·obtain rfl:=h0 rfl
  conv=>whnf
  repeat' (first| intro g| refine st ?_| refine br ?_ ?_<;>intro hc| rfl) <;>conv=>whnf
  exact bo.mk (1,mn r y) om (by simp) su
 ·obtain rfl:=h1 rfl
  conv=>whnf
  repeat' (first| intro g| refine st ?_| refine br ?_ ?_<;>intro hc| rfl) <;>conv=>whnf
  exact bo.mk (2,mn (mn x y) z) om (by simp) su
 ·obtain rfl:=h2 rfl
  conv=>whnf
  repeat' (first| intro g| refine st ?_| refine br ?_ ?_<;>intro hc| rfl) <;>conv=>whnf
theorem Jc (x y z:Int):Ev E 430 [.lit 1 [vi x,vi y,vi z]] ⟨vi (mx (mx x y) z),[]⟩:=by
 refine Ev.aO rfl rfl rfl ?_
 conv=>whnf
 repeat' (first| intro g| refine st ?_| refine br ?_ ?_<;>intro hc| rfl) <;>conv=>whnf
 refine a8.by (fun ((i,r):Nat×Int)=> ⟨[(0,.lit 1 [vi x,vi y,vi z]),(3,vi r),(4,aL (i+1))],[]⟩)
  (fun (i,r)=>i≤2∧(i=0→r=x)∧(i=1→r=mx x y)∧(i=2→r=mx (mx x y) z)) (fun (i,_)=>2 - i) (0,x) su (by simp) ?_
 rintro⟨i,r⟩ ⟨hi,h0,h1,h2⟩
 try dsimp only at hi h0 h1 h2
 rcases(by omega:i=0∨i=1∨i=2) with rfl| rfl| rfl
 ·obtain rfl:=h0 rfl
  conv=>whnf
  repeat' (first| intro g| refine st ?_| refine br ?_ ?_<;>intro hc| rfl) <;>conv=>whnf
  exact bo.mk (1,mx r y) om (by simp) su
 ·obtain rfl:=h1 rfl
  conv=>whnf
  repeat' (first| intro g| refine st ?_| refine br ?_ ?_<;>intro hc| rfl) <;>conv=>whnf
  exact bo.mk (2,mx (mx x y) z) om (by simp) su
 ·obtain rfl:=h2 rfl
  conv=>whnf
  repeat' (first| intro g| refine st ?_| refine br ?_ ?_<;>intro hc| rfl) <;>conv=>whnf
def Lu (a b c p:Pt):Bool:=if fb a b c=0 then v8 a b p || v8 b c p || v8 c a p
 else decide ((0≤fb a b p∧0≤fb b c p∧0≤fb c a p)∨(fb a b p≤0∧fb b c p≤0∧fb c a p≤0))
def Np (a b c p:Pt):Bool:=jn [a,b,c,p] &&Lu a b c p
theorem Gj (a b c p:Pt): (0≤IntKind.i64.wrap (mn (mn (fb a b p) (fb b c p)) (fb c a p)*mx (mx (fb a b p) (fb b c p)) (fb c a p)))↔((0≤fb a b p∧0≤fb b c p∧0≤fb c a p)∨(fb a b p≤0∧fb b c p≤0∧fb c a p≤0)):=by
 have r1:=cn (dT a b p);have r2:=cn (dT b c p);have r3:=cn (dT c a p)
 unfold fb
 rcases r1 with⟨e1,_⟩ | ⟨e1,_⟩ | ⟨e1,_⟩ <;>rcases r2 with⟨e2,_⟩ | ⟨e2,_⟩ | ⟨e2,_⟩ <;>rcases r3 with⟨e3,_⟩ | ⟨e3,_⟩ | ⟨e3,_⟩ <;>rw[e1,e2,e3] <;>decide
include ha hb hc hp in
theorem Gk:Ev E 565 [a.v,b.v,c.v,p.v] ⟨.bool (Lu a b c p),[]⟩:=by
 have s0:=jR ha hb hc
 have s1:=jR ha hb hp
 have s2:=jR hb hc hp
 have s3:=jR hc ha hp
 have o1:=xJ ha hb hp
 have o2:=xJ hb hc hp
 have o3:=xJ hc ha hp
 have OS:=Gj a b c p
 unfold Lu
 generalize v8 a b p=y1 at*
 generalize v8 b c p=y2 at*
 generalize v8 c a p=y3 at*
 refine Ev.aO rfl rfl rfl ?_
 conv=>whnf
 repeat' (first| intro g| apply ca s0| apply ca s1| apply ca s2| apply ca s3| apply ca o1| apply ca o2| apply ca o3| apply ca (Jb _ _ _) | apply ca (Jc _ _ _) | refine st ?_| refine br ?_ ?_<;>intro hc| rfl) <;>conv=>whnf
 ·rename_i q;rw[if_pos q,hc];rfl
 ·rename_i q1 q2;rw[if_pos q1,hc];cases y1<;>rfl
 ·rename_i q1 q2;rw[if_pos q1];cases y1<;>cases y2<;>simp_all
 ·rw[if_neg hc,decide_eq_decide.2 OS]
end
theorem Lv (a b c p:Pt):Ev E 556 [a.v,b.v,c.v,p.v] ⟨.bool (Np a b c p),[]⟩:=by
 have hr:Ev E 181 [.lit 2 [a.v,b.v,c.v,p.v]] ⟨.bool (jn [a,b,c,p]),[]⟩:=uq (l:=[a,b,c,p]) (by simp)
 unfold Np
 cases hf:jn [a,b,c,p] with
 | false=>
   rw[hf] at hr
   refine Ev.aO rfl rfl rfl ?_
   conv=>whnf
   repeat' (first| intro g| apply ca hr| refine st ?_| refine br ?_ ?_<;>intro hc| rfl) <;>conv=>whnf
 | true=>
   have hk: ∀x ∈ [a,b,c,p],lV x:=by simpa [jn] using hf
   have h:=Gk (hk a (by simp)) (hk b (by simp)) (hk c (by simp)) (hk p (by simp))
   rw[hf] at hr
   refine Ev.aO rfl rfl rfl ?_
   conv=>whnf
   repeat' (first| intro g| apply ca hr| apply ca h| refine st ?_| refine br ?_ ?_<;>intro hc| rfl) <;>conv=>whnf
end Go.AM.Dr
namespace Go.AM.Dr
def Di (p a:Pt):Bool:=p.x==a.x && (p.y==a.y &&true)
def rz (a b c p:Pt):Bool:= !Di p a && (!Di p c &&Lu a b c p)
def sm (d e x y p:Pt):Bool:=v8 d e p &&v8 x y p
def A3 (x y d e a c:Pt):Bool:=if dj d e x y=1 then !sm d e x y a && !sm d e x y c else decide (dj d e x y=2)
def dw (a b c d e:Pt):Bool:=jn [a,b,c,d,e] && (rz a b c d || (rz a b c e || (A3 a b d e a c || (A3 b c d e a c || A3 c a d e a c))))
theorem Gl (a b c d:Pt):dj a b c d=0∨dj a b c d=1∨dj a b c d=2:=by
 unfold dj
 repeat' split
 all_goals simp
section
variable {a b c d e x y p:Pt} (ha:lV a) (hb:lV b) (hc:lV c) (hd:lV d) (he:lV e) (hx:lV x) (hy:lV y) (hp:lV p)
include hd he hx hy hp in
theorem Dj:Ev E 566 [p.v,.eptr (.agg [vi d.x,vi d.y,vi e.x,vi e.y]) 0,.eptr (.agg [vi x.x,vi x.y,vi y.x,vi y.y]) 0] ⟨.bool (sm d e x y p),[]⟩:=by
 have h1:=zr hd he hp
 have h2:=zr hx hy hp
 unfold sm
 generalize v8 d e p=z1 at*
 generalize v8 x y p=z2 at*
 cases z1<;>cases z2
 all_goals
  refine Ev.aO rfl rfl rfl ?_
  conv=>whnf
  repeat' (first| intro g| apply ca h1| apply ca h2| refine st ?_| refine br ?_ ?_<;>intro hc| rfl) <;>conv=>whnf
include ha hb hc hp in
theorem UZ {Q:aN→SS→Prop} {i A4 th lE BH ti g:Nat} {L:List V} {d e:Pt} (hL:L[i]? =some p.v) (hi:i< 2)
  (hR: ∀T' O',rz a b c p=true→lk T' 10=some (.bool true)→Q .ret ⟨T',O'⟩)
  (hN: ∀T' O',rz a b c p=false→SS.Sub ⟨[(5,.ptr 96 A4 0 0),(6,.ptr 112 th 0 0),(7,.ptr 128 lE 0 0),(8,.ptr 144 BH 0 0),(9,.ptr 160 ti 0 0),(28,.sl 464 g 0 2),(29,aL 2),(30,aL (i+1))],
    [(96,⟨A4,2,false,false,some [a.v]⟩),(112,⟨th,2,false,false,some [b.v]⟩),(128,⟨lE,2,false,false,some [c.v]⟩),(144,⟨BH,2,false,false,some [d.v]⟩),(160,⟨ti,2,false,false,some [e.v]⟩),(464,⟨g,2,true,false,some L⟩)]⟩ ⟨T',O'⟩→Q .normal ⟨T',O'⟩):
  oe E I1 ⟨[(5,.ptr 96 A4 0 0),(6,.ptr 112 th 0 0),(7,.ptr 128 lE 0 0),(8,.ptr 144 BH 0 0),(9,.ptr 160 ti 0 0),(28,.sl 464 g 0 2),(29,aL 2),(30,aL i)],
    [(96,⟨A4,2,false,false,some [a.v]⟩),(112,⟨th,2,false,false,some [b.v]⟩),(128,⟨lE,2,false,false,some [c.v]⟩),(144,⟨BH,2,false,false,some [d.v]⟩),(160,⟨ti,2,false,false,some [e.v]⟩),(464,⟨g,2,true,false,some L⟩)]⟩ Q:=by
 have h:=Gk ha hb hc hp
 clear ha hb hc hp
 unfold rz at hR hN
 generalize Lu a b c p=z at*
 cases z
 ·have hN:=fun T' O'=>hN T' O' (by simp)
  clear hR
  conv=>whnf
  repeat' (first| intro g| refine wi hL ?_| apply ca h| refine st ?_| refine br ?_ ?_<;>intro hc| rfl) <;>conv=>whnf
  all_goals exact hN _ _ su
 ·conv=>whnf
  repeat' (first| intro g| refine wi hL ?_| apply ca h| refine st ?_| refine br ?_ ?_<;>intro hc| rfl) <;>conv=>whnf
  ·exact hR _ _ (by unfold Di;first| (simp_all;done) | grind) rfl
  ·exact hN _ _ (by unfold Di;first| (simp_all;done) | grind) su
  ·exact hN _ _ (by unfold Di;first| (simp_all;done) | grind) su
include ha hc hd he hx hy in
theorem S4 {Q:aN→SS→Prop} {i A4 lE BI g:Nat} {L:List V} (hL:L[i]? =some (.agg [vi x.x,vi x.y,vi y.x,vi y.y])) (hi:i< 3)
  (hR: ∀T' O',A3 x y d e a c=true→lk T' 10=some (.bool true)→Q .ret ⟨T',O'⟩)
  (hN: ∀T' O',A3 x y d e a c=false→SS.Sub ⟨[(5,.ptr 96 A4 0 0),(7,.ptr 128 lE 0 0),(13,.ptr 224 BI 0 0),(62,.sl 1008 g 0 3),(63,aL 3),(64,aL (i+1))],
    [(96,⟨A4,2,false,false,some [a.v]⟩),(128,⟨lE,2,false,false,some [c.v]⟩),(224,⟨BI,4,false,false,some [.agg [vi d.x,vi d.y,vi e.x,vi e.y]]⟩),(1008,⟨g,4,true,false,some L⟩)]⟩ ⟨T',O'⟩→Q .normal ⟨T',O'⟩):
  oe E I2 ⟨[(5,.ptr 96 A4 0 0),(7,.ptr 128 lE 0 0),(13,.ptr 224 BI 0 0),(62,.sl 1008 g 0 3),(63,aL 3),(64,aL i)],
    [(96,⟨A4,2,false,false,some [a.v]⟩),(128,⟨lE,2,false,false,some [c.v]⟩),(224,⟨BI,4,false,false,some [.agg [vi d.x,vi d.y,vi e.x,vi e.y]]⟩),(1008,⟨g,4,true,false,some L⟩)]⟩ Q:=by
 have h:=ur hd he hx hy
 have h1:=Dj hd he hx hy ha
 have h2:=Dj hd he hx hy hc
 have hm:=Gl d e x y
 clear ha hc hd he hx hy
 unfold A3 at hR hN
 generalize dj d e x y=n at*
 generalize sm d e x y a=z1 at*
 generalize sm d e x y c=z2 at*
 rcases hm with rfl| rfl| rfl
 ·have hN:=fun T' O'=>hN T' O' rfl
  clear hR
  conv=>whnf
  repeat' (first| intro g| refine wi hL ?_| apply ca h| apply ca h1| apply ca h2| refine st ?_| refine br ?_ ?_<;>intro hc| rfl) <;>conv=>whnf
  exact hN _ _ su
 ·cases z1<;>cases z2
  · have hR:=fun T' O'=>hR T' O' rfl
    clear hN
    conv=>whnf
    repeat' (first| intro g| refine wi hL ?_| apply ca h| apply ca h1| apply ca h2| refine st ?_| refine br ?_ ?_<;>intro hc| rfl) <;>conv=>whnf
    exact hR _ _ rfl
  all_goals
    have hN:=fun T' O'=>hN T' O' rfl
    clear hR
    conv=>whnf
    repeat' (first| intro g| refine wi hL ?_| apply ca h| apply ca h1| apply ca h2| refine st ?_| refine br ?_ ?_<;>intro hc| rfl) <;>conv=>whnf
    exact hN _ _ su
 ·have hR:=fun T' O'=>hR T' O' rfl
  clear hN
  conv=>whnf
  repeat' (first| intro g| refine wi hL ?_| apply ca h| apply ca h1| apply ca h2| refine st ?_| refine br ?_ ?_<;>intro hc| rfl) <;>conv=>whnf
  exact hR _ _ rfl
end
theorem BJ (a b c d e:Pt):Ev E 553 [a.v,b.v,c.v,d.v,e.v] ⟨.bool (dw a b c d e),[]⟩:=by
 have hr:Ev E 181 [.lit 2 [a.v,b.v,c.v,d.v,e.v]] ⟨.bool (jn [a,b,c,d,e]),[]⟩:=uq (l:=[a,b,c,d,e]) (by simp)
 cases hf:jn [a,b,c,d,e] with
 | false=>
   have hz:dw a b c d e=false:=by unfold dw;rw[hf];rfl
   rw[hz]
   rw[hf] at hr
   refine Ev.aO rfl rfl rfl ?_
   conv=>whnf
   repeat' (first| intro g| apply ca hr| refine st ?_| refine br ?_ ?_<;>intro hc| rfl) <;>conv=>whnf
 | true=>
   have hk: ∀x ∈ [a,b,c,d,e],lV x:=by simpa [jn] using hf
   have ha:=hk a (by simp);have hb:=hk b (by simp);have hc:=hk c (by simp);have hd:=hk d (by simp);have he:=hk e (by simp)
   rw[hf] at hr
   have hz:dw a b c d e=(rz a b c d || (rz a b c e || (A3 a b d e a c || (A3 b c d e a c || A3 c a d e a c)))):=by unfold dw;rw[hf];rfl
   generalize dw a b c d e=Z at*
   refine Ev.aO rfl rfl rfl ?_
   have Gm:Z=true→ ∀T' O',lk T' 10=some (V.bool true)→vy RB.results [a.v,b.v,c.v,d.v,e.v] (fun res=>res=⟨.bool Z,[]⟩) .ret ⟨T',O'⟩:=by
    intro hZ T' O' h
    show rq [.tmp 10] [a.v,b.v,c.v,d.v,e.v] ⟨T',O'⟩ (fun res=>res=⟨.bool Z,[]⟩)
    unfold rq
    simp only[Bv,h]
    rw[hZ]
    conv=>whnf
    repeat' (first| intro g| refine st ?_| refine br ?_ ?_<;>intro hc| rfl) <;>conv=>whnf
   conv=>whnf
   repeat' (first| intro g| apply ca hr| refine st ?_| refine br ?_ ?_<;>intro hc| rfl) <;>conv=>whnf
   rename_i A4 th lE BH ti Wr
   clear hr hk hf
   refine a8.by (fun (i:Nat)=> ⟨[(5,.ptr 96 A4 0 0),(6,.ptr 112 th 0 0),(7,.ptr 128 lE 0 0),(8,.ptr 144 BH 0 0),(9,.ptr 160 ti 0 0),(28,.sl 464 g 0 2),(29,aL 2),(30,aL i)],
    [(96,⟨A4,2,false,false,some [a.v]⟩),(112,⟨th,2,false,false,some [b.v]⟩),(128,⟨lE,2,false,false,some [c.v]⟩),(144,⟨BH,2,false,false,some [d.v]⟩),(160,⟨ti,2,false,false,some [e.v]⟩),(464,⟨g,2,true,false,some [d.v,e.v]⟩)]⟩)
    (fun i=>i≤2∧(0 <i→rz a b c d=false)∧(1 <i→rz a b c e=false)) (fun i=>2 - i) 0 su ⟨by simp,by simp,by simp⟩ ?_
   rintro i ⟨hi,i1,i2⟩
   rcases(by omega:i=0∨i=1∨i=2) with rfl| rfl| rfl
   ·exact UZ (d:=d) (e:=e) ha hb hc hd rfl (by omega) (fun T' O' hh h=>Gm (by rw[hz,hh];rfl) T' O' h) fun T' O' hh hs=>bo.mk 1 om ⟨by simp,fun _=>hh,by simp⟩ hs
   ·exact UZ (d:=d) (e:=e) ha hb hc he rfl (by omega) (fun T' O' hh h=>Gm (by rw[hz,hh];simp) T' O' h) fun T' O' hh hs=>bo.mk 2 om ⟨by simp,fun _=>i1 (by omega),fun _=>hh⟩ hs
   have i1:=i1 (by omega)
   have i2:=i2 (by omega)
   rw[i1,i2,Bool.false_or,Bool.false_or] at hz
   clear hi i1 i2
   conv=>whnf
   repeat' (first| intro g| refine st ?_| refine br ?_ ?_<;>intro hc| rfl) <;>conv=>whnf
   rename_i Ws BI
   refine a8.by (fun (i:Nat)=> ⟨[(5,.ptr 96 A4 0 0),(7,.ptr 128 lE 0 0),(13,.ptr 224 BI 0 0),(62,.sl 1008 g 0 3),(63,aL 3),(64,aL i)],
    [(96,⟨A4,2,false,false,some [a.v]⟩),(128,⟨lE,2,false,false,some [c.v]⟩),(224,⟨BI,4,false,false,some [.agg [vi d.x,vi d.y,vi e.x,vi e.y]]⟩),(1008,⟨g,4,true,false,some [.agg [vi a.x,vi a.y,vi b.x,vi b.y],.agg [vi b.x,vi b.y,vi c.x,vi c.y],.agg [vi c.x,vi c.y,vi a.x,vi a.y]]⟩)]⟩)
    (fun i=>i≤3∧(0 <i→A3 a b d e a c=false)∧(1 <i→A3 b c d e a c=false)∧(2 <i→A3 c a d e a c=false)) (fun i=>3 - i) 0 su ⟨by simp,by simp,by simp,by simp⟩ ?_
   rintro i ⟨hi,i1,i2,i3⟩
   rcases(by omega:i=0∨i=1∨i=2∨i=3) with rfl| rfl| rfl| rfl
   ·exact S4 (x:=a) (y:=b) ha hc hd he ha hb rfl (by omega) (fun T' O' hh h=>Gm (by rw[hz,hh];rfl) T' O' h) fun T' O' hh hs=>bo.mk 1 om ⟨by simp,fun _=>hh,by simp,by simp⟩ hs
   ·exact S4 (x:=b) (y:=c) ha hc hd he hb hc rfl (by omega) (fun T' O' hh h=>Gm (by rw[hz,hh];simp) T' O' h) fun T' O' hh hs=>bo.mk 2 om ⟨by simp,fun _=>i1 (by omega),fun _=>hh,by simp⟩ hs
   ·exact S4 (x:=c) (y:=a) ha hc hd he hc ha rfl (by omega) (fun T' O' hh h=>Gm (by rw[hz,hh];simp) T' O' h) fun T' O' hh hs=>bo.mk 3 om ⟨by simp,fun _=>i1 (by omega),fun _=>i2 (by omega),fun _=>hh⟩ hs
   ·have hZ:Z=false:=by rw[hz,i1 (by omega),i2 (by omega),i3 (by omega)];rfl
    rw[hZ]
    conv=>whnf
    repeat' (first| intro g| refine st ?_| refine br ?_ ?_<;>intro hc| rfl) <;>conv=>whnf
end Go.AM.Dr
namespace Go.AM.Dr
def pz:Pt:=⟨0,0⟩
def tE (l:List Pt):Bool:=decide (3 <l.length) &&Di (l.getD 0 pz) (l.getD (l.length - 1) pz)
def Gn (l:List Pt) (i k:Nat):Bool:=decide (i=k+1) || (decide (k=0) && (decide (i=l.length - 2) &&tE l))
def qf (l:List Pt) (i k:Nat):Bool:=decide (dj (l.getD i pz) (l.getD (i+1) pz) (l.getD k pz) (l.getD (k+1) pz)≠if Gn l i k=true then 1 else 0)
def QN (l:List Pt):Prop:= ∃i,i+1 <l.length∧(Di (l.getD i pz) (l.getD (i+1) pz)=true∨ ∃k,k<i∧qf l i k=true)
open Classical in
noncomputable def xK (l:List Pt):Int:=if l.length< 2∨40 <l.length then 2 else if jn l=false then 10 else if QN l then 11 else 0
theorem Eh {l:List Pt} {k:Nat} {x:Pt} (h:l[k]? =some x):l.getD k pz=x:=by simp[List.getD_eq_getElem?_getD,h]
theorem Ei {l:List Pt} (hl:l.length< 1000000):Ev E 183 [.lit 2 (l.map Pt.v)] ⟨.bool (tE l),[]⟩:=by
 unfold tE
 by_cases h3:3 <l.length
 ·obtain⟨x,hx⟩: ∃x,l[0]? =some x:=⟨_,bp (by omega)⟩
  obtain⟨y,hy⟩: ∃y,l[l.length - 1]? =some y:=⟨_,bp (by omega)⟩
  have hw:IntKind.i64.wrap (((l.map Pt.v).length:Int) - 1)=((l.length - 1:Nat):Int):=by
   rw[List.length_map];exact wt
  rw[Eh hx,Eh hy,decide_eq_true h3]
  unfold Di
  refine Ev.aO rfl rfl rfl ?_
  conv=>whnf
  repeat' (first| intro g| refine wi (aA hx rfl) ?_| refine wi (aA hy hw) ?_| refine st ?_| refine br ?_ ?_<;>intro hc| rfl) <;>conv=>whnf
  simp only[Bool.bne_false,Bool.true_and]
 ·rw[decide_eq_false h3]
  refine Ev.aO rfl rfl rfl ?_
  conv=>whnf
  repeat' (first| intro g| refine st ?_| refine br ?_ ?_<;>intro hc| rfl) <;>conv=>whnf
end Go.AM.Dr
namespace Go.AM.Dr
theorem jo: ∀ (ps:List Pt) (i k:Nat),(iF i (ps.map Pt.v))[k]? =match ps[k]?,ps[k+1]? with
   | some p,some q=>some [.int .i64 ((i+k:Nat):Int),.agg [vi p.x,vi p.y,vi q.x,vi q.y]]
   | _,_=>none
 | [],i,k=>by simp[iF]
 | [p],i,k=>by cases k<;>simp[iF]
 | p::q::r,i,0=>by simp[iF,Pt.v,V.cells]
 | p::q::r,i,k+1=>by
   have ih:=jo (q::r) (i+1) k
   simp only[List.map_cons,iF,List.getElem?_cons_succ] at ih ⊢
   rw[ih]
   have:i+1+k=i+(k+1):=by omega
   rw[this]
theorem uu: ∀ (ps:List V) (i:Nat),∀x ∈ iF i ps,x.length=2
 | [],i,x,h=>by simp[iF] at h
 | [p],i,x,h=>by simp[iF] at h
 | p::q::r,i,x,h=>by
   rw[iF] at h
   rcases List.mem_cons.1 h with rfl| h
   ·rfl
   ·exact uu (q::r) (i+1) x h
theorem sn (l:List Pt):Ev E 182 [kB l] ⟨.fn 221 [.eptr (kB l) 0],[]⟩:=by
 refine Ev.aO rfl rfl rfl ?_
 conv=>whnf
 repeat' (first| intro g| refine st ?_| refine br ?_ ?_<;>intro hc| rfl) <;>conv=>whnf
theorem zt {l:List Pt} (hl:l.length< 1000000):E.iter 221 [(kB l).eptr 0]=some (iF 0 (l.map Pt.v)):=by
 show (if (l.map Pt.v).length< 4611686018427387904 then some (iF 0 (l.map Pt.v)) else none)=_
 rw[if_pos (by simp;omega)]
theorem Dk {l:List Pt} {i:Nat} (h:i+1 <l.length):i< (iF 0 (l.map Pt.v)).length:=by
 have:=jo l 0 i
 rw[bp (show i<l.length by omega),bp h] at this
 exact(List.getElem?_eq_some_iff.1 this).1
structure Wt (p q:Prop):Prop where
 a:p
 b:q
def Kv (l:List Pt) (i:Nat):Prop:=Di (l.getD i pz) (l.getD (i+1) pz)=false∧ ∀k,k<i→qf l i k=false
theorem Gp (l:List Pt) (hl:l.length< 1000000):Ev E 144 [kB l] ⟨vi (xK l),[]⟩:=by
 classical
 have hr:Ev E 181 [kB l] ⟨.bool (jn l),[]⟩:=uq (by omega)
 have Gq:=sn l
 have nT:=Ei hl
 unfold xK
 by_cases hlen:l.length< 2∨40 <l.length
 · rw[if_pos hlen]
   refine Ev.aO rfl rfl rfl ?_
   conv=>whnf
   repeat' (first| intro g| apply ca hr| apply ca Gq| refine st ?_| refine br ?_ ?_<;>intro hc| rfl) <;>conv=>whnf
   all_goals (exfalso;simp only[List.length_map] at*;omega)
 rw[if_neg hlen]
 have OT:2≤l.length∧l.length≤40:=by omega
 clear hlen
 cases hf:jn l with
 | false=>
   rw[hf] at hr
   rw[if_pos rfl]
   refine Ev.aO rfl rfl rfl ?_
   conv=>whnf
   repeat' (first| intro g| apply ca hr| apply ca Gq| refine st ?_| refine br ?_ ?_<;>intro hc| rfl) <;>conv=>whnf
 | true=>
 rw[hf] at hr
 rw[if_neg (by simp)]
 have hk: ∀p ∈ l,lV p:=by simpa [jn] using hf
 obtain⟨Z,hZ⟩: ∃Z:Int,Z=if QN l then 11 else 0:=⟨_,rfl⟩
 have zb:QN l→Z=11:=fun h=>by rw[hZ,if_pos h]
 have zg: ¬QN l→Z=0:=fun h=>by rw[hZ,if_neg h]
 rw[←hZ]
 clear hZ hf
 refine Ev.aO rfl rfl rfl ?_
 conv=>whnf
 repeat' (first| intro g| apply ca hr| apply ca Gq| refine st ?_| refine br ?_ ?_<;>intro hc| rfl) <;>conv=>whnf
 rename_i Jd Je
 have hz:IntKind.i64.wrap (((l.map Pt.v).length:Int) - 2)=((l.length - 2:Nat):Int):=by
   rw[List.length_map];exact wt
 rw[hz]
 clear hz
 refine rj.by (iF 0 (l.map Pt.v)) rfl (zt hl) (fun x hx=>uu _ _ x hx) (fun (_:Unit)=> [(32,⟨Jd,1,false,false,some [kB l]⟩),(64,⟨Je,1,false,false,some [vi 0]⟩),(80,⟨g,1,false,false,some [aL (l.length - 2)]⟩)]) (fun k a=> ∀i,i<k→Kv l i) () (by(repeat' (first| exact True.intro| refine ai ?_| refine And.intro ?_ ?_))) (by intro i hi;omega) ?_ ?_
 · rintro k x u hx hP
   rw[jo] at hx
   cases hp:l[k]? with
   | none=>rw[hp] at hx;cases hx
   | some p=>
   cases hq:l[k+1]? with
   | none=>rw[hp,hq] at hx;cases hx
   | some q=>
   rw[hp,hq] at hx
   injection hx with hx;subst hx
   have Ki:=(List.getElem?_eq_some_iff.1 hq).1
   have U0:=hk p (List.mem_of_getElem? hp)
   have U1:=hk q (List.mem_of_getElem? hq)
   have hw:IntKind.i64.wrap (((0+k:Nat):Int)+1)=((k+1:Nat):Int):=wt
   have Gr:Ev E 182 [V.lit 2 (aw (l.map Pt.v) 0 ((IntKind.i64.wrap (((0+k:Nat):Int)+1)).toNat - 0))] ⟨.fn 221 [.eptr (kB (l.take (k+1))) 0],[]⟩:=by
     rw[hw]
     have e:aw (l.map Pt.v) 0 (((k+1:Nat):Int).toNat - 0)=(l.take (k+1)).map Pt.v:=by
      simp[aw,List.map_take]
     rw[e];exact sn _
   have OU: (l.take (k+1)).length< 1000000:=by simp;omega
   have gp:=Eh hp
   have gq:=Eh hq
   cases e1:Di p q with
   | true=>
     have hb:=zb ⟨k,Ki,.inl (by rw[gp,gq];exact e1)⟩
     unfold Di at e1
     clear hP zg zb Gr OU hr Gq
     rw[hb]
     conv=>whnf
     repeat' (first| intro g| refine st ?_| refine br ?_ ?_<;>intro hc| rfl) <;>conv=>whnf
     rw[e1] at hc;cases hc
   | false=>
   have cE: ∀ (h: ∀j,j<k→qf l k j=false),∀i,i<k+1→Kv l i:=fun h i hi=>by
     by_cases e:i=k
     ·subst e;exact⟨by rw[gp,gq];exact e1,h⟩
     ·exact hP i (by omega)
   unfold Di at e1
   clear Gq hr
   conv=>whnf
   repeat' (first| intro g| apply ca Gr| refine st ?_| refine br ?_ ?_<;>intro hc| rfl) <;>conv=>whnf
   rename_i Wu A4
   refine rj.by (iF 0 ((l.take (k+1)).map Pt.v)) rfl (zt OU) (fun x hx=>uu _ _ x hx) (fun (_:Unit)=> [(32,⟨Jd,1,false,false,some [kB l]⟩),(64,⟨Je,1,false,false,some [vi 0]⟩),(80,⟨Wu,1,false,false,some [aL (l.length - 2)]⟩),
     (96,⟨A4,1,false,false,some [vi ((0+k:Nat):Int)]⟩),(112,⟨g,4,false,false,some [.agg [vi p.x,vi p.y,vi q.x,vi q.y]]⟩)]) (fun k2 a=> ∀j,j<k2→qf l k j=false) () (by(repeat' (first| exact True.intro| refine ai ?_| refine And.intro ?_ ?_))) (by intro i hi;omega) ?_ ?_
   · rintro k2 x2 u2 A5 QO
     rw[jo] at A5
     cases A6: (l.take (k+1))[k2]? with
     | none=>rw[A6] at A5;cases A5
     | some p2=>
     cases A7: (l.take (k+1))[k2+1]? with
     | none=>rw[A6,A7] at A5;cases A5
     | some q2=>
     rw[A6,A7] at A5
     injection A5 with A5;subst A5
     have BK:k2<k:=by have:=(List.getElem?_eq_some_iff.1 A7).1;simp at this;omega
     rw[List.getElem?_take_of_lt (by omega)] at A6 A7
     have hm:=ur U0 U1 (hk p2 (List.mem_of_getElem? A6)) (hk q2 (List.mem_of_getElem? A7))
     have xL:IntKind.i64.wrap (((0+k2:Nat):Int)+1)=((k2+1:Nat):Int):=wt
     have OV:qf l k k2=decide (dj p q p2 q2≠if Gn l k k2=true then 1 else 0):=by unfold qf;rw[gp,gq,Eh A6,Eh A7]
     have Dl:qf l k k2=false→ ∀j,j<k2+1→qf l k j=false:=fun h j hj=>by
      by_cases e:j=k2
      ·subst e;exact h
      ·exact QO j (by omega)
     have Dm:qf l k k2=true→Z=11:=fun h=>zb ⟨k,Ki,.inr ⟨k2,BK,h⟩⟩
     rw[OV] at Dl Dm
     clear OV QO cE Gr hP OU zb zg A6 A7 e1 hp hq gp gq hw U0 U1
     unfold Gn at Dl Dm
     generalize dj p q p2 q2=n at*
     generalize tE l=C at*
     have tw:=Wt.mk Dl Dm
     clear Dl Dm hk OT Ki BK
     dsimp only[vW,SS.put]
     conv=>whnf
     repeat' (first| intro g| apply ca nT| apply ca hm| refine st ?_| refine br ?_ ?_<;>intro hc| rfl) <;>conv=>whnf
     ·rw[tw.b (by rw[decide_eq_true (show k=k2+1 by omega)];simp[hc])]
     ·exact y6.mk () (tw.a (by rw[decide_eq_true (show k=k2+1 by omega)];simp[hc])) (by(repeat' (first| exact True.intro| refine ai ?_| refine And.intro ?_ ?_)))
     ·rename_i q1 q2 q3 q4
      rw[tw.b (by rw[decide_eq_false (show ¬k=k2+1 by omega),decide_eq_true (show k2=0 by omega),decide_eq_true (show k=l.length - 2 by omega),q4];simp[hc])]
     ·rename_i q1 q2 q3 q4
      exact y6.mk () (tw.a (by rw[decide_eq_false (show ¬k=k2+1 by omega),decide_eq_true (show k2=0 by omega),decide_eq_true (show k=l.length - 2 by omega),q4];simp[hc])) (by(repeat' (first| exact True.intro| refine ai ?_| refine And.intro ?_ ?_)))
     ·rename_i q1 q2 q3 q4
      rw[tw.b (by rw[decide_eq_false (show ¬k=k2+1 by omega),decide_eq_true (show k2=0 by omega),decide_eq_true (show k=l.length - 2 by omega),q4];simp[hc])]
     ·rename_i q1 q2 q3 q4
      exact y6.mk () (tw.a (by rw[decide_eq_false (show ¬k=k2+1 by omega),decide_eq_true (show k2=0 by omega),decide_eq_true (show k=l.length - 2 by omega),q4];simp[hc])) (by(repeat' (first| exact True.intro| refine ai ?_| refine And.intro ?_ ?_)))
     ·rw[tw.b (by rw[decide_eq_false (show ¬k=k2+1 by omega),decide_eq_true (show k2=0 by omega),decide_eq_false (show ¬k=l.length - 2 by omega)];simp[hc])]
     ·exact y6.mk () (tw.a (by rw[decide_eq_false (show ¬k=k2+1 by omega),decide_eq_true (show k2=0 by omega),decide_eq_false (show ¬k=l.length - 2 by omega)];simp[hc])) (by(repeat' (first| exact True.intro| refine ai ?_| refine And.intro ?_ ?_)))
     ·rw[tw.b (by rw[decide_eq_false (show ¬k=k2+1 by omega),decide_eq_false (show ¬k2=0 by omega)];simp[hc])]
     ·exact y6.mk () (tw.a (by rw[decide_eq_false (show ¬k=k2+1 by omega),decide_eq_false (show ¬k2=0 by omega)];simp[hc])) (by(repeat' (first| exact True.intro| refine ai ?_| refine And.intro ?_ ?_)))
   · rintro _ QO
     conv=>whnf
     repeat' (first| intro g| refine st ?_| refine br ?_ ?_<;>intro hc| rfl) <;>conv=>whnf
     exact y6.mk () (cE fun j hj=>QO j (Dk (by simp;omega))) (by(repeat' (first| exact True.intro| refine ai ?_| refine And.intro ?_ ?_)))
 · rintro _ hP
   have hb:=zg fun ⟨i,hi,h⟩=>by
     have cE:=hP i (Dk hi)
     rcases h with h| ⟨j,hj,h⟩
     ·rw[cE.1] at h;cases h
     ·rw[cE.2 j hj] at h;cases h
   rw[hb]
   conv=>whnf
   repeat' (first| intro g| refine st ?_| refine br ?_ ?_<;>intro hc| rfl) <;>conv=>whnf
end Go.AM.Dr
