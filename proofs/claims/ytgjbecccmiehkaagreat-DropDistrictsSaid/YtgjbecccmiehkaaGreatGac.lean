/- Texts of the proof. -/
import Derived.Test.YtgjbecccmiehkaaGreatOpsC
import Derived.Test.YtgjbecccmiehkaaGreatGab
set_option maxRecDepth 20000
set_option linter.unusedSimpArgs false
set_option linter.unusedVariables false
namespace Go.AM.Dr
def IsSqrt (n s:Int):Prop:=0≤s∧s*s≤n∧n< (s+1)*(s+1)
theorem fI {a b:Int} (h0:0≤a) (h:a≤b):a*a≤b*b:=Int.mul_le_mul h h h0 (by omega)
theorem IsSqrt.uniq {n s t:Int} (h:IsSqrt n s) (k:IsSqrt n t):s=t:=by
 obtain⟨h1,h2,h3⟩:=h
 obtain⟨k1,k2,k3⟩:=k
 rcases Int.lt_trichotomy s t with hl| hl| hl
 ·have:=fI (a:=s+1) (b:=t) (by omega) (by omega);omega
 ·exact hl
 ·have:=fI (a:=t+1) (b:=s) (by omega) (by omega);omega
open Classical in
noncomputable def lW (n:Int):Int:=if h: ∃s,IsSqrt n s then h.choose else 0
theorem jq {n s:Int} (h:IsSqrt n s):lW n=s:=by
 have hex: ∃s,IsSqrt n s:=⟨s,h⟩
 unfold lW;rw[dif_pos hex];exact hex.choose_spec.uniq h
theorem rA {n:Int} (h:n≤0):lW n=0:=by
 by_cases hz:n=0
 ·subst hz;exact jq ⟨by omega,by omega,by omega⟩
 ·unfold lW;rw[dif_neg]
  rintro⟨s,h1,h2,h3⟩
  have:=Int.mul_nonneg h1 h1
  omega
theorem mG {b r:Nat} (h:FloatKind.f64.format.sqrt b=some r):Ev E 41 [.float b] ⟨.float r,[]⟩:=by
 have Lw:Ev E 52 [.float b] ⟨.float r,[]⟩:=Ev.ext (by rw[OM];simp[vT,h])
 refine Ev.aO rfl rfl rfl ?_
 exact dr
theorem Dn {n:Int} (h1:n≤9223372036854775807):Ev E 27 [vi n] ⟨vi (lW n),[]⟩:=by
 by_cases h0:0 <n
 case neg=>
  rw[rA (by omega)]
  refine Ev.aO rfl rfl rfl ?_
  conv=>whnf
  repeat' (first| intro g| refine st ?_| refine br ?_ ?_<;>intro hc| rfl) <;>conv=>whnf
  all_goals trivial
 obtain⟨r,m,hr,hm,Iv,Wv⟩:=zu h0 h1
 have e1:IntKind.i64.min≤m:=by simp[IntKind.min,IntKind.signed,IntKind.bits];omega
 have e2:m≤IntKind.i64.max:=by simp[IntKind.max,IntKind.signed,IntKind.bits];omega
 refine Ev.aO rfl rfl rfl ?_
 conv=>whnf
 repeat' (first| intro g| refine wi ((⟨hm,e1,e2⟩:_∧_∧_)) ?_| apply ca (mG hr) | refine st ?_| refine br ?_ ?_<;>intro hc| rfl) <;>conv=>whnf
 generalize N3: (if 3037000499 <m then(3037000499:Int) else m)=s0
 have uv:0≤s0∧s0≤3037000499:=by split at N3<;>omega
 refine a8.by (fun s:Int=> ⟨[(0,vi n),(3,vi s)],[]⟩) (fun s=>0≤s∧s≤3037000499) (fun s=>s.toNat) s0 ?_ uv ?_
 ·exact su
 rintro s ⟨ij,qV⟩
 have Lw:=fI ij qV
 have Gs:0≤s*s:=Int.mul_nonneg ij ij
 have hw:IntKind.i64.wrap (s*s)=s*s:=wrap64 (by omega) (by omega)
 conv=>whnf
 repeat' (first| intro g| refine st ?_| refine br ?_ ?_<;>intro hc| rfl) <;>conv=>whnf
 ·rw[hw] at hc
  have:0 <s:=by
   rcases Int.lt_or_le 0 s with h| h
   ·exact h
   · have:s=0:=by omega
     subst this;omega
  refine bo.mk (s - 1) om ?_ su
  exact⟨by omega,by omega⟩
 rw[hw] at hc
 refine a8.by (fun s:Int=> ⟨[(0,vi n),(3,vi s)],[]⟩) (fun s=>0≤s∧s≤3037000499∧s*s≤n) (fun s=> (3037000499 - s).toNat) s ?_ ⟨ij,qV,by omega⟩ ?_
 ·exact su
 clear hw Lw Gs hc ij qV s
 rintro s ⟨ij,qV,hle⟩
 by_cases bz:s< 3037000499
 ·have Lw:=fI (a:=s+1) (b:=3037000499) (by omega) (by omega)
  have Gs:0≤(s+1)*(s+1):=Int.mul_nonneg (by omega) (by omega)
  have Iw:IntKind.i64.wrap (s+1)=s+1:=wrap64 (by omega) (by omega)
  have hw:IntKind.i64.wrap ((s+1)*(s+1))=(s+1)*(s+1):=wrap64 (by omega) (by omega)
  conv=>whnf
  repeat' (first| intro g| refine st ?_| refine br ?_ ?_<;>intro hc| rfl) <;>conv=>whnf
  ·rw[Iw,hw] at hc
   refine bo.mk (s+1) om ?_ su
   exact⟨by omega,by omega,hc⟩
  ·rw[Iw,hw] at hc
   rw[jq ⟨ij,hle,by omega⟩]
 ·conv=>whnf
  repeat' (first| intro g| refine st ?_| refine br ?_ ?_<;>intro hc| rfl) <;>conv=>whnf
  have:=fI (a:=3037000500) (b:=s+1) (by omega) (by omega)
  rw[jq ⟨ij,hle,by omega⟩]
end Go.AM.Dr
namespace Go.AM
section
variable {m:bA} (hlen:m.bL.length< 1000000)
include hlen
end
section
variable {m:bA} (hlen:m.bL.length< 1000000)
include hlen
end
end Go.AM
namespace Go.AM
theorem mE (x:Int):Ev E 36 [vi x] ⟨.bool false,[]⟩:=by
 refine Ev.aO rfl rfl rfl ?_
 conv=>whnf
 repeat' (first| intro g| refine st ?_| refine br ?_ ?_<;>intro hc| rfl) <;>conv=>whnf
 all_goals simp
def kD (x y:Int):Int:=if x<y then -1 else if y<x then 1 else 0
theorem oY (x y:Int):Ev E 23 [vi x,vi y] ⟨vi (kD x y),[]⟩:=by
 refine Ev.aO rfl rfl rfl ?_
 conv=>whnf
 repeat' (first| intro g| apply ca (mE x) | apply ca (mE y) | refine st ?_| refine br ?_ ?_<;>intro hc| rfl) <;>conv=>whnf
 all_goals simp[kD, *]
 all_goals omega
def Ed (a b:Int):Int:=if a=0 then b else a
theorem F7 (a b:Int):Ev E 22 [.lit 1 [vi a,vi b]] ⟨vi (Ed a b),[]⟩:=by
 refine Ev.aO rfl rfl rfl ?_
 conv=>whnf
 repeat' (first| intro g| refine st ?_| refine br ?_ ?_<;>intro hc| rfl) <;>conv=>whnf
 refine a8.by (fun i:Nat=> ⟨[(3,vi 0),(6,.lit 1 [vi a,vi b]),(7,aL 2),(8,aL i)],[]⟩) (fun i=>i≤2∧(1≤i→a=0)∧(2≤i→b=0)) (fun i=>2 - i) 0 ?_ ?_ ?_
 ·exact su
 ·simp
 rintro i ⟨hi,h1,h2⟩
 rcases(by omega:i=0∨i=1∨i=2) with rfl| rfl| rfl
 ·conv=>whnf
  repeat' (first| intro g| refine st ?_| refine br ?_ ?_<;>intro hc| rfl) <;>conv=>whnf
  ·simp[Ed,hc]
  ·refine bo.mk (1) om ?_ su
   exact⟨Zl,fun _=>by simpa using hc,fun h=>Zl⟩
 ·have ha:=h1 Zl
  conv=>whnf
  repeat' (first| intro g| refine st ?_| refine br ?_ ?_<;>intro hc| rfl) <;>conv=>whnf
  ·simp[Ed,ha]
  ·refine bo.mk (2) om ?_ su
   exact⟨Zl,fun _=>ha,fun _=>by simpa using hc⟩
 ·have ha:=h1 Zl
  have hb:=h2 Zl
  conv=>whnf
  repeat' (first| intro g| refine st ?_| refine br ?_ ?_<;>intro hc| rfl) <;>conv=>whnf
  all_goals simp[Ed,ha,hb]
def IsSqrt (n s:Int):Prop:=0≤s∧s*s≤n∧n< (s+1)*(s+1)
theorem fI {a b:Int} (h0:0≤a) (h:a≤b):a*a≤b*b:=Int.mul_le_mul h h h0 Zl
theorem IsSqrt.uniq {n s t:Int} (h:IsSqrt n s) (k:IsSqrt n t):s=t:=by
 obtain⟨h1,h2,h3⟩:=h
 obtain⟨k1,k2,k3⟩:=k
 rcases Int.lt_trichotomy s t with hl| hl| hl
 ·have:=fI (a:=s+1) (b:=t) Zl Zl;omega
 ·exact hl
 ·have:=fI (a:=t+1) (b:=s) Zl Zl;omega
open Classical in
noncomputable def lW (n:Int):Int:=if h: ∃s,IsSqrt n s then h.choose else 0
theorem jq {n s:Int} (h:IsSqrt n s):lW n=s:=by
 have hex: ∃s,IsSqrt n s:=⟨s,h⟩
 unfold lW;rw[dif_pos hex];exact hex.choose_spec.uniq h
theorem rA {n:Int} (h:n≤0):lW n=0:=by
 by_cases hz:n=0
 ·subst hz;exact jq ⟨Zl,Zl,Zl⟩
 ·unfold lW;rw[dif_neg]
  rintro⟨s,h1,h2,h3⟩
  have:=aaC h1 h1
  omega
theorem mG {b r:Nat} (h:FloatKind.f64.format.sqrt b=some r):Ev E 41 [.float b] ⟨.float r,[]⟩:=by
 have Lw:Ev E 52 [.float b] ⟨.float r,[]⟩:=Ev.ext (by rw[OM];simp[vT,h])
 refine Ev.aO rfl rfl rfl ?_
 exact dr
theorem Dn {n:Int} (h1:n≤9223372036854775807):Ev E 27 [vi n] ⟨vi (lW n),[]⟩:=by
 by_cases h0:0 <n
 case neg=>
  rw[rA Zl]
  refine Ev.aO rfl rfl rfl ?_
  conv=>whnf
  repeat' (first| intro g| refine st ?_| refine br ?_ ?_<;>intro hc| rfl) <;>conv=>whnf
  all_goals trivial
 obtain⟨r,m,hr,hm,Iv,Wv⟩:=zu h0 h1
 have e1:IntKind.i64.min≤m:=by simp[IntKind.min,IntKind.signed,IntKind.bits];omega
 have e2:m≤IntKind.i64.max:=by simp[IntKind.max,IntKind.signed,IntKind.bits];omega
 refine Ev.aO rfl rfl rfl ?_
 conv=>whnf
 repeat' (first| intro g| refine wi ((⟨hm,e1,e2⟩:_∧_∧_)) ?_| apply ca (mG hr) | refine st ?_| refine br ?_ ?_<;>intro hc| rfl) <;>conv=>whnf
 generalize N3: (if 3037000499 <m then(3037000499:Int) else m)=s0
 have uv:0≤s0∧s0≤3037000499:=by split at N3<;>omega
 refine a8.by (fun s:Int=> ⟨[(0,vi n),(3,vi s)],[]⟩) (fun s=>0≤s∧s≤3037000499) (fun s=>s.toNat) s0 ?_ uv ?_
 ·exact su
 rintro s ⟨ij,qV⟩
 have Lw:=fI ij qV
 have Gs:0≤s*s:=aaC ij ij
 have hw:IntKind.i64.wrap (s*s)=s*s:=wrap64 Zl Zl
 conv=>whnf
 repeat' (first| intro g| refine st ?_| refine br ?_ ?_<;>intro hc| rfl) <;>conv=>whnf
 ·rw[hw] at hc
  have:0 <s:=by
   rcases Int.lt_or_le 0 s with h| h
   ·exact h
   · have:s=0:=Zl
     subst this;omega
  refine bo.mk (s - 1) om ?_ su
  exact⟨Zl,Zl⟩
 rw[hw] at hc
 refine a8.by (fun s:Int=> ⟨[(0,vi n),(3,vi s)],[]⟩) (fun s=>0≤s∧s≤3037000499∧s*s≤n) (fun s=> (3037000499 - s).toNat) s ?_ ⟨ij,qV,Zl⟩ ?_
 ·exact su
 clear hw Lw Gs hc ij qV s
 rintro s ⟨ij,qV,hle⟩
 by_cases bz:s< 3037000499
 ·have Lw:=fI (a:=s+1) (b:=3037000499) Zl Zl
  have Gs:0≤(s+1)*(s+1):=aaC Zl Zl
  have Iw:IntKind.i64.wrap (s+1)=s+1:=wrap64 Zl Zl
  have hw:IntKind.i64.wrap ((s+1)*(s+1))=(s+1)*(s+1):=wrap64 Zl Zl
  conv=>whnf
  repeat' (first| intro g| refine st ?_| refine br ?_ ?_<;>intro hc| rfl) <;>conv=>whnf
  ·rw[Iw,hw] at hc
   refine bo.mk (s+1) om ?_ su
   exact⟨Zl,Zl,hc⟩
  ·rw[Iw,hw] at hc
   rw[jq ⟨ij,hle,Zl⟩]
 ·conv=>whnf
  repeat' (first| intro g| refine st ?_| refine br ?_ ?_<;>intro hc| rfl) <;>conv=>whnf
  have:=fI (a:=3037000500) (b:=s+1) Zl Zl
  rw[jq ⟨ij,hle,Zl⟩]
end Go.AM
namespace Go.AM
theorem xH (a b:Pt):Ev E 37 [a.v,b.v] ⟨(Pt.mk (vr (a.x - b.x)) (vr (a.y - b.y))).v,[]⟩:=by
 refine Ev.aO rfl rfl rfl ?_
 exact dr
def Place.at_ (p:Place):Pt:=⟨p.x,p.y⟩
section
variable {m:bA} (hlen:m.bL.length< 1000000)
include hlen
end
end Go.AM
namespace Go.AM
end Go.AM
namespace Go.AM
section
variable {m:bA} (hlen:m.bL.length< 1000000)
include hlen
end
end Go.AM
namespace Go.AM
section
variable {m:bA} (hlen:m.bL.length< 1000000)
include hlen
end
end Go.AM
namespace Go.AM
theorem we (l:List Edge) (h:l.length< 1000000):Ev E 28 [.lit 4 (l.map Edge.v)] ⟨.own 4 (l.map Edge.v),[]⟩:=
 Ev.ext (by rw[OH];simp[c8];omega)
theorem wg (l:List da) (h:l.length< 1000000):Ev E 29 [.lit 5 (l.map da.v)] ⟨.own 5 (l.map da.v),[]⟩:=
 Ev.ext (by rw[OI];simp[c8];omega)
theorem wh (l:List Way) (h:l.length< 1000000):Ev E 30 [.lit 8 (l.map Way.v)] ⟨.own 8 (l.map Way.v),[]⟩:=
 Ev.ext (by rw[OJ];simp[c8];omega)
theorem wj (l:List Place) (h:l.length< 1000000):Ev E 31 [.lit 7 (l.map Place.v)] ⟨.own 7 (l.map Place.v),[]⟩:=
 Ev.ext (by rw[OK];simp[c8];omega)
theorem lF (l:List Pt) (h:l.length< 1000000):Ev E 32 [kB l] ⟨.own 2 (l.map Pt.v),[]⟩:=
 Ev.ext (by rw[OL];simp[c8,kB];omega)
structure bA.Fit (m:bA):Prop where
 e:m.aH.length< 1000000
 f:m.b9.length< 1000000
 w:m.ways.length< 1000000
 p:m.bL.length< 1000000
 el: ∀e ∈ m.aH,e.line.length< 1000000
 wl: ∀w ∈ m.ways,w.line.length< 1000000
def bA.zero:bA:=⟨[],[],[],[]⟩
end Go.AM
namespace Go.AM
theorem GH {E:Env} {r:Nat} {g:Nat} {args:List V} {v v':V} {S:SS} {Q:KK} (hm:du E g=[]) (hp:V.al args=true) (he:Ev E g args ⟨v,[]⟩) (hv: ∀ (r:Nat) (k:V→ba),dF false r [] v k=k v') (k:Q v' S [] []):ei E (iI E r false g args) S Q:=by
 have key: ∀ (gj:List V) (i:Nat) (kk:List V→List Nat→List c9→ba),V.al gj=true→dQ (r+8) gj [] i kk=kk gj [] []:=by
  intro gj
  induction gj with
  | nil=>intro i kk _;rfl
  | cons a gj ih=>
    intro i kk h
    simp only[V.al,Zt] at h
    simp only[dQ,fB,h.1,cond_true,Z8]
    rw[ih (i+1) _ h.2]
 unfold iI
 rw[hm,key args 0 _ hp]
 refine⟨rfl,⟨⟨v,[]⟩,he,?_⟩⟩
 simp only[fC,hv]
 exact k
def QQ (sz:Nat) (xs:List V) (v:V):Prop:=v= .own sz xs∨v= .lit sz xs
def U4 (v v':V):Prop:= ∀ (r:Nat) (k:V→ba),dF false r [] v k=k v'
theorem S7 {m:bA} {c:Int} {e f w p:V} (h1:QQ 4 (m.aH.map Edge.v) e) (h2:QQ 5 (m.b9.map da.v) f) (h3:QQ 8 (m.ways.map Way.v) w) (h4:QQ 7 (m.bL.map Place.v) p):U4 (.tuple [.agg [e,f,w,p],vi c]) (.tuple [m.v,vi c]):=by
 rcases h1 with rfl| rfl<;>rcases h2 with rfl| rfl<;>rcases h3 with rfl| rfl<;>rcases h4 with rfl| rfl
 all_goals exact fun _ _=>rfl
end Go.AM
