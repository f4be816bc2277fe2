/-
  Texts of the proof: SData, SExact, LbP.
-/
import Derived.Test.YtjkmpppkkhbjkaaGreatFns
import Derived.Test.YtjkmpppkkhbjkaaGreatBase
import Derived.Test.YtjkmpppkkhbjkaaGreatOpsC
import Derived.KernelRfl
set_option maxRecDepth 20000
set_option linter.unusedSimpArgs false
set_option linter.unusedVariables false
namespace Go.AM
abbrev vF:=List UInt8
abbrev vi (n:Int):V:= .int .i64 n
abbrev aC (n:Nat):V:= .int .i64 (n:Int)
structure Pt where
 x:Int
 y:Int
 deriving DecidableEq
def Pt.v (p:Pt):V:= .agg [vi p.x,vi p.y]
structure Edge where
 id:Int
 line:List Pt
 left:Int
 right:Int
 deriving DecidableEq
def kh (l:List Pt):V:= .lit 2 (l.map Pt.v)
def Edge.v (e:Edge):V:= .agg [vi e.id,kh e.line,vi e.left,vi e.right]
structure bu where
 id:Int
 cls:vF
 name:vF
 weight:Int
 eM:Int
 deriving DecidableEq
def bu.v (f:bu):V:= .agg [vi f.id,.str f.cls,.str f.name,vi f.weight,vi f.eM]
structure Way where
 id:Int
 line:List Pt
 level:Int
 cls:vF
 name:vF
 Lt:Bool
 weight:Int
 eM:Int
 deriving DecidableEq
def Way.v (w:Way):V:= .agg [vi w.id,kh w.line,vi w.level,.str w.cls,.str w.name,.bool w.Lt,vi w.weight,vi w.eM]
structure Place where
 id:Int
 x:Int
 y:Int
 cls:vF
 name:vF
 weight:Int
 eM:Int
 deriving DecidableEq
def Place.v (p:Place):V:= .agg [vi p.id,vi p.x,vi p.y,.str p.cls,.str p.name,vi p.weight,vi p.eM]
structure Event where
 kind:Int
 at_:Int
 id:Int
 other:Int
 n:Int
 deriving DecidableEq
def Event.v (e:Event):V:= .agg [vi e.kind,vi e.at_,vi e.id,vi e.other,vi e.n]
structure bk where
 aU:List Edge
 ba:List bu
 ways:List Way
 au:List Place
def bk.v (m:bk):V:= .agg [.lit 4 (m.aU.map Edge.v),.lit 5 (m.ba.map bu.v),.lit 8 (m.ways.map Way.v),.lit 7 (m.au.map Place.v)]
theorem cD: ∀ {cs:List V},(∀x ∈ cs,V.aB x=true)→V.aq cs=true
 | [],_=>rfl
 | c::cs,h=>by
   simp only[V.aq,Bool.and_eq_true]
   exact⟨h c (by simp),cD fun x hx=>h x (by simp[hx])⟩
theorem bP {α:Type} {f:α→V} (h: ∀x,(f x).aB=true) (l:List α):V.aq (l.map f)=true:=
 cD fun x hx=>by obtain⟨y,_,rfl⟩:=List.mem_map.1 hx;exact h y
theorem mr {α:Type} {f:α→V} {sz:Nat} (h: ∀x,aO (f x) sz=true) (l:List α): (l.map f).all (aO · sz)=true:=by
 simp[List.all_eq_true,h]
theorem Pt.bP (l:List Pt):V.aq (l.map Pt.v)=true:=AM.bP (fun _=>rfl) l
theorem Edge.bP (l:List Edge):V.aq (l.map Edge.v)=true:=AM.bP (fun _=>rfl) l
theorem bu.bP (l:List bu):V.aq (l.map bu.v)=true:=AM.bP (fun _=>rfl) l
theorem Way.bP (l:List Way):V.aq (l.map Way.v)=true:=AM.bP (fun _=>rfl) l
theorem Place.bP (l:List Place):V.aq (l.map Place.v)=true:=AM.bP (fun _=>rfl) l
theorem Event.bP (l:List Event):V.aq (l.map Event.v)=true:=AM.bP (fun _=>rfl) l
theorem al {α:Type} {f:α→V} {l:List α} {i:Nat} {n:Int} {x:α} (h:l[i]? =some x) (hn:n=(i:Int)): (l.map f)[n.toNat]? =some (f x):=by
 subst hn;simp[h]
theorem aD {α:Type} {l:List α} {i:Nat} (h:i<l.length):l[i]? =some l[i]:=List.getElem?_eq_getElem h
theorem kZ {α:Type} {f:α→V} {l:List α} {n:Nat} (h:n=l.length):aJ (l.map f) 0 n=l.map f:=by
 subst h;unfold aJ;rw[List.drop_zero,List.take_of_length_le (by simp)]
theorem jg {l:List V} {n:Nat} (h:n=l.length):aJ l 0 n=l:=by
 subst h;simp[aJ]
def c9 (n:Int):Int:=IntKind.i64.wrap n
theorem q6 {n:Int} (h0: -9223372036854775808≤n) (h1:n≤9223372036854775807):c9 n=n:=wrap64 h0 h1
theorem dy: ∀ {cs:List V},V.aq cs=true→ ∀x ∈ cs,V.aB x=true
 | [],_,x,h=>by simp at h
 | c::cs,h,x,hx=>by
   simp only[V.aq,Bool.and_eq_true] at h
   rcases List.mem_cons.1 hx with rfl| hx
   · exact h.1
   · exact dy h.2 x hx
theorem bn {a b:List V} (h:V.aq a=true) (k:V.aq b=true):V.aq (a++b)=true:=
 cD fun x hx=>by
  rcases List.mem_append.1 hx with hx| hx
  · exact dy h x hx
  · exact dy k x hx
theorem eG {es ys:List V} {o:Nat} (h:V.aq es=true) (k:V.aq ys=true):V.aq (overwrite es o ys)=true:=by
 refine bn (bn (cD fun x hx=> ?_) k) (cD fun x hx=> ?_)
 · exact dy h x (List.mem_of_mem_take hx)
 · exact dy h x (List.mem_of_mem_drop hx)
theorem jJ {es:List V} {o n:Nat} (h:V.aq es=true):V.aq (aJ es o n)=true:=
 cD fun x hx=>dy h x (List.mem_of_mem_drop (List.mem_of_mem_take hx))
theorem dz {n:Nat} {z:V} (h:V.aB z=true):V.aq (List.replicate n z)=true:=
 cD fun x hx=>by rw[List.eq_of_mem_replicate hx];exact h
theorem rU {es:List V} {n:Nat} {x:V} (h:V.aq es=true) (k:V.aB x=true):V.aq (es.set n x)=true:=
 cD fun y hy=>by
  rcases List.mem_or_eq_of_mem_set hy with hy| rfl
  · exact dy h y hy
  · exact k
theorem np {l:List V} {n:Nat} {x e:V} (h:l[n]? =some e): (l.set n x)[n]? =some x:=by
 have:=(List.getElem?_eq_some_iff.1 h).1
 simp[this]
theorem bV {α:Type} (p:α→Bool) (l:List α): (firstIdx p l= -1∧ ∀ (i:Nat) (x:α),l[i]? =some x→p x=false)∨ ∃ (i:Nat) (x:α),firstIdx p l=(i:Int)∧l[i]? =some x∧p x=true:=by
 unfold firstIdx
 cases h:l.findIdx? p with
 | none=>
   refine .inl ⟨rfl,fun i x hx=> ?_⟩
   rw[List.findIdx?_eq_none_iff] at h
   simpa using h x (List.mem_of_getElem? hx)
 | some i=>
   rw[List.findIdx?_eq_some_iff_getElem] at h
   obtain⟨hl,hp,_⟩:=h
   exact .inr ⟨i,l[i],rfl,List.getElem?_eq_getElem hl,hp⟩
theorem pZ {E:Env} {r:Nat} {bg:Bool} {g:Nat} {args:List V} {v:V} {S:SS} {Q:KK} (hm:c6 E g=[]) (hp:V.aq args=true) (he:Ev E g args ⟨v,[]⟩) (hv:V.aB v=true) (k:Q v S [] []):en E (jG E r bg g args) S Q:=by
 have key: ∀ (aS:List V) (i:Nat) (kk:List V→List Nat→List df→bj),V.aq aS=true→eo (r+8) aS [] i kk=kk aS [] []:=by
  intro aS
  induction aS with
  | nil=>intro i kk _;rfl
  | cons a aS ih=>
    intro i kk h
    simp only[V.aq,Bool.and_eq_true] at h
    simp only[eo,fU,h.1,cond_true,List.nil_append]
    rw[ih (i+1) _ h.2]
 unfold jG
 rw[hm,key args 0 _ hp]
 refine⟨rfl,⟨⟨v,[]⟩,he,?_⟩⟩
 simp only[fV,dY,hv,cond_true,en]
 exact k
theorem sd {p:Prop} (h:p:=by
 first| rfl| omega| assumption| exact AM.bP (fun _=>rfl) _| ((repeat' (first| rfl| exact AM.bP (fun _=>rfl) _| refine bn ?_ ?_| refine rU ?_ ?_| refine eG ?_ ?_| refine jJ ?_| refine dz ?_));done) | exact mr (fun _=>rfl) _| (and_intros<;>first| rfl| omega| assumption| exact AM.bP (fun _=>rfl) _| ((repeat' (first| rfl| exact AM.bP (fun _=>rfl) _| refine bn ?_ ?_| refine rU ?_ ?_| refine eG ?_ ?_| refine jJ ?_| refine dz ?_));done) | (simp only[List.length_map,List.length_append,List.length_cons,List.length_nil,List.length_take,List.length_drop];done) | (simp only[List.length_map,List.length_append,List.length_cons,List.length_nil,List.length_take,List.length_drop];omega) | (simp[*];done) | (simp[*];omega)) | fail):p:=h
theorem ao {p:Prop} (h:p:=by
 first| assumption| rfl| omega| (simp only[List.length_map,List.length_append,List.length_cons,List.length_nil,List.length_take,List.length_drop];omega) | fail):p:=h
theorem lt {p:Prop} (h:p:=by
 first| omega| (simp only[List.length_map] at*;omega) | fail):p:=h
theorem st {p q:Prop} (k:q) (h:q→p:=by
 first
 | exact eA.mk ⟨Int.natCast_nonneg _,Dt (by decide) (by decide),rfl,rfl⟩
 | exact eA.mk (p:=Dj _ _ _ _=true) (by kernel_rfl)
 | exact eA.mk sd
 | exact Or.inl∘eA.mk sd
 | exact Or.inr
 | exact aN.mk _ Zk
 | exact aN.mk _ (al (aD lt) rfl)
 | exact aN.mk _ (kZ (by first| rfl| (simp;done) | fail))
 | exact aN.mk _ (jg (by first| rfl| (simp;done) | (simp;omega) | fail))
 | exact aN.mk _ rfl
 | exact Br.tt
 | exact Br.ff
 | exact Br.t ao
 | exact Br.f ao
 | exact Br.nt ao
 | exact Br.nf ao
 | exact Br.bt (by first| assumption| (simp;done) | fail)
 | exact Br.bf (by first| assumption| (simp;done) | fail)
 | fail):p:=h k
theorem ai {p q:Prop} (k:q) (h:p:=by
 first
 | exact Eq.refl _
 | exact J6 _ (by omega)
 | exact congrArg (V.int .i64) (wrap64 (by omega) (by omega))
 | exact congrArg (V.int .i64) ((wrap64 (by omega) (by omega)).trans (by omega))
 | (conv=>whnf);done
 | ((conv=>whnf);simp only[List.map_append,List.map_cons,List.map_nil,List.length_append,List.length_cons,List.length_nil,List.length_map];done)
 | ((conv=>whnf);simp only[List.map_append,List.map_cons,List.map_nil,List.length_append,List.length_cons,List.length_nil,List.length_map];rfl)
 | ((conv=>whnf);first| exact J6 _ (by omega) | (simp;done) | (simp[*];done) | (simp;omega))
 | fail):p∧q:=⟨h,k⟩
theorem b1 {c c':Prop} {_:Decidable c} {p q:Prop} (h:c'→p) (k: ¬c'→q) (e:c↔c':=by
 (try simp only[List.length_map,List.length_append,List.length_cons,List.length_nil,List.length_take,List.length_drop])
 exact Iff.rfl):Br (decide c) p q:=Br.dec (fun x=>h (e.1 x)) (fun x=>k fun y=>x (e.2 y))
theorem b2 {c c':Prop} {_:Decidable c} {p q:Prop} (h: ¬c'→p) (k:c'→q) (e:c↔c':=by
 (try simp only[List.length_map,List.length_append,List.length_cons,List.length_nil,List.length_take,List.length_drop])
 exact Iff.rfl):Br (!decide c) p q:=Br.Zi (fun x=>h fun y=>x (e.2 y)) (fun x=>k (e.1 x))
end Go.AM
namespace Go.AM
theorem yX (x:Int):Ev E 36 [vi x] ⟨.bool false,[]⟩:=by
 refine Ev.aT Zr (Zs _) rfl ?_
 (conv=>whnf);repeat' ((first| intro g| refine st ?_| (first| refine b1 ?_ ?_| refine b2 ?_ ?_| refine Br.mk ?_ ?_) <;>intro hc| exact rfl) <;>conv=>whnf)
 all_goals simp
def nN (x y:Int):Int:=if x<y then -1 else if y<x then 1 else 0
theorem ub (x y:Int):Ev E 23 [vi x,vi y] ⟨vi (nN x y),[]⟩:=by
 refine Ev.aT Zt (Zu _) rfl ?_
 (conv=>whnf);repeat' ((first| intro g| refine ah.mk _ (yX x) ?_| refine ah.mk _ (yX y) ?_| refine st ?_| (first| refine b1 ?_ ?_| refine b2 ?_ ?_| refine Br.mk ?_ ?_) <;>intro hc| exact rfl) <;>conv=>whnf)
 all_goals simp[nN, *]
 all_goals omega
def J8 (a b:Int):Int:=if a=0 then b else a
theorem Lu (a b:Int):Ev E 22 [.lit 1 [vi a,vi b]] ⟨vi (J8 a b),[]⟩:=by
 refine Ev.aT Zv (Zw _) rfl ?_
 (conv=>whnf);repeat' ((first| intro g| refine st ?_| (first| refine b1 ?_ ?_| refine b2 ?_ ?_| refine Br.mk ?_ ?_) <;>intro hc| exact rfl) <;>conv=>whnf)
 refine aI.by (fun i:Nat=> ⟨[(3,vi 0),(6,.lit 1 [vi a,vi b]),(7,aC 2),(8,aC i)],[]⟩) (fun i=>i≤2∧(1≤i→a=0)∧(2≤i→b=0)) (fun i=>2 - i) 0 ?_ ?_ ?_
 · (refine⟨?_,?_⟩ <;>repeat' (first| exact True.intro| refine ai ?_| refine And.intro ?_ ?_))
 · simp
 rintro i ⟨hi,h1,h2⟩
 rcases(by omega:i=0∨i=1∨i=2) with rfl| rfl| rfl
 · (conv=>whnf);repeat' ((first| intro g| refine st ?_| (first| refine b1 ?_ ?_| refine b2 ?_ ?_| refine Br.mk ?_ ?_) <;>intro hc| exact rfl) <;>conv=>whnf)
   · simp[J8,hc]
   · refine aE.mk (1) (by first| omega| (dsimp only;omega)) ?_ (by(refine⟨?_,?_⟩ <;>repeat' (first| exact True.intro| refine ai ?_| refine And.intro ?_ ?_)))
     exact⟨by omega,fun _=>by simpa using hc,fun h=>by omega⟩
 · have ha:=h1 (by omega)
   (conv=>whnf);repeat' ((first| intro g| refine st ?_| (first| refine b1 ?_ ?_| refine b2 ?_ ?_| refine Br.mk ?_ ?_) <;>intro hc| exact rfl) <;>conv=>whnf)
   · simp[J8,ha]
   · refine aE.mk (2) (by first| omega| (dsimp only;omega)) ?_ (by(refine⟨?_,?_⟩ <;>repeat' (first| exact True.intro| refine ai ?_| refine And.intro ?_ ?_)))
     exact⟨by omega,fun _=>ha,fun _=>by simpa using hc⟩
 · have ha:=h1 (by omega)
   have hb:=h2 (by omega)
   (conv=>whnf);repeat' ((first| intro g| refine st ?_| (first| refine b1 ?_ ?_| refine b2 ?_ ?_| refine Br.mk ?_ ?_) <;>intro hc| exact rfl) <;>conv=>whnf)
   all_goals simp[J8,ha,hb]
def IsSqrt (n s:Int):Prop:=0≤s∧s*s≤n∧n< (s+1)*(s+1)
theorem jK {a b:Int} (h0:0≤a) (h:a≤b):a*a≤b*b:=Int.mul_le_mul h h h0 (by omega)
theorem IsSqrt.uniq {n s t:Int} (h:IsSqrt n s) (k:IsSqrt n t):s=t:=by
 obtain⟨h1,h2,h3⟩:=h
 obtain⟨k1,k2,k3⟩:=k
 rcases Int.lt_trichotomy s t with hl| hl| hl
 · have:=jK (a:=s+1) (b:=t) (by omega) (by omega);omega
 · exact hl
 · have:=jK (a:=t+1) (b:=s) (by omega) (by omega);omega
open Classical in
noncomputable def lJ (n:Int):Int:=if h: ∃s,IsSqrt n s then h.choose else 0
theorem mu {n s:Int} (h:IsSqrt n s):lJ n=s:=by
 have hex: ∃s,IsSqrt n s:=⟨s,h⟩
 unfold lJ;rw[dif_pos hex];exact hex.choose_spec.uniq h
theorem wo {n:Int} (h:n≤0):lJ n=0:=by
 by_cases hz:n=0
 · subst hz;exact mu ⟨by omega,by omega,by omega⟩
 · unfold lJ;rw[dif_neg]
   rintro⟨s,h1,h2,h3⟩
   have:=Int.mul_nonneg h1 h1
   omega
theorem yY {b r:Nat} (h:FloatKind.f64.format.sqrt b=some r):Ev E 41 [.float b] ⟨.float r,[]⟩:=by
 have yZ:Ev E 52 [.float b] ⟨.float r,[]⟩:=Ev.ext (by rw[Zx];simp[yP,h])
 refine Ev.aT Zy (Zz _) rfl ?_
 (conv=>whnf);repeat' ((first| intro g| refine ah.mk _ (yZ) ?_| refine st ?_| (first| refine b1 ?_ ?_| refine b2 ?_ ?_| refine Br.mk ?_ ?_) <;>intro hc| exact rfl) <;>conv=>whnf)
theorem It {n:Int} (h1:n≤9223372036854775807):Ev E 27 [vi n] ⟨vi (lJ n),[]⟩:=by
 by_cases h0:0 <n
 case neg=>
   rw[wo (by omega)]
   refine Ev.aT NV (NW _) rfl ?_
   (conv=>whnf);repeat' ((first| intro g| refine st ?_| (first| refine b1 ?_ ?_| refine b2 ?_ ?_| refine Br.mk ?_ ?_) <;>intro hc| exact rfl) <;>conv=>whnf)
   all_goals trivial
 obtain⟨r,m,hr,hm,Du,hm1⟩:=Fq h0 h1
 have e1:IntKind.i64.min≤m:=by simp[IntKind.min,IntKind.signed,IntKind.bits];omega
 have e2:m≤IntKind.i64.max:=by simp[IntKind.max,IntKind.signed,IntKind.bits];omega
 refine Ev.aT NV (NW _) rfl ?_
 (conv=>whnf);repeat' ((first| intro g| refine aN.mk _ ((⟨hm,e1,e2⟩:_∧_∧_)) ?_| refine ah.mk _ (yY hr) ?_| refine st ?_| (first| refine b1 ?_ ?_| refine b2 ?_ ?_| refine Br.mk ?_ ?_) <;>intro hc| exact rfl) <;>conv=>whnf)
 generalize Zn: (if 3037000499 <m then(3037000499:Int) else m)=s0
 have vO:0≤s0∧s0≤3037000499:=by split at Zn<;>omega
 refine aI.by (fun s:Int=> ⟨[(0,vi n),(3,vi s)],[]⟩) (fun s=>0≤s∧s≤3037000499) (fun s=>s.toNat) s0 ?_ vO ?_
 · (refine⟨?_,?_⟩ <;>repeat' (first| exact True.intro| refine ai ?_| refine And.intro ?_ ?_))
 rintro s ⟨nO,vP⟩
 have yZ:=jK nO vP
 have NX:0≤s*s:=Int.mul_nonneg nO nO
 have hw:IntKind.i64.wrap (s*s)=s*s:=wrap64 (by omega) (by omega)
 (conv=>whnf);repeat' ((first| intro g| refine st ?_| (first| refine b1 ?_ ?_| refine b2 ?_ ?_| refine Br.mk ?_ ?_) <;>intro hc| exact rfl) <;>conv=>whnf)
 · rw[ hw] at hc
   have:0 <s:=by
     rcases Int.lt_or_le 0 s with h| h
     · exact h
     · have:s=0:=by omega
       subst this;omega
   refine aE.mk (s - 1) (by first| omega| (dsimp only;omega)) ?_ (by(refine⟨?_,?_⟩ <;>repeat' (first| exact True.intro| refine ai ?_| refine And.intro ?_ ?_)))
   exact⟨by omega,by omega⟩
 rw[hw] at hc
 refine aI.by (fun s:Int=> ⟨[(0,vi n),(3,vi s)],[]⟩) (fun s=>0≤s∧s≤3037000499∧s*s≤n) (fun s=> (3037000499 - s).toNat) s ?_ ⟨nO,vP,by omega⟩ ?_
 · (refine⟨?_,?_⟩ <;>repeat' (first| exact True.intro| refine ai ?_| refine And.intro ?_ ?_))
 clear hw yZ NX hc nO vP s
 rintro s ⟨nO,vP,hle⟩
 by_cases bp:s< 3037000499
 · have yZ:=jK (a:=s+1) (b:=3037000499) (by omega) (by omega)
   have NX:0≤(s+1)*(s+1):=Int.mul_nonneg (by omega) (by omega)
   have NY:IntKind.i64.wrap (s+1)=s+1:=wrap64 (by omega) (by omega)
   have hw:IntKind.i64.wrap ((s+1)*(s+1))=(s+1)*(s+1):=wrap64 (by omega) (by omega)
   (conv=>whnf);repeat' ((first| intro g| refine st ?_| (first| refine b1 ?_ ?_| refine b2 ?_ ?_| refine Br.mk ?_ ?_) <;>intro hc| exact rfl) <;>conv=>whnf)
   · rw[NY,hw] at hc
     refine aE.mk (s+1) (by first| omega| (dsimp only;omega)) ?_ (by(refine⟨?_,?_⟩ <;>repeat' (first| exact True.intro| refine ai ?_| refine And.intro ?_ ?_)))
     exact⟨by omega,by omega,hc⟩
   · rw[NY,hw] at hc
     rw[mu ⟨nO,hle,by omega⟩]
 · (conv=>whnf);repeat' ((first| intro g| refine st ?_| (first| refine b1 ?_ ?_| refine b2 ?_ ?_| refine Br.mk ?_ ?_) <;>intro hc| exact rfl) <;>conv=>whnf)
   have:=jK (a:=3037000500) (b:=s+1) (by omega) (by omega)
   rw[mu ⟨nO,hle,by omega⟩]
theorem uc {n:Int} (hn:n≤9223372036854775807):Ev E 127 [vi n] ⟨vi (lJ n),[]⟩:=by
 refine Ev.aT NZ (N0 _) rfl ?_
 (conv=>whnf);repeat' ((first| intro g| refine st ?_| (first| refine b1 ?_ ?_| refine b2 ?_ ?_| refine Br.mk ?_ ?_) <;>intro hc| exact rfl) <;>conv=>whnf)
 refine aI.by (fun (p:Nat×Int)=> ⟨[(0,vi n),(3,vi p.2),(4,vi ((p.1:Int) - 1))],[]⟩)
   (fun p=>p.1≤32∧0≤p.2∧(p.2*p.2≤n∨p.2=0)∧p.2≤3037000499∧(n< (p.2+2 ^ p.1)*(p.2+2 ^ p.1)∨3037000500≤p.2+2 ^ p.1)) (fun p=>p.1) (32,0) ?_ ?_ ?_
 · (refine⟨?_,?_⟩ <;>repeat' (first| exact True.intro| refine ai ?_| refine And.intro ?_ ?_))
 · simp
 rintro⟨k,s⟩ ⟨h1,h2,h3,h4,h5⟩
 dsimp only at h1 h2 h3 h4 h5
 cases k with
 | zero=>
   (conv=>whnf);repeat' ((first| intro g| refine st ?_| (first| refine b1 ?_ ?_| refine b2 ?_ ?_| refine Br.mk ?_ ?_) <;>intro hc| exact rfl) <;>conv=>whnf)
   show (⟨vi s,[]⟩:dk)=_
   congr 2
   rw[show (2:Int) ^ 0=1 from rfl] at h5
   by_cases y0:n≤0
   · rw[wo y0]
     rcases h3 with h3| h3
     · by_cases hs:s=0
       · exact hs
       · have:=Int.mul_pos (show 0 <s by omega) (show 0 <s by omega);omega
     · exact h3
   · have J9:s*s≤n:=by
       rcases h3 with h3| h3
       · exact h3
       · subst h3;omega
     refine(mu ⟨h2,J9,?_⟩).symm
     rcases h5 with h5| h5
     · exact h5
     · have hs:s=3037000499:=by omega
       rw[hs,show ((3037000499:Int)+1)*(3037000499+1)=9223372037000250000 from rfl]
       omega
 | succ j=>
   have hj:min (((j+1:Nat):Int) - 1).toNat IntKind.i64.bits=j:=by
     have:IntKind.i64.bits=64:=rfl
     rw[this];omega
   have xz: (1:Int)≤2 ^ j:=by
     have:=Nat.one_le_two_pow (n:=j)
     exact_mod_cast this
   have hle: (2:Int) ^ j≤2147483648:=by
     have h31: (2:Nat) ^ j≤2147483648:=Nat.le_trans (show (2:Nat) ^ j≤2 ^ 31 from Nat.pow_le_pow_right (by omega) (by omega)) (by decide)
     have h32: ((2 ^ j:Nat):Int)≤((2147483648:Nat):Int):=Int.ofNat_le.2 h31
     rw[Int.natCast_pow] at h32
     exact h32
   have h2p: (2:Int) ^ (j+1)=2*2 ^ j:=by rw[Int.pow_succ];omega
   rw[h2p] at h5
   have hp:IntKind.i64.wrap (1*2 ^ min (((j+1:Nat):Int) - 1).toNat IntKind.i64.bits)=2 ^ j:=by
     rw[hj,Int.one_mul];exact wrap64 (by omega) (by omega)
   have hw:IntKind.i64.wrap (s+2 ^ j)=s+2 ^ j:=wrap64 (by omega) (by omega)
   have nq:s+2 ^ j+2 ^ j=s+2*2 ^ j:=by omega
   have yZ:s+2 ^ j≤3037000499→IntKind.i64.wrap ((s+2 ^ j)*(s+2 ^ j))=(s+2 ^ j)*(s+2 ^ j):=fun h=>by
     have:=jK (a:=s+2 ^ j) (b:=3037000499) (by omega) h
     have:=Int.mul_nonneg (show 0≤s+2 ^ j by omega) (show 0≤s+2 ^ j by omega)
     exact wrap64 (by omega) (by omega)
   (conv=>whnf);repeat' ((first| intro g| refine st ?_| (first| refine b1 ?_ ?_| refine b2 ?_ ?_| refine Br.mk ?_ ?_) <;>intro hc| exact rfl) <;>conv=>whnf)
   · rename_i td
     rw[hp,hw] at td
     rw[hp,hw,yZ td] at hc
     refine aE.mk (j,s+2 ^ j) (by dsimp only;omega) ?_ ?_
     · exact⟨by omega,by omega,.inl hc,td,by dsimp only;rw[nq];exact h5⟩
     · have e1:V.int .i64 (IntKind.i64.wrap (s+IntKind.i64.wrap (1*2 ^ min (((j+1:Nat):Int) - 1).toNat IntKind.i64.bits)))=vi (s+2 ^ j):=by rw[hp,hw]
       (refine⟨?_,?_⟩ <;>repeat' (first| exact True.intro| refine And.intro (e1) ?_| refine ai ?_| refine And.intro ?_ ?_))
   · rename_i td
     rw[hp,hw] at td
     rw[hp,hw,yZ td] at hc
     refine aE.mk (j,s) (by dsimp only;omega) ?_ (by(refine⟨?_,?_⟩ <;>repeat' (first| exact True.intro| refine ai ?_| refine And.intro ?_ ?_)))
     exact⟨by omega,by omega,h3,h4,.inl (by dsimp only;omega)⟩
   · rw[hp,hw] at hc
     refine aE.mk (j,s) (by dsimp only;omega) ?_ (by(refine⟨?_,?_⟩ <;>repeat' (first| exact True.intro| refine ai ?_| refine And.intro ?_ ?_)))
     exact⟨by omega,by omega,h3,h4,.inr (by dsimp only;omega)⟩
end Go.AM
namespace Go.AM
structure bI where
 eM:Int
 fg:List Event
def bI.v (h:bI):V:= .agg [vi h.eM,.lit 5 (h.fg.map Event.v)]
structure dq where
 id:Int
 x:Int
 y:Int
 r:Int
 text:vF
 mw:Int
 deriving DecidableEq
def dq.v (l:dq):V:= .agg [vi l.id,vi l.x,vi l.y,vi l.r,.str l.text,vi l.mw]
theorem bI.bP (l:List bI):V.aq (l.map bI.v)=true:=AM.bP (fun _=>rfl) l
theorem dq.bP (l:List dq):V.aq (l.map dq.v)=true:=AM.bP (fun _=>rfl) l
def Iu (s:vF):Int:=c9 (3+c9 (2*(s.length:Int)))
def nP (x y:Int):Bool:=decide (-16384≤x∧x≤16384) &&decide (-16384≤y∧y≤16384)
def lf (r:Int):Int:=max 0 (min r 1000)
def ib (a b:dq):Int:=lf a.r+lf b.r
theorem gF (r:Int):0≤lf r∧lf r≤1000:=by unfold lf;omega
theorem wv (a b:dq):0≤ib a b∧ib a b≤2000:=by
 have:=gF a.r;have:=gF b.r
 unfold ib;omega
theorem Bb (a b:dq):ib a b=ib b a:=by unfold ib;omega
def wx (a b:dq):Bool:=nP a.x a.y &&nP b.x b.y
theorem Fs (a b:dq):wx a b=wx b a:=by unfold wx;exact Bool.and_comm _ _
def Cq (a b:dq):Int:=(a.x - b.x)*(a.x - b.x)+(a.y - b.y)*(a.y - b.y)
theorem Ft (a b:Int): (a - b)*(a - b)=(b - a)*(b - a):=by
 rw[show b - a= -(a - b) by omega,Int.neg_mul_neg]
theorem Fu (a b:dq):Cq a b=Cq b a:=by unfold Cq;rw[Ft a.x,Ft a.y]
theorem xA {x:Int} (h: -32768≤x) (k:x≤32768):0≤x*x∧x*x≤1073741824:=by
 rcases Int.le_total 0 x with h0| h0
 · exact⟨Int.mul_nonneg h0 h0,Int.mul_le_mul k k h0 (by omega)⟩
 · have e:x*x=(-x)*(-x):=(Int.neg_mul_neg x x).symm
   rw[e]
   exact⟨Int.mul_nonneg (by omega) (by omega),Int.mul_le_mul (c:=32768) (d:=32768) (by omega) (by omega) (by omega) (by omega)⟩
theorem p8 {x y:Int} (h:nP x y=true): -16384≤x∧x≤16384∧ -16384≤y∧y≤16384:=by
 simp only[nP,Bool.and_eq_true,decide_eq_true_eq] at h;omega
theorem xB {a b:dq} (h:wx a b=true):0≤Cq a b∧Cq a b≤2147483648:=by
 simp only[wx,Bool.and_eq_true] at h
 have h1:=p8 h.1;have h2:=p8 h.2
 have k1:=xA (x:=a.x - b.x) (by omega) (by omega)
 have k2:=xA (x:=a.y - b.y) (by omega) (by omega)
 unfold Cq;omega
def xC (sq r:Int):Nat→Nat
 | 0=>0
 | n+1=>if ((n:Int)+1)*((n:Int)+1)*r*r≤sq then n+1 else xC sq r n
theorem Fv {r a b:Int} (h0:0≤a) (h:a≤b):a*a*r*r≤b*b*r*r:=by
 have h1:a*a≤b*b:=jK h0 h
 rw[Int.mul_assoc,Int.mul_assoc (b*b)]
 have h2:0≤r*r:=by
  rcases Int.le_total 0 r with k| k
  · exact Int.mul_nonneg k k
  · rw[←Int.neg_mul_neg];exact Int.mul_nonneg (by omega) (by omega)
 exact Int.mul_le_mul_of_nonneg_right h1 h2
theorem nr {sq r:Int} {z:Nat}: ∀ {n:Nat},z≤n→(z=0∨(z:Int)*z*r*r≤sq)→(z=n∨sq< ((z:Int)+1)*((z:Int)+1)*r*r)→xC sq r n=z
 | 0,h,_,_=>by unfold xC;omega
 | n+1,h,h1,h2=>by
   unfold xC
   by_cases e:z=n+1
   · subst e
     rcases h1 with h1| h1
     · omega
     · rw[if_pos (by simpa using h1)]
   · rcases h2 with h2| h2
     · exact absurd h2 e
     · have:=Fv (r:=r) (a:=(z:Int)+1) (b:=(n:Int)+1) (by omega) (by omega)
       rw[if_neg (by omega)]
       exact nr (by omega) h1 (.inr h2)
theorem Dv {sq r s:Int} (h0:0≤sq) (hr:0 <r) (hs:IsSqrt (sq / (r*r)) s): (if 1024 <s then 1024 else s)=(xC sq r 1024:Int):=by
 obtain⟨k0,k1,k2⟩:=hs
 have ns:0 <r*r:=Int.mul_pos hr hr
 have hle: ∀t:Int,0≤t→t≤s→t*t*r*r≤sq:=fun t t0 ht=>by
   have a1:t*t≤sq / (r*r):=Int.le_trans (jK t0 ht) k1
   rw[Int.mul_assoc]
   exact(Int.le_ediv_iff_mul_le ns).1 a1
 have ZA:sq< (s+1)*(s+1)*r*r:=by
   rw[Int.mul_assoc ((s+1)*(s+1))]
   exact(Int.ediv_lt_iff_lt_mul ns).1 k2
 obtain⟨n,rfl⟩: ∃n:Nat,s=n:=⟨s.toNat,by omega⟩
 by_cases h: (1024:Int) <n
 · rw[if_pos h]
   have:=nr (sq:=sq) (r:=r) (z:=1024) (n:=1024) (by omega) (.inr (hle 1024 (by omega) (by omega))) (.inl rfl)
   omega
 · rw[if_neg h]
   have:=nr (sq:=sq) (r:=r) (z:=n) (n:=1024) (by omega) (.inr (hle n (by omega) (by omega))) (.inr ZA)
   omega
def gG (a b:dq):Int:=if wx a b then(xC (Cq a b) (ib a b) 1024:Int) else 0
theorem Dw (a b:dq):gG a b=gG b a:=by unfold gG;rw[Fs,Fu,Bb]
theorem Dx {a b:dq} (h:wx a b=true) (hr:ib a b=0):gG a b=1024:=by
 unfold gG
 have h1:=xB h
 rw[if_pos h,hr,nr (z:=1024) (n:=1024) (by omega) (.inr (by omega)) (.inl rfl)]
 rfl
def nY (id:Int) (e:Event):Bool:=decide (e.id=id) &&decide (2≤e.kind∧e.kind≤4)
def jh (h:bI) (id:Int):Int:=firstIdx (nY id) h.fg
def Cr:Event:=⟨0,0,0,0,0⟩
def jL (h:bI) (id:Int):Int:=
 if jh h id< 0 then 1024 else if jh h id=0 then 0
 else
  let a:=(h.fg.getD ((jh h id).toNat - 1) Cr).at_
  if a< 0∨1024 <a then 0 else a
def lS (a b:Int):Int:=if b<a then b else a
def iq (l:List bI) (id:Int):Int:=l.foldl (fun u h=>lS u (jL h id)) 1024
def Dy (x y:dq):Int:=if gG y x<y.mw then gG y x else 1024
def ji (x:dq) (lT:List dq) (u:Int):Int:=lT.foldl (fun u y=>lS u (Dy x y)) u
def ki (p:Place):dq:=⟨p.id,p.x,p.y,Iu p.name,p.name,1024⟩
def p9 (l:List bI) (lT:List dq) (p:Place):dq:={ki p with mw:=ji (ki p) lT (iq l p.id)}
def fK (l:List bI) (ps:List Place):List dq:=ps.foldl (fun lT p=>lT++[p9 l lT p]) []
theorem Cs {a b:Int} (h:a≤1024):lS a b≤1024:=by unfold lS;split<;>omega
theorem wy (l:List bI) (id:Int):iq l id≤1024:=by
 unfold iq
 have: ∀ (l:List bI) (u:Int),u≤1024→l.foldl (fun u h=>lS u (jL h id)) u≤1024:=by
  intro l
  induction l with
  | nil=>exact fun u h=>h
  | cons h l ih=>exact fun u hu=>ih _ (Cs hu)
 exact this l 1024 (by omega)
theorem q7 (x:dq): ∀ (lT:List dq) (u:Int),u≤1024→ji x lT u≤1024
 | [],u,h=>h
 | y::l,u,h=>q7 x l _ (Cs h)
theorem Fw (l:List bI) (ps:List Place): ∀y ∈ fK l ps,y.mw≤1024:=by
 unfold fK
 have: ∀ (ps:List Place) (lT:List dq),(∀y ∈ lT,y.mw≤1024)→ ∀y ∈ ps.foldl (fun lT p=>lT++[p9 l lT p]) lT,y.mw≤1024:=by
  intro ps
  induction ps with
  | nil=>exact fun _ h=>h
  | cons p ps ih=>
    intro lT h
    refine ih _ fun y hy=> ?_
    rcases List.mem_append.1 hy with hy| hy
    · exact h y hy
    · rw[List.mem_singleton.1 hy]
      exact q7 _ _ _ (wy _ _)
 exact this ps [] (by simp)
section
variable {α:Type} (c:α→α→Bool)
def qa (x:α) (l:List α):List α:=(l.reverse.dropWhile (c x)).reverse++x:: (l.reverse.takeWhile (c x)).reverse
theorem Ct {x:α} {pre mid:List α} (h1: ∀y ∈ mid,c x y=true) (h2: ∀y,pre.getLast?=some y→c x y=false):qa c x (pre++mid)=pre++x::mid:=by
 have key: ∀ (m:List α) (p:List α),(∀y ∈ m,c x y=true)→(∀y,p.head?=some y→c x y=false)→(m++p).dropWhile (c x)=p∧(m++p).takeWhile (c x)=m:=by
  intro m
  induction m with
  | nil=>
    intro p _ hp
    cases p with
    | nil=>exact⟨rfl,rfl⟩
    | cons y p=>
      have:=hp y rfl
      simp[List.dropWhile,List.takeWhile,this]
  | cons a m ih=>
    intro p hm hp
    have ha:=hm a (by simp)
    have:=ih p (fun y hy=>hm y (by simp[hy])) hp
    simp[List.dropWhile,List.takeWhile,ha,this]
 unfold qa
 rw[List.reverse_append]
 obtain⟨k1,k2⟩:=key mid.reverse pre.reverse (fun y hy=>h1 y (by simpa using hy)) (fun y hy=>h2 y (by rwa [List.head?_reverse] at hy))
 rw[k1,k2,List.reverse_reverse,List.reverse_reverse]
theorem Fx (x:α) (l:List α): (qa c x l).length=l.length+1:=by
 unfold qa
 have:=congrArg List.length (List.takeWhile_append_dropWhile (p:=c x) (l:=l.reverse))
 rw[List.length_append,List.length_reverse] at this
 simp only[List.length_append,List.length_cons,List.length_reverse]
 omega
def fh (l:List α):List α:=l.foldl (fun out x=>qa c x out) []
theorem ud (l:List α) (x:α):fh c (l++[x])=qa c x (fh c l):=by unfold fh;rw[List.foldl_append];rfl
theorem dt (l:List α): (fh c l).length=l.length:=by
 have: ∀ (l out:List α),(l.foldl (fun out x=>qa c x out) out).length=out.length+l.length:=by
  intro l
  induction l with
  | nil=>intro out;simp
  | cons x l ih=>intro out;rw[List.foldl_cons,ih,Fx];simp;omega
 simpa [fh] using this l []
end
def eC (a b:Place):Bool:=decide (b.weight<a.weight) || (decide (a.weight=b.weight) &&decide (a.id<b.id))
def named (ps:List Place):List Place:=ps.filter fun p=>decide (p.name≠[])
def cU (ps:List Place):List Place:=fh eC (named ps)
def eD (l:List dq) (Lv:Int):List Int:=(l.filter fun y=>decide (0 <y.mw∧Lv≤y.mw*y.mw)).map dq.id
end Go.AM
