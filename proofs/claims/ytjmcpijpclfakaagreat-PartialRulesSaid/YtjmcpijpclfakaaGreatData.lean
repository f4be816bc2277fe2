/-
  Texts of the proof: SData, PSan.
-/
import Derived.Test.YtjmcpijpclfakaaGreatFns
import Derived.Test.YtjmcpijpclfakaaGreatBase
import Derived.KernelRfl
set_option linter.unusedSimpArgs false
set_option linter.unusedVariables false
namespace Go.AM
abbrev dE:=List UInt8
abbrev vi (n:Int):V:= .int .i64 n
abbrev aO (n:Nat):V:= .int .i64 (n:Int)
structure Pt where
 x:Int
 y:Int
 deriving DecidableEq
def Pt.v (p:Pt):V:= .agg [vi p.x,vi p.y]
structure Edge where
 id:Int
 line:List Pt
 left:Int
 right:Int
 deriving DecidableEq
def ZU (l:List Pt):V:= .lit 2 (l.map Pt.v)
def Edge.v (e:Edge):V:= .agg [vi e.id,ZU e.line,vi e.left,vi e.right]
structure FH where
 id:Int
 cls:dE
 name:dE
 weight:Int
 KJ:Int
 deriving DecidableEq
def FH.v (f:FH):V:= .agg [vi f.id,.str f.cls,.str f.name,vi f.weight,vi f.KJ]
structure Way where
 id:Int
 line:List Pt
 level:Int
 cls:dE
 name:dE
 cg:Bool
 weight:Int
 KJ:Int
 deriving DecidableEq
def Way.v (w:Way):V:= .agg [vi w.id,ZU w.line,vi w.level,.str w.cls,.str w.name,.bool w.cg,vi w.weight,vi w.KJ]
structure Place where
 id:Int
 x:Int
 y:Int
 cls:dE
 name:dE
 weight:Int
 KJ:Int
 deriving DecidableEq
def Place.v (p:Place):V:= .agg [vi p.id,vi p.x,vi p.y,.str p.cls,.str p.name,vi p.weight,vi p.KJ]
structure Event where
 kind:Int
 at_:Int
 id:Int
 other:Int
 n:Int
 deriving DecidableEq
def Event.v (e:Event):V:= .agg [vi e.kind,vi e.at_,vi e.id,vi e.other,vi e.n]
structure ZV where
 ZW:List Edge
 ZX:List FH
 ways:List Way
 Ss:List Place
def ZV.v (m:ZV):V:= .agg [.lit 4 (m.ZW.map Edge.v),.lit 5 (m.ZX.map FH.v),.lit 8 (m.ways.map Way.v),.lit 7 (m.Ss.map Place.v)]
theorem dK: ∀ {cs:List V},(∀x ∈ cs,V.aj x=true)→V.ae cs=true
 | [],_=>rfl
 | c::cs,h=>by
   simp only[V.ae,Bool.and_eq_true]
   exact⟨h c (by simp),dK fun x hx=>h x (by simp[hx])⟩
theorem bq {α:Type} {f:α→V} (h: ∀x,(f x).aj=true) (l:List α):V.ae (l.map f)=true:=
 dK fun x hx=>by obtain⟨y,_,rfl⟩:=List.mem_map.1 hx;exact h y
theorem Su {α:Type} {f:α→V} {sz:Nat} (h: ∀x,aZ (f x) sz=true) (l:List α): (l.map f).all (aZ · sz)=true:=by
 simp[List.all_eq_true,h]
theorem Pt.bq (l:List Pt):V.ae (l.map Pt.v)=true:=AM.bq (fun _=>rfl) l
theorem Edge.bq (l:List Edge):V.ae (l.map Edge.v)=true:=AM.bq (fun _=>rfl) l
theorem FH.bq (l:List FH):V.ae (l.map FH.v)=true:=AM.bq (fun _=>rfl) l
theorem Way.bq (l:List Way):V.ae (l.map Way.v)=true:=AM.bq (fun _=>rfl) l
theorem Place.bq (l:List Place):V.ae (l.map Place.v)=true:=AM.bq (fun _=>rfl) l
theorem Event.bq (l:List Event):V.ae (l.map Event.v)=true:=AM.bq (fun _=>rfl) l
theorem eL {α:Type} {f:α→V} {l:List α} {i:Nat} {n:Int} {x:α} (h:l[i]? =some x) (hn:n=(i:Int)): (l.map f)[n.toNat]? =some (f x):=by
 subst hn;simp[h]
theorem bp {α:Type} {l:List α} {i:Nat} (h:i<l.length):l[i]? =some l[i]:=List.getElem?_eq_getElem h
theorem kK {α:Type} {f:α→V} {l:List α} {n:Nat} (h:n=l.length):bb (l.map f) 0 n=l.map f:=by
 subst h;unfold bb;rw[List.drop_zero,List.take_of_length_le (by simp)]
theorem yE {l:List V} {n:Nat} (h:n=l.length):bb l 0 n=l:=by
 subst h;simp[bb]
def oG (n:Int):Int:=IntKind.i64.wrap n
theorem Sb {n:Int} (h0: -9223372036854775808≤n) (h1:n≤9223372036854775807):oG n=n:=wrap64 h0 h1
theorem fG: ∀ {cs:List V},V.ae cs=true→ ∀x ∈ cs,V.aj x=true
 | [],_,x,h=>by simp at h
 | c::cs,h,x,hx=>by
   simp only[V.ae,Bool.and_eq_true] at h
   rcases List.mem_cons.1 hx with rfl| hx
   · exact h.1
   · exact fG h.2 x hx
theorem eK {a b:List V} (h:V.ae a=true) (k:V.ae b=true):V.ae (a++b)=true:=
 dK fun x hx=>by
  rcases List.mem_append.1 hx with hx| hx
  · exact fG h x hx
  · exact fG k x hx
theorem gr {es ys:List V} {o:Nat} (h:V.ae es=true) (k:V.ae ys=true):V.ae (overwrite es o ys)=true:=by
 refine eK (eK (dK fun x hx=> ?_) k) (dK fun x hx=> ?_)
 · exact fG h x (List.mem_of_mem_take hx)
 · exact fG h x (List.mem_of_mem_drop hx)
theorem pJ {es:List V} {o n:Nat} (h:V.ae es=true):V.ae (bb es o n)=true:=
 dK fun x hx=>fG h x (List.mem_of_mem_drop (List.mem_of_mem_take hx))
theorem eY {n:Nat} {z:V} (h:V.aj z=true):V.ae (List.replicate n z)=true:=
 dK fun x hx=>by rw[List.eq_of_mem_replicate hx];exact h
theorem wA {es:List V} {n:Nat} {x:V} (h:V.ae es=true) (k:V.aj x=true):V.ae (es.set n x)=true:=
 dK fun y hy=>by
  rcases List.mem_or_eq_of_mem_set hy with hy| rfl
  · exact fG h y hy
  · exact k
theorem xK {α:Type} {f:α→V} {l:List α} {r:List V} {n:Nat} (h:n=l.length):bb (l.map f++r) 0 n=l.map f:=by
 subst h;unfold bb;rw[List.drop_zero,List.take_append_of_le_length (by simp),List.take_of_length_le (by simp)]
theorem pc {α:Type} (p:α→Bool) (l:List α): (firstIdx p l= -1∧ ∀ (i:Nat) (x:α),l[i]? =some x→p x=false)∨ ∃ (i:Nat) (x:α),firstIdx p l=(i:Int)∧l[i]? =some x∧p x=true:=by
 unfold firstIdx
 cases h:l.findIdx? p with
 | none=>
   refine .inl ⟨rfl,fun i x hx=> ?_⟩
   rw[List.findIdx?_eq_none_iff] at h
   simpa using h x (List.mem_of_getElem? hx)
 | some i=>
   rw[List.findIdx?_eq_some_iff_getElem] at h
   obtain⟨hl,hp,_⟩:=h
   exact .inr ⟨i,l[i],rfl,List.getElem?_eq_getElem hl,hp⟩
theorem aq {E:Env} {r:Nat} {b6:Bool} {g:Nat} {args:List V} {v:V} {S:SS} {Q:KK} (hm:aD E g=[]) (hp:V.ae args=true) (he:Ev E g args ⟨v,[]⟩) (hv:V.aj v=true) (k:Q v S [] []):eR E (mj E r b6 g args) S Q:=by
 have key: ∀ (bL:List V) (i:Nat) (kk:List V→List Nat→List fk→bR),V.ae bL=true→fW (r+8) bL [] i kk=kk bL [] []:=by
  intro bL
  induction bL with
  | nil=>intro i kk _;rfl
  | cons a bL ih=>
    intro i kk h
    simp only[V.ae,Bool.and_eq_true] at h
    simp only[fW,gQ,h.1,cond_true,List.nil_append]
    rw[ih (i+1) _ h.2]
 unfold mj
 rw[hm,key args 0 _ hp]
 refine⟨rfl,⟨⟨v,[]⟩,he,?_⟩⟩
 simp only[cM,bC,hv,cond_true,eR]
 exact k
theorem sd {p:Prop} (h:p:=by
 first| rfl| omega| assumption| exact AM.bq (fun _=>rfl) _| ((repeat' (first| rfl| exact AM.bq (fun _=>rfl) _| refine eK ?_ ?_| refine wA ?_ ?_| refine gr ?_ ?_| refine pJ ?_| refine eY ?_));done) | exact Su (fun _=>rfl) _| (and_intros<;>first| rfl| omega| assumption| exact AM.bq (fun _=>rfl) _| ((repeat' (first| rfl| exact AM.bq (fun _=>rfl) _| refine eK ?_ ?_| refine wA ?_ ?_| refine gr ?_ ?_| refine pJ ?_| refine eY ?_));done) | (simp only[List.length_map,List.length_append,List.length_cons,List.length_nil,List.length_take,List.length_drop];done) | (simp only[List.length_map,List.length_append,List.length_cons,List.length_nil,List.length_take,List.length_drop];omega) | (simp[*];done) | (simp[*];omega)) | fail):p:=h
theorem ao {p:Prop} (h:p:=by
 first| assumption| rfl| omega| (simp only[List.length_map,List.length_append,List.length_cons,List.length_nil,List.length_take,List.length_drop];omega) | fail):p:=h
theorem lt {p:Prop} (h:p:=by
 first| omega| (simp only[List.length_map] at*;omega) | fail):p:=h
theorem st {p q:Prop} (k:q) (h:q→p:=by
 first
 | exact bU.mk ⟨Int.natCast_nonneg _,Iz (by decide) (by decide),rfl,rfl⟩
 | exact bU.mk (p:=QT _ _ _ _=true) (by kernel_rfl)
 | exact bU.mk sd
 | exact Or.inl∘bU.mk sd
 | exact Or.inr
 | exact bD.mk _ afw
 | exact bD.mk _ (eL (bp lt) rfl)
 | exact bD.mk _ (kK (by first| rfl| (simp;done) | fail))
 | exact bD.mk _ (yE (by first| rfl| (simp;done) | (simp;omega) | fail))
 | exact bD.mk _ rfl
 | exact Br.tt
 | exact Br.ff
 | exact Br.t ao
 | exact Br.f ao
 | exact Br.nt ao
 | exact Br.nf ao
 | exact Br.bt (by first| assumption| (simp;done) | fail)
 | exact Br.bf (by first| assumption| (simp;done) | fail)
 | fail):p:=h k
theorem ai {p q:Prop} (k:q) (h:p:=by
 first
 | exact Eq.refl _
 | exact Q0 _ (by omega)
 | exact congrArg (V.int .i64) (wrap64 (by omega) (by omega))
 | exact congrArg (V.int .i64) ((wrap64 (by omega) (by omega)).trans (by omega))
 | (conv=>whnf);done
 | ((conv=>whnf);simp only[List.map_append,List.map_cons,List.map_nil,List.length_append,List.length_cons,List.length_nil,List.length_map];done)
 | ((conv=>whnf);simp only[List.map_append,List.map_cons,List.map_nil,List.length_append,List.length_cons,List.length_nil,List.length_map];rfl)
 | ((conv=>whnf);first| exact Q0 _ (by omega) | (simp;done) | (simp[*];done) | (simp;omega))
 | fail):p∧q:=⟨h,k⟩
theorem b1 {c c':Prop} {_:Decidable c} {p q:Prop} (h:c'→p) (k: ¬c'→q) (e:c↔c':=by
 (try simp only[List.length_map,List.length_append,List.length_cons,List.length_nil,List.length_take,List.length_drop])
 exact Iff.rfl):Br (decide c) p q:=Br.dec (fun x=>h (e.1 x)) (fun x=>k fun y=>x (e.2 y))
theorem b2 {c c':Prop} {_:Decidable c} {p q:Prop} (h: ¬c'→p) (k:c'→q) (e:c↔c':=by
 (try simp only[List.length_map,List.length_append,List.length_cons,List.length_nil,List.length_take,List.length_drop])
 exact Iff.rfl):Br (!decide c) p q:=Br.afu (fun x=>h fun y=>x (e.2 y)) (fun x=>k (e.1 x))
end Go.AM
namespace Go.AM
def isTrue (r:Option iE):Bool:=match r with
 | some ⟨.bool true,[]⟩=>true
 | _=>false
theorem jD {r:Option iE} (h:isTrue r=true):r=some ⟨.bool true,[]⟩:=by
 unfold isTrue at h
 split at h
 · rfl
 · simp at h
end Go.AM
