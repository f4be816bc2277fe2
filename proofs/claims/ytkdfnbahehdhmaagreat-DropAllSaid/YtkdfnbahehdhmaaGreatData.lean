/-
  Texts of the proof, joined by program: SData, SMadeA. Own work.
-/
import Derived.Test.YtkdfnbahehdhmaaGreatFns
import Derived.Test.YtkdfnbahehdhmaaGreatBase
import Derived.KernelRfl
set_option linter.unusedSimpArgs false
set_option linter.unusedVariables false
namespace Go.AM
abbrev Lx:=List UInt8
abbrev vi (n:Int):V:= .int .i64 n
abbrev aD (n:Nat):V:= .int .i64 (n:Int)
structure Pt where
 x:Int
 y:Int
 deriving DecidableEq
def Pt.v (p:Pt):V:= .agg [vi p.x,vi p.y]
structure Edge where
 id:Int
 line:List Pt
 left:Int
 right:Int
 deriving DecidableEq
def dJ (l:List Pt):V:= .lit 2 (l.map Pt.v)
def Edge.v (e:Edge):V:= .agg [vi e.id,dJ e.line,vi e.left,vi e.right]
structure aI where
 id:Int
 cls:Lx
 name:Lx
 weight:Int
 eW:Int
 deriving DecidableEq
def aI.v (f:aI):V:= .agg [vi f.id,.str f.cls,.str f.name,vi f.weight,vi f.eW]
structure Way where
 id:Int
 line:List Pt
 level:Int
 cls:Lx
 name:Lx
 lU:Bool
 weight:Int
 eW:Int
 deriving DecidableEq
def Way.v (w:Way):V:= .agg [vi w.id,dJ w.line,vi w.level,.str w.cls,.str w.name,.bool w.lU,vi w.weight,vi w.eW]
structure Place where
 id:Int
 x:Int
 y:Int
 cls:Lx
 name:Lx
 weight:Int
 eW:Int
 deriving DecidableEq
def Place.v (p:Place):V:= .agg [vi p.id,vi p.x,vi p.y,.str p.cls,.str p.name,vi p.weight,vi p.eW]
structure Event where
 kind:Int
 at_:Int
 id:Int
 other:Int
 n:Int
 deriving DecidableEq
def Event.v (e:Event):V:= .agg [vi e.kind,vi e.at_,vi e.id,vi e.other,vi e.n]
structure aQ where
 aH:List Edge
 bn:List aI
 ways:List Way
 aZ:List Place
def aQ.v (m:aQ):V:= .agg [.lit 4 (m.aH.map Edge.v),.lit 5 (m.bn.map aI.v),.lit 8 (m.ways.map Way.v),.lit 7 (m.aZ.map Place.v)]
theorem de: ∀ {cs:List V},(∀x ∈ cs,V.aC x=true)→V.an cs=true
 | [],_=>rfl
 | c::cs,h=>by
   simp only[V.an,Bool.and_eq_true]
   exact⟨h c (by simp),de fun x hx=>h x (by simp[hx])⟩
theorem bZ {α:Type} {f:α→V} (h: ∀x,(f x).aC=true) (l:List α):V.an (l.map f)=true:=
 de fun x hx=>by obtain⟨y,_,rfl⟩:=List.mem_map.1 hx;exact h y
theorem uC {α:Type} {f:α→V} {sz:Nat} (h: ∀x,aS (f x) sz=true) (l:List α): (l.map f).all (aS · sz)=true:=by
 simp[List.all_eq_true,h]
theorem Pt.bZ (l:List Pt):V.an (l.map Pt.v)=true:=AM.bZ (fun _=>rfl) l
theorem Edge.bZ (l:List Edge):V.an (l.map Edge.v)=true:=AM.bZ (fun _=>rfl) l
theorem aI.bZ (l:List aI):V.an (l.map aI.v)=true:=AM.bZ (fun _=>rfl) l
theorem Way.bZ (l:List Way):V.an (l.map Way.v)=true:=AM.bZ (fun _=>rfl) l
theorem Place.bZ (l:List Place):V.an (l.map Place.v)=true:=AM.bZ (fun _=>rfl) l
theorem Event.bZ (l:List Event):V.an (l.map Event.v)=true:=AM.bZ (fun _=>rfl) l
theorem aq {α:Type} {f:α→V} {l:List α} {i:Nat} {n:Int} {x:α} (h:l[i]? =some x) (hn:n=(i:Int)): (l.map f)[n.toNat]? =some (f x):=by
 subst hn;simp[h]
theorem aE {α:Type} {l:List α} {i:Nat} (h:i<l.length):l[i]? =some l[i]:=List.getElem?_eq_getElem h
theorem bC {α:Type} {f:α→V} {l:List α} {n:Nat} (h:n=l.length):aN (l.map f) 0 n=l.map f:=by
 subst h;unfold aN;rw[List.drop_zero,List.take_of_length_le (by simp)]
theorem ei {l:List V} {n:Nat} (h:n=l.length):aN l 0 n=l:=by
 subst h;simp[aN]
def wb (n:Int):Int:=IntKind.i64.wrap n
theorem uD {n:Int} (h0: -9223372036854775808≤n) (h1:n≤9223372036854775807):wb n=n:=wrap64 h0 h1
theorem fk: ∀ {cs:List V},V.an cs=true→ ∀x ∈ cs,V.aC x=true
 | [],_,x,h=>by simp at h
 | c::cs,h,x,hx=>by
   simp only[V.an,Bool.and_eq_true] at h
   rcases List.mem_cons.1 hx with rfl| hx
   · exact h.1
   · exact fk h.2 x hx
theorem gD {a b:List V} (h:V.an a=true) (k:V.an b=true):V.an (a++b)=true:=
 de fun x hx=>by
  rcases List.mem_append.1 hx with hx| hx
  · exact fk h x hx
  · exact fk k x hx
theorem dh {es ys:List V} {o:Nat} (h:V.an es=true) (k:V.an ys=true):V.an (overwrite es o ys)=true:=by
 refine gD (gD (de fun x hx=> ?_) k) (de fun x hx=> ?_)
 · exact fk h x (List.mem_of_mem_take hx)
 · exact fk h x (List.mem_of_mem_drop hx)
theorem nd {es:List V} {o n:Nat} (h:V.an es=true):V.an (aN es o n)=true:=
 de fun x hx=>fk h x (List.mem_of_mem_drop (List.mem_of_mem_take hx))
theorem eZ {n:Nat} {z:V} (h:V.aC z=true):V.an (List.replicate n z)=true:=
 de fun x hx=>by rw[List.eq_of_mem_replicate hx];exact h
theorem sH {es:List V} {n:Nat} {x:V} (h:V.an es=true) (k:V.aC x=true):V.an (es.set n x)=true:=
 de fun y hy=>by
  rcases List.mem_or_eq_of_mem_set hy with hy| rfl
  · exact fk h y hy
  · exact k
theorem lV {l:List V} {n:Nat} {x e:V} (h:l[n]? =some e): (l.set n x)[n]? =some x:=by
 have:=(List.getElem?_eq_some_iff.1 h).1
 simp[this]
theorem xS {α:Type} {f:α→V} {l:List α} {r:List V} {n:Nat} (h:n=l.length):aN (l.map f++r) 0 n=l.map f:=by
 subst h;unfold aN;rw[List.drop_zero,List.take_append_of_le_length (by simp),List.take_of_length_le (by simp)]
theorem jN {α:Type} (p:α→Bool) (l:List α): (firstIdx p l= -1∧ ∀ (i:Nat) (x:α),l[i]? =some x→p x=false)∨ ∃ (i:Nat) (x:α),firstIdx p l=(i:Int)∧l[i]? =some x∧p x=true:=by
 unfold firstIdx
 cases h:l.findIdx? p with
 | none=>
   refine .inl ⟨rfl,fun i x hx=> ?_⟩
   rw[List.findIdx?_eq_none_iff] at h
   simpa using h x (List.mem_of_getElem? hx)
 | some i=>
   rw[List.findIdx?_eq_some_iff_getElem] at h
   obtain⟨hl,hp,_⟩:=h
   exact .inr ⟨i,l[i],rfl,List.getElem?_eq_getElem hl,hp⟩
theorem gG {E:Env} {r:Nat} {bK:Bool} {g:Nat} {args:List V} {v:V} {S:SS} {Q:KK} (hm:df E g=[]) (hp:V.an args=true) (he:Ev E g args ⟨v,[]⟩) (hv:V.aC v=true) (k:Q v S [] []):ed E (lQ E r bK g args) S Q:=by
 have key: ∀ (as0:List V) (i:Nat) (kk:List V→List Nat→List dV→bz),V.an as0=true→eQ (r+8) as0 [] i kk=kk as0 [] []:=by
  intro as0
  induction as0 with
  | nil=>intro i kk _;rfl
  | cons a as0 ih=>
    intro i kk h
    simp only[V.an,Bool.and_eq_true] at h
    simp only[eQ,gA,h.1,cond_true,List.nil_append]
    rw[ih (i+1) _ h.2]
 unfold lQ
 rw[hm,key args 0 _ hp]
 refine⟨rfl,⟨⟨v,[]⟩,he,?_⟩⟩
 simp only[gB,dk,hv,cond_true,ed]
 exact k
theorem sd {p:Prop} (h:p:=by
 first| rfl| omega| assumption| exact AM.bZ (fun _=>rfl) _| ((repeat' (first| rfl| exact AM.bZ (fun _=>rfl) _| refine gD ?_ ?_| refine sH ?_ ?_| refine dh ?_ ?_| refine nd ?_| refine eZ ?_));done) | exact uC (fun _=>rfl) _| (and_intros<;>first| rfl| omega| assumption| exact AM.bZ (fun _=>rfl) _| ((repeat' (first| rfl| exact AM.bZ (fun _=>rfl) _| refine gD ?_ ?_| refine sH ?_ ?_| refine dh ?_ ?_| refine nd ?_| refine eZ ?_));done) | (simp only[List.length_map,List.length_append,List.length_cons,List.length_nil,List.length_take,List.length_drop];done) | (simp only[List.length_map,List.length_append,List.length_cons,List.length_nil,List.length_take,List.length_drop];omega) | (simp[*];done) | (simp[*];omega)) | fail):p:=h
theorem ao {p:Prop} (h:p:=by
 first| assumption| rfl| omega| (simp only[List.length_map,List.length_append,List.length_cons,List.length_nil,List.length_take,List.length_drop];omega) | fail):p:=h
theorem lt {p:Prop} (h:p:=by
 first| omega| (simp only[List.length_map] at*;omega) | fail):p:=h
theorem st {p q:Prop} (k:q) (h:q→p:=by
 first
 | exact dI.mk ⟨Int.natCast_nonneg _,D1 (by decide) (by decide),rfl,rfl⟩
 | exact dI.mk (p:=Lp _ _ _ _=true) (by kernel_rfl)
 | exact dI.mk sd
 | exact Or.inl∘dI.mk sd
 | exact Or.inr
 | exact aL.mk _ aaM
 | exact aL.mk _ (aq (aE lt) rfl)
 | exact aL.mk _ (bC (by first| rfl| (simp;done) | fail))
 | exact aL.mk _ (ei (by first| rfl| (simp;done) | (simp;omega) | fail))
 | exact aL.mk _ rfl
 | exact Br.tt
 | exact Br.ff
 | exact Br.t ao
 | exact Br.f ao
 | exact Br.nt ao
 | exact Br.nf ao
 | exact Br.bt (by first| assumption| (simp;done) | fail)
 | exact Br.bf (by first| assumption| (simp;done) | fail)
 | fail):p:=h k
theorem ai {p q:Prop} (k:q) (h:p:=by
 first
 | exact Eq.refl _
 | exact Lw _ (by omega)
 | exact congrArg (V.int .i64) (wrap64 (by omega) (by omega))
 | exact congrArg (V.int .i64) ((wrap64 (by omega) (by omega)).trans (by omega))
 | (conv=>whnf);done
 | ((conv=>whnf);simp only[List.map_append,List.map_cons,List.map_nil,List.length_append,List.length_cons,List.length_nil,List.length_map];done)
 | ((conv=>whnf);simp only[List.map_append,List.map_cons,List.map_nil,List.length_append,List.length_cons,List.length_nil,List.length_map];rfl)
 | ((conv=>whnf);first| exact Lw _ (by omega) | (simp;done) | (simp[*];done) | (simp;omega))
 | fail):p∧q:=⟨h,k⟩
theorem b1 {c c':Prop} {_:Decidable c} {p q:Prop} (h:c'→p) (k: ¬c'→q) (e:c↔c':=by
 (try simp only[List.length_map,List.length_append,List.length_cons,List.length_nil,List.length_take,List.length_drop])
 exact Iff.rfl):Br (decide c) p q:=Br.dec (fun x=>h (e.1 x)) (fun x=>k fun y=>x (e.2 y))
theorem b2 {c c':Prop} {_:Decidable c} {p q:Prop} (h: ¬c'→p) (k:c'→q) (e:c↔c':=by
 (try simp only[List.length_map,List.length_append,List.length_cons,List.length_nil,List.length_take,List.length_drop])
 exact Iff.rfl):Br (!decide c) p q:=Br.aaL (fun x=>h fun y=>x (e.2 y)) (fun x=>k (e.1 x))
end Go.AM
set_option maxRecDepth 20000
namespace Go.AM
def uE (a n:Int):Int:=(wb (a.tmod n+n)).tmod n
theorem xU {a:Int} {n:Nat} (h:0 <n) (h2:n< 1000000000000000):0≤uE a n∧uE a n<n:=by
 unfold uE
 have h1:=Int.tmod_lt_of_pos a (show (0:Int) <n by omega)
 have h3:=Int.lt_tmod_of_pos a (show (0:Int) <n by omega)
 rw[uD (by omega) (by omega)]
 have h4:=Int.tmod_nonneg (b:=(n:Int)) (a:=a.tmod n+n) (by omega)
 have h5:=Int.tmod_lt_of_pos (a.tmod n+n) (show (0:Int) <n by omega)
 exact⟨h4,h5⟩
theorem Bn {a n:Int} (h:n≠0):Ev E 93 [vi a,vi n] ⟨vi (uE a n),[]⟩:=by
 refine Ev.aG aaQ (aaR _) rfl ?_
 (conv=>whnf);repeat' ((first| intro g| refine st ?_| (refine aL.bP ?_;intro s) | (first| refine b1 ?_ ?_| refine b2 ?_ ?_| refine Br.mk ?_ ?_) <;>intro hc| exact rfl) <;>conv=>whnf)
def c8 (l:List Int) (a:Nat):V:= .agg [.lit 1 (l.map vi),aD a]
def fm (l:List Int) (a n:Nat):Nat:=match l[a]? with
 | some x=> (uE x n).toNat
 | none=>0
def b5 (l:List Int) (a:Nat):Nat:=if a<l.length then a+1 else a
theorem gH {l:List Int} {a n:Nat} (h:0 <n) (h2:n< 1000000000000000):fm l a n<n:=by
 unfold fm
 split
 · rename_i x _
   have:=xU (a:=x) h h2
   omega
 · exact h
theorem b8 {l:List Int} (hl:l.length< 9223372036854775808) (n:Nat) {a:Nat} (h:0 <n) (h2:n< 1000000000000000):Ev E 85 [.mptr 2 [c8 l a] 0 0,aD n] ⟨aD (fm l a n),[(0,[c8 l (b5 l a)])]⟩:=by
 refine Ev.aG aaS (aaT _) rfl ?_
 by_cases bl:a<l.length
 · obtain⟨x,hx⟩: ∃x,l[a]? =some x:=⟨_,aE bl⟩
   have hm:=Bn (a:=x) (n:=(n:Int)) (by omega)
   have hw:IntKind.i64.wrap (IntKind.i64.wrap ((a:Int)+1) - 1)=(a:Int):=by
    rw[wrap64 (n:=(a:Int)+1) (by omega) (by omega)]
    exact(wrap64 (by omega) (by omega)).trans (by omega)
   have hb:=xU (a:=x) h h2
   have e1:fm l a n=(uE x n).toNat:=by simp[fm,hx]
   have e2:b5 l a=a+1:=by simp[b5,bl]
   rw[e1,e2]
   have e3:IntKind.i64.wrap ((a:Int)+1)=((a+1:Nat):Int):=(wrap64 (by omega) (by omega)).trans (by omega)
   have e4:aD (uE x n).toNat=vi (uE x n):=by show V.int _ _=V.int _ _;congr 1;omega
   rw[e4]
   (conv=>whnf);repeat' ((first| intro g| refine aL.mk _ (aq hx hw) ?_| refine ag.mk _ (hm) ?_| refine st ?_| (refine aL.bP ?_;intro s) | (first| refine b1 ?_ ?_| refine b2 ?_ ?_| refine Br.mk ?_ ?_) <;>intro hc| exact rfl) <;>conv=>whnf)
   show (⟨vi _,[(0,[V.agg [_,V.int .i64 _]])]⟩:fL)=_
   rw[e3];rfl
 · have e1:fm l a n=0:=by simp[fm,show l[a]? =none from by simp;omega]
   have e2:b5 l a=a:=by simp[b5,bl]
   rw[e1,e2]
   (conv=>whnf);repeat' ((first| intro g| refine st ?_| (refine aL.bP ?_;intro s) | (first| refine b1 ?_ ?_| refine b2 ?_ ?_| refine Br.mk ?_ ?_) <;>intro hc| exact rfl) <;>conv=>whnf)
theorem D1 {l:List Int} {a n:Nat} (h:0 <n) (h2:n< 1000000000000000): ((fm l a n:Nat):Int) < (n:Int):=by
 have:=gH (l:=l) (a:=a) h h2
 omega
theorem aL.str {L:List V} {n:Nat} {q:V→Prop} (h: ∀x ∈ L,∃s,x= .str s) (hn:n<L.length) (k: ∀s,q (.str s)):aL (fun e=>L[n]? =some e) q:=by
 obtain⟨s,hs⟩:=h L[n] (List.getElem_mem hn)
 refine⟨_,List.getElem?_eq_getElem hn,?_⟩
 rw[hs];exact k s
theorem aL.bP {L:List V} {n:Nat} {q:V→Prop} (k: ∀s,q (.str s)) (h: ∀x ∈ L,∃s,x= .str s:=by simp) (hn:n<L.length:=by first| exact Nat.lt_of_lt_of_le (gH (by decide) (by decide)) (by decide) | fail):aL (fun e=>L[n]? =some e) q:=
 aL.str h hn k
end Go.AM
