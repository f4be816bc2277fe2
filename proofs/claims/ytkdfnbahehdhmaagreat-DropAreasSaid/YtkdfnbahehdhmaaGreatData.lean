/-
  Texts of the proof, joined by program: SData, SMadeA. Own work.
-/
import Derived.Test.YtkdfnbahehdhmaaGreatFns
import Derived.Test.YtkdfnbahehdhmaaGreatBase
import Derived.KernelRfl
set_option linter.unusedSimpArgs false
set_option linter.unusedVariables false
namespace Go.AM
abbrev Ms:=List UInt8
abbrev vi (n:Int):V:= .int .i64 n
abbrev aM (n:Nat):V:= .int .i64 (n:Int)
structure Pt where
 x:Int
 y:Int
 deriving DecidableEq
def Pt.v (p:Pt):V:= .agg [vi p.x,vi p.y]
structure Edge where
 id:Int
 line:List Pt
 left:Int
 right:Int
 deriving DecidableEq
def kj (l:List Pt):V:= .lit 2 (l.map Pt.v)
def Edge.v (e:Edge):V:= .agg [vi e.id,kj e.line,vi e.left,vi e.right]
structure df where
 id:Int
 cls:Ms
 name:Ms
 weight:Int
 yD:Int
 deriving DecidableEq
def df.v (f:df):V:= .agg [vi f.id,.str f.cls,.str f.name,vi f.weight,vi f.yD]
structure Way where
 id:Int
 line:List Pt
 level:Int
 cls:Ms
 name:Ms
 yE:Bool
 weight:Int
 yD:Int
 deriving DecidableEq
def Way.v (w:Way):V:= .agg [vi w.id,kj w.line,vi w.level,.str w.cls,.str w.name,.bool w.yE,vi w.weight,vi w.yD]
structure Place where
 id:Int
 x:Int
 y:Int
 cls:Ms
 name:Ms
 weight:Int
 yD:Int
 deriving DecidableEq
def Place.v (p:Place):V:= .agg [vi p.id,vi p.x,vi p.y,.str p.cls,.str p.name,vi p.weight,vi p.yD]
structure Event where
 kind:Int
 at_:Int
 id:Int
 other:Int
 n:Int
 deriving DecidableEq
def Event.v (e:Event):V:= .agg [vi e.kind,vi e.at_,vi e.id,vi e.other,vi e.n]
structure cJ where
 aY:List Edge
 de:List df
 ways:List Way
 eH:List Place
def cJ.v (m:cJ):V:= .agg [.lit 4 (m.aY.map Edge.v),.lit 5 (m.de.map df.v),.lit 8 (m.ways.map Way.v),.lit 7 (m.eH.map Place.v)]
theorem cE: ∀ {cs:List V},(∀x ∈ cs,V.aw x=true)→V.al cs=true
 | [],_=>rfl
 | c::cs,h=>by
   simp only[V.al,Bool.and_eq_true]
   exact⟨h c (by simp),cE fun x hx=>h x (by simp[hx])⟩
theorem bP {α:Type} {f:α→V} (h: ∀x,(f x).aw=true) (l:List α):V.al (l.map f)=true:=
 cE fun x hx=>by obtain⟨y,_,rfl⟩:=List.mem_map.1 hx;exact h y
theorem HX {α:Type} {f:α→V} {sz:Nat} (h: ∀x,aH (f x) sz=true) (l:List α): (l.map f).all (aH · sz)=true:=by
 simp[List.all_eq_true,h]
theorem Pt.bP (l:List Pt):V.al (l.map Pt.v)=true:=AM.bP (fun _=>rfl) l
theorem Edge.bP (l:List Edge):V.al (l.map Edge.v)=true:=AM.bP (fun _=>rfl) l
theorem df.bP (l:List df):V.al (l.map df.v)=true:=AM.bP (fun _=>rfl) l
theorem Way.bP (l:List Way):V.al (l.map Way.v)=true:=AM.bP (fun _=>rfl) l
theorem Place.bP (l:List Place):V.al (l.map Place.v)=true:=AM.bP (fun _=>rfl) l
theorem Event.bP (l:List Event):V.al (l.map Event.v)=true:=AM.bP (fun _=>rfl) l
theorem aJ {α:Type} {f:α→V} {l:List α} {i:Nat} {n:Int} {x:α} (h:l[i]? =some x) (hn:n=(i:Int)): (l.map f)[n.toNat]? =some (f x):=by
 subst hn;simp[h]
theorem bu {α:Type} {l:List α} {i:Nat} (h:i<l.length):l[i]? =some l[i]:=List.getElem?_eq_getElem h
theorem EZ {α:Type} {f:α→V} {l:List α} {n:Nat} (h:n=l.length):aF (l.map f) 0 n=l.map f:=by
 subst h;unfold aF;rw[List.drop_zero,List.take_of_length_le (by simp)]
theorem kD {l:List V} {n:Nat} (h:n=l.length):aF l 0 n=l:=by
 subst h;simp[aF]
def fj (n:Int):Int:=IntKind.i64.wrap n
theorem fA {n:Int} (h0: -9223372036854775808≤n) (h1:n≤9223372036854775807):fj n=n:=wrap64 h0 h1
theorem dW: ∀ {cs:List V},V.al cs=true→ ∀x ∈ cs,V.aw x=true
 | [],_,x,h=>by simp at h
 | c::cs,h,x,hx=>by
   simp only[V.al,Bool.and_eq_true] at h
   rcases List.mem_cons.1 hx with rfl| hx
   · exact h.1
   · exact dW h.2 x hx
theorem eV {a b:List V} (h:V.al a=true) (k:V.al b=true):V.al (a++b)=true:=
 cE fun x hx=>by
  rcases List.mem_append.1 hx with hx| hx
  · exact dW h x hx
  · exact dW k x hx
theorem cG {es ys:List V} {o:Nat} (h:V.al es=true) (k:V.al ys=true):V.al (overwrite es o ys)=true:=by
 refine eV (eV (cE fun x hx=> ?_) k) (cE fun x hx=> ?_)
 · exact dW h x (List.mem_of_mem_take hx)
 · exact dW h x (List.mem_of_mem_drop hx)
theorem kE {es:List V} {o n:Nat} (h:V.al es=true):V.al (aF es o n)=true:=
 cE fun x hx=>dW h x (List.mem_of_mem_drop (List.mem_of_mem_take hx))
theorem dL {n:Nat} {z:V} (h:V.aw z=true):V.al (List.replicate n z)=true:=
 cE fun x hx=>by rw[List.eq_of_mem_replicate hx];exact h
theorem pS {es:List V} {n:Nat} {x:V} (h:V.al es=true) (k:V.aw x=true):V.al (es.set n x)=true:=
 cE fun y hy=>by
  rcases List.mem_or_eq_of_mem_set hy with hy| rfl
  · exact dW h y hy
  · exact k
theorem lM {l:List V} {n:Nat} {x e:V} (h:l[n]? =some e): (l.set n x)[n]? =some x:=by
 have:=(List.getElem?_eq_some_iff.1 h).1
 simp[this]
theorem E0 {α:Type} {f:α→V} {l:List α} {r:List V} {n:Nat} (h:n=l.length):aF (l.map f++r) 0 n=l.map f:=by
 subst h;unfold aF;rw[List.drop_zero,List.take_append_of_le_length (by simp),List.take_of_length_le (by simp)]
theorem wc {α:Type} {f:α→V} {l:List α} {i:Nat} {x:α} (h:l[i]? =some x): (l.map f).set i (f x)=l.map f:=by
 rw[←List.map_set]
 congr 1
 obtain⟨hl,rfl⟩:=List.getElem?_eq_some_iff.1 h
 simp
theorem kF {α:Type} (p:α→Bool) (l:List α): (firstIdx p l= -1∧ ∀ (i:Nat) (x:α),l[i]? =some x→p x=false)∨ ∃ (i:Nat) (x:α),firstIdx p l=(i:Int)∧l[i]? =some x∧p x=true:=by
 unfold firstIdx
 cases h:l.findIdx? p with
 | none=>
   refine .inl ⟨rfl,fun i x hx=> ?_⟩
   rw[List.findIdx?_eq_none_iff] at h
   simpa using h x (List.mem_of_getElem? hx)
 | some i=>
   rw[List.findIdx?_eq_some_iff_getElem] at h
   obtain⟨hl,hp,_⟩:=h
   exact .inr ⟨i,l[i],rfl,List.getElem?_eq_getElem hl,hp⟩
theorem eW {E:Env} {r:Nat} {bk:Bool} {g:Nat} {args:List V} {v:V} {S:SS} {Q:KK} (hm:dh E g=[]) (hp:V.al args=true) (he:Ev E g args ⟨v,[]⟩) (hv:V.aw v=true) (k:Q v S [] []):ek E (nI E r bk g args) S Q:=by
 have key: ∀ (as:List V) (i:Nat) (kk:List V→List Nat→List db→aZ),V.al as=true→er (r+8) as [] i kk=kk as [] []:=by
  intro as
  induction as with
  | nil=>intro i kk _;rfl
  | cons a as ih=>
    intro i kk h
    simp only[V.al,Bool.and_eq_true] at h
    simp only[er,fw,h.1,cond_true,List.nil_append]
    rw[ih (i+1) _ h.2]
 unfold nI
 rw[hm,key args 0 _ hp]
 refine⟨rfl,⟨⟨v,[]⟩,he,?_⟩⟩
 simp only[ga,eF,hv,cond_true,ek]
 exact k
theorem sd {p:Prop} (h:p:=by
 first| rfl| omega| assumption| exact AM.bP (fun _=>rfl) _| ((repeat' (first| rfl| exact AM.bP (fun _=>rfl) _| refine eV ?_ ?_| refine pS ?_ ?_| refine cG ?_ ?_| refine kE ?_| refine dL ?_));done) | exact HX (fun _=>rfl) _| (and_intros<;>first| rfl| omega| assumption| exact AM.bP (fun _=>rfl) _| ((repeat' (first| rfl| exact AM.bP (fun _=>rfl) _| refine eV ?_ ?_| refine pS ?_ ?_| refine cG ?_ ?_| refine kE ?_| refine dL ?_));done) | (simp only[List.length_map,List.length_append,List.length_cons,List.length_nil,List.length_take,List.length_drop];done) | (simp only[List.length_map,List.length_append,List.length_cons,List.length_nil,List.length_take,List.length_drop];omega) | (simp[*];done) | (simp[*];omega)) | fail):p:=h
theorem ao {p:Prop} (h:p:=by
 first| assumption| rfl| omega| (simp only[List.length_map,List.length_append,List.length_cons,List.length_nil,List.length_take,List.length_drop];omega) | fail):p:=h
theorem lt {p:Prop} (h:p:=by
 first| omega| (simp only[List.length_map] at*;omega) | fail):p:=h
theorem st {p q:Prop} (k:q) (h:q→p:=by
 first
 | exact ep.mk ⟨Int.natCast_nonneg _,AR (by decide) (by decide),rfl,rfl⟩
 | exact ep.mk (p:=GZ _ _ _ _=true) (by kernel_rfl)
 | exact ep.mk sd
 | exact Or.inl∘ep.mk sd
 | exact Or.inr
 | exact bd.mk _ UP
 | exact bd.mk _ (aJ (bu lt) rfl)
 | exact bd.mk _ (EZ (by first| rfl| (simp;done) | fail))
 | exact bd.mk _ (kD (by first| rfl| (simp;done) | (simp;omega) | fail))
 | exact bd.mk _ rfl
 | exact Br.tt
 | exact Br.ff
 | exact Br.t ao
 | exact Br.f ao
 | exact Br.nt ao
 | exact Br.nf ao
 | exact Br.bt (by first| assumption| (simp;done) | fail)
 | exact Br.bf (by first| assumption| (simp;done) | fail)
 | fail):p:=h k
theorem ai {p q:Prop} (k:q) (h:p:=by
 first
 | exact Eq.refl _
 | exact G5 _ (by omega)
 | exact congrArg (V.int .i64) (wrap64 (by omega) (by omega))
 | exact congrArg (V.int .i64) ((wrap64 (by omega) (by omega)).trans (by omega))
 | (conv=>whnf);done
 | ((conv=>whnf);simp only[List.map_append,List.map_cons,List.map_nil,List.length_append,List.length_cons,List.length_nil,List.length_map];done)
 | ((conv=>whnf);simp only[List.map_append,List.map_cons,List.map_nil,List.length_append,List.length_cons,List.length_nil,List.length_map];rfl)
 | ((conv=>whnf);first| exact G5 _ (by omega) | (simp;done) | (simp[*];done) | (simp;omega))
 | fail):p∧q:=⟨h,k⟩
theorem b1 {c c':Prop} {_:Decidable c} {p q:Prop} (h:c'→p) (k: ¬c'→q) (e:c↔c':=by
 (try simp only[List.length_map,List.length_append,List.length_cons,List.length_nil,List.length_take,List.length_drop])
 exact Iff.rfl):Br (decide c) p q:=Br.dec (fun x=>h (e.1 x)) (fun x=>k fun y=>x (e.2 y))
theorem b2 {c c':Prop} {_:Decidable c} {p q:Prop} (h: ¬c'→p) (k:c'→q) (e:c↔c':=by
 (try simp only[List.length_map,List.length_append,List.length_cons,List.length_nil,List.length_take,List.length_drop])
 exact Iff.rfl):Br (!decide c) p q:=Br.UL (fun x=>h fun y=>x (e.2 y)) (fun x=>k (e.1 x))
end Go.AM
set_option maxRecDepth 20000
namespace Go.AM
def nT (a n:Int):Int:=(fj (a.tmod n+n)).tmod n
theorem qR {a:Int} {n:Nat} (h:0 <n) (h2:n< 1000000000000000):0≤nT a n∧nT a n<n:=by
 unfold nT
 have h1:=Int.tmod_lt_of_pos a (show (0:Int) <n by omega)
 have h3:=Int.lt_tmod_of_pos a (show (0:Int) <n by omega)
 rw[fA (by omega) (by omega)]
 have h4:=Int.tmod_nonneg (b:=(n:Int)) (a:=a.tmod n+n) (by omega)
 have h5:=Int.tmod_lt_of_pos (a.tmod n+n) (show (0:Int) <n by omega)
 exact⟨h4,h5⟩
theorem CE {a n:Int} (h:n≠0):Ev E 93 [vi a,vi n] ⟨vi (nT a n),[]⟩:=by
 refine Ev.bY UW (UX _) rfl ?_
 (conv=>whnf);repeat' ((first| intro g| refine st ?_| (refine bd.bo ?_;intro s) | (first| refine b1 ?_ ?_| refine b2 ?_ ?_| refine Br.mk ?_ ?_) <;>intro hc| exact rfl) <;>conv=>whnf)
def cz (l:List Int) (a:Nat):V:= .agg [.lit 1 (l.map vi),aM a]
def dp (l:List Int) (a n:Nat):Nat:=match l[a]? with
 | some x=> (nT x n).toNat
 | none=>0
def bF (l:List Int) (a:Nat):Nat:=if a<l.length then a+1 else a
theorem dX {l:List Int} {a n:Nat} (h:0 <n) (h2:n< 1000000000000000):dp l a n<n:=by
 unfold dp
 split
 · rename_i x _
   have:=qR (a:=x) h h2
   omega
 · exact h
theorem bI {l:List Int} (hl:l.length< 9223372036854775808) (n:Nat) {a:Nat} (h:0 <n) (h2:n< 1000000000000000):Ev E 85 [.mptr 2 [cz l a] 0 0,aM n] ⟨aM (dp l a n),[(0,[cz l (bF l a)])]⟩:=by
 refine Ev.bY UY (UZ _) rfl ?_
 by_cases bJ:a<l.length
 · obtain⟨x,hx⟩: ∃x,l[a]? =some x:=⟨_,bu bJ⟩
   have hm:=CE (a:=x) (n:=(n:Int)) (by omega)
   have hw:IntKind.i64.wrap (IntKind.i64.wrap ((a:Int)+1) - 1)=(a:Int):=by
    rw[wrap64 (n:=(a:Int)+1) (by omega) (by omega)]
    exact(wrap64 (by omega) (by omega)).trans (by omega)
   have hb:=qR (a:=x) h h2
   have e1:dp l a n=(nT x n).toNat:=by simp[dp,hx]
   have e2:bF l a=a+1:=by simp[bF,bJ]
   rw[e1,e2]
   have e3:IntKind.i64.wrap ((a:Int)+1)=((a+1:Nat):Int):=(wrap64 (by omega) (by omega)).trans (by omega)
   have e4:aM (nT x n).toNat=vi (nT x n):=by show V.int _ _=V.int _ _;congr 1;omega
   rw[e4]
   (conv=>whnf);repeat' ((first| intro g| refine bd.mk _ (aJ hx hw) ?_| refine ak.mk _ (hm) ?_| refine st ?_| (refine bd.bo ?_;intro s) | (first| refine b1 ?_ ?_| refine b2 ?_ ?_| refine Br.mk ?_ ?_) <;>intro hc| exact rfl) <;>conv=>whnf)
   show (⟨vi _,[(0,[V.agg [_,V.int .i64 _]])]⟩:eS)=_
   rw[e3];rfl
 · have e1:dp l a n=0:=by simp[dp,show l[a]? =none from by simp;omega]
   have e2:bF l a=a:=by simp[bF,bJ]
   rw[e1,e2]
   (conv=>whnf);repeat' ((first| intro g| refine st ?_| (refine bd.bo ?_;intro s) | (first| refine b1 ?_ ?_| refine b2 ?_ ?_| refine Br.mk ?_ ?_) <;>intro hc| exact rfl) <;>conv=>whnf)
theorem AR {l:List Int} {a n:Nat} (h:0 <n) (h2:n< 1000000000000000): ((dp l a n:Nat):Int) < (n:Int):=by
 have:=dX (l:=l) (a:=a) h h2
 omega
theorem bd.str {L:List V} {n:Nat} {q:V→Prop} (h: ∀x ∈ L,∃s,x= .str s) (hn:n<L.length) (k: ∀s,q (.str s)):bd (fun e=>L[n]? =some e) q:=by
 obtain⟨s,hs⟩:=h L[n] (List.getElem_mem hn)
 refine⟨_,List.getElem?_eq_getElem hn,?_⟩
 rw[hs];exact k s
theorem bd.bo {L:List V} {n:Nat} {q:V→Prop} (k: ∀s,q (.str s)) (h: ∀x ∈ L,∃s,x= .str s:=by simp) (hn:n<L.length:=by first| exact Nat.lt_of_lt_of_le (dX (by decide) (by decide)) (by decide) | fail):bd (fun e=>L[n]? =some e) q:=
 bd.str h hn k
end Go.AM
