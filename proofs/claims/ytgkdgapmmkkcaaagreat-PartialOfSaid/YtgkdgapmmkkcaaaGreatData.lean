/-
  Texts of the proof, joined by program: SData, SMadeA. Own work.
-/
import Derived.Test.YtgkdgapmmkkcaaaGreatFns
import Derived.Test.YtgkdgapmmkkcaaaGreatBase
import Derived.KernelRfl
set_option linter.unusedSimpArgs false
set_option linter.unusedVariables false
namespace Go.AM
abbrev eX:=List UInt8
abbrev vi (n:Int):V:= .int .i64 n
abbrev aT (n:Nat):V:= .int .i64 (n:Int)
structure Pt where
 x:Int
 y:Int
 deriving DecidableEq
def Pt.v (p:Pt):V:= .agg [vi p.x,vi p.y]
structure Edge where
 id:Int
 line:List Pt
 left:Int
 right:Int
 deriving DecidableEq
def wB (l:List Pt):V:= .lit 2 (l.map Pt.v)
def Edge.v (e:Edge):V:= .agg [vi e.id,wB e.line,vi e.left,vi e.right]
structure aK where
 id:Int
 cls:eX
 name:eX
 weight:Int
 fb:Int
 deriving DecidableEq
def aK.v (f:aK):V:= .agg [vi f.id,.str f.cls,.str f.name,vi f.weight,vi f.fb]
structure Way where
 id:Int
 line:List Pt
 level:Int
 cls:eX
 name:eX
 cZ:Bool
 weight:Int
 fb:Int
 deriving DecidableEq
def Way.v (w:Way):V:= .agg [vi w.id,wB w.line,vi w.level,.str w.cls,.str w.name,.bool w.cZ,vi w.weight,vi w.fb]
structure Place where
 id:Int
 x:Int
 y:Int
 cls:eX
 name:eX
 weight:Int
 fb:Int
 deriving DecidableEq
def Place.v (p:Place):V:= .agg [vi p.id,vi p.x,vi p.y,.str p.cls,.str p.name,vi p.weight,vi p.fb]
structure Event where
 kind:Int
 at_:Int
 id:Int
 other:Int
 n:Int
 deriving DecidableEq
def Event.v (e:Event):V:= .agg [vi e.kind,vi e.at_,vi e.id,vi e.other,vi e.n]
structure br where
 bZ:List Edge
 bp:List aK
 ways:List Way
 aW:List Place
def br.v (m:br):V:= .agg [.lit 4 (m.bZ.map Edge.v),.lit 5 (m.bp.map aK.v),.lit 8 (m.ways.map Way.v),.lit 7 (m.aW.map Place.v)]
theorem c6: ∀ {cs:List V},(∀x ∈ cs,V.aC x=true)→V.aq cs=true
 | [],_=>rfl
 | c::cs,h=>by
   simp only[V.aq,Bool.and_eq_true]
   exact⟨h c (by simp),c6 fun x hx=>h x (by simp[hx])⟩
theorem cr {α:Type} {f:α→V} (h: ∀x,(f x).aC=true) (l:List α):V.aq (l.map f)=true:=
 c6 fun x hx=>by obtain⟨y,_,rfl⟩:=List.mem_map.1 hx;exact h y
theorem Cn {α:Type} {f:α→V} {sz:Nat} (h: ∀x,aN (f x) sz=true) (l:List α): (l.map f).all (aN · sz)=true:=by
 simp[List.all_eq_true,h]
theorem Pt.cr (l:List Pt):V.aq (l.map Pt.v)=true:=AM.cr (fun _=>rfl) l
theorem Edge.cr (l:List Edge):V.aq (l.map Edge.v)=true:=AM.cr (fun _=>rfl) l
theorem aK.cr (l:List aK):V.aq (l.map aK.v)=true:=AM.cr (fun _=>rfl) l
theorem Way.cr (l:List Way):V.aq (l.map Way.v)=true:=AM.cr (fun _=>rfl) l
theorem Place.cr (l:List Place):V.aq (l.map Place.v)=true:=AM.cr (fun _=>rfl) l
theorem Event.cr (l:List Event):V.aq (l.map Event.v)=true:=AM.cr (fun _=>rfl) l
theorem au {α:Type} {f:α→V} {l:List α} {i:Nat} {n:Int} {x:α} (h:l[i]? =some x) (hn:n=(i:Int)): (l.map f)[n.toNat]? =some (f x):=by
 subst hn;simp[h]
theorem aJ {α:Type} {l:List α} {i:Nat} (h:i<l.length):l[i]? =some l[i]:=List.getElem?_eq_getElem h
theorem bl {α:Type} {f:α→V} {l:List α} {n:Nat} (h:n=l.length):aH (l.map f) 0 n=l.map f:=by
 subst h;unfold aH;rw[List.drop_zero,List.take_of_length_le (by simp)]
theorem wC {l:List V} {n:Nat} (h:n=l.length):aH l 0 n=l:=by
 subst h;simp[aH]
def Ei (n:Int):Int:=IntKind.i64.wrap n
theorem Hp {n:Int} (h0: -9223372036854775808≤n) (h1:n≤9223372036854775807):Ei n=n:=wrap64 h0 h1
theorem eH: ∀ {cs:List V},V.aq cs=true→ ∀x ∈ cs,V.aC x=true
 | [],_,x,h=>by simp at h
 | c::cs,h,x,hx=>by
   simp only[V.aq,Bool.and_eq_true] at h
   rcases List.mem_cons.1 hx with rfl| hx
   · exact h.1
   · exact eH h.2 x hx
theorem fN {a b:List V} (h:V.aq a=true) (k:V.aq b=true):V.aq (a++b)=true:=
 c6 fun x hx=>by
  rcases List.mem_append.1 hx with hx| hx
  · exact eH h x hx
  · exact eH k x hx
theorem jG {es ys:List V} {o:Nat} (h:V.aq es=true) (k:V.aq ys=true):V.aq (overwrite es o ys)=true:=by
 refine fN (fN (c6 fun x hx=> ?_) k) (c6 fun x hx=> ?_)
 · exact eH h x (List.mem_of_mem_take hx)
 · exact eH h x (List.mem_of_mem_drop hx)
theorem lY {es:List V} {o n:Nat} (h:V.aq es=true):V.aq (aH es o n)=true:=
 c6 fun x hx=>eH h x (List.mem_of_mem_drop (List.mem_of_mem_take hx))
theorem jH {n:Nat} {z:V} (h:V.aC z=true):V.aq (List.replicate n z)=true:=
 c6 fun x hx=>by rw[List.eq_of_mem_replicate hx];exact h
theorem qM {es:List V} {n:Nat} {x:V} (h:V.aq es=true) (k:V.aC x=true):V.aq (es.set n x)=true:=
 c6 fun y hy=>by
  rcases List.mem_or_eq_of_mem_set hy with hy| rfl
  · exact eH h y hy
  · exact k
theorem kG {l:List V} {n:Nat} {x e:V} (h:l[n]? =some e): (l.set n x)[n]? =some x:=by
 have:=(List.getElem?_eq_some_iff.1 h).1
 simp[this]
theorem vu {α:Type} {f:α→V} {l:List α} {r:List V} {n:Nat} (h:n=l.length):aH (l.map f++r) 0 n=l.map f:=by
 subst h;unfold aH;rw[List.drop_zero,List.take_append_of_le_length (by simp),List.take_of_length_le (by simp)]
theorem sd {p:Prop} (h:p:=by
 first| rfl| omega| assumption| exact AM.cr (fun _=>rfl) _| ((repeat' (first| rfl| exact AM.cr (fun _=>rfl) _| refine fN ?_ ?_| refine qM ?_ ?_| refine jG ?_ ?_| refine lY ?_| refine jH ?_));done) | exact Cn (fun _=>rfl) _| (and_intros<;>first| rfl| omega| assumption| exact AM.cr (fun _=>rfl) _| ((repeat' (first| rfl| exact AM.cr (fun _=>rfl) _| refine fN ?_ ?_| refine qM ?_ ?_| refine jG ?_ ?_| refine lY ?_| refine jH ?_));done) | (simp only[List.length_map,List.length_append,List.length_cons,List.length_nil,List.length_take,List.length_drop];done) | (simp only[List.length_map,List.length_append,List.length_cons,List.length_nil,List.length_take,List.length_drop];omega) | (simp[*];done) | (simp[*];omega)) | fail):p:=h
theorem ao {p:Prop} (h:p:=by
 first| assumption| rfl| omega| (simp only[List.length_map,List.length_append,List.length_cons,List.length_nil,List.length_take,List.length_drop];omega) | fail):p:=h
theorem lt {p:Prop} (h:p:=by
 first| omega| (simp only[List.length_map] at*;omega) | fail):p:=h
theorem st {p q:Prop} (k:q) (h:q→p:=by
 first
 | exact dC.mk ⟨Int.natCast_nonneg _,AF (by decide) (by decide),rfl,rfl⟩
 | exact dC.mk (p:=Gj _ _ _ _=true) (by kernel_rfl)
 | exact dC.mk sd
 | exact Or.inl∘dC.mk sd
 | exact Or.inr
 | exact aL.mk _ U6
 | exact aL.mk _ (au (aJ lt) rfl)
 | exact aL.mk _ (bl (by first| rfl| (simp;done) | fail))
 | exact aL.mk _ (wC (by first| rfl| (simp;done) | (simp;omega) | fail))
 | exact aL.mk _ rfl
 | exact Br.tt
 | exact Br.ff
 | exact Br.t ao
 | exact Br.f ao
 | exact Br.nt ao
 | exact Br.nf ao
 | exact Br.bt (by first| assumption| (simp;done) | fail)
 | exact Br.bf (by first| assumption| (simp;done) | fail)
 | fail):p:=h k
theorem ai {p q:Prop} (k:q) (h:p:=by
 first
 | exact Eq.refl _
 | exact Gq _ (by omega)
 | exact congrArg (V.int .i64) (wrap64 (by omega) (by omega))
 | exact congrArg (V.int .i64) ((wrap64 (by omega) (by omega)).trans (by omega))
 | (conv=>whnf);done
 | ((conv=>whnf);simp only[List.map_append,List.map_cons,List.map_nil,List.length_append,List.length_cons,List.length_nil,List.length_map];done)
 | ((conv=>whnf);simp only[List.map_append,List.map_cons,List.map_nil,List.length_append,List.length_cons,List.length_nil,List.length_map];rfl)
 | ((conv=>whnf);first| exact Gq _ (by omega) | (simp;done) | (simp[*];done) | (simp;omega))
 | fail):p∧q:=⟨h,k⟩
theorem b1 {c c':Prop} {_:Decidable c} {p q:Prop} (h:c'→p) (k: ¬c'→q) (e:c↔c':=by
 (try simp only[List.length_map,List.length_append,List.length_cons,List.length_nil,List.length_take,List.length_drop])
 exact Iff.rfl):Br (decide c) p q:=Br.dec (fun x=>h (e.1 x)) (fun x=>k fun y=>x (e.2 y))
theorem b2 {c c':Prop} {_:Decidable c} {p q:Prop} (h: ¬c'→p) (k:c'→q) (e:c↔c':=by
 (try simp only[List.length_map,List.length_append,List.length_cons,List.length_nil,List.length_take,List.length_drop])
 exact Iff.rfl):Br (!decide c) p q:=Br.U3 (fun x=>h fun y=>x (e.2 y)) (fun x=>k (e.1 x))
end Go.AM
set_option maxRecDepth 20000
namespace Go.AM
def so (a n:Int):Int:=(Ei (a.tmod n+n)).tmod n
theorem vv {a:Int} {n:Nat} (h:0 <n) (h2:n< 1000000000000000):0≤so a n∧so a n<n:=by
 unfold so
 have h1:=Int.tmod_lt_of_pos a (show (0:Int) <n by omega)
 have h3:=Int.lt_tmod_of_pos a (show (0:Int) <n by omega)
 rw[Hp (by omega) (by omega)]
 have h4:=Int.tmod_nonneg (b:=(n:Int)) (a:=a.tmod n+n) (by omega)
 have h5:=Int.tmod_lt_of_pos (a.tmod n+n) (show (0:Int) <n by omega)
 exact⟨h4,h5⟩
theorem yx {a n:Int} (h:n≠0):Ev E 93 [vi a,vi n] ⟨vi (so a n),[]⟩:=by
 refine Ev.cY Vb (Vc _) rfl ?_
 (conv=>whnf);repeat' ((first| intro g| refine st ?_| (refine aL.bK ?_;intro s) | (first| refine b1 ?_ ?_| refine b2 ?_ ?_| refine Br.mk ?_ ?_) <;>intro hc| exact rfl) <;>conv=>whnf)
def cT (l:List Int) (a:Nat):V:= .agg [.lit 1 (l.map vi),aT a]
def eI (l:List Int) (a n:Nat):Nat:=match l[a]? with
 | some x=> (so x n).toNat
 | none=>0
def bW (l:List Int) (a:Nat):Nat:=if a<l.length then a+1 else a
theorem fP {l:List Int} {a n:Nat} (h:0 <n) (h2:n< 1000000000000000):eI l a n<n:=by
 unfold eI
 split
 · rename_i x _
   have:=vv (a:=x) h h2
   omega
 · exact h
theorem b0 {l:List Int} (hl:l.length< 9223372036854775808) (n:Nat) {a:Nat} (h:0 <n) (h2:n< 1000000000000000):Ev E 85 [.mptr 2 [cT l a] 0 0,aT n] ⟨aT (eI l a n),[(0,[cT l (bW l a)])]⟩:=by
 refine Ev.cY Vd (Ve _) rfl ?_
 by_cases bA:a<l.length
 · obtain⟨x,hx⟩: ∃x,l[a]? =some x:=⟨_,aJ bA⟩
   have hm:=yx (a:=x) (n:=(n:Int)) (by omega)
   have hw:IntKind.i64.wrap (IntKind.i64.wrap ((a:Int)+1) - 1)=(a:Int):=by
    rw[wrap64 (n:=(a:Int)+1) (by omega) (by omega)]
    exact(wrap64 (by omega) (by omega)).trans (by omega)
   have hb:=vv (a:=x) h h2
   have e1:eI l a n=(so x n).toNat:=by simp[eI,hx]
   have e2:bW l a=a+1:=by simp[bW,bA]
   rw[e1,e2]
   have e3:IntKind.i64.wrap ((a:Int)+1)=((a+1:Nat):Int):=(wrap64 (by omega) (by omega)).trans (by omega)
   have e4:aT (so x n).toNat=vi (so x n):=by show V.int _ _=V.int _ _;congr 1;omega
   rw[e4]
   (conv=>whnf);repeat' ((first| intro g| refine aL.mk _ (au hx hw) ?_| refine ag.mk _ (hm) ?_| refine st ?_| (refine aL.bK ?_;intro s) | (first| refine b1 ?_ ?_| refine b2 ?_ ?_| refine Br.mk ?_ ?_) <;>intro hc| exact rfl) <;>conv=>whnf)
   show (⟨vi _,[(0,[V.agg [_,V.int .i64 _]])]⟩:fh)=_
   rw[e3];rfl
 · have e1:eI l a n=0:=by simp[eI,show l[a]? =none from by simp;omega]
   have e2:bW l a=a:=by simp[bW,bA]
   rw[e1,e2]
   (conv=>whnf);repeat' ((first| intro g| refine st ?_| (refine aL.bK ?_;intro s) | (first| refine b1 ?_ ?_| refine b2 ?_ ?_| refine Br.mk ?_ ?_) <;>intro hc| exact rfl) <;>conv=>whnf)
theorem AF {l:List Int} {a n:Nat} (h:0 <n) (h2:n< 1000000000000000): ((eI l a n:Nat):Int) < (n:Int):=by
 have:=fP (l:=l) (a:=a) h h2
 omega
theorem aL.str {L:List V} {n:Nat} {q:V→Prop} (h: ∀x ∈ L,∃s,x= .str s) (hn:n<L.length) (k: ∀s,q (.str s)):aL (fun e=>L[n]? =some e) q:=by
 obtain⟨s,hs⟩:=h L[n] (List.getElem_mem hn)
 refine⟨_,List.getElem?_eq_getElem hn,?_⟩
 rw[hs];exact k s
theorem aL.bK {L:List V} {n:Nat} {q:V→Prop} (k: ∀s,q (.str s)) (h: ∀x ∈ L,∃s,x= .str s:=by simp) (hn:n<L.length:=by first| exact Nat.lt_of_lt_of_le (fP (by decide) (by decide)) (by decide) | fail):aL (fun e=>L[n]? =some e) q:=
 aL.str h hn k
end Go.AM
