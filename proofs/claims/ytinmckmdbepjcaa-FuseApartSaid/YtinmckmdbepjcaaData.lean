/-
  Texts of the proof, joined by program: SData, SMadeA. Own work.
-/
import Derived.Test.YtinmckmdbepjcaaFns
import Derived.Test.YtinmckmdbepjcaaBase
import Derived.KernelRfl
set_option linter.unusedSimpArgs false
set_option linter.unusedVariables false
namespace Go.AM
abbrev EC:=List UInt8
abbrev vi (n:Int):V:= .int .i64 n
abbrev aF (n:Nat):V:= .int .i64 (n:Int)
structure Pt where
 x:Int
 y:Int
 deriving DecidableEq
def Pt.v (p:Pt):V:= .agg [vi p.x,vi p.y]
structure Edge where
 id:Int
 line:List Pt
 left:Int
 right:Int
 deriving DecidableEq
def iP (l:List Pt):V:= .lit 2 (l.map Pt.v)
def Edge.v (e:Edge):V:= .agg [vi e.id,iP e.line,vi e.left,vi e.right]
structure ar where
 id:Int
 cls:EC
 name:EC
 weight:Int
 bg:Int
 deriving DecidableEq
def ar.v (f:ar):V:= .agg [vi f.id,.str f.cls,.str f.name,vi f.weight,vi f.bg]
structure Way where
 id:Int
 line:List Pt
 level:Int
 cls:EC
 name:EC
 pw:Bool
 weight:Int
 bg:Int
 deriving DecidableEq
def Way.v (w:Way):V:= .agg [vi w.id,iP w.line,vi w.level,.str w.cls,.str w.name,.bool w.pw,vi w.weight,vi w.bg]
structure Place where
 id:Int
 x:Int
 y:Int
 cls:EC
 name:EC
 weight:Int
 bg:Int
 deriving DecidableEq
def Place.v (p:Place):V:= .agg [vi p.id,vi p.x,vi p.y,.str p.cls,.str p.name,vi p.weight,vi p.bg]
structure Event where
 kind:Int
 at_:Int
 id:Int
 other:Int
 n:Int
 deriving DecidableEq
def Event.v (e:Event):V:= .agg [vi e.kind,vi e.at_,vi e.id,vi e.other,vi e.n]
structure aG where
 an:List Edge
 ah:List ar
 ways:List Way
 aw:List Place
def aG.v (m:aG):V:= .agg [.lit 4 (m.an.map Edge.v),.lit 5 (m.ah.map ar.v),.lit 8 (m.ways.map Way.v),.lit 7 (m.aw.map Place.v)]
theorem dp: ∀ {cs:List V},(∀x ∈ cs,V.aE x=true)→V.aq cs=true
 | [],_=>rfl
 | c::cs,h=>by
   simp only[V.aq,Bool.and_eq_true]
   exact⟨h c (by simp),dp fun x hx=>h x (by simp[hx])⟩
theorem cN {α:Type} {f:α→V} (h: ∀x,(f x).aE=true) (l:List α):V.aq (l.map f)=true:=
 dp fun x hx=>by obtain⟨y,_,rfl⟩:=List.mem_map.1 hx;exact h y
theorem ED {α:Type} {f:α→V} {sz:Nat} (h: ∀x,aQ (f x) sz=true) (l:List α): (l.map f).all (aQ · sz)=true:=by
 simp[List.all_eq_true,h]
theorem Pt.cN (l:List Pt):V.aq (l.map Pt.v)=true:=AM.cN (fun _=>rfl) l
theorem Edge.cN (l:List Edge):V.aq (l.map Edge.v)=true:=AM.cN (fun _=>rfl) l
theorem ar.cN (l:List ar):V.aq (l.map ar.v)=true:=AM.cN (fun _=>rfl) l
theorem Way.cN (l:List Way):V.aq (l.map Way.v)=true:=AM.cN (fun _=>rfl) l
theorem Place.cN (l:List Place):V.aq (l.map Place.v)=true:=AM.cN (fun _=>rfl) l
theorem Event.cN (l:List Event):V.aq (l.map Event.v)=true:=AM.cN (fun _=>rfl) l
theorem aC {α:Type} {f:α→V} {l:List α} {i:Nat} {n:Int} {x:α} (h:l[i]? =some x) (hn:n=(i:Int)): (l.map f)[n.toNat]? =some (f x):=by
 subst hn;simp[h]
theorem aL {α:Type} {l:List α} {i:Nat} (h:i<l.length):l[i]? =some l[i]:=List.getElem?_eq_getElem h
theorem bz {α:Type} {f:α→V} {l:List α} {n:Nat} (h:n=l.length):aO (l.map f) 0 n=l.map f:=by
 subst h;unfold aO;rw[List.drop_zero,List.take_of_length_le (by simp)]
theorem dU {l:List V} {n:Nat} (h:n=l.length):aO l 0 n=l:=by
 subst h;simp[aO]
def EE (n:Int):Int:=IntKind.i64.wrap n
theorem Jv {n:Int} (h0: -9223372036854775808≤n) (h1:n≤9223372036854775807):EE n=n:=wrap64 h0 h1
theorem fb: ∀ {cs:List V},V.aq cs=true→ ∀x ∈ cs,V.aE x=true
 | [],_,x,h=>by simp at h
 | c::cs,h,x,hx=>by
   simp only[V.aq,Bool.and_eq_true] at h
   rcases List.mem_cons.1 hx with rfl| hx
   · exact h.1
   · exact fb h.2 x hx
theorem fe {a b:List V} (h:V.aq a=true) (k:V.aq b=true):V.aq (a++b)=true:=
 dp fun x hx=>by
  rcases List.mem_append.1 hx with hx| hx
  · exact fb h x hx
  · exact fb k x hx
theorem j9 {es ys:List V} {o:Nat} (h:V.aq es=true) (k:V.aq ys=true):V.aq (overwrite es o ys)=true:=by
 refine fe (fe (dp fun x hx=> ?_) k) (dp fun x hx=> ?_)
 · exact fb h x (List.mem_of_mem_take hx)
 · exact fb h x (List.mem_of_mem_drop hx)
theorem mV {es:List V} {o n:Nat} (h:V.aq es=true):V.aq (aO es o n)=true:=
 dp fun x hx=>fb h x (List.mem_of_mem_drop (List.mem_of_mem_take hx))
theorem ka {n:Nat} {z:V} (h:V.aE z=true):V.aq (List.replicate n z)=true:=
 dp fun x hx=>by rw[List.eq_of_mem_replicate hx];exact h
theorem sh {es:List V} {n:Nat} {x:V} (h:V.aq es=true) (k:V.aE x=true):V.aq (es.set n x)=true:=
 dp fun y hy=>by
  rcases List.mem_or_eq_of_mem_set hy with hy| rfl
  · exact fb h y hy
  · exact k
theorem lH {l:List V} {n:Nat} {x e:V} (h:l[n]? =some e): (l.set n x)[n]? =some x:=by
 have:=(List.getElem?_eq_some_iff.1 h).1
 simp[this]
theorem wY {α:Type} {f:α→V} {l:List α} {r:List V} {n:Nat} (h:n=l.length):aO (l.map f++r) 0 n=l.map f:=by
 subst h;unfold aO;rw[List.drop_zero,List.take_append_of_le_length (by simp),List.take_of_length_le (by simp)]
theorem Zu {α:Type} (p:α→Bool) (l:List α): (firstIdx p l= -1∧ ∀ (i:Nat) (x:α),l[i]? =some x→p x=false)∨ ∃ (i:Nat) (x:α),firstIdx p l=(i:Int)∧l[i]? =some x∧p x=true:=by
 unfold firstIdx
 cases h:l.findIdx? p with
 | none=>
   refine .inl ⟨rfl,fun i x hx=> ?_⟩
   rw[List.findIdx?_eq_none_iff] at h
   simpa using h x (List.mem_of_getElem? hx)
 | some i=>
   rw[List.findIdx?_eq_some_iff_getElem] at h
   obtain⟨hl,hp,_⟩:=h
   exact .inr ⟨i,l[i],rfl,List.getElem?_eq_getElem hl,hp⟩
theorem tg {E:Env} {r:Nat} {bL:Bool} {g:Nat} {args:List V} {v:V} {S:SS} {Q:KK} (hm:gv E g=[]) (hp:V.aq args=true) (he:Ev E g args ⟨v,[]⟩) (hv:V.aE v=true) (k:Q v S [] []):eM E (lD E r bL g args) S Q:=by
 have key: ∀ (as:List V) (i:Nat) (kk:List V→List Nat→List dZ→bB),V.aq as=true→eN (r+8) as [] i kk=kk as [] []:=by
  intro as
  induction as with
  | nil=>intro i kk _;rfl
  | cons a as ih=>
    intro i kk h
    simp only[V.aq,Bool.and_eq_true] at h
    simp only[eN,gr,h.1,cond_true,List.nil_append]
    rw[ih (i+1) _ h.2]
 unfold lD
 rw[hm,key args 0 _ hp]
 refine⟨rfl,⟨⟨v,[]⟩,he,?_⟩⟩
 simp only[gu,da,hv,cond_true,eM]
 exact k
theorem sd {p:Prop} (h:p:=by
 first| rfl| omega| assumption| exact AM.cN (fun _=>rfl) _| ((repeat' (first| rfl| exact AM.cN (fun _=>rfl) _| refine fe ?_ ?_| refine sh ?_ ?_| refine j9 ?_ ?_| refine mV ?_| refine ka ?_));done) | exact ED (fun _=>rfl) _| (and_intros<;>first| rfl| omega| assumption| exact AM.cN (fun _=>rfl) _| ((repeat' (first| rfl| exact AM.cN (fun _=>rfl) _| refine fe ?_ ?_| refine sh ?_ ?_| refine j9 ?_ ?_| refine mV ?_| refine ka ?_));done) | (simp only[List.length_map,List.length_append,List.length_cons,List.length_nil,List.length_take,List.length_drop];done) | (simp only[List.length_map,List.length_append,List.length_cons,List.length_nil,List.length_take,List.length_drop];omega) | (simp[*];done) | (simp[*];omega)) | fail):p:=h
theorem ao {p:Prop} (h:p:=by
 first| assumption| rfl| omega| (simp only[List.length_map,List.length_append,List.length_cons,List.length_nil,List.length_take,List.length_drop];omega) | fail):p:=h
theorem lt {p:Prop} (h:p:=by
 first| omega| (simp only[List.length_map] at*;omega) | fail):p:=h
theorem st {p q:Prop} (k:q) (h:q→p:=by
 first
 | exact eY.mk ⟨Int.natCast_nonneg _,Cw (by decide) (by decide),rfl,rfl⟩
 | exact eY.mk (p:=Im _ _ _ _=true) (by kernel_rfl)
 | exact eY.mk sd
 | exact Or.inl∘eY.mk sd
 | exact Or.inr
 | exact aH.mk _ Ss
 | exact aH.mk _ (aC (aL lt) rfl)
 | exact aH.mk _ (bz (by first| rfl| (simp;done) | fail))
 | exact aH.mk _ (dU (by first| rfl| (simp;done) | (simp;omega) | fail))
 | exact aH.mk _ rfl
 | exact Br.tt
 | exact Br.ff
 | exact Br.t ao
 | exact Br.f ao
 | exact Br.nt ao
 | exact Br.nf ao
 | exact Br.bt (by first| assumption| (simp;done) | fail)
 | exact Br.bf (by first| assumption| (simp;done) | fail)
 | fail):p:=h k
theorem ai {p q:Prop} (k:q) (h:p:=by
 first
 | exact Eq.refl _
 | exact It _ (by omega)
 | exact congrArg (V.int .i64) (wrap64 (by omega) (by omega))
 | exact congrArg (V.int .i64) ((wrap64 (by omega) (by omega)).trans (by omega))
 | (conv=>whnf);done
 | ((conv=>whnf);simp only[List.map_append,List.map_cons,List.map_nil,List.length_append,List.length_cons,List.length_nil,List.length_map];done)
 | ((conv=>whnf);simp only[List.map_append,List.map_cons,List.map_nil,List.length_append,List.length_cons,List.length_nil,List.length_map];rfl)
 | ((conv=>whnf);first| exact It _ (by omega) | (simp;done) | (simp[*];done) | (simp;omega))
 | fail):p∧q:=⟨h,k⟩
theorem b1 {c c':Prop} {_:Decidable c} {p q:Prop} (h:c'→p) (k: ¬c'→q) (e:c↔c':=by
 (try simp only[List.length_map,List.length_append,List.length_cons,List.length_nil,List.length_take,List.length_drop])
 exact Iff.rfl):Br (decide c) p q:=Br.dec (fun x=>h (e.1 x)) (fun x=>k fun y=>x (e.2 y))
theorem b2 {c c':Prop} {_:Decidable c} {p q:Prop} (h: ¬c'→p) (k:c'→q) (e:c↔c':=by
 (try simp only[List.length_map,List.length_append,List.length_cons,List.length_nil,List.length_take,List.length_drop])
 exact Iff.rfl):Br (!decide c) p q:=Br.Sq (fun x=>h fun y=>x (e.2 y)) (fun x=>k (e.1 x))
end Go.AM
set_option maxRecDepth 20000
namespace Go.AM
def tY (a n:Int):Int:=(EE (a.tmod n+n)).tmod n
theorem wZ {a:Int} {n:Nat} (h:0 <n) (h2:n< 1000000000000000):0≤tY a n∧tY a n<n:=by
 unfold tY
 have h1:=Int.tmod_lt_of_pos a (show (0:Int) <n by omega)
 have h3:=Int.lt_tmod_of_pos a (show (0:Int) <n by omega)
 rw[Jv (by omega) (by omega)]
 have h4:=Int.tmod_nonneg (b:=(n:Int)) (a:=a.tmod n+n) (by omega)
 have h5:=Int.tmod_lt_of_pos (a.tmod n+n) (show (0:Int) <n by omega)
 exact⟨h4,h5⟩
theorem Ac {a n:Int} (h:n≠0):Ev E 93 [vi a,vi n] ⟨vi (tY a n),[]⟩:=by
 refine Ev.bU Sy (Sz _) rfl ?_
 (conv=>whnf);repeat' ((first| intro g| refine st ?_| (refine aH.bR ?_;intro s) | (first| refine b1 ?_ ?_| refine b2 ?_ ?_| refine Br.mk ?_ ?_) <;>intro hc| exact rfl) <;>conv=>whnf)
def de (l:List Int) (a:Nat):V:= .agg [.lit 1 (l.map vi),aF a]
def fg (l:List Int) (a n:Nat):Nat:=match l[a]? with
 | some x=> (tY x n).toNat
 | none=>0
def b8 (l:List Int) (a:Nat):Nat:=if a<l.length then a+1 else a
theorem gA {l:List Int} {a n:Nat} (h:0 <n) (h2:n< 1000000000000000):fg l a n<n:=by
 unfold fg
 split
 · rename_i x _
   have:=wZ (a:=x) h h2
   omega
 · exact h
theorem cg {l:List Int} (hl:l.length< 9223372036854775808) (n:Nat) {a:Nat} (h:0 <n) (h2:n< 1000000000000000):Ev E 85 [.mptr 2 [de l a] 0 0,aF n] ⟨aF (fg l a n),[(0,[de l (b8 l a)])]⟩:=by
 refine Ev.bU SA (SB _) rfl ?_
 by_cases bk:a<l.length
 · obtain⟨x,hx⟩: ∃x,l[a]? =some x:=⟨_,aL bk⟩
   have hm:=Ac (a:=x) (n:=(n:Int)) (by omega)
   have hw:IntKind.i64.wrap (IntKind.i64.wrap ((a:Int)+1) - 1)=(a:Int):=by
    rw[wrap64 (n:=(a:Int)+1) (by omega) (by omega)]
    exact(wrap64 (by omega) (by omega)).trans (by omega)
   have hb:=wZ (a:=x) h h2
   have e1:fg l a n=(tY x n).toNat:=by simp[fg,hx]
   have e2:b8 l a=a+1:=by simp[b8,bk]
   rw[e1,e2]
   have e3:IntKind.i64.wrap ((a:Int)+1)=((a+1:Nat):Int):=(wrap64 (by omega) (by omega)).trans (by omega)
   have e4:aF (tY x n).toNat=vi (tY x n):=by show V.int _ _=V.int _ _;congr 1;omega
   rw[e4]
   (conv=>whnf);repeat' ((first| intro g| refine aH.mk _ (aC hx hw) ?_| refine ag.mk _ (hm) ?_| refine st ?_| (refine aH.bR ?_;intro s) | (first| refine b1 ?_ ?_| refine b2 ?_ ?_| refine Br.mk ?_ ?_) <;>intro hc| exact rfl) <;>conv=>whnf)
   show (⟨vi _,[(0,[V.agg [_,V.int .i64 _]])]⟩:fK)=_
   rw[e3];rfl
 · have e1:fg l a n=0:=by simp[fg,show l[a]? =none from by simp;omega]
   have e2:b8 l a=a:=by simp[b8,bk]
   rw[e1,e2]
   (conv=>whnf);repeat' ((first| intro g| refine st ?_| (refine aH.bR ?_;intro s) | (first| refine b1 ?_ ?_| refine b2 ?_ ?_| refine Br.mk ?_ ?_) <;>intro hc| exact rfl) <;>conv=>whnf)
theorem Cw {l:List Int} {a n:Nat} (h:0 <n) (h2:n< 1000000000000000): ((fg l a n:Nat):Int) < (n:Int):=by
 have:=gA (l:=l) (a:=a) h h2
 omega
theorem aH.str {L:List V} {n:Nat} {q:V→Prop} (h: ∀x ∈ L,∃s,x= .str s) (hn:n<L.length) (k: ∀s,q (.str s)):aH (fun e=>L[n]? =some e) q:=by
 obtain⟨s,hs⟩:=h L[n] (List.getElem_mem hn)
 refine⟨_,List.getElem?_eq_getElem hn,?_⟩
 rw[hs];exact k s
theorem aH.bR {L:List V} {n:Nat} {q:V→Prop} (k: ∀s,q (.str s)) (h: ∀x ∈ L,∃s,x= .str s:=by simp) (hn:n<L.length:=by first| exact Nat.lt_of_lt_of_le (gA (by decide) (by decide)) (by decide) | fail):aH (fun e=>L[n]? =some e) q:=
 aH.str h hn k
end Go.AM
