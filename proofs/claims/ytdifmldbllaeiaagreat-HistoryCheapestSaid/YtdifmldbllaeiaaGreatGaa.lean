/- Texts of the proof. -/
import Derived.Test.YtdifmldbllaeiaaGreatFns
import Derived.KernelRfl
set_option maxRecDepth 20000
set_option maxHeartbeats 4000000
set_option linter.unusedSimpArgs false
set_option linter.unusedVariables false
namespace Go.AM
theorem wt {n m:Int} (h0: -9223372036854775808≤n:=by first| omega) (h1:n≤9223372036854775807:=by first| omega) (h2:n=m:=by first| omega):IntKind.i64.wrap n=m:=(wrap64 h0 h1).trans h2
abbrev CB:=List UInt8
abbrev vi (n:Int):V:= .int .i64 n
abbrev ar (n:Nat):V:= .int .i64 (n:Int)
structure Pt where
 x:Int
 y:Int
 deriving DecidableEq
def Pt.v (p:Pt):V:= .agg [vi p.x,vi p.y]
structure Edge where
 id:Int
 line:List Pt
 left:Int
 right:Int
 deriving DecidableEq
def iy (l:List Pt):V:= .lit 2 (l.map Pt.v)
def Edge.v (e:Edge):V:= .agg [vi e.id,iy e.line,vi e.left,vi e.right]
structure aX where
 id:Int
 cls:CB
 name:CB
 weight:Int
 bB:Int
 deriving DecidableEq
def aX.v (f:aX):V:= .agg [vi f.id,.str f.cls,.str f.name,vi f.weight,vi f.bB]
structure Way where
 id:Int
 line:List Pt
 level:Int
 cls:CB
 name:CB
 yC:Bool
 weight:Int
 bB:Int
 deriving DecidableEq
def Way.v (w:Way):V:= .agg [vi w.id,iy w.line,vi w.level,.str w.cls,.str w.name,.bool w.yC,vi w.weight,vi w.bB]
structure Place where
 id:Int
 x:Int
 y:Int
 cls:CB
 name:CB
 weight:Int
 bB:Int
 deriving DecidableEq
def Place.v (p:Place):V:= .agg [vi p.id,vi p.x,vi p.y,.str p.cls,.str p.name,vi p.weight,vi p.bB]
structure Event where
 kind:Int
 at_:Int
 id:Int
 other:Int
 n:Int
 deriving DecidableEq
def Event.v (e:Event):V:= .agg [vi e.kind,vi e.at_,vi e.id,vi e.other,vi e.n]
structure aG where
 az:List Edge
 al:List aX
 ways:List Way
 aA:List Place
def aG.v (m:aG):V:= .agg [.lit 4 (m.az.map Edge.v),.lit 5 (m.al.map aX.v),.lit 8 (m.ways.map Way.v),.lit 7 (m.aA.map Place.v)]
theorem cX: ∀ {cs:List V},(∀x ∈ cs,V.au x=true)→V.ak cs=true
 | [],_=>rfl
 | c::cs,h=>by
   simp only[V.ak,af2]
   exact⟨h c afU,cX fun x hx=>h x (by simp[hx])⟩
theorem aV {α:Type} {f:α→V} (h: ∀x,(f x).au=true) (l:List α):V.ak (l.map f)=true:=
 cX fun x hx=>by obtain⟨y,_,rfl⟩:=agk.1 hx;exact h y
theorem U6 {α:Type} {f:α→V} {sz:Nat} (h: ∀x,aU (f x) sz=true) (l:List α): (l.map f).all (aU · sz)=true:=by
 simp[af5,h]
theorem Pt.aV (l:List Pt):V.ak (l.map Pt.v)=true:=AM.aV (fun _=>rfl) l
theorem Edge.aV (l:List Edge):V.ak (l.map Edge.v)=true:=AM.aV (fun _=>rfl) l
theorem aX.aV (l:List aX):V.ak (l.map aX.v)=true:=AM.aV (fun _=>rfl) l
theorem Way.aV (l:List Way):V.ak (l.map Way.v)=true:=AM.aV (fun _=>rfl) l
theorem Place.aV (l:List Place):V.ak (l.map Place.v)=true:=AM.aV (fun _=>rfl) l
theorem Event.aV (l:List Event):V.ak (l.map Event.v)=true:=AM.aV (fun _=>rfl) l
theorem av {α:Type} {f:α→V} {l:List α} {i:Nat} {n:Int} {x:α} (h:l[i]? =some x) (hn:n=(i:Int)): (l.map f)[n.toNat]? =some (f x):=by
 subst hn;simp[h]
theorem aL {α:Type} {l:List α} {i:Nat} (h:i<l.length):l[i]? =some l[i]:=af3 h
theorem iW {α:Type} {f:α→V} {l:List α} {n:Nat} (h:n=l.length):aF (l.map f) 0 n=l.map f:=by
 subst h;unfold aF;rw[List.drop_zero,List.take_of_length_le afU]
theorem gZ {l:List V} {n:Nat} (h:n=l.length):aF l 0 n=l:=by
 subst h;simp[aF]
def jV (n:Int):Int:=IntKind.i64.wrap n
theorem U7 {n:Int} (h0: -9223372036854775808≤n) (h1:n≤9223372036854775807):jV n=n:=wrap64 h0 h1
theorem eX: ∀ {cs:List V},V.ak cs=true→ ∀x ∈ cs,V.au x=true
 | [],_,x,h=>by simp at h
 | c::cs,h,x,hx=>by
   simp only[V.ak,af2] at h
   rcases af7.1 hx with rfl| hx
   ·exact h.1
   ·exact eX h.2 x hx
theorem eQ {a b:List V} (h:V.ak a=true) (k:V.ak b=true):V.ak (a++b)=true:=
 cX fun x hx=>by
  rcases agd.1 hx with hx| hx
  ·exact eX h x hx
  ·exact eX k x hx
theorem bq {es ys:List V} {o:Nat} (h:V.ak es=true) (k:V.ak ys=true):V.ak (overwrite es o ys)=true:=by
 refine eQ (eQ (cX fun x hx=> ?_) k) (cX fun x hx=> ?_)
 ·exact eX h x (agp hx)
 ·exact eX h x (agF hx)
theorem fZ {es:List V} {o n:Nat} (h:V.ak es=true):V.ak (aF es o n)=true:=
 cX fun x hx=>eX h x (agF (agp hx))
theorem bR {n:Nat} {z:V} (h:V.au z=true):V.ak (List.replicate n z)=true:=
 cX fun x hx=>by rw[List.eq_of_mem_replicate hx];exact h
theorem v8 {es:List V} {n:Nat} {x:V} (h:V.ak es=true) (k:V.au x=true):V.ak (es.set n x)=true:=
 cX fun y hy=>by
  rcases agf hy with hy| rfl
  ·exact eX h y hy
  ·exact k
theorem kD {l:List V} {n:Nat} {x e:V} (h:l[n]? =some e): (l.set n x)[n]? =some x:=by
 have:=(af0.1 h).1
 simp[this]
theorem qB {α:Type} {f:α→V} {l:List α} {r:List V} {n:Nat} (h:n=l.length):aF (l.map f++r) 0 n=l.map f:=by
 subst h;unfold aF;rw[List.drop_zero,List.take_append_of_le_length afU,List.take_of_length_le afU]
theorem tD {α:Type} {f:α→V} {l:List α} {i:Nat} {x:α} (h:l[i]? =some x): (l.map f).set i (f x)=l.map f:=by
 rw[←ag0]
 congr 1
 obtain⟨hl,rfl⟩:=af0.1 h
 simp
theorem dU {α:Type} (p:α→Bool) (l:List α): (firstIdx p l= -1∧ ∀ (i:Nat) (x:α),l[i]? =some x→p x=false)∨ ∃ (i:Nat) (x:α),firstIdx p l=(i:Int)∧l[i]? =some x∧p x=true:=by
 unfold firstIdx
 cases h:l.findIdx? p with
 | none=>
   refine .inl ⟨rfl,fun i x hx=> ?_⟩
   rw[ahR] at h
   simpa using h x (List.mem_of_getElem? hx)
 | some i=>
   rw[ag2] at h
   obtain⟨hl,hp,_⟩:=h
   exact .inr ⟨i,l[i],rfl,af3 hl,hp⟩
theorem gJ {E:Env} {r:Nat} {bA:Bool} {g:Nat} {args:List V} {v:V} {S:SS} {Q:KK} (hm:bC E g=[]) (hp:V.ak args=true) (he:Ev E g args ⟨v,[]⟩) (hv:V.au v=true) (k:Q v S [] []):fb E (kx E r bA g args) S Q:=by
 have key: ∀ (eV:List V) (i:Nat) (kk:List V→List Nat→List eh→bD),V.ak eV=true→dA (r+8) eV [] i kk=kk eV [] []:=by
  intro eV
  induction eV with
  | nil=>intro i kk _;rfl
  | cons a eV ih=>
    intro i kk h
    simp only[V.ak,af2] at h
    simp only[dA,fL,h.1,cond_true,agH]
    rw[ih (i+1) _ h.2]
 unfold kx
 rw[hm,key args 0 _ hp]
 refine⟨rfl,⟨⟨v,[]⟩,he,?_⟩⟩
 simp only[iQ,fg,hv,cond_true,fb]
 exact k
theorem sd {p:Prop} (h:p:=by
 first| rfl| omega| assumption| exact AM.aV (fun _=>rfl) _| ((repeat' (first| rfl| exact AM.aV (fun _=>rfl) _| refine eQ ?_ ?_| refine v8 ?_ ?_| refine bq ?_ ?_| refine fZ ?_| refine bR ?_));done) | exact U6 (fun _=>rfl) _| (and_intros<;>first| rfl| omega| assumption| exact AM.aV (fun _=>rfl) _| ((repeat' (first| rfl| exact AM.aV (fun _=>rfl) _| refine eQ ?_ ?_| refine v8 ?_ ?_| refine bq ?_ ?_| refine fZ ?_| refine bR ?_));done) | (simp only[List.length_map,List.length_append,agb,agi,agz,agG];done) | (simp only[List.length_map,List.length_append,agb,agi,agz,agG];omega) | (simp[*];done) | (simp[*];omega)) | fail):p:=h
theorem ao {p:Prop} (h:p:=by
 first| assumption| rfl| omega| (simp only[List.length_map,List.length_append,agb,agi,agz,agG];omega) | fail):p:=h
theorem lt {p:Prop} (h:p:=by
 first| omega| (simp only[List.length_map] at*;omega) | fail):p:=h
theorem st {p q:Prop} (k:q) (h:q→p:=by
 first
 | exact mZ.mk ⟨Int.natCast_nonneg _,Kw afV afV,rfl,rfl⟩
 | exact mZ.mk (p:=TK _ _ _ _=true) afW
 | exact mZ.mk sd
 | exact Or.inl∘mZ.mk sd
 | exact Or.inr
 | exact dj.mk _ abC
 | exact dj.mk _ (av (aL lt) rfl)
 | exact dj.mk _ (iW (by first| rfl| (simp;done) | fail))
 | exact dj.mk _ (gZ (by first| rfl| (simp;done) | (simp;omega) | fail))
 | exact dj.mk _ rfl
 | exact Br.tt
 | exact Br.ff
 | exact Br.t ao
 | exact Br.f ao
 | exact Br.nt ao
 | exact Br.nf ao
 | exact Br.bt (by first| assumption| (simp;done) | fail)
 | exact Br.bf (by first| assumption| (simp;done) | fail)
 | fail):p:=h k
theorem ai {p q:Prop} (k:q) (h:p:=by
 first
 | exact Eq.refl _
 | exact TQ _ ae0
 | exact congrArg (V.int .i64) (wrap64 ae0 ae0)
 | exact congrArg (V.int .i64) (wt)
 | (conv=>whnf);done
 | ((conv=>whnf);simp only[agA,List.map_cons,ahx,List.length_append,agb,agi,List.length_map];done)
 | ((conv=>whnf);simp only[agA,List.map_cons,ahx,List.length_append,agb,agi,List.length_map];rfl)
 | ((conv=>whnf);first| exact TQ _ ae0 | (simp;done) | (simp[*];done) | (simp;omega))
 | fail):p∧q:=⟨h,k⟩
class BP (b:Bool) (p q:outParam Prop):Prop where
 yes:b=true→p
 no:b=false→q
instance (priority:=low) BP.any {b:Bool}:BP b (b=true) (b=false):=⟨id,id⟩
instance BP.dec {c:Prop} {i:Decidable c}:BP (decide c) c (¬c):=⟨of_decide_eq_true,of_decide_eq_false⟩
instance BP.abB {c:Prop} {i:Decidable c}:BP (!decide c) (¬c) c:=⟨fun h=>by simpa using h,fun h=>by simpa using h⟩
theorem br {b:Bool} {p q c d c' d':Prop} [hb:BP b c d] (h:c'→p) (k:d'→q) (e:c↔c':=by
 (try simp only[List.length_map,List.length_append,agb,agi,agz,agG])
 exact Iff.rfl) (f:d↔d':=by
 (try simp only[List.length_map,List.length_append,agb,agi,agz,agG])
 exact Iff.rfl):Br b p q:=⟨fun x=>h (e.1 (hb.yes x)),fun x=>k (f.1 (hb.no x))⟩
theorem su {p:Prop} (h:p:=by
 first| ((refine⟨?_,?_⟩ <;>repeat' (first| exact True.intro| refine ai ?_| refine And.intro ?_ ?_));done) | fail):p:=h
theorem om {p:Prop} (h:p:=by
 first| omega| (dsimp only;omega)):p:=h
theorem sf {E:Env} {r:Nat} {bA:Bool} {g:Nat} {args:List V} {v:V} {S:SS} {Q:KK} (he:Ev E g args ⟨v,[]⟩) (k:Q v S [] []) (hm:bC E g=[]:=by assumption) (hp:V.ak args=true:=by
 first| assumption| rfl| (simp only[V.ak,V.au,agE,ahz,agB, *])) (hv:V.au v=true:=by rfl):fb E (kx E r bA g args) S Q:=gJ hm hp he hv k
theorem ca {E:Env} {f:Nat} {xs:List V} {q:eL→Prop} {res:eL} (he:Ev E f xs res) (k:q res):fA E f xs q:= .mk _ he k
theorem wi {α:Type} {p q:α→Prop} {x:α} (h:p x) (k:q x):dj p q:= .mk _ h k
theorem nd {p q:Prop} (h:p) (k:q):mZ p q:=⟨h,k⟩
theorem bp {α:Type} {g:α→V} {f:Nat} {args:List V} (h: ∃res,Ev E f args res∧ ∃a,res=⟨g a,[]⟩): ∃a,Ev E f args ⟨g a,[]⟩:=by
 obtain⟨_,h,a,rfl⟩:=h
 exact⟨a,h⟩
theorem dr {p:Prop} (h:p:=by
 first| ((conv=>whnf); (repeat' ((first| intro g| refine ca (by assumption) ?_| refine wi (by first| assumption| exact av (by assumption) rfl) ?_| refine st ?_| refine br ?_ ?_<;>intro hc| rfl| exact⟨_,rfl⟩) <;>conv=>whnf));done) | fail):p:=h
theorem dr1 {p:Prop} (h:p:=by
 first| ((conv=>whnf); (repeat' ((first| (exfalso;omega) | intro g| refine ca (by assumption) ?_| refine wi (by first| assumption| exact av (by assumption) rfl) ?_| refine st ?_| refine br ?_ ?_<;>intro hc| rfl| exact⟨_,rfl⟩) <;>conv=>whnf));done) | fail):p:=h
end Go.AM
namespace Go.AM
def Eo (a n:Int):Int:=(jV (a.tmod n+n)).tmod n
theorem Jn {a:Int} {n:Nat} (h:0 <n) (h2:n< 1000000000000000):0≤Eo a n∧Eo a n<n:=by
 unfold Eo
 have h1:=Int.tmod_lt_of_pos a (show (0:Int) <n by omega)
 have h3:=Int.lt_tmod_of_pos a (show (0:Int) <n by omega)
 rw[U7 ae0 ae0]
 have h4:=Int.tmod_nonneg (b:=(n:Int)) (a:=a.tmod n+n) ae0
 have h5:=Int.tmod_lt_of_pos (a.tmod n+n) (show (0:Int) <n by omega)
 exact⟨h4,h5⟩
theorem Nr {a n:Int} (h:n≠0):Ev E 93 [vi a,vi n] ⟨vi (Eo a n),[]⟩:=by
 refine Ev.aI rfl rfl rfl ?_
 exact dr
def df (l:List Int) (a:Nat):V:= .agg [.lit 1 (l.map vi),ar a]
def dC (l:List Int) (a n:Nat):Nat:=match l[a]? with
 | some x=> (Eo x n).toNat
 | none=>0
def aZ (l:List Int) (a:Nat):Nat:=if a<l.length then a+1 else a
theorem ew {l:List Int} {a n:Nat} (h:0 <n) (h2:n< 1000000000000000):dC l a n<n:=by
 unfold dC
 split
 ·rename_i x _
  have:=Jn (a:=x) h h2
  omega
 ·exact h
theorem cp {l:List Int} (hl:l.length< 9223372036854775808) (n:Nat) {a:Nat} (h:0 <n) (h2:n< 1000000000000000):Ev E 85 [.mptr 2 [df l a] 0 0,ar n] ⟨ar (dC l a n),[(0,[df l (aZ l a)])]⟩:=by
 refine Ev.aI rfl rfl rfl ?_
 by_cases bk:a<l.length
 ·obtain⟨x,hx⟩: ∃x,l[a]? =some x:=⟨_,aL bk⟩
  have hm:=Nr (a:=x) (n:=(n:Int)) ae0
  have hw:IntKind.i64.wrap (IntKind.i64.wrap ((a:Int)+1) - 1)=(a:Int):=by
   rw[wrap64 (n:=(a:Int)+1) ae0 ae0]
   exact wt
  have hb:=Jn (a:=x) h h2
  have e1:dC l a n=(Eo x n).toNat:=by simp[dC,hx]
  have e2:aZ l a=a+1:=by simp[aZ,bk]
  rw[e1,e2]
  have e3:IntKind.i64.wrap ((a:Int)+1)=((a+1:Nat):Int):=wt
  have e4:ar (Eo x n).toNat=vi (Eo x n):=by show V.int _ _=V.int _ _;congr 1;omega
  rw[e4]
  conv=>whnf
  repeat' (first| intro g| refine wi (av hx hw) ?_| apply ca hm| refine st ?_| (refine dj.bW ?_;intro s) | refine br ?_ ?_<;>intro hc| rfl) <;>conv=>whnf
  show (⟨vi _,[(0,[V.agg [_,V.int .i64 _]])]⟩:eL)=_
  rw[e3];rfl
 ·have e1:dC l a n=0:=by simp[dC,show l[a]? =none from by simp;omega]
  have e2:aZ l a=a:=by simp[aZ,bk]
  rw[e1,e2]
  exact dr
theorem Kw {l:List Int} {a n:Nat} (h:0 <n) (h2:n< 1000000000000000): ((dC l a n:Nat):Int) < (n:Int):=by
 have:=ew (l:=l) (a:=a) h h2
 omega
theorem dj.str {L:List V} {n:Nat} {q:V→Prop} (h: ∀x ∈ L,∃s,x= .str s) (hn:n<L.length) (k: ∀s,q (.str s)):dj (fun e=>L[n]? =some e) q:=by
 obtain⟨s,hs⟩:=h L[n] (agP hn)
 refine⟨_,af3 hn,?_⟩
 rw[hs];exact k s
theorem dj.bW {L:List V} {n:Nat} {q:V→Prop} (k: ∀s,q (.str s)) (h: ∀x ∈ L,∃s,x= .str s:=by simp) (hn:n<L.length:=by first| exact af9 (ew afV afV) afV | fail):dj (fun e=>L[n]? =some e) q:=
 dj.str h hn k
end Go.AM
namespace Go.AM
theorem Ns (a b:Pt):Ev E 161 [a.v,b.v] ⟨(Pt.mk (jV (a.x - b.x)) (jV (a.y - b.y))).v,[]⟩:=by
 refine Ev.aI rfl rfl rfl ?_
 exact dr
theorem xE {l:List Int} (hl:l.length< 9223372036854775808) {i j:Nat} (hi:i< 10) (hj:j< 10): ∃p:Pt,Ev E 115 [.lit 1 (l.map vi),ar i,ar j] ⟨p.v,[]⟩:=by
 refine bp (Ev.bH rfl rfl rfl ?_)
 have w0:IntKind.i64.wrap (4*(j:Int))=((4*j:Nat):Int):=wt
 have w1:IntKind.i64.wrap (IntKind.i64.wrap (4*(j:Int))+(i:Int))=((4*j+i:Nat):Int):=by rw[w0];exact wt
 have w2:IntKind.i64.wrap (2*IntKind.i64.wrap (IntKind.i64.wrap (4*(j:Int))+(i:Int)))=((2*(4*j+i):Nat):Int):=by rw[w1];exact wt
 have w3:IntKind.i64.wrap (IntKind.i64.wrap (2*IntKind.i64.wrap (IntKind.i64.wrap (4*(j:Int))+(i:Int)))+1)=((2*(4*j+i)+1:Nat):Int):=by rw[w2];exact wt
 by_cases bk:2*(4*j+i)+1 <l.length
 ·have hx:=aL (l:=l) (i:=2*(4*j+i)) ae0
  have hy:=aL (l:=l) (i:=2*(4*j+i)+1) ae0
  conv=>whnf
  repeat' (first| intro g| refine wi (av hx w2) ?_| refine wi (av hy w3) ?_| refine ca (Nr afV) ?_| refine st ?_| (refine dj.bW ?_;intro s) | refine br ?_ ?_<;>intro hc| rfl) <;>conv=>whnf
  all_goals exact⟨⟨_,_⟩,rfl⟩
 ·conv=>whnf
  repeat' (first| intro g| refine st ?_| (refine dj.bW ?_;intro s) | refine br ?_ ?_<;>intro hc| rfl) <;>conv=>whnf
  all_goals exact⟨⟨_,_⟩,rfl⟩
theorem A7 {l:List Int} (hl:l.length< 9223372036854775808) (p q:Pt) (a0:Nat): ∃ (ps:List Pt) (a:Nat),2≤ps.length∧ps.length≤5∧Ev E 114 [p.v,q.v,.mptr 2 [df l a0] 0 0] ⟨.own 2 (ps.map Pt.v),[(0,[df l a])]⟩:=by
 have key:=Ev.bH (R:=fun r=> ∃ (ps:List Pt) (a:Nat),2≤ps.length∧ps.length≤5∧r=⟨.own 2 (ps.map Pt.v),[(0,[df l a])]⟩) Zi (Zj [p.v,q.v,.mptr 2 [df l a0] 0 0]) rfl ?_
 ·obtain⟨res,h1,ps,a,h2,h3,rfl⟩:=key
  exact⟨ps,a,h2,h3,h1⟩
 have hn: ∀n a,0 <n→n< 1000→Ev E 85 [.mptr 2 [df l a] 0 0,ar n] ⟨ar (dC l a n),[(0,[df l (aZ l a)])]⟩:=fun n a h h2=>cp hl n h ae0
 have hb:=ew (l:=l) (a:=a0) (n:=4) ae0 ae0
 have Nt:=Ns q p
 generalize hm:dC l a0 4=many at hb
 have n4:=hn 4 a0 ae0 ae0
 rw[hm] at n4
 conv=>whnf
 repeat' (first| intro g| apply ca n4| apply ca Nt| refine st ?_| (refine dj.bW ?_;intro s) | refine br ?_ ?_<;>intro hc| rfl) <;>conv=>whnf
 rename_i g3 g4 _ g7
 generalize hu:Pt.mk (jV (q.x - p.x)) (jV (q.y - p.y))=u
 refine aO.by (fun ((k,ps,a,g7):Nat×List Pt×Nat×Nat)=> ⟨[(2,.ptr 2 0 0 0),(3,.ptr 64 g3 0 0),(4,.ptr 80 g4 0 0),(7,.sl 129 g7 0 ps.length),(8,ar many),(9,.ptr 160 g 0 0),(10,ar (k+1))],
   [(2,⟨0,2,false,false,some [df l a]⟩),(64,⟨g3,2,false,false,some [p.v]⟩),(80,⟨g4,2,false,false,some [q.v]⟩),(129,⟨g7,2,true,false,some (ps.map Pt.v)⟩),(160,⟨g,2,false,false,some [u.v]⟩)]⟩)
  (fun (k,ps,_,_)=>k≤many∧ps.length=k+1) (fun (k,_)=>many - k) (0,[p],aZ l a0,g7) (by subst hu;exact su) ⟨afU,afU⟩ ?_
 rintro⟨k,ps,a,g7⟩ ⟨hk,CC⟩
 try dsimp only at hk CC
 have n21:=hn 21 a ae0 ae0
 have e1:IntKind.i64.wrap ((many:Int)+1)=((many+1:Nat):Int):=wt
 have e2: (many:Int).tdiv 2=((many / 2:Nat):Int):=rfl
 have e3:IntKind.i64.wrap ((many:Int).tdiv 2)=((many / 2:Nat):Int):=by rw[e2];exact wt
 have e4:IntKind.i64.wrap (1+IntKind.i64.wrap ((many:Int).tdiv 2))=((1+many / 2:Nat):Int):=by rw[e3];exact wt
 conv=>whnf
 repeat' (first| intro g| apply ca n21| refine st ?_| (refine dj.bW ?_;intro s) | refine br ?_ ?_<;>intro hc| rfl) <;>conv=>whnf
 ·refine aK.mk (k+1,ps++[⟨?x,?y⟩],?a,?g) ?h1 ?h2 ?h3
  case h3=>exact su
  case h1=> (first| omega| (dsimp only;omega))
  case h2=>exact⟨ae0,by simp;omega⟩
 ·refine aK.mk (k+1,ps++[⟨?x2,?y2⟩],?a2,?g2) ?k1 ?k2 ?k3
  case k3=>exact su
  case k1=> (first| omega| (dsimp only;omega))
  case k2=>exact⟨ae0,by simp;omega⟩
 ·exact⟨ps++[q],a,by simp;omega,by simp;omega,afU⟩
end Go.AM
namespace Go.AM
theorem Kx (e:Edge) (h0:e.line≠[]) (hl:e.line.length< 1000000): ∃e':Edge,e'.line.length=e.line.length∧Ev E 131 [e.v] ⟨.agg [vi e'.id,.own 2 (e'.line.map Pt.v),vi e'.left,vi e'.right],[]⟩:=by
 have key:=Ev.bH (R:=fun r=> ∃e':Edge,e'.line.length=e.line.length∧r=⟨.agg [vi e'.id,.own 2 (e'.line.map Pt.v),vi e'.left,vi e'.right],[]⟩) Zs (Zt [e.v]) rfl ?_
 · obtain⟨res,h1,e',h2,rfl⟩:=key
   exact⟨e',h2,h1⟩
 have hp:0 <e.line.length:=List.length_pos_iff.2 h0
 have e1:IntKind.i64.wrap ((e.line.length:Int) - 1)=(e.line.length:Int) - 1:=wrap64 ae0 ae0
 conv=>whnf
 repeat' (first| intro g| refine st ?_| (refine dj.bW ?_;intro s) | refine br ?_ ?_<;>intro hc| rfl) <;>conv=>whnf
 rename_i g1 g2
 refine aO.by (fun ((j,ps,og):Nat×List Pt×Option Nat)=> ⟨[(1,.ptr 32 g1 0 0),(2,.ptr 48 g2 0 0),(3,.ptr 64 g 0 0),(4,vi ((j:Int) - 1))],
     match og with
     | none=> [(32,⟨g1,4,false,false,some [e.v]⟩),(48,⟨g2,4,false,false,some [.agg [vi 0,.lit 2 [],vi 0,vi 0]]⟩),(64,⟨g,4,false,false,some [.agg [vi e.id,.nils,vi e.right,vi e.left]]⟩)]
     | some g5=> [(32,⟨g1,4,false,false,some [e.v]⟩),(48,⟨g2,4,false,false,some [.agg [vi 0,.lit 2 [],vi 0,vi 0]]⟩),(64,⟨g,4,false,false,some [.agg [vi e.id,.sl 67 g5 0 ps.length,vi e.right,vi e.left]]⟩),(67,⟨g5,2,true,false,some (ps.map Pt.v)⟩)]⟩)
   (fun (j,ps,og)=>j+ps.length=e.line.length∧(og=none→ps=[])) (fun (j,_)=>j) (e.line.length,[],none) ?_ ⟨afU,afU⟩ ?_
 ·exact su
 rintro⟨j,ps,og⟩ ⟨hj,r9⟩
 try dsimp only at hj r9
 cases j with
 | zero=>
   cases og with
   | none=>have:=r9 rfl;subst this;simp at hj;omega
   | some g5=>
     conv=>whnf
     repeat' (first| intro g| refine st ?_| (refine dj.bW ?_;intro s) | refine br ?_ ?_<;>intro hc| rfl) <;>conv=>whnf
     exact⟨⟨e.id,ps,e.right,e.left⟩,by simpa using hj,rfl⟩
 | succ j=>
   obtain⟨x,hx⟩: ∃x,e.line[j]? =some x:=⟨_,aL ae0⟩
   have DX: ((j+1:Nat):Int) - 1=(j:Int):=ae0
   cases og with
   | none=>
     have:=r9 rfl
     subst this
     conv=>whnf
     repeat' (first| intro g| refine wi (av hx DX) ?_| refine st ?_| (refine dj.bW ?_;intro s) | refine br ?_ ?_<;>intro hc| rfl) <;>conv=>whnf
     refine aK.mk (j,[x],some g) om ⟨by simp at hj ⊢;omega,afU⟩ su
   | some g5=>
     conv=>whnf
     repeat' (first| intro g| refine wi (av hx DX) ?_| refine st ?_| (refine dj.bW ?_;intro s) | refine br ?_ ?_<;>intro hc| rfl) <;>conv=>whnf
     refine aK.mk (j,ps++[x],some g) om ⟨by simp at hj ⊢;omega,afU⟩ su
def jL (ps:List Pt):Prop:=2≤ps.length∧ps.length≤5
def ju (es:List Edge) (n:Nat):Prop:=es.length≤n∧ ∀e ∈ es,jL e.line
theorem ju.snoc {es:List Edge} {n:Nat} {e:Edge} (h:ju es n) (k:jL e.line):ju (es++[e]) (n+1):=
 ⟨by have:=h.1;simp;omega,fun x hx=>by
   rcases agd.1 hx with hx| hx
   ·exact h.2 x hx
   · have:x=e:=by simpa using hx
     subst this;exact k⟩
theorem ju.mono {es:List Edge} {n m:Nat} (h:ju es n) (k:n≤m):ju es m:=⟨agm h.1 k,h.2⟩
theorem Hg {l:List Int} (hl:l.length< 9223372036854775808) {es:List Edge} {n:Nat} (he:ju es n) (hn:n< 1000) {ps:List Pt} (CC:jL ps) (left right:Int) (a0:Nat):
  ∃ (es':List Edge) (a b:Nat),ju es' (n+1)∧Ev E 113 [.msl 4 (es.map Edge.v) 0 es.length,iy ps,vi left,vi right,.mptr 2 [df l a0] 0 0] ⟨.sl 0 b 0 es'.length,[(b,es'.map Edge.v),(0,[df l a])]⟩:=by
 have key:=Ev.bH (R:=fun r=> ∃ (es':List Edge) (a b:Nat),ju es' (n+1)∧r=⟨.sl 0 b 0 es'.length,[(b,es'.map Edge.v),(0,[df l a])]⟩) Zg (Zh [.msl 4 (es.map Edge.v) 0 es.length,iy ps,vi left,vi right,.mptr 2 [df l a0] 0 0]) rfl ?_
 ·obtain⟨res,h1,es',a,b,h2,rfl⟩:=key
  exact⟨es',a,b,h2,h1⟩
 have rB:=he.1
 have n2:=cp hl 2 (a:=a0) ae0 ae0
 have Nu:IntKind.i64.wrap ((es.length:Int)+1)=(es.length:Int)+1:=wrap64 ae0 ae0
 obtain⟨e',ht1,ht2⟩:=Kx ⟨IntKind.i64.wrap ((es.length:Int)+1),ps,left,right⟩ (by intro h;dsimp only at h;subst h;have:=CC.1;simp at this) (by dsimp only;have:=CC.2;omega)
 conv=>whnf
 repeat' (first| intro g| apply ca n2| apply ca ht2| refine st ?_| (refine dj.bW ?_;intro s) | refine br ?_ ?_<;>intro hc| rfl) <;>conv=>whnf
 ·exact⟨es,a0,0,he.mono ae0,rfl⟩
 ·refine⟨es++[e'],aZ l a0,g,he.snoc ?_,?_⟩
  ·unfold jL at*;dsimp only at ht1;omega
  ·simp only[agA,List.map_cons,ahx,List.length_append,agb,agi,List.length_map];rfl
 ·refine⟨es++[⟨IntKind.i64.wrap ((es.length:Int)+1),ps,left,right⟩],aZ l a0,g,he.snoc CC,?_⟩
  simp only[agA,List.map_cons,ahx,List.length_append,agb,agi,List.length_map];rfl
end Go.AM
namespace Go.AM
theorem xF {cs:List Int} (nM:cs.length=6) {w h:Nat} (hw:w≤3) (hh:h≤2) (i j:Int): ∃r:Int,Ev E 116 [.agg (cs.map vi),ar w,ar h,vi i,vi j] ⟨vi r,[]⟩:=by
 refine bp (Ev.bH rfl rfl rfl ?_)
 match cs,nM with
 | [x0,x1,x2,x3,x4,x5],_=>
   by_cases j8:0≤i∧0≤j∧i<w∧j<h
   · rcases(by omega:i=0∨i=1∨i=2) with rfl| rfl| rfl<;>rcases(by omega:j=0∨j=1) with rfl| rfl
     all_goals
      exact dr
   · conv=>whnf
     repeat' (first| intro g| refine st ?_| (refine dj.bW ?_;intro s) | refine br ?_ ?_<;>intro hc| rfl) <;>conv=>whnf
     all_goals first| exact⟨_,rfl⟩ | (exfalso;omega)
theorem xG {k:Nat} {n:Int} (A B:List Int) (h:A.length+B.length≤k): ∃l':List Int,l'.length≤k+1∧
  ((⟨V.own 1 ([]++A.map vi++[vi n]++B.map vi),[]⟩:eL)=⟨.lit 1 (l'.map vi),[]⟩∨(⟨V.own 1 ([]++A.map vi++[vi n]++B.map vi),[]⟩:eL)=⟨.own 1 (l'.map vi),[]⟩):=
 ⟨A++[n]++B,by simp;omega,.inr afU⟩
theorem U8 {l:List Int} (hl:l.length< 1000000) (n:Int): ∃l':List Int,l'.length≤l.length+1∧(Ev E 162 [.lit 1 (l.map vi),vi n] ⟨.lit 1 (l'.map vi),[]⟩∨Ev E 162 [.lit 1 (l.map vi),vi n] ⟨.own 1 (l'.map vi),[]⟩):=by
 have key:=Ev.bH (R:=fun r=> ∃l':List Int,l'.length≤l.length+1∧(r=⟨.lit 1 (l'.map vi),[]⟩∨r=⟨.own 1 (l'.map vi),[]⟩)) Ze (Zf [.lit 1 (l.map vi),vi n]) rfl ?_
 ·obtain⟨res,h1,l',h2,rfl| rfl⟩:=key
  ·exact⟨l',h2,.inl h1⟩
  ·exact⟨l',h2,.inr h1⟩
 conv=>whnf
 repeat' (first| intro g| refine st ?_| (refine dj.bW ?_;intro s) | refine br ?_ ?_<;>intro hc| rfl) <;>conv=>whnf
 refine aO.by (fun (j:Nat)=> ⟨[(0,.lit 1 (l.map vi)),(1,vi n),(5,ar j)],[]⟩) (fun j=>j≤l.length) (fun j=>j) l.length ?_ (af6 _) ?_
 ·exact su
 intro j hj
 by_cases bk:j<l.length
 ·obtain⟨x,hx⟩: ∃x,l[j]? =some x:=⟨_,aL bk⟩
  cases j with
  | zero=>
    conv=>whnf
    repeat' (first| intro g| refine wi (av hx rfl) ?_| refine wi (fX _ _ _ _) ?_| refine st ?_| (refine dj.bW ?_;intro s) | refine br ?_ ?_<;>intro hc| rfl) <;>conv=>whnf
    all_goals first
     | exact⟨l,ae0,.inl rfl⟩
     | exact aK.mk j om ae0 su
     | exact xG _ _ (by simp only[agz,agG,List.length_map];omega)
     | trace_state
  | succ j=>
    obtain⟨y,hy⟩: ∃y,l[j]? =some y:=⟨_,aL ae0⟩
    have DX:IntKind.i64.wrap (((j+1:Nat):Int) - 1)=(j:Int):=wt
    conv=>whnf
    repeat' (first| intro g| refine wi (av hx rfl) ?_| refine wi (av hy DX) ?_| refine wi (fX _ _ _ _) ?_| refine st ?_| (refine dj.bW ?_;intro s) | refine br ?_ ?_<;>intro hc| rfl) <;>conv=>whnf
    all_goals first
     | exact⟨l,ae0,.inl rfl⟩
     | exact aK.mk j om ae0 su
     | exact xG _ _ (by simp only[agz,agG,List.length_map];omega)
     | trace_state
 ·cases j with
  | zero=>
    conv=>whnf
    repeat' (first| intro g| refine wi (fX _ _ _ _) ?_| refine st ?_| (refine dj.bW ?_;intro s) | refine br ?_ ?_<;>intro hc| rfl) <;>conv=>whnf
    all_goals first
     | exact⟨l,ae0,.inl rfl⟩
     | exact aK.mk j om ae0 su
     | exact xG _ _ (by simp only[agz,agG,List.length_map];omega)
     | trace_state
  | succ j=>
    obtain⟨y,hy⟩: ∃y,l[j]? =some y:=⟨_,aL ae0⟩
    have DX:IntKind.i64.wrap (((j+1:Nat):Int) - 1)=(j:Int):=wt
    conv=>whnf
    repeat' (first| intro g| refine wi (av hy DX) ?_| refine wi (fX _ _ _ _) ?_| refine st ?_| (refine dj.bW ?_;intro s) | refine br ?_ ?_<;>intro hc| rfl) <;>conv=>whnf
    all_goals first
     | exact⟨l,ae0,.inl rfl⟩
     | exact aK.mk j om ae0 su
     | exact xG _ _ (by simp only[agz,agG,List.length_map];omega)
     | trace_state
end Go.AM
namespace Go.AM
theorem fA.ex {E:Env} {f:Nat} {eV:List V} {q P:eL→Prop} (h: ∃res,Ev E f eV res∧P res) (k: ∀res,P res→q res):fA E f eV q:=by
 obtain⟨res,h1,h2⟩:=h
 exact⟨res,h1,k res h2⟩
theorem Nv {l:List Int} (hl:l.length< 9223372036854775808) {es:List Edge} {n:Nat} (he:ju es n) (hn:n< 1000) {ps:List Pt} (CC:jL ps) (left right:Int) (a0:Nat):
  ∃res,Ev E 113 [.msl 4 (es.map Edge.v) 0 es.length,iy ps,vi left,vi right,.mptr 2 [df l a0] 0 0] res∧ ∃ (es':List Edge) (a b:Nat),ju es' (n+1)∧res=⟨.sl 0 b 0 es'.length,[(b,es'.map Edge.v),(0,[df l a])]⟩:=by
 obtain⟨es',a,b,h1,h2⟩:=Hg hl he hn CC left right a0
 exact⟨_,h2,es',a,b,h1,rfl⟩
theorem CD {l:List Int} (hl:l.length< 1000000) (n:Int): ∃res,Ev E 162 [.lit 1 (l.map vi),vi n] res∧ ∃l':List Int,l'.length≤l.length+1∧(res=⟨.lit 1 (l'.map vi),[]⟩∨res=⟨.own 1 (l'.map vi),[]⟩):=by
 obtain⟨l',h1,h2| h2⟩:=U8 hl n
 ·exact⟨_,h2,l',h1,.inl rfl⟩
 ·exact⟨_,h2,l',h1,.inr rfl⟩
theorem Ky {l:List Int} (hl:l.length< 9223372036854775808) {es:List Edge} {n:Nat} (he:ju es n) (hn:n< 1000) (c:Pt) (U9:Int) (a0:Nat):
  ∃res,Ev E 117 [.msl 4 (es.map Edge.v) 0 es.length,c.v,vi U9,.mptr 2 [df l a0] 0 0] res∧ ∃ (es':List Edge) (a b:Nat),ju es' (n+1)∧res=⟨.sl 0 b 0 es'.length,[(b,es'.map Edge.v),(0,[df l a])]⟩:=by
 refine Ev.bH rfl rfl rfl ?_
 have n8:=fun a=>cp hl 8 (a:=a) ae0 ae0
 have n2:=fun a=>cp hl 2 (a:=a) ae0 ae0
 have f4: ∀a b c d:Pt,jL [a,b,c,d]:=fun a b c d=> ⟨afU,afU⟩
 have f5: ∀a b c d e:Pt,jL [a,b,c,d,e]:=fun a b c d e=> ⟨afU,afU⟩
 have rB:=he.1
 conv=>whnf
 repeat' (first| intro g| refine wi (gZ rfl) ?_| apply ca (n8 _) | apply ca (n2 _) | refine st ?_| (refine dj.bW ?_;intro s) | refine br ?_ ?_<;>intro hc| rfl) <;>conv=>whnf
 ·have tE: ∀x1 y1 x2 y2 x3 y3 x4 y4 x5 y5 le ri a,∃res,Ev E 113 [.msl 4 (es.map Edge.v) 0 es.length,.lit 2 [.agg [vi x1,vi y1],.agg [vi x2,vi y2],.agg [vi x3,vi y3],.agg [vi x4,vi y4],.agg [vi x5,vi y5]],vi le,vi ri,.mptr 2 [df l a] 0 0] res∧ ∃ (es':List Edge) (a b:Nat),ju es' (n+1)∧res=⟨.sl 0 b 0 es'.length,[(b,es'.map Edge.v),(0,[df l a])]⟩:=
   fun x1 y1 x2 y2 x3 y3 x4 y4 x5 y5 le ri a=>Nv hl he hn (f5 ⟨x1,y1⟩ ⟨x2,y2⟩ ⟨x3,y3⟩ ⟨x4,y4⟩ ⟨x5,y5⟩) le ri a
  refine fA.ex (tE _ _ _ _ _ _ _ _ _ _ _ _ _) ?_
  rintro _ ⟨es',a,b,h1,rfl⟩
  conv=>whnf
  repeat' (first| intro g| refine st ?_| (refine dj.bW ?_;intro s) | refine br ?_ ?_<;>intro hc| rfl) <;>conv=>whnf
  exact⟨es',a,_,h1,rfl⟩
 ·have tE: ∀x1 y1 x2 y2 x3 y3 x4 y4 le ri a,∃res,Ev E 113 [.msl 4 (es.map Edge.v) 0 es.length,.lit 2 [.agg [vi x1,vi y1],.agg [vi x2,vi y2],.agg [vi x3,vi y3],.agg [vi x4,vi y4]],vi le,vi ri,.mptr 2 [df l a] 0 0] res∧ ∃ (es':List Edge) (a b:Nat),ju es' (n+1)∧res=⟨.sl 0 b 0 es'.length,[(b,es'.map Edge.v),(0,[df l a])]⟩:=
   fun x1 y1 x2 y2 x3 y3 x4 y4 le ri a=>Nv hl he hn (f4 ⟨x1,y1⟩ ⟨x2,y2⟩ ⟨x3,y3⟩ ⟨x4,y4⟩) le ri a
  refine fA.ex (tE _ _ _ _ _ _ _ _ _ _ _) ?_
  rintro _ ⟨es',a,b,h1,rfl⟩
  conv=>whnf
  repeat' (first| intro g| refine st ?_| (refine dj.bW ?_;intro s) | refine br ?_ ?_<;>intro hc| rfl) <;>conv=>whnf
  exact⟨es',a,_,h1,rfl⟩
theorem Ep {es:List Edge} (he:es.length< 10000): ∃res,Ev E 118 [.lit 4 (es.map Edge.v)] res∧ ∃fs:List aX,fs.length≤2*es.length∧res=⟨.own 5 (fs.map aX.v),[]⟩:=by
 refine Ev.bH rfl rfl rfl ?_
 conv=>whnf
 repeat' (first| intro g| refine st ?_| (refine dj.bW ?_;intro s) | refine br ?_ ?_<;>intro hc| rfl) <;>conv=>whnf
 refine aO.by (fun ((k,ids):Nat×List Int)=> ⟨[(0,.lit 4 (es.map Edge.v)),(3,.lit 1 (ids.map vi)),(4,ar k)],[]⟩) (fun (k,ids)=>k≤es.length∧ids.length≤2*k) (fun (k,_)=>es.length - k) (0,[]) su ⟨afU,afU⟩ ?_
 rintro⟨k,ids⟩ ⟨hk,hi⟩
 try dsimp only at hk hi
 by_cases bk:k<es.length
 ·obtain⟨e,kE⟩: ∃e,es[k]? =some e:=⟨_,aL bk⟩
  by_cases h1:e.left=0 <;>by_cases h2:e.right=0
  ·conv=>whnf
   repeat' (first| intro g| refine wi (av kE rfl) ?_| refine st ?_| (refine dj.bW ?_;intro s) | refine br ?_ ?_<;>intro hc| rfl) <;>conv=>whnf
   exact aK.mk (k+1,ids) om ⟨om,om⟩ su
  ·conv=>whnf
   repeat' (first| intro g| refine wi (av kE rfl) ?_| refine st ?_| (refine dj.bW ?_;intro s) | refine br ?_ ?_<;>intro hc| rfl) <;>conv=>whnf
   refine fA.ex (CD ae0 _) ?_
   rintro _ ⟨l',xH,rfl| rfl⟩
   all_goals
    conv=>whnf
    repeat' (first| intro g| refine wi (av kE rfl) ?_| refine st ?_| (refine dj.bW ?_;intro s) | refine br ?_ ?_<;>intro hc| rfl) <;>conv=>whnf
    exact aK.mk (k+1,l') om ⟨om,om⟩ su
  ·conv=>whnf
   repeat' (first| intro g| refine wi (av kE rfl) ?_| refine st ?_| (refine dj.bW ?_;intro s) | refine br ?_ ?_<;>intro hc| rfl) <;>conv=>whnf
   refine fA.ex (CD ae0 _) ?_
   rintro _ ⟨l',xH,rfl| rfl⟩
   all_goals
    conv=>whnf
    repeat' (first| intro g| refine wi (av kE rfl) ?_| refine st ?_| (refine dj.bW ?_;intro s) | refine br ?_ ?_<;>intro hc| rfl) <;>conv=>whnf
    exact aK.mk (k+1,l') om ⟨om,om⟩ su
  ·conv=>whnf
   repeat' (first| intro g| refine wi (av kE rfl) ?_| refine st ?_| (refine dj.bW ?_;intro s) | refine br ?_ ?_<;>intro hc| rfl) <;>conv=>whnf
   refine fA.ex (CD ae0 _) ?_
   rintro _ ⟨l',xH,rfl| rfl⟩
   all_goals
    conv=>whnf
    repeat' (first| intro g| refine wi (av kE rfl) ?_| refine st ?_| (refine dj.bW ?_;intro s) | refine br ?_ ?_<;>intro hc| rfl) <;>conv=>whnf
    refine fA.ex (CD ae0 _) ?_
    rintro _ ⟨l2,GP,rfl| rfl⟩
    all_goals
     conv=>whnf
     repeat' (first| intro g| refine wi (av kE rfl) ?_| refine st ?_| (refine dj.bW ?_;intro s) | refine br ?_ ?_<;>intro hc| rfl) <;>conv=>whnf
     exact aK.mk (k+1,l2) om ⟨om,om⟩ su
 obtain rfl:k=es.length:=ae0
 conv=>whnf
 repeat' (first| intro g| refine st ?_| (refine dj.bW ?_;intro s) | refine br ?_ ?_<;>intro hc| rfl) <;>conv=>whnf
 refine aO.by (fun ((j,fs,g):Nat×List aX×Nat)=> ⟨[(3,.lit 1 (ids.map vi)),(5,.sl 97 g 0 fs.length),(6,ar j)],[(97,⟨g,5,true,false,some (fs.map aX.v)⟩)]⟩) (fun (j,fs,_)=>j≤ids.length∧fs.length=j) (fun (j,_)=>ids.length - j) (0,[],g) su ⟨afU,afU⟩ ?_
 rintro⟨j,fs,g⟩ ⟨hj,hf⟩
 try dsimp only at hj hf
 by_cases bk:j<ids.length
 ·obtain⟨x,hx⟩: ∃x,ids[j]? =some x:=⟨_,aL bk⟩
  conv=>whnf
  repeat' (first| intro g| refine wi (av hx rfl) ?_| refine st ?_| (refine dj.bW ?_;intro s) | refine br ?_ ?_<;>intro hc| rfl) <;>conv=>whnf
  exact aK.mk (j+1,fs++[⟨x,[],[],0,0⟩],g) om ⟨om,by simp;omega⟩ su
 ·conv=>whnf
  repeat' (first| intro g| refine st ?_| (refine dj.bW ?_;intro s) | refine br ?_ ?_<;>intro hc| rfl) <;>conv=>whnf
  exact⟨fs,ae0,rfl⟩
end Go.AM
namespace Go.AM
def Hh:aS→Nat→aS
 | .seq _ b,n+1=>Hh b n
 | c,_=>c
def fP (l:List Int):V:= .lit 1 (l.map vi)
def gg (ls:List (List Int)):V:= .lit 1 (ls.map fP)
theorem ZJ {first second eR:List Int} (hl:first.length< 9223372036854775808) {w h:Nat} (hw:w≤3) (hh:h≤2) (S:SS) (gd go a0:Nat) (Va:List Int) (h6:Va.length=6)
  (hS:SS.Sub ⟨[(5,fP second),(6,fP eR),(7,.ptr 672 gd 0 0),(8,ar w),(9,ar h),(10,.ptr 176 go 0 0),(11,ar 0)],[(672,⟨gd,2,false,false,some [df first a0]⟩),(176,⟨go,6,false,false,some [.agg (Va.map vi)]⟩)]⟩ S)
  (Q:aP→SS→Prop)
  (hQ: ∀ (a:Nat) (cs:List Int),cs.length=6→Q (.exit 0) ⟨[(5,fP second),(6,fP eR),(7,.ptr 672 gd 0 0),(8,ar w),(9,ar h),(10,.ptr 176 go 0 0)],[(672,⟨gd,2,false,false,some [df first a]⟩),(176,⟨go,6,false,false,some [.agg (cs.map vi)]⟩)]⟩):
  aO E Hf S Q:=by
 have n5:=fun a=>cp hl 5 (a:=a) ae0 ae0
 refine aO.UZ ?_
 refine aO.by (fun ((i,cs,a):Nat×List Int×Nat)=> ⟨[(5,fP second),(6,fP eR),(7,.ptr 672 gd 0 0),(8,ar w),(9,ar h),(10,.ptr 176 go 0 0),(11,ar i)],[(672,⟨gd,2,false,false,some [df first a]⟩),(176,⟨go,6,false,false,some [.agg (cs.map vi)]⟩)]⟩)
  (fun (i,cs,_)=>i≤w∧cs.length=6) (fun (i,_)=>w - i) (0,Va,a0) hS ⟨afU,h6⟩ ?_
 rintro⟨i,cs,a⟩ ⟨hi,nM⟩
 try dsimp only at hi nM
 by_cases bk:i<w
 ·conv=>whnf
  repeat' (first| intro g| refine st ?_| (refine dj.bW ?_;intro s) | refine br ?_ ?_<;>intro hc| rfl) <;>conv=>whnf
  refine aO.by (fun ((j,cs,a):Nat×List Int×Nat)=> ⟨[(5,fP second),(6,fP eR),(7,.ptr 672 gd 0 0),(8,ar w),(9,ar h),(10,.ptr 176 go 0 0),(11,ar i),(12,ar j)],[(672,⟨gd,2,false,false,some [df first a]⟩),(176,⟨go,6,false,false,some [.agg (cs.map vi)]⟩)]⟩)
   (fun (j,cs,_)=>j≤h∧cs.length=6) (fun (j,_)=>h - j) (0,cs,a) su ⟨afU,nM⟩ ?_
  rintro⟨j,cs,a⟩ ⟨hj,nM⟩
  try dsimp only at hj nM
  by_cases afy:j<h
  ·match cs,nM with
   | [x0,x1,x2,x3,x4,x5],_=>
     rcases(by omega:i=0∨i=1∨i=2) with rfl| rfl| rfl<;>rcases(by omega:j=0∨j=1) with rfl| rfl
     all_goals
       conv=>whnf
       repeat' (first| intro g| refine nd ⟨afV,afV⟩ ?_| apply ca (n5 _) | refine st ?_| (refine dj.bW ?_;intro s) | refine br ?_ ?_<;>intro hc| rfl) <;>conv=>whnf
       all_goals first
        | exact aK.mk (1,[_,_,_,_,_,_],_) om ⟨om,rfl⟩ su
        | exact aK.mk (2,[_,_,_,_,_,_],_) om ⟨om,rfl⟩ su
        | trace_state
  ·conv=>whnf
   repeat' (first| intro g| refine st ?_| (refine dj.bW ?_;intro s) | refine br ?_ ?_<;>intro hc| rfl) <;>conv=>whnf
   exact aK.mk (i+1,cs,a) om ⟨om,nM⟩ su
 ·conv=>whnf
  repeat' (first| intro g| refine st ?_| (refine dj.bW ?_;intro s) | refine br ?_ ?_<;>intro hc| rfl) <;>conv=>whnf
  refine⟨_,?_,hQ a cs nM⟩
  exact su
end Go.AM
namespace Go.AM
abbrev TU (second eR:List Int) (gd w h go ge:Nat) (x0 x1 x2 x3 x4 x5:Int) (first:List Int) (ad ae:Nat) (es:List Edge) (g7:Nat) (more:List (Nat×V)):SS:=
 ⟨more++[(5,fP second),(7,.ptr 672 gd 0 0),(8,ar w),(9,ar h),(10,.ptr 176 go 0 0),(13,.ptr 1712 ge 0 0),(14,.sl 241 g7 0 es.length)],
   [(672,⟨gd,2,false,false,some [df first ad]⟩),(176,⟨go,6,false,false,some [.agg [vi x0,vi x1,vi x2,vi x3,vi x4,vi x5]]⟩),(1712,⟨ge,2,false,false,some [df eR ae]⟩),(241,⟨g7,4,true,false,some (es.map Edge.v)⟩)]⟩
section
variable {second eR first:List Int} (h2:second.length< 9223372036854775808) (h3:eR.length< 9223372036854775808) {w h:Nat} (hw:w≤3) (hh:h≤2) {gd go ge ad:Nat} {x0 x1 x2 x3 x4 x5:Int}
include h2 h3 hw hh
theorem ZK (S:SS) (ZL:Nat) (g0:Nat) (hS:SS.Sub (TU second eR gd w h go ge x0 x1 x2 x3 x4 x5 first ad ZL [] g0 [(15,ar 0)]) S) (Q:aP→SS→Prop)
  (hQ: ∀ (es:List Edge) (ae g7:Nat),ju es 9→Q (.exit 4) (TU second eR gd w h go ge x0 x1 x2 x3 x4 x5 first ad ae es g7 [])):aO E U3 S Q:=by
 refine aO.UZ ?_
 refine aO.by (fun ((j,es,ae,g7):Nat×List Edge×Nat×Nat)=>TU second eR gd w h go ge x0 x1 x2 x3 x4 x5 first ad ae es g7 [(15,ar j)])
  (fun (j,es,_,_)=>j≤h+1∧ju es (3*j)) (fun (j,_)=>h+1 - j) (0,[],ZL,g0) hS ⟨afU,⟨afU,afU⟩⟩ ?_
 rintro⟨j,es,ae,g7⟩ ⟨hj,he⟩
 try dsimp only at hj he
 by_cases bk:j≤h
 ·conv=>whnf
  repeat' (first| intro g| refine st ?_| (refine dj.bW ?_;intro s) | refine br ?_ ?_<;>intro hc| rfl) <;>conv=>whnf
  refine aO.by (fun ((i,es,ae,g7):Nat×List Edge×Nat×Nat)=>TU second eR gd w h go ge x0 x1 x2 x3 x4 x5 first ad ae es g7 [(15,ar j),(16,ar i)])
   (fun (i,es,_,_)=>i≤w∧ju es (3*j+i)) (fun (i,_)=>w - i) (0,es,ae,g7) su ⟨afU,he⟩ ?_
  rintro⟨i,es,ae,g7⟩ ⟨hi,he⟩
  try dsimp only at hi he
  have rB:=he.1
  by_cases Vb:i<w
  ·have hiw:IntKind.i64.wrap ((i:Int)+1)=((i+1:Nat):Int):=wt
   obtain⟨p1,Hi⟩:=xE h2 (i:=i) (j:=j) ae0 ae0
   obtain⟨p2,Hj⟩:=xE h2 (i:=i+1) (j:=j) ae0 ae0
   have Vc:Ev E 115 [.lit 1 (second.map vi),vi (IntKind.i64.wrap ((i:Int)+1)),ar j] ⟨p2.v,[]⟩:=by rw[hiw];exact Hj
   obtain⟨ps,a1,l1,l2,Vd⟩:=A7 h3 p1 p2 ae
   obtain⟨c1,np⟩:=xF (cs:=[x0,x1,x2,x3,x4,x5]) rfl hw hh (i:Int) (j:Int)
   obtain⟨c2,tF⟩:=xF (cs:=[x0,x1,x2,x3,x4,x5]) rfl hw hh (i:Int) (IntKind.i64.wrap ((j:Int) - 1))
   obtain⟨es',a2,b,iM,tE⟩:=Hg h3 he ae0 (ps:=ps) ⟨l1,l2⟩ c1 c2 a1
   conv=>whnf
   repeat' (first| intro g| apply ca Hi| apply ca Vc| apply ca Vd| apply ca np| apply ca tF| apply ca tE| refine st ?_| (refine dj.bW ?_;intro s) | refine br ?_ ?_<;>intro hc| rfl) <;>conv=>whnf
   exact aK.mk (i+1,es',a2,_) om ⟨om,iM⟩ su
  ·obtain rfl:i=w:=ae0
   conv=>whnf
   repeat' (first| intro g| refine st ?_| (refine dj.bW ?_;intro s) | refine br ?_ ?_<;>intro hc| rfl) <;>conv=>whnf
   exact aK.mk (j+1,es,ae,g7) om ⟨om,he.mono ae0⟩ su
 ·conv=>whnf
  repeat' (first| intro g| refine st ?_| (refine dj.bW ?_;intro s) | refine br ?_ ?_<;>intro hc| rfl) <;>conv=>whnf
  refine⟨_,?_,hQ es ae g7 (he.mono ae0)⟩
  exact su
theorem ZM (S:SS) (lX:List Edge) (he0:ju lX 9) (ZL:Nat) (g0:Nat) (hS:SS.Sub (TU second eR gd w h go ge x0 x1 x2 x3 x4 x5 first ad ZL lX g0 [(17,ar 0)]) S) (Q:aP→SS→Prop)
  (hQ: ∀ (es:List Edge) (ae g7:Nat),ju es 17→Q (.exit 8) (TU second eR gd w h go ge x0 x1 x2 x3 x4 x5 first ad ae es g7 [])):aO E U4 S Q:=by
 refine aO.UZ ?_
 refine aO.by (fun ((j,es,ae,g7):Nat×List Edge×Nat×Nat)=>TU second eR gd w h go ge x0 x1 x2 x3 x4 x5 first ad ae es g7 [(17,ar j)])
  (fun (j,es,_,_)=>j≤h∧ju es (9+4*j)) (fun (j,_)=>h - j) (0,lX,ZL,g0) hS ⟨afU,he0⟩ ?_
 rintro⟨j,es,ae,g7⟩ ⟨hj,he⟩
 try dsimp only at hj he
 by_cases bk:j<h
 ·conv=>whnf
  repeat' (first| intro g| refine st ?_| (refine dj.bW ?_;intro s) | refine br ?_ ?_<;>intro hc| rfl) <;>conv=>whnf
  refine aO.by (fun ((i,es,ae,g7):Nat×List Edge×Nat×Nat)=>TU second eR gd w h go ge x0 x1 x2 x3 x4 x5 first ad ae es g7 [(17,ar j),(18,ar i)])
   (fun (i,es,_,_)=>i≤w+1∧ju es (9+4*j+i)) (fun (i,_)=>w+1 - i) (0,es,ae,g7) su ⟨afU,he⟩ ?_
  rintro⟨i,es,ae,g7⟩ ⟨hi,he⟩
  try dsimp only at hi he
  have rB:=he.1
  by_cases Vb:i≤w
  ·have DX:IntKind.i64.wrap ((j:Int)+1)=((j+1:Nat):Int):=wt
   obtain⟨p1,Hi⟩:=xE h2 (i:=i) (j:=j) ae0 ae0
   obtain⟨p2,Hj⟩:=xE h2 (i:=i) (j:=j+1) ae0 ae0
   have Vc:Ev E 115 [.lit 1 (second.map vi),ar i,vi (IntKind.i64.wrap ((j:Int)+1))] ⟨p2.v,[]⟩:=by rw[DX];exact Hj
   obtain⟨ps,a1,l1,l2,Vd⟩:=A7 h3 p1 p2 ae
   obtain⟨c1,np⟩:=xF (cs:=[x0,x1,x2,x3,x4,x5]) rfl hw hh (IntKind.i64.wrap ((i:Int) - 1)) (j:Int)
   obtain⟨c2,tF⟩:=xF (cs:=[x0,x1,x2,x3,x4,x5]) rfl hw hh (i:Int) (j:Int)
   obtain⟨es',a2,b,iM,tE⟩:=Hg h3 he ae0 (ps:=ps) ⟨l1,l2⟩ c1 c2 a1
   conv=>whnf
   repeat' (first| intro g| apply ca Hi| apply ca Vc| apply ca Vd| apply ca np| apply ca tF| apply ca tE| refine st ?_| (refine dj.bW ?_;intro s) | refine br ?_ ?_<;>intro hc| rfl) <;>conv=>whnf
   exact aK.mk (i+1,es',a2,_) om ⟨om,iM⟩ su
  ·obtain rfl:i=w+1:=ae0
   conv=>whnf
   repeat' (first| intro g| refine st ?_| (refine dj.bW ?_;intro s) | refine br ?_ ?_<;>intro hc| rfl) <;>conv=>whnf
   exact aK.mk (j+1,es,ae,g7) om ⟨om,he.mono ae0⟩ su
 ·conv=>whnf
  repeat' (first| intro g| refine st ?_| (refine dj.bW ?_;intro s) | refine br ?_ ?_<;>intro hc| rfl) <;>conv=>whnf
  refine⟨_,?_,hQ es ae g7 (he.mono ae0)⟩
  exact su
end
end Go.AM
namespace Go.AM
def wc (ls:List (List Int)):Prop:=ls.length< 9223372036854775808∧ ∀l ∈ ls,l.length< 9223372036854775808
theorem jv {ls:List (List Int)} {k:Nat} {l:List Int} (h:ls[k]? =some l): (ls.map fP)[((k:Nat):Int).toNat]? =some (fP l):=by simp[h]
def qC (r:eL):Prop:= ∃ (es:List Edge) (fs:List aX),ju es 18∧fs.length≤36∧r=⟨.tuple [.lit 4 (es.map Edge.v),.own 5 (fs.map aX.v)],[]⟩
theorem wg (ls:List (List Int)) {first second eR:List Int} (h1:first.length< 9223372036854775808) (h2:second.length< 9223372036854775808) (h3:eR.length< 9223372036854775808) {w h:Nat} (hw:w≤3) (hh:h≤2) (Kz:1≤w) (hh1:1≤h) (S:SS) (gd go a0:Nat) (Va:List Int) (h6:Va.length=6)
   (hS:SS.Sub ⟨[(5,fP second),(6,fP eR),(7,.ptr 672 gd 0 0),(8,ar w),(9,ar h),(10,.ptr 176 go 0 0),(11,ar 0)],[(672,⟨gd,2,false,false,some [df first a0]⟩),(176,⟨go,6,false,false,some [.agg (Va.map vi)]⟩)]⟩ S):
   aO E Hf S (Nc 0 (thenS (Av f83.results [gg ls] qC) fun S'=>km E (Hh TS 11) S' (Av f83.results [gg ls] qC))):=by
 refine ZJ h1 hw hh S gd go a0 Va h6 hS _ ?_
 intro a cs nM
 match cs,nM with
 | [x0,x1,x2,x3,x4,x5],_=>
   conv=>whnf
   repeat' (first| intro g| refine st ?_| (refine dj.bW ?_;intro s) | refine br ?_ ?_<;>intro hc| rfl) <;>conv=>whnf
   rename_i ge
   refine ZK (gd:=gd) (go:=go) (ge:=ge) (ad:=a) (first:=first) (x0:=x0) (x1:=x1) (x2:=x2) (x3:=x3) (x4:=x4) (x5:=x5) h2 h3 hw hh _ 0 g su _ ?_
   intro es ae g7 he
   conv=>whnf
   repeat' (first| intro g| refine st ?_| (refine dj.bW ?_;intro s) | refine br ?_ ?_<;>intro hc| rfl) <;>conv=>whnf
   refine ZM (gd:=gd) (go:=go) (ge:=ge) (ad:=a) (first:=first) (x0:=x0) (x1:=x1) (x2:=x2) (x3:=x3) (x4:=x4) (x5:=x5) h2 h3 hw hh _ es he ae g7 su _ ?_
   clear he es ae g7
   intro es ae g7 he
   have rB:=he.1
   have n2:=cp h1 2 (a:=a) ae0 ae0
   have nw:=cp h1 w (a:=aZ first a) ae0 ae0
   have nh:=cp h1 h (a:=aZ first (aZ first a)) ae0 ae0
   have bw:=ew (l:=first) (a:=aZ first a) (n:=w) ae0 ae0
   have bh:=ew (l:=first) (a:=aZ first (aZ first a)) (n:=h) ae0 ae0
   generalize dC first (aZ first a) w=i at nw bw
   generalize dC first (aZ first (aZ first a)) h=j at nh bh
   by_cases hn2:dC first a 2=1
   · rcases(by omega:i=0∨i=1∨i=2) with rfl| rfl| rfl<;>rcases(by omega:j=0∨j=1) with rfl| rfl
     all_goals
      conv=>whnf
      repeat' (first| intro g| apply ca n2| apply ca nw| apply ca nh| refine st ?_| (refine dj.bW ?_;intro s) | refine br ?_ ?_<;>intro hc| rfl) <;>conv=>whnf
      refine fA.ex (Ky h3 he ae0 ⟨_,_⟩ _ _) ?_
      rintro _ ⟨es',Ve,b,kE,rfl⟩
      have afz:=kE.1
      conv=>whnf
      repeat' (first| intro g| refine st ?_| (refine dj.bW ?_;intro s) | refine br ?_ ?_<;>intro hc| rfl) <;>conv=>whnf
      refine fA.ex (Ep (es:=es') ae0) ?_
      rintro _ ⟨fs,hfs,rfl⟩
      conv=>whnf
      repeat' (first| intro g| refine st ?_| (refine dj.bW ?_;intro s) | refine br ?_ ?_<;>intro hc| rfl) <;>conv=>whnf
      exact⟨es',fs,kE,ae0,rfl⟩
   · conv=>whnf
     repeat' (first| intro g| apply ca n2| refine st ?_| (refine dj.bW ?_;intro s) | refine br ?_ ?_<;>intro hc| rfl) <;>conv=>whnf
     refine fA.ex (Ep (es:=es) ae0) ?_
     rintro _ ⟨fs,hfs,rfl⟩
     conv=>whnf
     repeat' (first| intro g| refine st ?_| (refine dj.bW ?_;intro s) | refine br ?_ ?_<;>intro hc| rfl) <;>conv=>whnf
     exact⟨es,fs,he.mono ae0,ae0,rfl⟩
theorem KA {ls:List (List Int)} (hs:wc ls): ∃res,Ev E 83 [gg ls] res∧qC res:=by
 refine Ev.bH rfl rfl rfl ?_
 have hl:=hs.1
 have key: ∀k,k<ls.length→ ∃l,ls[k]? =some l∧l.length< 9223372036854775808:=fun k hk=> ⟨_,aL hk,hs.2 _ (agP hk)⟩
 have gen: ∀ (first second eR:List Int),first.length< 9223372036854775808→second.length< 9223372036854775808→eR.length< 9223372036854775808→
   (0 <ls.length→ls[0]? =some first)→(1 <ls.length→ls[1]? =some second)→(2 <ls.length→ls[2]? =some eR)→(ls.length≤0→first=[])→(ls.length≤1→second=[])→(ls.length≤2→eR=[])→
   km E f83.body (u9 [gg ls]) (Av f83.results [gg ls] qC):=by
  intro first second eR h1 h2 h3 k1 k2 k3 e1 e2 e3
  have n3:=cp h1 3 (a:=0) ae0 ae0
  have n2:=cp h1 2 (a:=aZ first 0) ae0 ae0
  have b3:=ew (l:=first) (a:=0) (n:=3) ae0 ae0
  have b2:=ew (l:=first) (a:=aZ first 0) (n:=2) ae0 ae0
  generalize dC first 0 3=r3 at n3 b3
  generalize dC first (aZ first 0) 2=r2 at n2 b2
  have w3:IntKind.i64.wrap (1+(r3:Int))=((1+r3:Nat):Int):=wt
  have w2:IntKind.i64.wrap (1+(r2:Int))=((1+r2:Nat):Int):=wt
  have f3:V.int .i64 (IntKind.i64.wrap (1+(r3:Int)))=ar (1+r3):=by rw[w3]
  have f2:V.int .i64 (IntKind.i64.wrap (1+(r2:Int)))=ar (1+r2):=by rw[w2]
  have fin: ∀ (S:SS) (gd go:Nat),SS.Sub ⟨[(5,fP second),(6,fP eR),(7,.ptr 672 gd 0 0),(8,V.int .i64 (IntKind.i64.wrap (1+(r3:Int)))),(9,if IntKind.i64.wrap (1+(r3:Int))=3 then vi 1 else V.int .i64 (IntKind.i64.wrap (1+(r2:Int)))),(10,.ptr 176 go 0 0),(11,vi 0)],
    [(672,⟨gd,2,false,false,some [df first (aZ first (aZ first 0))]⟩),(176,⟨go,6,false,false,some [.agg [vi 0,vi 0,vi 0,vi 0,vi 0,vi 0]]⟩)]⟩ S→
    aO E Hf S (Nc 0 (thenS (Av f83.results [gg ls] qC) fun S'=>km E (Hh TS 11) S' (Av f83.results [gg ls] qC))):=by
   intro S gd go hS
   by_cases hc:IntKind.i64.wrap (1+(r3:Int))=3
   ·rw[f3,if_pos hc] at hS
    exact wg (w:=1+r3) (h:=1) ls h1 h2 h3 ae0 ae0 ae0 ae0 S gd go _ [0,0,0,0,0,0] rfl hS
   ·rw[f3,if_neg hc,f2] at hS
    exact wg (w:=1+r3) (h:=1+r2) ls h1 h2 h3 ae0 ae0 ae0 ae0 S gd go _ [0,0,0,0,0,0] rfl hS
  rcases(by omega:ls.length=0∨ls.length=1∨ls.length=2∨2 <ls.length) with hz| hz| hz| hz
  ·obtain rfl:=e1 ae0
   obtain rfl:=e2 ae0
   obtain rfl:=e3 ae0
   conv=>whnf
   repeat' (first| intro g| apply ca n3| apply ca n2| refine st ?_| (refine dj.bW ?_;intro s) | refine br ?_ ?_<;>intro hc| rfl) <;>conv=>whnf
   all_goals (rename_i gd;refine fin _ gd g ?_)
   all_goals first| rw[if_pos hc] | rw[if_neg hc]
   all_goals exact su
  ·obtain rfl:=e2 ae0
   obtain rfl:=e3 ae0
   conv=>whnf
   repeat' (first| intro g| refine wi (jv (k1 ae0)) ?_| apply ca n3| apply ca n2| refine st ?_| (refine dj.bW ?_;intro s) | refine br ?_ ?_<;>intro hc| rfl) <;>conv=>whnf
   all_goals (rename_i gd;refine fin _ gd g ?_)
   all_goals first| rw[if_pos hc] | rw[if_neg hc]
   all_goals exact su
  ·obtain rfl:=e3 ae0
   conv=>whnf
   repeat' (first| intro g| refine wi (jv (k1 ae0)) ?_| refine wi (jv (k2 ae0)) ?_| apply ca n3| apply ca n2| refine st ?_| (refine dj.bW ?_;intro s) | refine br ?_ ?_<;>intro hc| rfl) <;>conv=>whnf
   all_goals (rename_i gd;refine fin _ gd g ?_)
   all_goals first| rw[if_pos hc] | rw[if_neg hc]
   all_goals exact su
  ·conv=>whnf
   repeat' (first| intro g| refine wi (jv (k1 ae0)) ?_| refine wi (jv (k2 ae0)) ?_| refine wi (jv (k3 ae0)) ?_| apply ca n3| apply ca n2| refine st ?_| (refine dj.bW ?_;intro s) | refine br ?_ ?_<;>intro hc| rfl) <;>conv=>whnf
   all_goals (rename_i gd;refine fin _ gd g ?_)
   all_goals first| rw[if_pos hc] | rw[if_neg hc]
   all_goals exact su
 have pick: ∀k,∃l:List Int,l.length< 9223372036854775808∧(k<ls.length→ls[k]? =some l)∧(ls.length≤k→l=[]):=by
  intro k
  by_cases hk:k<ls.length
  ·obtain⟨l,a1,a2⟩:=key k hk
   exact⟨l,a2,fun _=>a1,fun h=>ae0⟩
  ·exact⟨[],afU,fun h=>ae0,fun _=>rfl⟩
 obtain⟨first,a1,b1,c1⟩:=pick 0
 obtain⟨second,a2,b2,c2⟩:=pick 1
 obtain⟨eR,a3,b3,c3⟩:=pick 2
 exact gen first second eR a1 a2 a3 b1 b2 b3 c1 c2 c3
end Go.AM
namespace Go.AM
def ixL (a:Bool) (sz:Nat):aS:=
  (.seq (.region [od 9 (.bin .lss (.tmp 8) (.tmp 7))])
  (.seq (.cond (.tmp 9)
  .skip
  (.exit 0))
  (.seq (.block 1 (.seq (.region [od 10 (.move (.tmp 8)),od 5 (.move (.tmp 10))])
  (.seq (.region [od 11 (.move (.tmp 1)),od 12 (.move (.tmp 0)),od 13 (.move (.tmp 5)),od 14 (.indexAddr sz (.tmp 12) (.tmp 13)),
 od 15 (.load a sz (.tmp 14)),od 16 (.call 272 false (.tmp 11) [(.tmp 15)])])
  (.cond (.tmp 16)
  (.seq (.region [od 17 (.move (.tmp 5)),od 4 (.move (.tmp 17))])
  .ret)
  .skip))))
  (.region [od 18 (.bin .add (.tmp 8) (ic 1)),od 8 (.move (.tmp 18))]))))
def ixF (a:Bool) (sz:Nat):aM:=⟨2,19,[],[.tmp 4],(.seq (.region [od 4 (.move (ic 0))])
 (.seq (.seq (.region [od 6 (.move (.tmp 0)),od 7 (.len (.tmp 6)),od 8 (.move (ic 0))])
 (.block 0 (.loop (ixL a sz))))
 (.seq (.region [od 4 (.move (ic (-1)))])
 .ret))),none⟩
theorem qD {α:Type} {v:α→V} {a:Bool} {sz k:Nat} (hv: ∀x,(v x).au=true) (hq: ∀x,o8 a 0 sz (v x)= .done (v x)) {l:List α} {g:Nat} {caps:List V} (Xm:V.ak caps=true) {p:α→Bool} (hlen:l.length< 4611686018427387904)
  (hp: ∀x,Ev E g (v x::caps) ⟨.bool (p x),[]⟩) (hm:bC E g=[]) (hF:E.fn k=some (ixF a sz):=by rfl) (hX: ∀eV,E.ext k eV=none:=by intro _;rfl) (hh:E.hyb k=none:=by rfl):Ev E k [.lit sz (l.map v),.fn g caps] ⟨vi (firstIdx p l),[]⟩:=by
 have KB:V.ak (l.map v)=true:=AM.aV hv l
 refine Ev.aI hF (hX _) rfl ?_ rfl hh
 conv=>whnf
 repeat' (first| intro g| refine nd (by simp[V.ak,V.au,Xm,KB]) ?_| refine st ?_| refine br ?_ ?_<;>intro hc| rfl) <;>conv=>whnf
 refine aO.by (fun i:Nat=> ⟨[(0,.lit sz (l.map v)),(1,.fn g caps),(7,ar (l.map v).length),(8,ar i)],[]⟩) (fun i=>i≤l.length∧ ∀ (j:Nat) y,j<i→l[j]? =some y→p y=false) (fun i=>l.length - i) 0 ?_ ?_ ?_
 ·exact su
 ·simp
 rintro i ⟨hi,gR⟩
 have cM:=Xm
 by_cases bk:i<l.length
 ·have hx:l[i]? =some l[i]:=aL bk
  have TW:=hp l[i]
  have hqx:=hq l[i]
  have hvx:=hv l[i]
  generalize l[i]=x at hx TW hqx hvx
  have wh: (l.map v)[i]? =some (v x):=by simp[hx]
  have Ha:V.ak (v x::caps)=true:=by simp only[V.ak,hvx,Xm];rfl
  conv=>whnf
  repeat' (first| intro g| refine wi wh ?_| refine st ?_| refine br ?_ ?_<;>intro hc| rfl| refine gJ hm Ha TW rfl ?_| ((change fb E (o8 a 0 sz (v x)) _ _;rw[hqx]))) <;>conv=>whnf
  ·rw[ye gR hx hc]
  ·refine aK.mk (i+1) om ?_ su
   refine⟨ae0,fun j y hj hy=> ?_⟩
   by_cases e:j=i
   ·subst e
    rw[hx] at hy
    injection hy with hy;subst hy;exact hc
   ·exact gR j y ae0 hy
 ·conv=>whnf
  repeat' (first| intro g| refine st ?_| refine br ?_ ?_<;>intro hc| rfl) <;>conv=>whnf
  rw[firstIdx_none fun j y hy=>gR j y (by have:=(af0.1 hy).1;omega) hy]
def ctF (j:Nat):aM:=⟨2,9,[],[.tmp 4],(.seq (.region [od 4 (.move (.const (.bool false)))])
  (.seq (.region [od 5 (.move (.tmp 0)),od 6 (.move (.tmp 1)),od 7 (.call 128 false (fc j) [(.tmp 5),(.tmp 6)]),od 8 (.bin .geq (.tmp 7) (ic 0)),
 od 4 (.move (.tmp 8))])
  .ret)),none⟩
theorem tG {α:Type} {v:α→V} {a:Bool} {sz k j:Nat} (hv: ∀x,(v x).au=true) (hq: ∀x,o8 a 0 sz (v x)= .done (v x)) {l:List α} {g:Nat} {caps:List V} (hc:V.ak caps=true) {p:α→Bool} (hlen:l.length< 4611686018427387904)
  (hp: ∀x,Ev E g (v x::caps) ⟨.bool (p x),[]⟩) (hm:bC E g=[]) (hF:E.fn j=some (ixF a sz):=by rfl) (hX: ∀eV,E.ext j eV=none:=by intro _;rfl) (hh:E.hyb j=none:=by rfl)
  (kF:E.fn k=some (ctF j):=by rfl) (kX: ∀eV,E.ext k eV=none:=by intro _;rfl) (kh:E.hyb k=none:=by rfl):Ev E k [.lit sz (l.map v),.fn g caps] ⟨.bool (decide (0≤firstIdx p l)),[]⟩:=by
 have h:=qD (k:=j) hv hq hc hlen hp hm hF hX hh
 have KB:V.ak (l.map v)=true:=AM.aV hv l
 have Mz:bC E j=[]:=by simp only[bC,hF];rfl
 refine Ev.aI kF (kX _) rfl ?_ rfl kh
 conv=>whnf
 repeat' (first| intro g| refine nd (by simp[V.ak,V.au,hc,KB]) ?_| refine st ?_| refine br ?_ ?_<;>intro hc| rfl) <;>conv=>whnf
 refine gJ Mz (by simp[V.ak,V.au,hc,KB]) h rfl ?_
 exact dr
end Go.AM
