/- Texts of the proof. -/
import Derived.Test.YtdldmebldkgcnaaGreatFns
import Derived.KernelRfl
set_option maxRecDepth 20000
set_option maxHeartbeats 4000000
set_option linter.unusedSimpArgs false
set_option linter.unusedVariables false
namespace Go.AM
theorem wt {n m:Int} (h0: -9223372036854775808≤n:=by first| omega) (h1:n≤9223372036854775807:=by first| omega) (h2:n=m:=by first| omega):IntKind.i64.wrap n=m:=(wrap64 h0 h1).trans h2
abbrev Ah:=List UInt8
abbrev vi (n:Int):V:= .int .i64 n
abbrev av (n:Nat):V:= .int .i64 (n:Int)
structure Pt where
 x:Int
 y:Int
 deriving DecidableEq
def Pt.v (p:Pt):V:= .agg [vi p.x,vi p.y]
structure Edge where
 id:Int
 line:List Pt
 left:Int
 right:Int
 deriving DecidableEq
def iP (l:List Pt):V:= .lit 2 (l.map Pt.v)
def Edge.v (e:Edge):V:= .agg [vi e.id,iP e.line,vi e.left,vi e.right]
structure aW where
 id:Int
 cls:Ah
 name:Ah
 weight:Int
 bG:Int
 deriving DecidableEq
def aW.v (f:aW):V:= .agg [vi f.id,.str f.cls,.str f.name,vi f.weight,vi f.bG]
structure Way where
 id:Int
 line:List Pt
 level:Int
 cls:Ah
 name:Ah
 Ai:Bool
 weight:Int
 bG:Int
 deriving DecidableEq
def Way.v (w:Way):V:= .agg [vi w.id,iP w.line,vi w.level,.str w.cls,.str w.name,.bool w.Ai,vi w.weight,vi w.bG]
structure Place where
 id:Int
 x:Int
 y:Int
 cls:Ah
 name:Ah
 weight:Int
 bG:Int
 deriving DecidableEq
def Place.v (p:Place):V:= .agg [vi p.id,vi p.x,vi p.y,.str p.cls,.str p.name,vi p.weight,vi p.bG]
structure Event where
 kind:Int
 at_:Int
 id:Int
 other:Int
 n:Int
 deriving DecidableEq
def Event.v (e:Event):V:= .agg [vi e.kind,vi e.at_,vi e.id,vi e.other,vi e.n]
structure aI where
 aB:List Edge
 an:List aW
 ways:List Way
 az:List Place
def aI.v (m:aI):V:= .agg [.lit 4 (m.aB.map Edge.v),.lit 5 (m.an.map aW.v),.lit 8 (m.ways.map Way.v),.lit 7 (m.az.map Place.v)]
theorem cR: ∀ {cs:List V},(∀x ∈ cs,V.aw x=true)→V.al cs=true
 | [],_=>rfl
 | c::cs,h=>by
   simp only[V.al,Bool.and_eq_true]
   exact⟨h c abW,cR fun x hx=>h x (by simp[hx])⟩
theorem aN {α:Type} {f:α→V} (h: ∀x,(f x).aw=true) (l:List α):V.al (l.map f)=true:=
 cR fun x hx=>by obtain⟨y,_,rfl⟩:=ai9.1 hx;exact h y
theorem Ys {α:Type} {f:α→V} {sz:Nat} (h: ∀x,aV (f x) sz=true) (l:List α): (l.map f).all (aV · sz)=true:=by
 simp[aiY,h]
theorem Pt.aN (l:List Pt):V.al (l.map Pt.v)=true:=AM.aN (fun _=>rfl) l
theorem Edge.aN (l:List Edge):V.al (l.map Edge.v)=true:=AM.aN (fun _=>rfl) l
theorem aW.aN (l:List aW):V.al (l.map aW.v)=true:=AM.aN (fun _=>rfl) l
theorem Way.aN (l:List Way):V.al (l.map Way.v)=true:=AM.aN (fun _=>rfl) l
theorem Place.aN (l:List Place):V.al (l.map Place.v)=true:=AM.aN (fun _=>rfl) l
theorem Event.aN (l:List Event):V.al (l.map Event.v)=true:=AM.aN (fun _=>rfl) l
theorem aq {α:Type} {f:α→V} {l:List α} {i:Nat} {n:Int} {x:α} (h:l[i]? =some x) (hn:n=(i:Int)): (l.map f)[n.toNat]? =some (f x):=by
 subst hn;simp[h]
theorem aH {α:Type} {l:List α} {i:Nat} (h:i<l.length):l[i]? =some l[i]:=aiW h
theorem jr {α:Type} {f:α→V} {l:List α} {n:Nat} (h:n=l.length):aG (l.map f) 0 n=l.map f:=by
 subst h;unfold aG;rw[List.drop_zero,List.take_of_length_le abW]
theorem gI {l:List V} {n:Nat} (h:n=l.length):aG l 0 n=l:=by
 subst h;simp[aG]
def gC (n:Int):Int:=IntKind.i64.wrap n
theorem wV {n:Int} (h0: -9223372036854775808≤n) (h1:n≤9223372036854775807):gC n=n:=wrap64 h0 h1
theorem dW: ∀ {cs:List V},V.al cs=true→ ∀x ∈ cs,V.aw x=true
 | [],_,x,h=>by simp at h
 | c::cs,h,x,hx=>by
   simp only[V.al,Bool.and_eq_true] at h
   rcases ai0.1 hx with rfl| hx
   ·exact h.1
   ·exact dW h.2 x hx
theorem bC {a b:List V} (h:V.al a=true) (k:V.al b=true):V.al (a++b)=true:=
 cR fun x hx=>by
  rcases ai6.1 hx with hx| hx
  ·exact dW h x hx
  ·exact dW k x hx
theorem bj {es ys:List V} {o:Nat} (h:V.al es=true) (k:V.al ys=true):V.al (overwrite es o ys)=true:=by
 refine bC (bC (cR fun x hx=> ?_) k) (cR fun x hx=> ?_)
 ·exact dW h x (ajh hx)
 ·exact dW h x (ajz hx)
theorem eH {es:List V} {o n:Nat} (h:V.al es=true):V.al (aG es o n)=true:=
 cR fun x hx=>dW h x (ajz (ajh hx))
theorem bE {n:Nat} {z:V} (h:V.aw z=true):V.al (List.replicate n z)=true:=
 cR fun x hx=>by rw[List.eq_of_mem_replicate hx];exact h
theorem yc {es:List V} {n:Nat} {x:V} (h:V.al es=true) (k:V.aw x=true):V.al (es.set n x)=true:=
 cR fun y hy=>by
  rcases aje hy with hy| rfl
  ·exact dW h y hy
  ·exact k
theorem lC {l:List V} {n:Nat} {x e:V} (h:l[n]? =some e): (l.set n x)[n]? =some x:=by
 have:=(aiS.1 h).1
 simp[this]
theorem rP {α:Type} {f:α→V} {l:List α} {r:List V} {n:Nat} (h:n=l.length):aG (l.map f++r) 0 n=l.map f:=by
 subst h;unfold aG;rw[List.drop_zero,List.take_append_of_le_length abW,List.take_of_length_le abW]
theorem uZ {α:Type} {f:α→V} {l:List α} {i:Nat} {x:α} (h:l[i]? =some x): (l.map f).set i (f x)=l.map f:=by
 rw[←ajH]
 congr 1
 obtain⟨hl,rfl⟩:=aiS.1 h
 simp
theorem cI {α:Type} (p:α→Bool) (l:List α): (firstIdx p l= -1∧ ∀ (i:Nat) (x:α),l[i]? =some x→p x=false)∨ ∃ (i:Nat) (x:α),firstIdx p l=(i:Int)∧l[i]? =some x∧p x=true:=by
 unfold firstIdx
 cases h:l.findIdx? p with
 | none=>
   refine .inl ⟨rfl,fun i x hx=> ?_⟩
   rw[akP] at h
   simpa using h x (List.mem_of_getElem? hx)
 | some i=>
   rw[ajM] at h
   obtain⟨hl,hp,_⟩:=h
   exact .inr ⟨i,l[i],rfl,aiW hl,hp⟩
theorem fB {E:Env} {r:Nat} {bB:Bool} {g:Nat} {args:List V} {v:V} {S:SS} {Q:KK} (hm:bz E g=[]) (hp:V.al args=true) (he:Ev E g args ⟨v,[]⟩) (hv:V.aw v=true) (k:Q v S [] []):fy E (lr E r bB g args) S Q:=by
 have key: ∀ (fg:List V) (i:Nat) (kk:List V→List Nat→List ed→bF),V.al fg=true→dL (r+8) fg [] i kk=kk fg [] []:=by
  intro fg
  induction fg with
  | nil=>intro i kk _;rfl
  | cons a fg ih=>
    intro i kk h
    simp only[V.al,Bool.and_eq_true] at h
    simp only[dL,fZ,h.1,cond_true,ajx]
    rw[ih (i+1) _ h.2]
 unfold lr
 rw[hm,key args 0 _ hp]
 refine⟨rfl,⟨⟨v,[]⟩,he,?_⟩⟩
 simp only[jl,fA,hv,cond_true,fy]
 exact k
theorem sd {p:Prop} (h:p:=by
 first| rfl| omega| assumption| exact AM.aN (fun _=>rfl) _| ((repeat' (first| rfl| exact AM.aN (fun _=>rfl) _| refine bC ?_ ?_| refine yc ?_ ?_| refine bj ?_ ?_| refine eH ?_| refine bE ?_));done) | exact Ys (fun _=>rfl) _| (and_intros<;>first| rfl| omega| assumption| exact AM.aN (fun _=>rfl) _| ((repeat' (first| rfl| exact AM.aN (fun _=>rfl) _| refine bC ?_ ?_| refine yc ?_ ?_| refine bj ?_ ?_| refine eH ?_| refine bE ?_));done) | (simp only[List.length_map,List.length_append,ai5,ajc,ajg,aju];done) | (simp only[List.length_map,List.length_append,ai5,ajc,ajg,aju];omega) | (simp[*];done) | (simp[*];omega)) | fail):p:=h
theorem ao {p:Prop} (h:p:=by
 first| assumption| rfl| omega| (simp only[List.length_map,List.length_append,ai5,ajc,ajg,aju];omega) | fail):p:=h
theorem lt {p:Prop} (h:p:=by
 first| omega| (simp only[List.length_map] at*;omega) | fail):p:=h
theorem st {p q:Prop} (k:q) (h:q→p:=by
 first
 | exact fN.mk ⟨Int.natCast_nonneg _,Nk aiO aiO,rfl,rfl⟩
 | exact fN.mk (p:=W6 _ _ _ _=true) aiQ
 | exact fN.mk sd
 | exact Or.inl∘fN.mk sd
 | exact Or.inr
 | exact bZ.mk _ aek
 | exact bZ.mk _ (aq (aH lt) rfl)
 | exact bZ.mk _ (jr (by first| rfl| (simp;done) | fail))
 | exact bZ.mk _ (gI (by first| rfl| (simp;done) | (simp;omega) | fail))
 | exact bZ.mk _ rfl
 | exact Br.tt
 | exact Br.ff
 | exact Br.t ao
 | exact Br.f ao
 | exact Br.nt ao
 | exact Br.nf ao
 | exact Br.bt (by first| assumption| (simp;done) | fail)
 | exact Br.bf (by first| assumption| (simp;done) | fail)
 | fail):p:=h k
theorem ai {p q:Prop} (k:q) (h:p:=by
 first
 | exact Eq.refl _
 | exact Xc _ abV
 | exact congrArg (V.int .i64) (wrap64 abV abV)
 | exact congrArg (V.int .i64) (wt)
 | (conv=>whnf);done
 | ((conv=>whnf);simp only[ajk,List.map_cons,akj,List.length_append,ai5,ajc,List.length_map];done)
 | ((conv=>whnf);simp only[ajk,List.map_cons,akj,List.length_append,ai5,ajc,List.length_map];rfl)
 | ((conv=>whnf);first| exact Xc _ abV | (simp;done) | (simp[*];done) | (simp;omega))
 | fail):p∧q:=⟨h,k⟩
class BP (b:Bool) (p q:outParam Prop):Prop where
 yes:b=true→p
 no:b=false→q
instance (priority:=low) BP.any {b:Bool}:BP b (b=true) (b=false):=⟨id,id⟩
instance BP.dec {c:Prop} {i:Decidable c}:BP (decide c) c (¬c):=⟨of_decide_eq_true,of_decide_eq_false⟩
instance BP.aej {c:Prop} {i:Decidable c}:BP (!decide c) (¬c) c:=⟨fun h=>by simpa using h,fun h=>by simpa using h⟩
theorem br {b:Bool} {p q c d c' d':Prop} [hb:BP b c d] (h:c'→p) (k:d'→q) (e:c↔c':=by
 (try simp only[List.length_map,List.length_append,ai5,ajc,ajg,aju])
 exact Iff.rfl) (f:d↔d':=by
 (try simp only[List.length_map,List.length_append,ai5,ajc,ajg,aju])
 exact Iff.rfl):Br b p q:=⟨fun x=>h (e.1 (hb.yes x)),fun x=>k (f.1 (hb.no x))⟩
theorem su {p:Prop} (h:p:=by
 first| ((refine⟨?_,?_⟩ <;>repeat' (first| exact True.intro| refine ai ?_| refine And.intro ?_ ?_));done) | fail):p:=h
theorem om {p:Prop} (h:p:=by
 first| omega| (dsimp only;omega)):p:=h
theorem sf {E:Env} {r:Nat} {bB:Bool} {g:Nat} {args:List V} {v:V} {S:SS} {Q:KK} (he:Ev E g args ⟨v,[]⟩) (k:Q v S [] []) (hm:bz E g=[]:=by assumption) (hp:V.al args=true:=by
 first| assumption| rfl| (simp only[V.al,V.aw,ajD,aj1,ajy, *])) (hv:V.aw v=true:=by rfl):fy E (lr E r bB g args) S Q:=fB hm hp he hv k
theorem ca {E:Env} {f:Nat} {xs:List V} {q:eZ→Prop} {res:eZ} (he:Ev E f xs res) (k:q res):aC E f xs q:= .mk _ he k
theorem wi {α:Type} {p q:α→Prop} {x:α} (h:p x) (k:q x):bZ p q:= .mk _ h k
theorem nd {p q:Prop} (h:p) (k:q):fN p q:=⟨h,k⟩
theorem a8 {α:Type} {g:α→V} {f:Nat} {args:List V} (h: ∃res,Ev E f args res∧ ∃a,res=⟨g a,[]⟩): ∃a,Ev E f args ⟨g a,[]⟩:=by
 obtain⟨_,h,a,rfl⟩:=h
 exact⟨a,h⟩
theorem aiN {p:Prop} (h:p:=by
 first| ((conv=>whnf); (repeat' ((first| intro g| refine ca (by assumption) ?_| refine wi (by first| assumption| exact aq (by assumption) rfl) ?_| refine st ?_| refine br ?_ ?_<;>intro hc| rfl| exact⟨_,rfl⟩) <;>conv=>whnf));done) | fail):p:=h
theorem dr1 {p:Prop} (h:p:=by
 first| ((conv=>whnf); (repeat' ((first| (exfalso;omega) | intro g| refine ca (by assumption) ?_| refine wi (by first| assumption| exact aq (by assumption) rfl) ?_| refine st ?_| refine br ?_ ?_<;>intro hc| rfl| exact⟨_,rfl⟩) <;>conv=>whnf));done) | fail):p:=h
end Go.AM
namespace Go.AM
def GJ (a n:Int):Int:=(gC (a.tmod n+n)).tmod n
theorem L7 {a:Int} {n:Nat} (h:0 <n) (h2:n< 1000000000000000):0≤GJ a n∧GJ a n<n:=by
 unfold GJ
 have h1:=Int.tmod_lt_of_pos a (show (0:Int) <n by omega)
 have h3:=Int.lt_tmod_of_pos a (show (0:Int) <n by omega)
 rw[wV abV abV]
 have h4:=Int.tmod_nonneg (b:=(n:Int)) (a:=a.tmod n+n) abV
 have h5:=Int.tmod_lt_of_pos (a.tmod n+n) (show (0:Int) <n by omega)
 exact⟨h4,h5⟩
theorem QB {a n:Int} (h:n≠0):Ev E 93 [vi a,vi n] ⟨vi (GJ a n),[]⟩:=by
 refine Ev.aD rfl rfl rfl ?_
 exact aiN
def dq (l:List Int) (a:Nat):V:= .agg [.lit 1 (l.map vi),av a]
def dN (l:List Int) (a n:Nat):Nat:=match l[a]? with
 | some x=> (GJ x n).toNat
 | none=>0
def ba (l:List Int) (a:Nat):Nat:=if a<l.length then a+1 else a
theorem eI {l:List Int} {a n:Nat} (h:0 <n) (h2:n< 1000000000000000):dN l a n<n:=by
 unfold dN
 split
 ·rename_i x _
  have:=L7 (a:=x) h h2
  omega
 ·exact h
theorem cw {l:List Int} (hl:l.length< 9223372036854775808) (n:Nat) {a:Nat} (h:0 <n) (h2:n< 1000000000000000):Ev E 85 [.mptr 2 [dq l a] 0 0,av n] ⟨av (dN l a n),[(0,[dq l (ba l a)])]⟩:=by
 refine Ev.aD rfl rfl rfl ?_
 by_cases bl:a<l.length
 ·obtain⟨x,hx⟩: ∃x,l[a]? =some x:=⟨_,aH bl⟩
  have hm:=QB (a:=x) (n:=(n:Int)) abV
  have hw:IntKind.i64.wrap (IntKind.i64.wrap ((a:Int)+1) - 1)=(a:Int):=by
   rw[wrap64 (n:=(a:Int)+1) abV abV]
   exact wt
  have hb:=L7 (a:=x) h h2
  have e1:dN l a n=(GJ x n).toNat:=by simp[dN,hx]
  have e2:ba l a=a+1:=by simp[ba,bl]
  rw[e1,e2]
  have e3:IntKind.i64.wrap ((a:Int)+1)=((a+1:Nat):Int):=wt
  have e4:av (GJ x n).toNat=vi (GJ x n):=by show V.int _ _=V.int _ _;congr 1;omega
  rw[e4]
  conv=>whnf
  repeat' (first| intro g| refine wi (aq hx hw) ?_| apply ca hm| refine st ?_| (refine bZ.bU ?_;intro s) | refine br ?_ ?_<;>intro hc| rfl) <;>conv=>whnf
  show (⟨vi _,[(0,[V.agg [_,V.int .i64 _]])]⟩:eZ)=_
  rw[e3];rfl
 ·have e1:dN l a n=0:=by simp[dN,show l[a]? =none from by simp;omega]
  have e2:ba l a=a:=by simp[ba,bl]
  rw[e1,e2]
  exact aiN
theorem Nk {l:List Int} {a n:Nat} (h:0 <n) (h2:n< 1000000000000000): ((dN l a n:Nat):Int) < (n:Int):=by
 have:=eI (l:=l) (a:=a) h h2
 omega
theorem bZ.str {L:List V} {n:Nat} {q:V→Prop} (h: ∀x ∈ L,∃s,x= .str s) (hn:n<L.length) (k: ∀s,q (.str s)):bZ (fun e=>L[n]? =some e) q:=by
 obtain⟨s,hs⟩:=h L[n] (ajI hn)
 refine⟨_,aiW hn,?_⟩
 rw[hs];exact k s
theorem bZ.bU {L:List V} {n:Nat} {q:V→Prop} (k: ∀s,q (.str s)) (h: ∀x ∈ L,∃s,x= .str s:=by simp) (hn:n<L.length:=by first| exact ai2 (eI aiO aiO) aiO | fail):bZ (fun e=>L[n]? =some e) q:=
 bZ.str h hn k
end Go.AM
namespace Go.AM
theorem QC (a b:Pt):Ev E 161 [a.v,b.v] ⟨(Pt.mk (gC (a.x - b.x)) (gC (a.y - b.y))).v,[]⟩:=by
 refine Ev.aD rfl rfl rfl ?_
 exact aiN
theorem zm {l:List Int} (hl:l.length< 9223372036854775808) {i j:Nat} (hi:i< 10) (hj:j< 10): ∃p:Pt,Ev E 115 [.lit 1 (l.map vi),av i,av j] ⟨p.v,[]⟩:=by
 refine a8 (Ev.bD rfl rfl rfl ?_)
 have w0:IntKind.i64.wrap (4*(j:Int))=((4*j:Nat):Int):=wt
 have w1:IntKind.i64.wrap (IntKind.i64.wrap (4*(j:Int))+(i:Int))=((4*j+i:Nat):Int):=by rw[w0];exact wt
 have w2:IntKind.i64.wrap (2*IntKind.i64.wrap (IntKind.i64.wrap (4*(j:Int))+(i:Int)))=((2*(4*j+i):Nat):Int):=by rw[w1];exact wt
 have w3:IntKind.i64.wrap (IntKind.i64.wrap (2*IntKind.i64.wrap (IntKind.i64.wrap (4*(j:Int))+(i:Int)))+1)=((2*(4*j+i)+1:Nat):Int):=by rw[w2];exact wt
 by_cases bl:2*(4*j+i)+1 <l.length
 ·have hx:=aH (l:=l) (i:=2*(4*j+i)) abV
  have hy:=aH (l:=l) (i:=2*(4*j+i)+1) abV
  conv=>whnf
  repeat' (first| intro g| refine wi (aq hx w2) ?_| refine wi (aq hy w3) ?_| refine ca (QB aiO) ?_| refine st ?_| (refine bZ.bU ?_;intro s) | refine br ?_ ?_<;>intro hc| rfl) <;>conv=>whnf
  all_goals exact⟨⟨_,_⟩,rfl⟩
 ·conv=>whnf
  repeat' (first| intro g| refine st ?_| (refine bZ.bU ?_;intro s) | refine br ?_ ?_<;>intro hc| rfl) <;>conv=>whnf
  all_goals exact⟨⟨_,_⟩,rfl⟩
theorem Dc {l:List Int} (hl:l.length< 9223372036854775808) (p q:Pt) (a0:Nat): ∃ (ps:List Pt) (a:Nat),2≤ps.length∧ps.length≤5∧Ev E 114 [p.v,q.v,.mptr 2 [dq l a0] 0 0] ⟨.own 2 (ps.map Pt.v),[(0,[dq l a])]⟩:=by
 have key:=Ev.bD (R:=fun r=> ∃ (ps:List Pt) (a:Nat),2≤ps.length∧ps.length≤5∧r=⟨.own 2 (ps.map Pt.v),[(0,[dq l a])]⟩) abR (abS [p.v,q.v,.mptr 2 [dq l a0] 0 0]) rfl ?_
 ·obtain⟨res,h1,ps,a,h2,h3,rfl⟩:=key
  exact⟨ps,a,h2,h3,h1⟩
 have hn: ∀n a,0 <n→n< 1000→Ev E 85 [.mptr 2 [dq l a] 0 0,av n] ⟨av (dN l a n),[(0,[dq l (ba l a)])]⟩:=fun n a h h2=>cw hl n h abV
 have hb:=eI (l:=l) (a:=a0) (n:=4) abV abV
 have QD:=QC q p
 generalize hm:dN l a0 4=many at hb
 have n4:=hn 4 a0 abV abV
 rw[hm] at n4
 conv=>whnf
 repeat' (first| intro g| apply ca n4| apply ca QD| refine st ?_| (refine bZ.bU ?_;intro s) | refine br ?_ ?_<;>intro hc| rfl) <;>conv=>whnf
 rename_i g3 g4 _ g7
 generalize hu:Pt.mk (gC (q.x - p.x)) (gC (q.y - p.y))=u
 refine aL.by (fun ((k,ps,a,g7):Nat×List Pt×Nat×Nat)=> ⟨[(2,.ptr 2 0 0 0),(3,.ptr 64 g3 0 0),(4,.ptr 80 g4 0 0),(7,.sl 129 g7 0 ps.length),(8,av many),(9,.ptr 160 g 0 0),(10,av (k+1))],
   [(2,⟨0,2,false,false,some [dq l a]⟩),(64,⟨g3,2,false,false,some [p.v]⟩),(80,⟨g4,2,false,false,some [q.v]⟩),(129,⟨g7,2,true,false,some (ps.map Pt.v)⟩),(160,⟨g,2,false,false,some [u.v]⟩)]⟩)
  (fun (k,ps,_,_)=>k≤many∧ps.length=k+1) (fun (k,_)=>many - k) (0,[p],ba l a0,g7) (by subst hu;exact su) ⟨abW,abW⟩ ?_
 rintro⟨k,ps,a,g7⟩ ⟨hk,ER⟩
 try dsimp only at hk ER
 have n21:=hn 21 a abV abV
 have e1:IntKind.i64.wrap ((many:Int)+1)=((many+1:Nat):Int):=wt
 have e2: (many:Int).tdiv 2=((many / 2:Nat):Int):=rfl
 have e3:IntKind.i64.wrap ((many:Int).tdiv 2)=((many / 2:Nat):Int):=by rw[e2];exact wt
 have e4:IntKind.i64.wrap (1+IntKind.i64.wrap ((many:Int).tdiv 2))=((1+many / 2:Nat):Int):=by rw[e3];exact wt
 conv=>whnf
 repeat' (first| intro g| apply ca n21| refine st ?_| (refine bZ.bU ?_;intro s) | refine br ?_ ?_<;>intro hc| rfl) <;>conv=>whnf
 ·refine aK.mk (k+1,ps++[⟨?x,?y⟩],?a,?g) ?h1 ?h2 ?h3
  case h3=>exact su
  case h1=> (first| omega| (dsimp only;omega))
  case h2=>exact⟨abV,by simp;omega⟩
 ·refine aK.mk (k+1,ps++[⟨?x2,?y2⟩],?a2,?g2) ?k1 ?k2 ?k3
  case k3=>exact su
  case k1=> (first| omega| (dsimp only;omega))
  case k2=>exact⟨abV,by simp;omega⟩
 ·exact⟨ps++[q],a,by simp;omega,by simp;omega,abW⟩
end Go.AM
namespace Go.AM
theorem Nl (e:Edge) (h0:e.line≠[]) (hl:e.line.length< 1000000): ∃e':Edge,e'.line.length=e.line.length∧Ev E 131 [e.v] ⟨.agg [vi e'.id,.own 2 (e'.line.map Pt.v),vi e'.left,vi e'.right],[]⟩:=by
 have key:=Ev.bD (R:=fun r=> ∃e':Edge,e'.line.length=e.line.length∧r=⟨.agg [vi e'.id,.own 2 (e'.line.map Pt.v),vi e'.left,vi e'.right],[]⟩) abX (abY [e.v]) rfl ?_
 · obtain⟨res,h1,e',h2,rfl⟩:=key
   exact⟨e',h2,h1⟩
 have hp:0 <e.line.length:=List.length_pos_iff.2 h0
 have e1:IntKind.i64.wrap ((e.line.length:Int) - 1)=(e.line.length:Int) - 1:=wrap64 abV abV
 conv=>whnf
 repeat' (first| intro g| refine st ?_| (refine bZ.bU ?_;intro s) | refine br ?_ ?_<;>intro hc| rfl) <;>conv=>whnf
 rename_i g1 g2
 refine aL.by (fun ((j,ps,og):Nat×List Pt×Option Nat)=> ⟨[(1,.ptr 32 g1 0 0),(2,.ptr 48 g2 0 0),(3,.ptr 64 g 0 0),(4,vi ((j:Int) - 1))],
     match og with
     | none=> [(32,⟨g1,4,false,false,some [e.v]⟩),(48,⟨g2,4,false,false,some [.agg [vi 0,.lit 2 [],vi 0,vi 0]]⟩),(64,⟨g,4,false,false,some [.agg [vi e.id,.nils,vi e.right,vi e.left]]⟩)]
     | some g5=> [(32,⟨g1,4,false,false,some [e.v]⟩),(48,⟨g2,4,false,false,some [.agg [vi 0,.lit 2 [],vi 0,vi 0]]⟩),(64,⟨g,4,false,false,some [.agg [vi e.id,.sl 67 g5 0 ps.length,vi e.right,vi e.left]]⟩),(67,⟨g5,2,true,false,some (ps.map Pt.v)⟩)]⟩)
   (fun (j,ps,og)=>j+ps.length=e.line.length∧(og=none→ps=[])) (fun (j,_)=>j) (e.line.length,[],none) ?_ ⟨abW,abW⟩ ?_
 ·exact su
 rintro⟨j,ps,og⟩ ⟨hj,tK⟩
 try dsimp only at hj tK
 cases j with
 | zero=>
   cases og with
   | none=>have:=tK rfl;subst this;simp at hj;omega
   | some g5=>
     conv=>whnf
     repeat' (first| intro g| refine st ?_| (refine bZ.bU ?_;intro s) | refine br ?_ ?_<;>intro hc| rfl) <;>conv=>whnf
     exact⟨⟨e.id,ps,e.right,e.left⟩,by simpa using hj,rfl⟩
 | succ j=>
   obtain⟨x,hx⟩: ∃x,e.line[j]? =some x:=⟨_,aH abV⟩
   have Aj: ((j+1:Nat):Int) - 1=(j:Int):=abV
   cases og with
   | none=>
     have:=tK rfl
     subst this
     conv=>whnf
     repeat' (first| intro g| refine wi (aq hx Aj) ?_| refine st ?_| (refine bZ.bU ?_;intro s) | refine br ?_ ?_<;>intro hc| rfl) <;>conv=>whnf
     refine aK.mk (j,[x],some g) om ⟨by simp at hj ⊢;omega,abW⟩ su
   | some g5=>
     conv=>whnf
     repeat' (first| intro g| refine wi (aq hx Aj) ?_| refine st ?_| (refine bZ.bU ?_;intro s) | refine br ?_ ?_<;>intro hc| rfl) <;>conv=>whnf
     refine aK.mk (j,ps++[x],some g) om ⟨by simp at hj ⊢;omega,abW⟩ su
def kf (ps:List Pt):Prop:=2≤ps.length∧ps.length≤5
def jR (es:List Edge) (n:Nat):Prop:=es.length≤n∧ ∀e ∈ es,kf e.line
theorem jR.snoc {es:List Edge} {n:Nat} {e:Edge} (h:jR es n) (k:kf e.line):jR (es++[e]) (n+1):=
 ⟨by have:=h.1;simp;omega,fun x hx=>by
   rcases ai6.1 hx with hx| hx
   ·exact h.2 x hx
   · have:x=e:=by simpa using hx
     subst this;exact k⟩
theorem jR.mono {es:List Edge} {n m:Nat} (h:jR es n) (k:n≤m):jR es m:=⟨ajb h.1 k,h.2⟩
theorem JQ {l:List Int} (hl:l.length< 9223372036854775808) {es:List Edge} {n:Nat} (he:jR es n) (hn:n< 1000) {ps:List Pt} (ER:kf ps) (left right:Int) (a0:Nat):
  ∃ (es':List Edge) (a b:Nat),jR es' (n+1)∧Ev E 113 [.msl 4 (es.map Edge.v) 0 es.length,iP ps,vi left,vi right,.mptr 2 [dq l a0] 0 0] ⟨.sl 0 b 0 es'.length,[(b,es'.map Edge.v),(0,[dq l a])]⟩:=by
 have key:=Ev.bD (R:=fun r=> ∃ (es':List Edge) (a b:Nat),jR es' (n+1)∧r=⟨.sl 0 b 0 es'.length,[(b,es'.map Edge.v),(0,[dq l a])]⟩) abP (abQ [.msl 4 (es.map Edge.v) 0 es.length,iP ps,vi left,vi right,.mptr 2 [dq l a0] 0 0]) rfl ?_
 ·obtain⟨res,h1,es',a,b,h2,rfl⟩:=key
  exact⟨es',a,b,h2,h1⟩
 have sO:=he.1
 have n2:=cw hl 2 (a:=a0) abV abV
 have QE:IntKind.i64.wrap ((es.length:Int)+1)=(es.length:Int)+1:=wrap64 abV abV
 obtain⟨e',ht1,ht2⟩:=Nl ⟨IntKind.i64.wrap ((es.length:Int)+1),ps,left,right⟩ (by intro h;dsimp only at h;subst h;have:=ER.1;simp at this) (by dsimp only;have:=ER.2;omega)
 conv=>whnf
 repeat' (first| intro g| apply ca n2| apply ca ht2| refine st ?_| (refine bZ.bU ?_;intro s) | refine br ?_ ?_<;>intro hc| rfl) <;>conv=>whnf
 ·exact⟨es,a0,0,he.mono abV,rfl⟩
 ·refine⟨es++[e'],ba l a0,g,he.snoc ?_,?_⟩
  ·unfold kf at*;dsimp only at ht1;omega
  ·simp only[ajk,List.map_cons,akj,List.length_append,ai5,ajc,List.length_map];rfl
 ·refine⟨es++[⟨IntKind.i64.wrap ((es.length:Int)+1),ps,left,right⟩],ba l a0,g,he.snoc ER,?_⟩
  simp only[ajk,List.map_cons,akj,List.length_append,ai5,ajc,List.length_map];rfl
end Go.AM
namespace Go.AM
theorem zn {cs:List Int} (oN:cs.length=6) {w h:Nat} (hw:w≤3) (hh:h≤2) (i j:Int): ∃r:Int,Ev E 116 [.agg (cs.map vi),av w,av h,vi i,vi j] ⟨vi r,[]⟩:=by
 refine a8 (Ev.bD rfl rfl rfl ?_)
 match cs,oN with
 | [x0,x1,x2,x3,x4,x5],_=>
   by_cases kJ:0≤i∧0≤j∧i<w∧j<h
   · rcases(by omega:i=0∨i=1∨i=2) with rfl| rfl| rfl<;>rcases(by omega:j=0∨j=1) with rfl| rfl
     all_goals
      exact aiN
   · conv=>whnf
     repeat' (first| intro g| refine st ?_| (refine bZ.bU ?_;intro s) | refine br ?_ ?_<;>intro hc| rfl) <;>conv=>whnf
     all_goals first| exact⟨_,rfl⟩ | (exfalso;omega)
theorem zo {k:Nat} {n:Int} (A B:List Int) (h:A.length+B.length≤k): ∃l':List Int,l'.length≤k+1∧
  ((⟨V.own 1 ([]++A.map vi++[vi n]++B.map vi),[]⟩:eZ)=⟨.lit 1 (l'.map vi),[]⟩∨(⟨V.own 1 ([]++A.map vi++[vi n]++B.map vi),[]⟩:eZ)=⟨.own 1 (l'.map vi),[]⟩):=
 ⟨A++[n]++B,by simp;omega,.inr abW⟩
theorem Yt {l:List Int} (hl:l.length< 1000000) (n:Int): ∃l':List Int,l'.length≤l.length+1∧(Ev E 162 [.lit 1 (l.map vi),vi n] ⟨.lit 1 (l'.map vi),[]⟩∨Ev E 162 [.lit 1 (l.map vi),vi n] ⟨.own 1 (l'.map vi),[]⟩):=by
 have key:=Ev.bD (R:=fun r=> ∃l':List Int,l'.length≤l.length+1∧(r=⟨.lit 1 (l'.map vi),[]⟩∨r=⟨.own 1 (l'.map vi),[]⟩)) abZ (ab0 [.lit 1 (l.map vi),vi n]) rfl ?_
 ·obtain⟨res,h1,l',h2,rfl| rfl⟩:=key
  ·exact⟨l',h2,.inl h1⟩
  ·exact⟨l',h2,.inr h1⟩
 conv=>whnf
 repeat' (first| intro g| refine st ?_| (refine bZ.bU ?_;intro s) | refine br ?_ ?_<;>intro hc| rfl) <;>conv=>whnf
 refine aL.by (fun (j:Nat)=> ⟨[(0,.lit 1 (l.map vi)),(1,vi n),(5,av j)],[]⟩) (fun j=>j≤l.length) (fun j=>j) l.length ?_ (aiZ _) ?_
 ·exact su
 intro j hj
 by_cases bl:j<l.length
 ·obtain⟨x,hx⟩: ∃x,l[j]? =some x:=⟨_,aH bl⟩
  cases j with
  | zero=>
    conv=>whnf
    repeat' (first| intro g| refine wi (aq hx rfl) ?_| refine wi (gG _ _ _ _) ?_| refine st ?_| (refine bZ.bU ?_;intro s) | refine br ?_ ?_<;>intro hc| rfl) <;>conv=>whnf
    all_goals first
     | exact⟨l,abV,.inl rfl⟩
     | exact aK.mk j om abV su
     | exact zo _ _ (by simp only[ajg,aju,List.length_map];omega)
     | trace_state
  | succ j=>
    obtain⟨y,hy⟩: ∃y,l[j]? =some y:=⟨_,aH abV⟩
    have Aj:IntKind.i64.wrap (((j+1:Nat):Int) - 1)=(j:Int):=wt
    conv=>whnf
    repeat' (first| intro g| refine wi (aq hx rfl) ?_| refine wi (aq hy Aj) ?_| refine wi (gG _ _ _ _) ?_| refine st ?_| (refine bZ.bU ?_;intro s) | refine br ?_ ?_<;>intro hc| rfl) <;>conv=>whnf
    all_goals first
     | exact⟨l,abV,.inl rfl⟩
     | exact aK.mk j om abV su
     | exact zo _ _ (by simp only[ajg,aju,List.length_map];omega)
     | trace_state
 ·cases j with
  | zero=>
    conv=>whnf
    repeat' (first| intro g| refine wi (gG _ _ _ _) ?_| refine st ?_| (refine bZ.bU ?_;intro s) | refine br ?_ ?_<;>intro hc| rfl) <;>conv=>whnf
    all_goals first
     | exact⟨l,abV,.inl rfl⟩
     | exact aK.mk j om abV su
     | exact zo _ _ (by simp only[ajg,aju,List.length_map];omega)
     | trace_state
  | succ j=>
    obtain⟨y,hy⟩: ∃y,l[j]? =some y:=⟨_,aH abV⟩
    have Aj:IntKind.i64.wrap (((j+1:Nat):Int) - 1)=(j:Int):=wt
    conv=>whnf
    repeat' (first| intro g| refine wi (aq hy Aj) ?_| refine wi (gG _ _ _ _) ?_| refine st ?_| (refine bZ.bU ?_;intro s) | refine br ?_ ?_<;>intro hc| rfl) <;>conv=>whnf
    all_goals first
     | exact⟨l,abV,.inl rfl⟩
     | exact aK.mk j om abV su
     | exact zo _ _ (by simp only[ajg,aju,List.length_map];omega)
     | trace_state
end Go.AM
namespace Go.AM
theorem aC.ex {E:Env} {f:Nat} {fg:List V} {q P:eZ→Prop} (h: ∃res,Ev E f fg res∧P res) (k: ∀res,P res→q res):aC E f fg q:=by
 obtain⟨res,h1,h2⟩:=h
 exact⟨res,h1,k res h2⟩
theorem QF {l:List Int} (hl:l.length< 9223372036854775808) {es:List Edge} {n:Nat} (he:jR es n) (hn:n< 1000) {ps:List Pt} (ER:kf ps) (left right:Int) (a0:Nat):
  ∃res,Ev E 113 [.msl 4 (es.map Edge.v) 0 es.length,iP ps,vi left,vi right,.mptr 2 [dq l a0] 0 0] res∧ ∃ (es':List Edge) (a b:Nat),jR es' (n+1)∧res=⟨.sl 0 b 0 es'.length,[(b,es'.map Edge.v),(0,[dq l a])]⟩:=by
 obtain⟨es',a,b,h1,h2⟩:=JQ hl he hn ER left right a0
 exact⟨_,h2,es',a,b,h1,rfl⟩
theorem ES {l:List Int} (hl:l.length< 1000000) (n:Int): ∃res,Ev E 162 [.lit 1 (l.map vi),vi n] res∧ ∃l':List Int,l'.length≤l.length+1∧(res=⟨.lit 1 (l'.map vi),[]⟩∨res=⟨.own 1 (l'.map vi),[]⟩):=by
 obtain⟨l',h1,h2| h2⟩:=Yt hl n
 ·exact⟨_,h2,l',h1,.inl rfl⟩
 ·exact⟨_,h2,l',h1,.inr rfl⟩
theorem Nn {l:List Int} (hl:l.length< 9223372036854775808) {es:List Edge} {n:Nat} (he:jR es n) (hn:n< 1000) (c:Pt) (Yu:Int) (a0:Nat):
  ∃res,Ev E 117 [.msl 4 (es.map Edge.v) 0 es.length,c.v,vi Yu,.mptr 2 [dq l a0] 0 0] res∧ ∃ (es':List Edge) (a b:Nat),jR es' (n+1)∧res=⟨.sl 0 b 0 es'.length,[(b,es'.map Edge.v),(0,[dq l a])]⟩:=by
 refine Ev.bD rfl rfl rfl ?_
 have n8:=fun a=>cw hl 8 (a:=a) abV abV
 have n2:=fun a=>cw hl 2 (a:=a) abV abV
 have f4: ∀a b c d:Pt,kf [a,b,c,d]:=fun a b c d=> ⟨abW,abW⟩
 have f5: ∀a b c d e:Pt,kf [a,b,c,d,e]:=fun a b c d e=> ⟨abW,abW⟩
 have sO:=he.1
 conv=>whnf
 repeat' (first| intro g| refine wi (gI rfl) ?_| apply ca (n8 _) | apply ca (n2 _) | refine st ?_| (refine bZ.bU ?_;intro s) | refine br ?_ ?_<;>intro hc| rfl) <;>conv=>whnf
 ·have u4: ∀x1 y1 x2 y2 x3 y3 x4 y4 x5 y5 le ri a,∃res,Ev E 113 [.msl 4 (es.map Edge.v) 0 es.length,.lit 2 [.agg [vi x1,vi y1],.agg [vi x2,vi y2],.agg [vi x3,vi y3],.agg [vi x4,vi y4],.agg [vi x5,vi y5]],vi le,vi ri,.mptr 2 [dq l a] 0 0] res∧ ∃ (es':List Edge) (a b:Nat),jR es' (n+1)∧res=⟨.sl 0 b 0 es'.length,[(b,es'.map Edge.v),(0,[dq l a])]⟩:=
   fun x1 y1 x2 y2 x3 y3 x4 y4 x5 y5 le ri a=>QF hl he hn (f5 ⟨x1,y1⟩ ⟨x2,y2⟩ ⟨x3,y3⟩ ⟨x4,y4⟩ ⟨x5,y5⟩) le ri a
  refine aC.ex (u4 _ _ _ _ _ _ _ _ _ _ _ _ _) ?_
  rintro _ ⟨es',a,b,h1,rfl⟩
  conv=>whnf
  repeat' (first| intro g| refine st ?_| (refine bZ.bU ?_;intro s) | refine br ?_ ?_<;>intro hc| rfl) <;>conv=>whnf
  exact⟨es',a,_,h1,rfl⟩
 ·have u4: ∀x1 y1 x2 y2 x3 y3 x4 y4 le ri a,∃res,Ev E 113 [.msl 4 (es.map Edge.v) 0 es.length,.lit 2 [.agg [vi x1,vi y1],.agg [vi x2,vi y2],.agg [vi x3,vi y3],.agg [vi x4,vi y4]],vi le,vi ri,.mptr 2 [dq l a] 0 0] res∧ ∃ (es':List Edge) (a b:Nat),jR es' (n+1)∧res=⟨.sl 0 b 0 es'.length,[(b,es'.map Edge.v),(0,[dq l a])]⟩:=
   fun x1 y1 x2 y2 x3 y3 x4 y4 le ri a=>QF hl he hn (f4 ⟨x1,y1⟩ ⟨x2,y2⟩ ⟨x3,y3⟩ ⟨x4,y4⟩) le ri a
  refine aC.ex (u4 _ _ _ _ _ _ _ _ _ _ _) ?_
  rintro _ ⟨es',a,b,h1,rfl⟩
  conv=>whnf
  repeat' (first| intro g| refine st ?_| (refine bZ.bU ?_;intro s) | refine br ?_ ?_<;>intro hc| rfl) <;>conv=>whnf
  exact⟨es',a,_,h1,rfl⟩
theorem GK {es:List Edge} (he:es.length< 10000): ∃res,Ev E 118 [.lit 4 (es.map Edge.v)] res∧ ∃fs:List aW,fs.length≤2*es.length∧res=⟨.own 5 (fs.map aW.v),[]⟩:=by
 refine Ev.bD rfl rfl rfl ?_
 conv=>whnf
 repeat' (first| intro g| refine st ?_| (refine bZ.bU ?_;intro s) | refine br ?_ ?_<;>intro hc| rfl) <;>conv=>whnf
 refine aL.by (fun ((k,ids):Nat×List Int)=> ⟨[(0,.lit 4 (es.map Edge.v)),(3,.lit 1 (ids.map vi)),(4,av k)],[]⟩) (fun (k,ids)=>k≤es.length∧ids.length≤2*k) (fun (k,_)=>es.length - k) (0,[]) su ⟨abW,abW⟩ ?_
 rintro⟨k,ids⟩ ⟨hk,hi⟩
 try dsimp only at hk hi
 by_cases bl:k<es.length
 ·obtain⟨e,lD⟩: ∃e,es[k]? =some e:=⟨_,aH bl⟩
  by_cases h1:e.left=0 <;>by_cases h2:e.right=0
  ·conv=>whnf
   repeat' (first| intro g| refine wi (aq lD rfl) ?_| refine st ?_| (refine bZ.bU ?_;intro s) | refine br ?_ ?_<;>intro hc| rfl) <;>conv=>whnf
   exact aK.mk (k+1,ids) om ⟨om,om⟩ su
  ·conv=>whnf
   repeat' (first| intro g| refine wi (aq lD rfl) ?_| refine st ?_| (refine bZ.bU ?_;intro s) | refine br ?_ ?_<;>intro hc| rfl) <;>conv=>whnf
   refine aC.ex (ES abV _) ?_
   rintro _ ⟨l',Ak,rfl| rfl⟩
   all_goals
    conv=>whnf
    repeat' (first| intro g| refine wi (aq lD rfl) ?_| refine st ?_| (refine bZ.bU ?_;intro s) | refine br ?_ ?_<;>intro hc| rfl) <;>conv=>whnf
    exact aK.mk (k+1,l') om ⟨om,om⟩ su
  ·conv=>whnf
   repeat' (first| intro g| refine wi (aq lD rfl) ?_| refine st ?_| (refine bZ.bU ?_;intro s) | refine br ?_ ?_<;>intro hc| rfl) <;>conv=>whnf
   refine aC.ex (ES abV _) ?_
   rintro _ ⟨l',Ak,rfl| rfl⟩
   all_goals
    conv=>whnf
    repeat' (first| intro g| refine wi (aq lD rfl) ?_| refine st ?_| (refine bZ.bU ?_;intro s) | refine br ?_ ?_<;>intro hc| rfl) <;>conv=>whnf
    exact aK.mk (k+1,l') om ⟨om,om⟩ su
  ·conv=>whnf
   repeat' (first| intro g| refine wi (aq lD rfl) ?_| refine st ?_| (refine bZ.bU ?_;intro s) | refine br ?_ ?_<;>intro hc| rfl) <;>conv=>whnf
   refine aC.ex (ES abV _) ?_
   rintro _ ⟨l',Ak,rfl| rfl⟩
   all_goals
    conv=>whnf
    repeat' (first| intro g| refine wi (aq lD rfl) ?_| refine st ?_| (refine bZ.bU ?_;intro s) | refine br ?_ ?_<;>intro hc| rfl) <;>conv=>whnf
    refine aC.ex (ES abV _) ?_
    rintro _ ⟨l2,Cj,rfl| rfl⟩
    all_goals
     conv=>whnf
     repeat' (first| intro g| refine wi (aq lD rfl) ?_| refine st ?_| (refine bZ.bU ?_;intro s) | refine br ?_ ?_<;>intro hc| rfl) <;>conv=>whnf
     exact aK.mk (k+1,l2) om ⟨om,om⟩ su
 obtain rfl:k=es.length:=abV
 conv=>whnf
 repeat' (first| intro g| refine st ?_| (refine bZ.bU ?_;intro s) | refine br ?_ ?_<;>intro hc| rfl) <;>conv=>whnf
 refine aL.by (fun ((j,fs,g):Nat×List aW×Nat)=> ⟨[(3,.lit 1 (ids.map vi)),(5,.sl 97 g 0 fs.length),(6,av j)],[(97,⟨g,5,true,false,some (fs.map aW.v)⟩)]⟩) (fun (j,fs,_)=>j≤ids.length∧fs.length=j) (fun (j,_)=>ids.length - j) (0,[],g) su ⟨abW,abW⟩ ?_
 rintro⟨j,fs,g⟩ ⟨hj,hf⟩
 try dsimp only at hj hf
 by_cases bl:j<ids.length
 ·obtain⟨x,hx⟩: ∃x,ids[j]? =some x:=⟨_,aH bl⟩
  conv=>whnf
  repeat' (first| intro g| refine wi (aq hx rfl) ?_| refine st ?_| (refine bZ.bU ?_;intro s) | refine br ?_ ?_<;>intro hc| rfl) <;>conv=>whnf
  exact aK.mk (j+1,fs++[⟨x,[],[],0,0⟩],g) om ⟨om,by simp;omega⟩ su
 ·conv=>whnf
  repeat' (first| intro g| refine st ?_| (refine bZ.bU ?_;intro s) | refine br ?_ ?_<;>intro hc| rfl) <;>conv=>whnf
  exact⟨fs,abV,rfl⟩
end Go.AM
namespace Go.AM
def JR:aY→Nat→aY
 | .seq _ b,n+1=>JR b n
 | c,_=>c
def gq (l:List Int):V:= .lit 1 (l.map vi)
def eQ (ls:List (List Int)):V:= .lit 1 (ls.map gq)
theorem acm {first second fh:List Int} (hl:first.length< 9223372036854775808) {w h:Nat} (hw:w≤3) (hh:h≤2) (S:SS) (gd go a0:Nat) (Yv:List Int) (h6:Yv.length=6)
  (hS:SS.Sub ⟨[(5,gq second),(6,gq fh),(7,.ptr 672 gd 0 0),(8,av w),(9,av h),(10,.ptr 176 go 0 0),(11,av 0)],[(672,⟨gd,2,false,false,some [dq first a0]⟩),(176,⟨go,6,false,false,some [.agg (Yv.map vi)]⟩)]⟩ S)
  (Q:aR→SS→Prop)
  (hQ: ∀ (a:Nat) (cs:List Int),cs.length=6→Q (.exit 0) ⟨[(5,gq second),(6,gq fh),(7,.ptr 672 gd 0 0),(8,av w),(9,av h),(10,.ptr 176 go 0 0)],[(672,⟨gd,2,false,false,some [dq first a]⟩),(176,⟨go,6,false,false,some [.agg (cs.map vi)]⟩)]⟩):
  aL E JP S Q:=by
 have n5:=fun a=>cw hl 5 (a:=a) abV abV
 refine aL.Yj ?_
 refine aL.by (fun ((i,cs,a):Nat×List Int×Nat)=> ⟨[(5,gq second),(6,gq fh),(7,.ptr 672 gd 0 0),(8,av w),(9,av h),(10,.ptr 176 go 0 0),(11,av i)],[(672,⟨gd,2,false,false,some [dq first a]⟩),(176,⟨go,6,false,false,some [.agg (cs.map vi)]⟩)]⟩)
  (fun (i,cs,_)=>i≤w∧cs.length=6) (fun (i,_)=>w - i) (0,Yv,a0) hS ⟨abW,h6⟩ ?_
 rintro⟨i,cs,a⟩ ⟨hi,oN⟩
 try dsimp only at hi oN
 by_cases bl:i<w
 ·conv=>whnf
  repeat' (first| intro g| refine st ?_| (refine bZ.bU ?_;intro s) | refine br ?_ ?_<;>intro hc| rfl) <;>conv=>whnf
  refine aL.by (fun ((j,cs,a):Nat×List Int×Nat)=> ⟨[(5,gq second),(6,gq fh),(7,.ptr 672 gd 0 0),(8,av w),(9,av h),(10,.ptr 176 go 0 0),(11,av i),(12,av j)],[(672,⟨gd,2,false,false,some [dq first a]⟩),(176,⟨go,6,false,false,some [.agg (cs.map vi)]⟩)]⟩)
   (fun (j,cs,_)=>j≤h∧cs.length=6) (fun (j,_)=>h - j) (0,cs,a) su ⟨abW,oN⟩ ?_
  rintro⟨j,cs,a⟩ ⟨hj,oN⟩
  try dsimp only at hj oN
  by_cases aio:j<h
  ·match cs,oN with
   | [x0,x1,x2,x3,x4,x5],_=>
     rcases(by omega:i=0∨i=1∨i=2) with rfl| rfl| rfl<;>rcases(by omega:j=0∨j=1) with rfl| rfl
     all_goals
       conv=>whnf
       repeat' (first| intro g| refine nd ⟨aiO,aiO⟩ ?_| apply ca (n5 _) | refine st ?_| (refine bZ.bU ?_;intro s) | refine br ?_ ?_<;>intro hc| rfl) <;>conv=>whnf
       all_goals first
        | exact aK.mk (1,[_,_,_,_,_,_],_) om ⟨om,rfl⟩ su
        | exact aK.mk (2,[_,_,_,_,_,_],_) om ⟨om,rfl⟩ su
        | trace_state
  ·conv=>whnf
   repeat' (first| intro g| refine st ?_| (refine bZ.bU ?_;intro s) | refine br ?_ ?_<;>intro hc| rfl) <;>conv=>whnf
   exact aK.mk (i+1,cs,a) om ⟨om,oN⟩ su
 ·conv=>whnf
  repeat' (first| intro g| refine st ?_| (refine bZ.bU ?_;intro s) | refine br ?_ ?_<;>intro hc| rfl) <;>conv=>whnf
  refine⟨_,?_,hQ a cs oN⟩
  exact su
end Go.AM
namespace Go.AM
abbrev Xh (second fh:List Int) (gd w h go ge:Nat) (x0 x1 x2 x3 x4 x5:Int) (first:List Int) (ad ae:Nat) (es:List Edge) (g7:Nat) (more:List (Nat×V)):SS:=
 ⟨more++[(5,gq second),(7,.ptr 672 gd 0 0),(8,av w),(9,av h),(10,.ptr 176 go 0 0),(13,.ptr 1712 ge 0 0),(14,.sl 241 g7 0 es.length)],
   [(672,⟨gd,2,false,false,some [dq first ad]⟩),(176,⟨go,6,false,false,some [.agg [vi x0,vi x1,vi x2,vi x3,vi x4,vi x5]]⟩),(1712,⟨ge,2,false,false,some [dq fh ae]⟩),(241,⟨g7,4,true,false,some (es.map Edge.v)⟩)]⟩
section
variable {second fh first:List Int} (h2:second.length< 9223372036854775808) (h3:fh.length< 9223372036854775808) {w h:Nat} (hw:w≤3) (hh:h≤2) {gd go ge ad:Nat} {x0 x1 x2 x3 x4 x5:Int}
include h2 h3 hw hh
theorem acn (S:SS) (ae0:Nat) (g0:Nat) (hS:SS.Sub (Xh second fh gd w h go ge x0 x1 x2 x3 x4 x5 first ad ae0 [] g0 [(15,av 0)]) S) (Q:aR→SS→Prop)
  (hQ: ∀ (es:List Edge) (ae g7:Nat),jR es 9→Q (.exit 4) (Xh second fh gd w h go ge x0 x1 x2 x3 x4 x5 first ad ae es g7 [])):aL E Yp S Q:=by
 refine aL.Yj ?_
 refine aL.by (fun ((j,es,ae,g7):Nat×List Edge×Nat×Nat)=>Xh second fh gd w h go ge x0 x1 x2 x3 x4 x5 first ad ae es g7 [(15,av j)])
  (fun (j,es,_,_)=>j≤h+1∧jR es (3*j)) (fun (j,_)=>h+1 - j) (0,[],ae0,g0) hS ⟨abW,⟨abW,abW⟩⟩ ?_
 rintro⟨j,es,ae,g7⟩ ⟨hj,he⟩
 try dsimp only at hj he
 by_cases bl:j≤h
 ·conv=>whnf
  repeat' (first| intro g| refine st ?_| (refine bZ.bU ?_;intro s) | refine br ?_ ?_<;>intro hc| rfl) <;>conv=>whnf
  refine aL.by (fun ((i,es,ae,g7):Nat×List Edge×Nat×Nat)=>Xh second fh gd w h go ge x0 x1 x2 x3 x4 x5 first ad ae es g7 [(15,av j),(16,av i)])
   (fun (i,es,_,_)=>i≤w∧jR es (3*j+i)) (fun (i,_)=>w - i) (0,es,ae,g7) su ⟨abW,he⟩ ?_
  rintro⟨i,es,ae,g7⟩ ⟨hi,he⟩
  try dsimp only at hi he
  have sO:=he.1
  by_cases Yw:i<w
  ·have hiw:IntKind.i64.wrap ((i:Int)+1)=((i+1:Nat):Int):=wt
   obtain⟨p1,ET⟩:=zm h2 (i:=i) (j:=j) abV abV
   obtain⟨p2,JS⟩:=zm h2 (i:=i+1) (j:=j) abV abV
   have Yx:Ev E 115 [.lit 1 (second.map vi),vi (IntKind.i64.wrap ((i:Int)+1)),av j] ⟨p2.v,[]⟩:=by rw[hiw];exact JS
   obtain⟨ps,a1,l1,l2,Yy⟩:=Dc h3 p1 p2 ae
   obtain⟨c1,rQ⟩:=zn (cs:=[x0,x1,x2,x3,x4,x5]) rfl hw hh (i:Int) (j:Int)
   obtain⟨c2,u5⟩:=zn (cs:=[x0,x1,x2,x3,x4,x5]) rfl hw hh (i:Int) (IntKind.i64.wrap ((j:Int) - 1))
   obtain⟨es',a2,b,jg,u4⟩:=JQ h3 he abV (ps:=ps) ⟨l1,l2⟩ c1 c2 a1
   conv=>whnf
   repeat' (first| intro g| apply ca ET| apply ca Yx| apply ca Yy| apply ca rQ| apply ca u5| apply ca u4| refine st ?_| (refine bZ.bU ?_;intro s) | refine br ?_ ?_<;>intro hc| rfl) <;>conv=>whnf
   exact aK.mk (i+1,es',a2,_) om ⟨om,jg⟩ su
  ·obtain rfl:i=w:=abV
   conv=>whnf
   repeat' (first| intro g| refine st ?_| (refine bZ.bU ?_;intro s) | refine br ?_ ?_<;>intro hc| rfl) <;>conv=>whnf
   exact aK.mk (j+1,es,ae,g7) om ⟨om,he.mono abV⟩ su
 ·conv=>whnf
  repeat' (first| intro g| refine st ?_| (refine bZ.bU ?_;intro s) | refine br ?_ ?_<;>intro hc| rfl) <;>conv=>whnf
  refine⟨_,?_,hQ es ae g7 (he.mono abV)⟩
  exact su
theorem aco (S:SS) (mY:List Edge) (he0:jR mY 9) (ae0:Nat) (g0:Nat) (hS:SS.Sub (Xh second fh gd w h go ge x0 x1 x2 x3 x4 x5 first ad ae0 mY g0 [(17,av 0)]) S) (Q:aR→SS→Prop)
  (hQ: ∀ (es:List Edge) (ae g7:Nat),jR es 17→Q (.exit 8) (Xh second fh gd w h go ge x0 x1 x2 x3 x4 x5 first ad ae es g7 [])):aL E Yq S Q:=by
 refine aL.Yj ?_
 refine aL.by (fun ((j,es,ae,g7):Nat×List Edge×Nat×Nat)=>Xh second fh gd w h go ge x0 x1 x2 x3 x4 x5 first ad ae es g7 [(17,av j)])
  (fun (j,es,_,_)=>j≤h∧jR es (9+4*j)) (fun (j,_)=>h - j) (0,mY,ae0,g0) hS ⟨abW,he0⟩ ?_
 rintro⟨j,es,ae,g7⟩ ⟨hj,he⟩
 try dsimp only at hj he
 by_cases bl:j<h
 ·conv=>whnf
  repeat' (first| intro g| refine st ?_| (refine bZ.bU ?_;intro s) | refine br ?_ ?_<;>intro hc| rfl) <;>conv=>whnf
  refine aL.by (fun ((i,es,ae,g7):Nat×List Edge×Nat×Nat)=>Xh second fh gd w h go ge x0 x1 x2 x3 x4 x5 first ad ae es g7 [(17,av j),(18,av i)])
   (fun (i,es,_,_)=>i≤w+1∧jR es (9+4*j+i)) (fun (i,_)=>w+1 - i) (0,es,ae,g7) su ⟨abW,he⟩ ?_
  rintro⟨i,es,ae,g7⟩ ⟨hi,he⟩
  try dsimp only at hi he
  have sO:=he.1
  by_cases Yw:i≤w
  ·have Aj:IntKind.i64.wrap ((j:Int)+1)=((j+1:Nat):Int):=wt
   obtain⟨p1,ET⟩:=zm h2 (i:=i) (j:=j) abV abV
   obtain⟨p2,JS⟩:=zm h2 (i:=i) (j:=j+1) abV abV
   have Yx:Ev E 115 [.lit 1 (second.map vi),av i,vi (IntKind.i64.wrap ((j:Int)+1))] ⟨p2.v,[]⟩:=by rw[Aj];exact JS
   obtain⟨ps,a1,l1,l2,Yy⟩:=Dc h3 p1 p2 ae
   obtain⟨c1,rQ⟩:=zn (cs:=[x0,x1,x2,x3,x4,x5]) rfl hw hh (IntKind.i64.wrap ((i:Int) - 1)) (j:Int)
   obtain⟨c2,u5⟩:=zn (cs:=[x0,x1,x2,x3,x4,x5]) rfl hw hh (i:Int) (j:Int)
   obtain⟨es',a2,b,jg,u4⟩:=JQ h3 he abV (ps:=ps) ⟨l1,l2⟩ c1 c2 a1
   conv=>whnf
   repeat' (first| intro g| apply ca ET| apply ca Yx| apply ca Yy| apply ca rQ| apply ca u5| apply ca u4| refine st ?_| (refine bZ.bU ?_;intro s) | refine br ?_ ?_<;>intro hc| rfl) <;>conv=>whnf
   exact aK.mk (i+1,es',a2,_) om ⟨om,jg⟩ su
  ·obtain rfl:i=w+1:=abV
   conv=>whnf
   repeat' (first| intro g| refine st ?_| (refine bZ.bU ?_;intro s) | refine br ?_ ?_<;>intro hc| rfl) <;>conv=>whnf
   exact aK.mk (j+1,es,ae,g7) om ⟨om,he.mono abV⟩ su
 ·conv=>whnf
  repeat' (first| intro g| refine st ?_| (refine bZ.bU ?_;intro s) | refine br ?_ ?_<;>intro hc| rfl) <;>conv=>whnf
  refine⟨_,?_,hQ es ae g7 (he.mono abV)⟩
  exact su
end
end Go.AM
namespace Go.AM
def qf (ls:List (List Int)):Prop:=ls.length< 9223372036854775808∧ ∀l ∈ ls,l.length< 9223372036854775808
theorem jS {ls:List (List Int)} {k:Nat} {l:List Int} (h:ls[k]? =some l): (ls.map gq)[((k:Nat):Int).toNat]? =some (gq l):=by simp[h]
def rR (r:eZ):Prop:= ∃ (es:List Edge) (fs:List aW),jR es 18∧fs.length≤36∧r=⟨.tuple [.lit 4 (es.map Edge.v),.own 5 (fs.map aW.v)],[]⟩
theorem yd (ls:List (List Int)) {first second fh:List Int} (h1:first.length< 9223372036854775808) (h2:second.length< 9223372036854775808) (h3:fh.length< 9223372036854775808) {w h:Nat} (hw:w≤3) (hh:h≤2) (GL:1≤w) (hh1:1≤h) (S:SS) (gd go a0:Nat) (Yv:List Int) (h6:Yv.length=6)
   (hS:SS.Sub ⟨[(5,gq second),(6,gq fh),(7,.ptr 672 gd 0 0),(8,av w),(9,av h),(10,.ptr 176 go 0 0),(11,av 0)],[(672,⟨gd,2,false,false,some [dq first a0]⟩),(176,⟨go,6,false,false,some [.agg (Yv.map vi)]⟩)]⟩ S):
   aL E JP S (Qm 0 (thenS (yW f83.results [eQ ls] rR) fun S'=>kW E (JR Xe 11) S' (yW f83.results [eQ ls] rR))):=by
 refine acm h1 hw hh S gd go a0 Yv h6 hS _ ?_
 intro a cs oN
 match cs,oN with
 | [x0,x1,x2,x3,x4,x5],_=>
   conv=>whnf
   repeat' (first| intro g| refine st ?_| (refine bZ.bU ?_;intro s) | refine br ?_ ?_<;>intro hc| rfl) <;>conv=>whnf
   rename_i ge
   refine acn (gd:=gd) (go:=go) (ge:=ge) (ad:=a) (first:=first) (x0:=x0) (x1:=x1) (x2:=x2) (x3:=x3) (x4:=x4) (x5:=x5) h2 h3 hw hh _ 0 g su _ ?_
   intro es ae g7 he
   conv=>whnf
   repeat' (first| intro g| refine st ?_| (refine bZ.bU ?_;intro s) | refine br ?_ ?_<;>intro hc| rfl) <;>conv=>whnf
   refine aco (gd:=gd) (go:=go) (ge:=ge) (ad:=a) (first:=first) (x0:=x0) (x1:=x1) (x2:=x2) (x3:=x3) (x4:=x4) (x5:=x5) h2 h3 hw hh _ es he ae g7 su _ ?_
   clear he es ae g7
   intro es ae g7 he
   have sO:=he.1
   have n2:=cw h1 2 (a:=a) abV abV
   have nw:=cw h1 w (a:=ba first a) abV abV
   have nh:=cw h1 h (a:=ba first (ba first a)) abV abV
   have bw:=eI (l:=first) (a:=ba first a) (n:=w) abV abV
   have bh:=eI (l:=first) (a:=ba first (ba first a)) (n:=h) abV abV
   generalize dN first (ba first a) w=i at nw bw
   generalize dN first (ba first (ba first a)) h=j at nh bh
   by_cases hn2:dN first a 2=1
   · rcases(by omega:i=0∨i=1∨i=2) with rfl| rfl| rfl<;>rcases(by omega:j=0∨j=1) with rfl| rfl
     all_goals
      conv=>whnf
      repeat' (first| intro g| apply ca n2| apply ca nw| apply ca nh| refine st ?_| (refine bZ.bU ?_;intro s) | refine br ?_ ?_<;>intro hc| rfl) <;>conv=>whnf
      refine aC.ex (Nn h3 he abV ⟨_,_⟩ _ _) ?_
      rintro _ ⟨es',Yz,b,lD,rfl⟩
      have aip:=lD.1
      conv=>whnf
      repeat' (first| intro g| refine st ?_| (refine bZ.bU ?_;intro s) | refine br ?_ ?_<;>intro hc| rfl) <;>conv=>whnf
      refine aC.ex (GK (es:=es') abV) ?_
      rintro _ ⟨fs,hfs,rfl⟩
      conv=>whnf
      repeat' (first| intro g| refine st ?_| (refine bZ.bU ?_;intro s) | refine br ?_ ?_<;>intro hc| rfl) <;>conv=>whnf
      exact⟨es',fs,lD,abV,rfl⟩
   · conv=>whnf
     repeat' (first| intro g| apply ca n2| refine st ?_| (refine bZ.bU ?_;intro s) | refine br ?_ ?_<;>intro hc| rfl) <;>conv=>whnf
     refine aC.ex (GK (es:=es) abV) ?_
     rintro _ ⟨fs,hfs,rfl⟩
     conv=>whnf
     repeat' (first| intro g| refine st ?_| (refine bZ.bU ?_;intro s) | refine br ?_ ?_<;>intro hc| rfl) <;>conv=>whnf
     exact⟨es,fs,he.mono abV,abV,rfl⟩
theorem No {ls:List (List Int)} (hs:qf ls): ∃res,Ev E 83 [eQ ls] res∧rR res:=by
 refine Ev.bD rfl rfl rfl ?_
 have hl:=hs.1
 have key: ∀k,k<ls.length→ ∃l,ls[k]? =some l∧l.length< 9223372036854775808:=fun k hk=> ⟨_,aH hk,hs.2 _ (ajI hk)⟩
 have gen: ∀ (first second fh:List Int),first.length< 9223372036854775808→second.length< 9223372036854775808→fh.length< 9223372036854775808→
   (0 <ls.length→ls[0]? =some first)→(1 <ls.length→ls[1]? =some second)→(2 <ls.length→ls[2]? =some fh)→(ls.length≤0→first=[])→(ls.length≤1→second=[])→(ls.length≤2→fh=[])→
   kW E f83.body (tJ [eQ ls]) (yW f83.results [eQ ls] rR):=by
  intro first second fh h1 h2 h3 k1 k2 k3 e1 e2 e3
  have n3:=cw h1 3 (a:=0) abV abV
  have n2:=cw h1 2 (a:=ba first 0) abV abV
  have b3:=eI (l:=first) (a:=0) (n:=3) abV abV
  have b2:=eI (l:=first) (a:=ba first 0) (n:=2) abV abV
  generalize dN first 0 3=r3 at n3 b3
  generalize dN first (ba first 0) 2=r2 at n2 b2
  have w3:IntKind.i64.wrap (1+(r3:Int))=((1+r3:Nat):Int):=wt
  have w2:IntKind.i64.wrap (1+(r2:Int))=((1+r2:Nat):Int):=wt
  have f3:V.int .i64 (IntKind.i64.wrap (1+(r3:Int)))=av (1+r3):=by rw[w3]
  have f2:V.int .i64 (IntKind.i64.wrap (1+(r2:Int)))=av (1+r2):=by rw[w2]
  have fin: ∀ (S:SS) (gd go:Nat),SS.Sub ⟨[(5,gq second),(6,gq fh),(7,.ptr 672 gd 0 0),(8,V.int .i64 (IntKind.i64.wrap (1+(r3:Int)))),(9,if IntKind.i64.wrap (1+(r3:Int))=3 then vi 1 else V.int .i64 (IntKind.i64.wrap (1+(r2:Int)))),(10,.ptr 176 go 0 0),(11,vi 0)],
    [(672,⟨gd,2,false,false,some [dq first (ba first (ba first 0))]⟩),(176,⟨go,6,false,false,some [.agg [vi 0,vi 0,vi 0,vi 0,vi 0,vi 0]]⟩)]⟩ S→
    aL E JP S (Qm 0 (thenS (yW f83.results [eQ ls] rR) fun S'=>kW E (JR Xe 11) S' (yW f83.results [eQ ls] rR))):=by
   intro S gd go hS
   by_cases hc:IntKind.i64.wrap (1+(r3:Int))=3
   ·rw[f3,if_pos hc] at hS
    exact yd (w:=1+r3) (h:=1) ls h1 h2 h3 abV abV abV abV S gd go _ [0,0,0,0,0,0] rfl hS
   ·rw[f3,if_neg hc,f2] at hS
    exact yd (w:=1+r3) (h:=1+r2) ls h1 h2 h3 abV abV abV abV S gd go _ [0,0,0,0,0,0] rfl hS
  rcases(by omega:ls.length=0∨ls.length=1∨ls.length=2∨2 <ls.length) with hz| hz| hz| hz
  ·obtain rfl:=e1 abV
   obtain rfl:=e2 abV
   obtain rfl:=e3 abV
   conv=>whnf
   repeat' (first| intro g| apply ca n3| apply ca n2| refine st ?_| (refine bZ.bU ?_;intro s) | refine br ?_ ?_<;>intro hc| rfl) <;>conv=>whnf
   all_goals (rename_i gd;refine fin _ gd g ?_)
   all_goals first| rw[if_pos hc] | rw[if_neg hc]
   all_goals exact su
  ·obtain rfl:=e2 abV
   obtain rfl:=e3 abV
   conv=>whnf
   repeat' (first| intro g| refine wi (jS (k1 abV)) ?_| apply ca n3| apply ca n2| refine st ?_| (refine bZ.bU ?_;intro s) | refine br ?_ ?_<;>intro hc| rfl) <;>conv=>whnf
   all_goals (rename_i gd;refine fin _ gd g ?_)
   all_goals first| rw[if_pos hc] | rw[if_neg hc]
   all_goals exact su
  ·obtain rfl:=e3 abV
   conv=>whnf
   repeat' (first| intro g| refine wi (jS (k1 abV)) ?_| refine wi (jS (k2 abV)) ?_| apply ca n3| apply ca n2| refine st ?_| (refine bZ.bU ?_;intro s) | refine br ?_ ?_<;>intro hc| rfl) <;>conv=>whnf
   all_goals (rename_i gd;refine fin _ gd g ?_)
   all_goals first| rw[if_pos hc] | rw[if_neg hc]
   all_goals exact su
  ·conv=>whnf
   repeat' (first| intro g| refine wi (jS (k1 abV)) ?_| refine wi (jS (k2 abV)) ?_| refine wi (jS (k3 abV)) ?_| apply ca n3| apply ca n2| refine st ?_| (refine bZ.bU ?_;intro s) | refine br ?_ ?_<;>intro hc| rfl) <;>conv=>whnf
   all_goals (rename_i gd;refine fin _ gd g ?_)
   all_goals first| rw[if_pos hc] | rw[if_neg hc]
   all_goals exact su
 have pick: ∀k,∃l:List Int,l.length< 9223372036854775808∧(k<ls.length→ls[k]? =some l)∧(ls.length≤k→l=[]):=by
  intro k
  by_cases hk:k<ls.length
  ·obtain⟨l,a1,a2⟩:=key k hk
   exact⟨l,a2,fun _=>a1,fun h=>abV⟩
  ·exact⟨[],abW,fun h=>abV,fun _=>rfl⟩
 obtain⟨first,a1,b1,c1⟩:=pick 0
 obtain⟨second,a2,b2,c2⟩:=pick 1
 obtain⟨fh,a3,b3,c3⟩:=pick 2
 exact gen first second fh a1 a2 a3 b1 b2 b3 c1 c2 c3
end Go.AM
namespace Go.AM
def ixL (a:Bool) (sz:Nat):aY:=
  (.seq (.region [od 9 (.bin .lss (.tmp 8) (.tmp 7))])
  (.seq (.cond (.tmp 9)
  .skip
  (.exit 0))
  (.seq (.block 1 (.seq (.region [od 10 (.move (.tmp 8)),od 5 (.move (.tmp 10))])
  (.seq (.region [od 11 (.move (.tmp 1)),od 12 (.move (.tmp 0)),od 13 (.move (.tmp 5)),od 14 (.indexAddr sz (.tmp 12) (.tmp 13)),
 od 15 (.load a sz (.tmp 14)),od 16 (.call 272 false (.tmp 11) [(.tmp 15)])])
  (.cond (.tmp 16)
  (.seq (.region [od 17 (.move (.tmp 5)),od 4 (.move (.tmp 17))])
  .ret)
  .skip))))
  (.region [od 18 (.bin .add (.tmp 8) (ic 1)),od 8 (.move (.tmp 18))]))))
def ixF (a:Bool) (sz:Nat):aQ:=⟨2,19,[],[.tmp 4],(.seq (.region [od 4 (.move (ic 0))])
 (.seq (.seq (.region [od 6 (.move (.tmp 0)),od 7 (.len (.tmp 6)),od 8 (.move (ic 0))])
 (.block 0 (.loop (ixL a sz))))
 (.seq (.region [od 4 (.move (ic (-1)))])
 .ret))),none⟩
theorem oZ {α:Type} {v:α→V} {a:Bool} {sz k:Nat} (hv: ∀x,(v x).aw=true) (hq: ∀x,pZ a 0 sz (v x)= .done (v x)) {l:List α} {g:Nat} {caps:List V} (hcp:V.al caps=true) {p:α→Bool} (hlen:l.length< 4611686018427387904)
  (hp: ∀x,Ev E g (v x::caps) ⟨.bool (p x),[]⟩) (hm:bz E g=[]) (hF:E.fn k=some (ixF a sz):=by rfl) (hX: ∀fg,E.ext k fg=none:=by intro _;rfl) (hh:E.hyb k=none:=by rfl):Ev E k [.lit sz (l.map v),.fn g caps] ⟨vi (firstIdx p l),[]⟩:=by
 have Np:V.al (l.map v)=true:=AM.aN hv l
 refine Ev.aD hF (hX _) rfl ?_ rfl hh
 conv=>whnf
 repeat' (first| intro g| refine nd (by simp[V.al,V.aw,hcp,Np]) ?_| refine st ?_| refine br ?_ ?_<;>intro hc| rfl) <;>conv=>whnf
 refine aL.by (fun i:Nat=> ⟨[(0,.lit sz (l.map v)),(1,.fn g caps),(7,av (l.map v).length),(8,av i)],[]⟩) (fun i=>i≤l.length∧ ∀ (j:Nat) y,j<i→l[j]? =some y→p y=false) (fun i=>l.length - i) 0 ?_ ?_ ?_
 ·exact su
 ·simp
 rintro i ⟨hi,ij⟩
 have cS:=hcp
 by_cases bl:i<l.length
 ·have hx:l[i]? =some l[i]:=aH bl
  have Xi:=hp l[i]
  have hqx:=hq l[i]
  have hvx:=hv l[i]
  generalize l[i]=x at hx Xi hqx hvx
  have uy: (l.map v)[i]? =some (v x):=by simp[hx]
  have JK:V.al (v x::caps)=true:=by simp only[V.al,hvx,hcp];rfl
  conv=>whnf
  repeat' (first| intro g| refine wi uy ?_| refine st ?_| refine br ?_ ?_<;>intro hc| rfl| refine fB hm JK Xi rfl ?_| ((change fy E (pZ a 0 sz (v x)) _ _;rw[hqx]))) <;>conv=>whnf
  ·rw[zN ij hx hc]
  ·refine aK.mk (i+1) om ?_ su
   refine⟨abV,fun j y hj hy=> ?_⟩
   by_cases e:j=i
   ·subst e
    rw[hx] at hy
    injection hy with hy;subst hy;exact hc
   ·exact ij j y abV hy
 ·conv=>whnf
  repeat' (first| intro g| refine st ?_| refine br ?_ ?_<;>intro hc| rfl) <;>conv=>whnf
  rw[firstIdx_none fun j y hy=>ij j y (by have:=(aiS.1 hy).1;omega) hy]
def ctF (j:Nat):aQ:=⟨2,9,[],[.tmp 4],(.seq (.region [od 4 (.move (.const (.bool false)))])
  (.seq (.region [od 5 (.move (.tmp 0)),od 6 (.move (.tmp 1)),od 7 (.call 128 false (fc j) [(.tmp 5),(.tmp 6)]),od 8 (.bin .geq (.tmp 7) (ic 0)),
 od 4 (.move (.tmp 8))])
  .ret)),none⟩
theorem qg {α:Type} {v:α→V} {a:Bool} {sz k j:Nat} (hv: ∀x,(v x).aw=true) (hq: ∀x,pZ a 0 sz (v x)= .done (v x)) {l:List α} {g:Nat} {caps:List V} (hc:V.al caps=true) {p:α→Bool} (hlen:l.length< 4611686018427387904)
  (hp: ∀x,Ev E g (v x::caps) ⟨.bool (p x),[]⟩) (hm:bz E g=[]) (hF:E.fn j=some (ixF a sz):=by rfl) (hX: ∀fg,E.ext j fg=none:=by intro _;rfl) (hh:E.hyb j=none:=by rfl)
  (kF:E.fn k=some (ctF j):=by rfl) (kX: ∀fg,E.ext k fg=none:=by intro _;rfl) (kh:E.hyb k=none:=by rfl):Ev E k [.lit sz (l.map v),.fn g caps] ⟨.bool (decide (0≤firstIdx p l)),[]⟩:=by
 have h:=oZ (k:=j) hv hq hc hlen hp hm hF hX hh
 have Np:V.al (l.map v)=true:=AM.aN hv l
 have PM:bz E j=[]:=by simp only[bz,hF];rfl
 refine Ev.aD kF (kX _) rfl ?_ rfl kh
 conv=>whnf
 repeat' (first| intro g| refine nd (by simp[V.al,V.aw,hc,Np]) ?_| refine st ?_| refine br ?_ ?_<;>intro hc| rfl) <;>conv=>whnf
 refine fB PM (by simp[V.al,V.aw,hc,Np]) h rfl ?_
 exact aiN
end Go.AM
