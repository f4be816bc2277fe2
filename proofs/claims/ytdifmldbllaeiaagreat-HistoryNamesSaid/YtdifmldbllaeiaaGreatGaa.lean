/- Texts of the proof. -/
import Derived.Test.YtdifmldbllaeiaaGreatFns
import Derived.Test.YtdifmldbllaeiaaGreatOpsC
import Derived.KernelRfl
set_option maxRecDepth 20000
set_option maxHeartbeats 4000000
set_option linter.unusedSimpArgs false
set_option linter.unusedVariables false
namespace Go.AM
theorem wt {n m:Int} (h0: -9223372036854775808<=n:=by first| omega) (h1:n<=9223372036854775807:=by first| omega) (h2:n=m:=by first| omega):IntKind.i64.wrap n=m:=(bo h0 h1).trans h2
abbrev uS:=List UInt8
abbrev vi (n:Int):V:= .int .i64 n
abbrev au (n:Nat):V:= .int .i64 (n:Int)
structure Pt where
 x:Int
 y:Int
 deriving DecidableEq
def Pt.v (p:Pt):V:= .agg [vi p.x,vi p.y]
structure aH where
 id:Int
 line:List Pt
 left:Int
 right:Int
 deriving DecidableEq
def iW (l:List Pt):V:= .lit 2 (l.map Pt.v)
def aH.v (e:aH):V:= .agg [vi e.id,iW e.line,vi e.left,vi e.right]
structure aP where
 id:Int
 cls:uS
 name:uS
 weight:Int
 aC:Int
 deriving DecidableEq
def aP.v (f:aP):V:= .agg [vi f.id,.str f.cls,.str f.name,vi f.weight,vi f.aC]
structure bH where
 id:Int
 line:List Pt
 level:Int
 cls:uS
 name:uS
 uT:Bool
 weight:Int
 aC:Int
 deriving DecidableEq
def bH.v (w:bH):V:= .agg [vi w.id,iW w.line,vi w.level,.str w.cls,.str w.name,.bool w.uT,vi w.weight,vi w.aC]
structure aI where
 id:Int
 x:Int
 y:Int
 cls:uS
 name:uS
 weight:Int
 aC:Int
 deriving DecidableEq
def aI.v (p:aI):V:= .agg [vi p.id,vi p.x,vi p.y,.str p.cls,.str p.name,vi p.weight,vi p.aC]
structure an where
 kind:Int
 at_:Int
 id:Int
 other:Int
 n:Int
 deriving DecidableEq
def an.v (e:an):V:= .agg [vi e.kind,vi e.at_,vi e.id,vi e.other,vi e.n]
structure aB where
 aA:List aH
 ak:List aP
 aF:List bH
 ar:List aI
def aB.v (m:aB):V:= .agg [.lit 4 (m.aA.map aH.v),.lit 5 (m.ak.map aP.v),.lit 8 (m.aF.map bH.v),.lit 7 (m.ar.map aI.v)]
theorem dp: ∀ {cs:List V},(∀x ∈ cs,V.az x=true)->V.al cs=true
 | [],_=>rfl
 | c::cs,h=>by simp only[V.al,ajt];exact⟨h c ajl,dp fun x hx=>h x (by simp[hx])⟩
theorem aV {α:Type} {f:α->V} (h: ∀x,(f x).az=true) (l:List α):V.al (l.map f)=true:=
 dp fun x hx=>by obtain⟨y,_,rfl⟩:=ajL.1 hx;exact h y
theorem YW {α:Type} {f:α->V} {sz:Nat} (h: ∀x,bj (f x) sz=true) (l:List α): (l.map f).all (bj · sz)=true:=by simp[ajx,h]
theorem Pt.aV (l:List Pt):V.al (l.map Pt.v)=true:=AM.aV (fun _=>rfl) l
theorem aH.aV (l:List aH):V.al (l.map aH.v)=true:=AM.aV (fun _=>rfl) l
theorem aP.aV (l:List aP):V.al (l.map aP.v)=true:=AM.aV (fun _=>rfl) l
theorem bH.aV (l:List bH):V.al (l.map bH.v)=true:=AM.aV (fun _=>rfl) l
theorem aI.aV (l:List aI):V.al (l.map aI.v)=true:=AM.aV (fun _=>rfl) l
theorem an.aV (l:List an):V.al (l.map an.v)=true:=AM.aV (fun _=>rfl) l
theorem aw {α:Type} {f:α->V} {l:List α} {i:Nat} {n:Int} {x:α} (h:l[i]? =some x) (hn:n=(i:Int)): (l.map f)[n.toNat]? =some (f x):=by subst hn;simp[h]
theorem aM {α:Type} {l:List α} {i:Nat} (h:i<l.length):l[i]? =some l[i]:=aju h
theorem fC {α:Type} {f:α->V} {l:List α} {n:Nat} (h:n=l.length):aN (l.map f) 0 n=l.map f:=by subst h;unfold aN;rw[List.drop_zero,List.take_of_length_le ajl]
theorem jd {l:List V} {n:Nat} (h:n=l.length):aN l 0 n=l:=by subst h;simp[aN]
def kb (n:Int):Int:=IntKind.i64.wrap n
theorem Ke {n:Int} (h0: -9223372036854775808<=n) (h1:n<=9223372036854775807):kb n=n:=bo h0 h1
theorem fS: ∀ {cs:List V},V.al cs=true-> ∀x ∈ cs,V.az x=true
 | [],_,x,h=>by simp at h
 | c::cs,h,x,hx=>by
   simp only[V.al,ajt] at h;rcases ajy.1 hx with rfl| hx
   .exact h.1
   exact fS h.2 x hx
theorem fE {a b:List V} (h:V.al a=true) (k:V.al b=true):V.al (a++b)=true:=
 dp fun x hx=>by
  rcases ajD.1 hx with hx| hx
  .exact fS h x hx
  exact fS k x hx
theorem bD {es ys:List V} {o:Nat} (h:V.al es=true) (k:V.al ys=true):V.al (overwrite es o ys)=true:=by
 refine fE (fE (dp fun x hx=> ?_) k) (dp fun x hx=> ?_)
 .exact fS h x (ajN hx)
 exact fS h x (aki hx)
theorem iw {es:List V} {o n:Nat} (h:V.al es=true):V.al (aN es o n)=true:=
 dp fun x hx=>fS h x (aki (ajN hx))
theorem bY {n:Nat} {z:V} (h:V.az z=true):V.al (List.replicate n z)=true:=
 dp fun x hx=>by rw[List.eq_of_mem_replicate hx];exact h
theorem y7 {es:List V} {n:Nat} {x:V} (h:V.al es=true) (k:V.az x=true):V.al (es.set n x)=true:=
 dp fun y hy=>by
  rcases ajT hy with hy| rfl
  .exact fS h y hy
  exact k
theorem mi {l:List V} {n:Nat} {x e:V} (h:l[n]? =some e): (l.set n x)[n]? =some x:=by have:=(ajp.1 h).1;simp[this]
theorem sW {α:Type} {f:α->V} {l:List α} {r:List V} {n:Nat} (h:n=l.length):aN (l.map f++r) 0 n=l.map f:=by subst h;unfold aN;rw[List.drop_zero,List.take_append_of_le_length ajl,List.take_of_length_le ajl]
theorem pq {α:Type} {f:α->V} {l:List α} {i:Nat} {x:α} (h:l[i]? =some x): (l.map f).set i (f x)=l.map f:=by
 rw[<-akl];congr 1
 obtain⟨hl,rfl⟩:=ajp.1 h;simp
theorem cr {α:Type} (p:α->Bool) (l:List α): (firstIdx p l= -1/\ ∀ (i:Nat) (x:α),l[i]? =some x->p x=false)\/ ∃ (i:Nat) (x:α),firstIdx p l=(i:Int)/\l[i]? =some x/\p x=true:=by
 unfold firstIdx;cases h:l.findIdx? p with
 | none=>
   refine .inl ⟨rfl,fun i x hx=> ?_⟩;rw[alA] at h;simpa using h x (List.mem_of_getElem? hx)
 | some i=>
   rw[akE] at h;obtain⟨hl,hp,_⟩:=h;exact .inr ⟨i,l[i],rfl,aju hl,hp⟩
theorem gY {E:Env} {r:Nat} {bG:Bool} {g:Nat} {args:List V} {v:V} {S:SS} {Q:KK} (hm:bu E g=[]) (hp:V.al args=true) (he:Ev E g args ⟨v,[]⟩) (hv:V.az v=true) (k:Q v S [] []):fX E (lY E r bG g args) S Q:=by
 have key: ∀ (b:List V) (i:Nat) (c:List V->List Nat->List eY->bI),V.al b=true->ec (r+8) b [] i c=c b [] []:=by
  intro b;induction b with
  | nil=>intro i c _;rfl
  | cons a b d=>
    intro i c h;simp only[V.al,ajt] at h;simp only[ec,gU,h.1,cond_true,aj8];rw[d (i+1) _ h.2]
 unfold lY;rw[hm,key args 0 _ hp];refine⟨rfl,⟨⟨v,[]⟩,he,?_⟩⟩;simp only[jO,fZ,hv,cond_true,fX];exact k
theorem sd {p:Prop} (h:p:=by first| rfl| omega| assumption| exact AM.aV (fun _=>rfl) _| ((repeat' (first| rfl| exact AM.aV (fun _=>rfl) _| refine fE ?_ ?_| refine y7 ?_ ?_| refine bD ?_ ?_| refine iw ?_| refine bY ?_));done) | exact YW (fun _=>rfl) _| (and_intros<;>first| rfl| omega| assumption| exact AM.aV (fun _=>rfl) _| ((repeat' (first| rfl| exact AM.aV (fun _=>rfl) _| refine fE ?_ ?_| refine y7 ?_ ?_| refine bD ?_ ?_| refine iw ?_| refine bY ?_));done) | (simp only[List.length_map,List.length_append,ajC,ajJ,akj,akH];done) | (simp only[List.length_map,List.length_append,ajC,ajJ,akj,akH];omega) | (simp[*];done) | (simp[*];omega)) | fail):p:=h
theorem ao {p:Prop} (h:p:=by first| assumption| rfl| omega| (simp only[List.length_map,List.length_append,ajC,ajJ,akj,akH];omega) | fail):p:=h
theorem lt {p:Prop} (h:p:=by first| omega| (simp only[List.length_map] at*;omega) | fail):p:=h
theorem st {p q:Prop} (k:q) (h:q->p:=by
 first
 | exact pf.mk ⟨Int.natCast_nonneg _,NO ajm ajm,rfl,rfl⟩
 | exact pf.mk (p:=UX _ _ _ _=true) ajn
 | exact pf.mk sd
 | exact Or.inl∘pf.mk sd
 | exact Or.inr
 | exact fP.mk _ ae3
 | exact fP.mk _ (aw (aM lt) rfl)
 | exact fP.mk _ (fC (by first| rfl| (simp;done) | fail))
 | exact fP.mk _ (jd (by first| rfl| (simp;done) | (simp;omega) | fail))
 | exact fP.mk _ rfl
 | exact Br.tt
 | exact Br.ff
 | exact Br.t ao
 | exact Br.f ao
 | exact Br.nt ao
 | exact Br.nf ao
 | exact Br.bt (by first| assumption| (simp;done) | fail)
 | exact Br.bf (by first| assumption| (simp;done) | fail)
 | fail):p:=h k
theorem ai {p q:Prop} (k:q) (h:p:=by
 first
 | exact Eq.refl _
 | exact XT _ ajk
 | exact congrArg (V.int .i64) (bo ajk ajk)
 | exact congrArg (V.int .i64) (wt)
 | (conv=>whnf);done
 | ((conv=>whnf);simp only[ajV,List.map_cons,alj,List.length_append,ajC,ajJ,List.length_map];done)
 | ((conv=>whnf);simp only[ajV,List.map_cons,alj,List.length_append,ajC,ajJ,List.length_map];rfl)
 | ((conv=>whnf);first| exact XT _ ajk | (simp;done) | (simp[*];done) | (simp;omega))
 | fail):p/\q:=⟨h,k⟩
class BP (b:Bool) (p q:outParam Prop):Prop where
 yes:b=true->p
 no:b=false->q
instance (priority:=low) BP.any {b:Bool}:BP b (b=true) (b=false):=⟨id,id⟩
instance BP.dec {c:Prop} {i:Decidable c}:BP (decide c) c (¬c):=⟨of_decide_eq_true,of_decide_eq_false⟩
instance BP.aiW {c:Prop} {i:Decidable c}:BP (!decide c) (¬c) c:=⟨fun h=>by simpa using h,fun h=>by simpa using h⟩
theorem br {b:Bool} {p q c d c' d':Prop} [hb:BP b c d] (h:c'->p) (k:d'->q) (e:c↔c':=by
 (try simp only[List.length_map,List.length_append,ajC,ajJ,akj,akH])
 exact Iff.rfl) (f:d↔d':=by
 (try simp only[List.length_map,List.length_append,ajC,ajJ,akj,akH])
 exact Iff.rfl):Br b p q:=⟨fun x=>h (e.1 (hb.yes x)),fun x=>k (f.1 (hb.no x))⟩
theorem su {p:Prop} (h:p:=by first| ((refine⟨?_,?_⟩ <;>repeat' (first| exact True.intro| refine ai ?_| refine And.intro ?_ ?_));done) | fail):p:=h
theorem om {p:Prop} (h:p:=by first| omega| (dsimp only;omega)):p:=h
theorem sf {E:Env} {r:Nat} {bG:Bool} {g:Nat} {args:List V} {v:V} {S:SS} {Q:KK} (he:Ev E g args ⟨v,[]⟩) (k:Q v S [] []) (hm:bu E g=[]:=by assumption) (hp:V.al args=true:=by first| assumption| rfl| (simp only[V.al,V.az,akh,alm,aj9, *])) (hv:V.az v=true:=by rfl):fX E (lY E r bG g args) S Q:=gY hm hp he hv k
theorem ca {E:Env} {f:Nat} {xs:List V} {q:fu->Prop} {res:fu} (he:Ev E f xs res) (k:q res):eQ E f xs q:= .mk _ he k
theorem wi {α:Type} {p q:α->Prop} {x:α} (h:p x) (k:q x):fP p q:= .mk _ h k
theorem nd {p q:Prop} (h:p) (k:q):pf p q:=⟨h,k⟩
theorem dJ {α:Type} {g:α->V} {f:Nat} {args:List V} (h: ∃res,Ev E f args res/\ ∃a,res=⟨g a,[]⟩): ∃a,Ev E f args ⟨g a,[]⟩:=by obtain⟨_,h,a,rfl⟩:=h;exact⟨a,h⟩
theorem dr {p:Prop} (h:p:=by first| ((conv=>whnf); (repeat' ((first| intro g| refine ca (by assumption) ?_| refine wi (by first| assumption| exact aw (by assumption) rfl) ?_| refine st ?_| refine br ?_ ?_<;>intro hc| rfl| exact⟨_,rfl⟩) <;>conv=>whnf));done) | fail):p:=h
theorem dr1 {p:Prop} (h:p:=by first| ((conv=>whnf); (repeat' ((first| (exfalso;omega) | intro g| refine ca (by assumption) ?_| refine wi (by first| assumption| exact aw (by assumption) rfl) ?_| refine st ?_| refine br ?_ ?_<;>intro hc| rfl| exact⟨_,rfl⟩) <;>conv=>whnf));done) | fail):p:=h
theorem amM {f:Nat} {af:aT} {args:List V} {res:fu} (h:mf E af.body (xU args) (C4 af.results args (· =res))) (hf:E.fn f=some af:=by rfl) (hx:E.ext f args=none:=by rfl) (hl:args.length=af.nparams:=by rfl) (ht:af.tag=none:=by rfl) (hh:E.hyb f=none:=by rfl):Ev E f args res:=Ev.aG hf hx hl h ht hh
theorem amN {f:Nat} {af:aT} {args:List V} {R:fu->Prop} (h:mf E af.body (xU args) (C4 af.results args R)) (hf:E.fn f=some af:=by rfl) (hx:E.ext f args=none:=by rfl) (hl:args.length=af.nparams:=by rfl) (ht:af.tag=none:=by rfl) (hh:E.hyb f=none:=by rfl): ∃res,Ev E f args res/\R res:=Ev.cg hf hx hl h ht hh
abbrev alH (f:Nat) (a:List V) (v:V):Prop:=Ev E f a ⟨v,[]⟩
def wh (a n:Int):Int:=(kb (a.tmod n+n)).tmod n
theorem Ai {a:Int} {n:Nat} (h:0 <n) (h2:n< 1000000000000000):0<=wh a n/\wh a n<n:=by unfold wh;have h1:=Int.tmod_lt_of_pos a (show (0:Int) <n by omega);have h3:=Int.lt_tmod_of_pos a (show (0:Int) <n by omega);rw[Ke ajk ajk];have h4:=Int.tmod_nonneg (b:=(n:Int)) (a:=a.tmod n+n) ajk;have h5:=Int.tmod_lt_of_pos (a.tmod n+n) (show (0:Int) <n by omega);exact⟨h4,h5⟩
theorem Kf {a n:Int} (h:n≠0):alH 93 [vi a,vi n] (vi (wh a n)):=by refine amM ?_;exact dr
def da (l:List Int) (a:Nat):V:= .agg [.lit 1 (l.map vi),au a]
def eR (l:List Int) (a n:Nat):Nat:=match l[a]? with
 | some x=> (wh x n).toNat
 | none=>0
def cm (l:List Int) (a:Nat):Nat:=if a<l.length then a+1 else a
theorem fF {l:List Int} {a n:Nat} (h:0 <n) (h2:n< 1000000000000000):eR l a n<n:=by
 unfold eR;split
 .rename_i x _;have:=Ai (a:=x) h h2;omega
 exact h
theorem cD {l:List Int} (hl:l.length< 9223372036854775808) (n:Nat) {a:Nat} (h:0 <n) (h2:n< 1000000000000000):Ev E 85 [.mptr 2 [da l a] 0 0,au n] ⟨au (eR l a n),[(0,[da l (cm l a)])]⟩:=by
 refine amM ?_;by_cases b:a<l.length
 .obtain⟨x,hx⟩: ∃x,l[a]? =some x:=⟨_,aM b⟩;have hm:=Kf (a:=x) (n:=(n:Int)) ajk;have hw:IntKind.i64.wrap (IntKind.i64.wrap ((a:Int)+1) - 1)=(a:Int):=by rw[bo (n:=(a:Int)+1) ajk ajk];exact wt
  have hb:=Ai (a:=x) h h2;have c:eR l a n=(wh x n).toNat:=by simp[eR,hx]
  have d:cm l a=a+1:=by simp[cm,b]
  rw[c,d];have e:IntKind.i64.wrap ((a:Int)+1)=((a+1:Nat):Int):=wt;have f:au (wh x n).toNat=vi (wh x n):=by show V.int _ _=V.int _ _;congr 1;omega
  rw[f];conv=>whnf
  repeat' (first| intro g| refine wi (aw hx hw) ?_| apply ca hm| refine st ?_| (refine fP.dF ?_;intro s) | refine br ?_ ?_<;>intro hc| rfl) <;>conv=>whnf
  show (⟨vi _,[(0,[V.agg [_,V.int .i64 _]])]⟩:fu)=_;rw[e];rfl
 have c:eR l a n=0:=by simp[eR,show l[a]? =none from by simp;omega]
 have d:cm l a=a:=by simp[cm,b]
 rw[c,d];exact dr
theorem NO {l:List Int} {a n:Nat} (h:0 <n) (h2:n< 1000000000000000): ((eR l a n:Nat):Int) < (n:Int):=by have:=fF (l:=l) (a:=a) h h2;omega
theorem fP.str {L:List V} {n:Nat} {q:V->Prop} (h: ∀x ∈ L,∃s,x= .str s) (hn:n<L.length) (k: ∀s,q (.str s)):fP (fun e=>L[n]? =some e) q:=by obtain⟨s,hs⟩:=h L[n] (aky hn);refine⟨_,aju hn,?_⟩;rw[hs];exact k s
theorem fP.dF {L:List V} {n:Nat} {q:V->Prop} (k: ∀s,q (.str s)) (h: ∀x ∈ L,∃s,x= .str s:=by simp) (hn:n<L.length:=by first| exact ajB (fF ajm ajm) ajm | fail):fP (fun e=>L[n]? =some e) q:=
 fP.str h hn k
theorem Hr (a b:Pt):alH 161 [a.v,b.v] ((Pt.mk (kb (a.x - b.x)) (kb (a.y - b.y))).v):=by refine amM ?_;exact dr
def eZ (ps:List Pt):Prop:=2<=ps.length/\ps.length<=5
def oQ (es:List aH) (n:Nat):Prop:=es.length<=n/\ ∀e ∈ es,eZ e.line
theorem oQ.snoc {es:List aH} {n:Nat} {e:aH} (h:oQ es n) (k:eZ e.line):oQ (es++[e]) (n+1):=
 ⟨by have:=h.1;simp;omega,fun x hx=>by
   rcases ajD.1 hx with hx| hx
   .exact h.2 x hx
   . have:x=e:=by simpa using hx
     subst this;exact k⟩
theorem oQ.mono {es:List aH} {n m:Nat} (h:oQ es n) (k:n<=m):oQ es m:=⟨ajQ h.1 k,h.2⟩
theorem eQ.ex {E:Env} {f:Nat} {a:List V} {q P:fu->Prop} (h: ∃res,Ev E f a res/\P res) (k: ∀res,P res->q res):eQ E f a q:=by obtain⟨res,h1,h2⟩:=h;exact⟨res,h1,k res h2⟩
def Kg:a8->Nat->a8
 | .seq _ b,n+1=>Kg b n
 | c,_=>c
def gZ (l:List Int):V:= .lit 1 (l.map vi)
def iX (a:List (List Int)):V:= .lit 1 (a.map gZ)
theorem adk {first second eH:List Int} (hl:first.length< 9223372036854775808) {w h:Nat} (hw:w<=3) (hh:h<=2) (S:SS) (gd go a0:Nat) (YX:List Int) (h6:YX.length=6)
  (b:SS.Sub ⟨[(5,gZ second),(6,gZ eH),(7,.ptr 672 gd 0 0),(8,au w),(9,au h),(10,.ptr 176 go 0 0),(11,au 0)],[(672,⟨gd,2,false,false,some [da first a0]⟩),(176,⟨go,6,false,false,some [.agg (YX.map vi)]⟩)]⟩ S)
  (Q:aW->SS->Prop)
  (c: ∀ (a:Nat) (cs:List Int),cs.length=6->Q (.exit 0) ⟨[(5,gZ second),(6,gZ eH),(7,.ptr 672 gd 0 0),(8,au w),(9,au h),(10,.ptr 176 go 0 0)],[(672,⟨gd,2,false,false,some [da first a]⟩),(176,⟨go,6,false,false,some [.agg (cs.map vi)]⟩)]⟩):
  aO E Kd S Q:=by
 have d:=fun a=>cD hl 5 (a:=a) ajk ajk;refine aO.NK ?_;refine aO.by (fun ((i,cs,a):Nat×List Int×Nat)=> ⟨[(5,gZ second),(6,gZ eH),(7,.ptr 672 gd 0 0),(8,au w),(9,au h),(10,.ptr 176 go 0 0),(11,au i)],[(672,⟨gd,2,false,false,some [da first a]⟩),(176,⟨go,6,false,false,some [.agg (cs.map vi)]⟩)]⟩)
  (fun (i,cs,_)=>i<=w/\cs.length=6) (fun (i,_)=>w - i) (0,YX,a0) b ⟨ajl,h6⟩ ?_
 rintro⟨i,cs,a⟩ ⟨hi,pX⟩
 try dsimp only at hi pX
 by_cases f:i<w
 .conv=>whnf
  repeat' (first| intro g| refine st ?_| (refine fP.dF ?_;intro s) | refine br ?_ ?_<;>intro hc| rfl) <;>conv=>whnf
  refine aO.by (fun ((j,cs,a):Nat×List Int×Nat)=> ⟨[(5,gZ second),(6,gZ eH),(7,.ptr 672 gd 0 0),(8,au w),(9,au h),(10,.ptr 176 go 0 0),(11,au i),(12,au j)],[(672,⟨gd,2,false,false,some [da first a]⟩),(176,⟨go,6,false,false,some [.agg (cs.map vi)]⟩)]⟩)
   (fun (j,cs,_)=>j<=h/\cs.length=6) (fun (j,_)=>h - j) (0,cs,a) su ⟨ajl,pX⟩ ?_
  rintro⟨j,cs,a⟩ ⟨hj,pX⟩
  try dsimp only at hj pX
  by_cases e:j<h
  .match cs,pX with
   | [x0,x1,x2,x3,x4,x5],_=>
     rcases(by omega:i=0\/i=1\/i=2) with rfl| rfl| rfl<;>rcases(by omega:j=0\/j=1) with rfl| rfl
     all_goals
       conv=>whnf
       repeat' (first| intro g| refine nd ⟨ajm,ajm⟩ ?_| apply ca (d _) | refine st ?_| (refine fP.dF ?_;intro s) | refine br ?_ ?_<;>intro hc| rfl) <;>conv=>whnf
       all_goals first
        | exact aR.mk (1,[_,_,_,_,_,_],_) om ⟨om,rfl⟩ su
        | exact aR.mk (2,[_,_,_,_,_,_],_) om ⟨om,rfl⟩ su
        | trace_state
  conv=>whnf
  repeat' (first| intro g| refine st ?_| (refine fP.dF ?_;intro s) | refine br ?_ ?_<;>intro hc| rfl) <;>conv=>whnf
  exact aR.mk (i+1,cs,a) om ⟨om,pX⟩ su
 .conv=>whnf
  repeat' (first| intro g| refine st ?_| (refine fP.dF ?_;intro s) | refine br ?_ ?_<;>intro hc| rfl) <;>conv=>whnf
  refine⟨_,?_,c a cs pX⟩;exact su
abbrev XY (second eH:List Int) (gd w h go ge:Nat) (x0 x1 x2 x3 x4 x5:Int) (first:List Int) (ad ae:Nat) (es:List aH) (g7:Nat) (more:List (Nat×V)):SS:=
 ⟨more++[(5,gZ second),(7,.ptr 672 gd 0 0),(8,au w),(9,au h),(10,.ptr 176 go 0 0),(13,.ptr 1712 ge 0 0),(14,.sl 241 g7 0 es.length)],
   [(672,⟨gd,2,false,false,some [da first ad]⟩),(176,⟨go,6,false,false,some [.agg [vi x0,vi x1,vi x2,vi x3,vi x4,vi x5]]⟩),(1712,⟨ge,2,false,false,some [da eH ae]⟩),(241,⟨g7,4,true,false,some (es.map aH.v)⟩)]⟩
section
variable {second eH first:List Int} (h2:second.length< 9223372036854775808) (h3:eH.length< 9223372036854775808) {w h:Nat} (hw:w<=3) (hh:h<=2) {gd go ge ad:Nat} {x0 x1 x2 x3 x4 x5:Int}
include h2 h3 hw hh
end
def y8 (a:List (List Int)):Prop:=a.length< 9223372036854775808/\ ∀l ∈ a,l.length< 9223372036854775808
theorem kx {a:List (List Int)} {k:Nat} {l:List Int} (h:a[k]? =some l): (a.map gZ)[((k:Nat):Int).toNat]? =some (gZ l):=by simp[h]
def ixL (a:Bool) (sz:Nat):a8:=
  (.seq (.region [od 9 (.bin .lss (.tmp 8) (.tmp 7))])
  (.seq (.cond (.tmp 9)
  .skip
  (.exit 0))
  (.seq (.block 1 (.seq (.region [od 10 (.move (.tmp 8)),od 5 (.move (.tmp 10))])
  (.seq (.region [od 11 (.move (.tmp 1)),od 12 (.move (.tmp 0)),od 13 (.move (.tmp 5)),od 14 (.indexAddr sz (.tmp 12) (.tmp 13)),
 od 15 (.load a sz (.tmp 14)),od 16 (.call 272 false (.tmp 11) [(.tmp 15)])])
  (.cond (.tmp 16)
  (.seq (.region [od 17 (.move (.tmp 5)),od 4 (.move (.tmp 17))])
  .ret)
  .skip))))
  (.region [od 18 (.bin .add (.tmp 8) (ic 1)),od 8 (.move (.tmp 18))]))))
def ixF (a:Bool) (sz:Nat):aT:=⟨2,19,[],[.tmp 4],(.seq (.region [od 4 (.move (ic 0))])
 (.seq (.seq (.region [od 6 (.move (.tmp 0)),od 7 (.len (.tmp 6)),od 8 (.move (ic 0))])
 (.block 0 (.loop (ixL a sz))))
 (.seq (.region [od 4 (.move (ic (-1)))])
 .ret))),none⟩
theorem Aq {α:Type} {v:α->V} {a:Bool} {sz k:Nat} (hv: ∀x,(v x).az=true) (f: ∀x,re a 0 sz (v x)= .done (v x)) {l:List α} {g:Nat} {caps:List V} (P9:V.al caps=true) {p:α->Bool} (hlen:l.length< 4611686018427387904)
  (hp: ∀x,Ev E g (v x::caps) ⟨.bool (p x),[]⟩) (hm:bu E g=[]) (h:E.fn k=some (ixF a sz):=by rfl) (m: ∀n,E.ext k n=none:=by intro _;rfl) (hh:E.hyb k=none:=by rfl):Ev E k [.lit sz (l.map v),.fn g caps] ⟨vi (firstIdx p l),[]⟩:=by
 have o:V.al (l.map v)=true:=AM.aV hv l;refine Ev.aG h (m _) rfl ?_ rfl hh;conv=>whnf
 repeat' (first| intro g| refine nd (by simp[V.al,V.az,P9,o]) ?_| refine st ?_| refine br ?_ ?_<;>intro hc| rfl) <;>conv=>whnf
 refine aO.by (fun i:Nat=> ⟨[(0,.lit sz (l.map v)),(1,.fn g caps),(7,au (l.map v).length),(8,au i)],[]⟩) (fun i=>i<=l.length/\ ∀ (j:Nat) y,j<i->l[j]? =some y->p y=false) (fun i=>l.length - i) 0 ?_ ?_ ?_
 .exact su
 .simp
 rintro i ⟨hi,d⟩;have s:=P9;by_cases q:i<l.length
 .have hx:l[i]? =some l[i]:=aM q;have MD:=hp l[i];have b:=f l[i];have c:=hv l[i];generalize l[i]=x at hx MD b c;have r: (l.map v)[i]? =some (v x):=by simp[hx]
  have Hn:V.al (v x::caps)=true:=by simp only[V.al,c,P9];rfl
  conv=>whnf
  repeat' (first| intro g| refine wi r ?_| refine st ?_| refine br ?_ ?_<;>intro hc| rfl| refine gY hm Hn MD rfl ?_| ((change fX E (re a 0 sz (v x)) _ _;rw[b]))) <;>conv=>whnf
  .rw[jM d hx hc]
  refine aR.mk (i+1) om ?_ su;refine⟨ajk,fun j y t hy=> ?_⟩;by_cases e:j=i
  .subst e;rw[hx] at hy;injection hy with hy;subst hy;exact hc
  exact d j y ajk hy
 conv=>whnf
 repeat' (first| intro g| refine st ?_| refine br ?_ ?_<;>intro hc| rfl) <;>conv=>whnf
 rw[firstIdx_none fun j y hy=>d j y (by have:=(ajp.1 hy).1;omega) hy]
def ctF (j:Nat):aT:=⟨2,9,[],[.tmp 4],(.seq (.region [od 4 (.move (.const (.bool false)))])
  (.seq (.region [od 5 (.move (.tmp 0)),od 6 (.move (.tmp 1)),od 7 (.call 128 false (fc j) [(.tmp 5),(.tmp 6)]),od 8 (.bin .geq (.tmp 7) (ic 0)),
 od 4 (.move (.tmp 8))])
  .ret)),none⟩
theorem BH {α:Type} {v:α->V} {a:Bool} {sz k j:Nat} (hv: ∀x,(v x).az=true) (e: ∀x,re a 0 sz (v x)= .done (v x)) {l:List α} {g:Nat} {caps:List V} (hc:V.al caps=true) {p:α->Bool} (hlen:l.length< 4611686018427387904)
  (hp: ∀x,Ev E g (v x::caps) ⟨.bool (p x),[]⟩) (hm:bu E g=[]) (c:E.fn j=some (ixF a sz):=by rfl) (f: ∀b,E.ext j b=none:=by intro _;rfl) (hh:E.hyb j=none:=by rfl)
  (i:E.fn k=some (ctF j):=by rfl) (m: ∀b,E.ext k b=none:=by intro _;rfl) (n:E.hyb k=none:=by rfl):Ev E k [.lit sz (l.map v),.fn g caps] ⟨.bool (decide (0<=firstIdx p l)),[]⟩:=by
 have h:=Aq (k:=j) hv e hc hlen hp hm c f hh;have d:V.al (l.map v)=true:=AM.aV hv l;have ME:bu E j=[]:=by simp only[bu,c];rfl
 refine Ev.aG i (m _) rfl ?_ rfl n;conv=>whnf
 repeat' (first| intro g| refine nd (by simp[V.al,V.az,hc,d]) ?_| refine st ?_| refine br ?_ ?_<;>intro hc| rfl) <;>conv=>whnf
 refine gY ME (by simp[V.al,V.az,hc,d]) h rfl ?_;exact dr
open Classical
theorem Fo {x:V} (h:bQ x=true): ∃a b c,x= .agg [.int .i64 a,.int .i64 b,.int .i64 c]:=by
 unfold bQ at h;split at h
 .exact⟨_,_,_,rfl⟩
 simp at h
theorem lj {x y:V} (hx:bQ x=true) (hy:bQ y=true):dj [1,1,1] x y=some (decide (x=y)):=by obtain⟨a,b,c,rfl⟩:=Fo hx;obtain⟨p,q,r,rfl⟩:=Fo hy;simp only[dj,df,JK,if_true,aj9,ajq,V.agg.injEq,alu,V.int.injEq,true_and,and_true];rw[alg];simp
theorem Mt {e:V} (h:jG e=true): ∃k v,e= .tuple [k,v]/\bQ k=true/\bQ v=true:=by
 unfold jG at h;split at h
 .rename_i k v;simp only[ajt] at h;exact⟨k,v,rfl,h.1,h.2⟩
 simp at h
noncomputable def zN (es:List V) (x:V):Option V:=(cP [1,1,1] x es).getD none
theorem mV {k v x:V} {es:List V} (a:bQ k=true) (hx:bQ x=true):zN (.tuple [k,v]::es) x=if x=k then some v else zN es x:=by
 unfold zN;simp only[cP,lj hx a];by_cases e:x=k
 .rw[if_pos e,decide_eq_true e];rfl
 rw[if_neg e,decide_eq_false e]
theorem Hs {x:V} (hx:bQ x=true): ∀ {es:List V},es.all jG=true->cP [1,1,1] x es=some (zN es x)
 | [],_=>rfl
 | e::es,h=>by
   simp only[ajM,ajt] at h;obtain⟨k,v,rfl,a,hv⟩:=Mt h.1;rw[mV a hx];simp only[cP,lj hx a];by_cases e:x=k
   .rw[if_pos e,decide_eq_true e]
   rw[if_neg e,decide_eq_false e];exact Hs hx h.2
theorem rA {x y:V} (hx:bQ x=true): ∀ {es:List V},es.all jG=true->zN es x=some y->bQ y=true
 | [],_,h=>by simp[zN,cP] at h
 | e::es,hs,h=>by
   simp only[ajM,ajt] at hs;obtain⟨k,v,rfl,a,hv⟩:=Mt hs.1;rw[mV a hx] at h;by_cases e:x=k
   .rw[if_pos e] at h;injection h with h;subst h;exact hv
   rw[if_neg e] at h;exact rA hx hs.2 h
theorem Fq {x r:V} (hx:bQ x=true) (hr:bQ r=true): ∀ {es:List V},es.all jG=true-> ∃es',ef [1,1,1] x r es=some es'/\es'.all jG=true/\ ∀z,bQ z=true->zN es' z=if z=x then some r else zN es z
 | [],_=> ⟨_,rfl,by simp[jG,hx,hr],fun z a=>by rw[mV hx a]⟩
 | e::es,hs=>by
   simp only[ajM,ajt] at hs;obtain⟨k,v,rfl,b,hv⟩:=Mt hs.1;simp only[ef,lj hx b];by_cases e:x=k
   .subst e;rw[decide_eq_true rfl];refine⟨_,rfl,by simp only[ajM,hs.2,aj9];simp[jG,hx,hr],fun z a=> ?_⟩;rw[mV hx a,mV hx a];split<;>rfl
   rw[decide_eq_false e];obtain⟨es',h1,h2,h3⟩:=Fq hx hr hs.2;refine⟨.tuple [k,v]::es',by simp[h1],by simp only[ajM,h2,aj9];exact hs.1,fun z a=> ?_⟩;rw[mV b a,mV b a,h3 z a];by_cases c:z=k
   .subst c;rw[if_pos rfl,if_pos rfl,if_neg (fun e'=>e e'.symm)]
   rw[if_neg c,if_neg c]
noncomputable def eI:Nat->List V->V->Option V
 | 0,_,_=>none
 | n+1,es,x=>match zN es x with
   | none=>some x
   | some y=>if y=x then some x else eI n es y
def U0 (es:List V) (r:V):Prop:=zN es r=none\/zN es r=some r
theorem je {n:Nat} {es:List V} {r:V} (h:U0 es r):eI (n+1) es r=some r:=by
 rcases h with h| h
 .simp[eI,h]
 simp[eI,h]
theorem gJ {n:Nat} {es:List V} {x y:V} (h:zN es x=some y) (bW:y≠x):eI (n+1) es x=eI n es y:=by simp[eI,h,bW]
theorem Bf (es:List V) (x:V):U0 es x\/ ∃y,zN es x=some y/\y≠x:=by
 rcases e:zN es x with _| y
 .exact .inl (.inl e)
 by_cases h:y=x
 .subst h;exact .inl (.inr e)
 exact .inr ⟨y,rfl,h⟩
theorem mC {es:List V} (hs:es.all jG=true): ∀ {n:Nat} {x r:V},bQ x=true->eI n es x=some r->U0 es r/\bQ r=true
 | 0,_,_,_,h=>by simp[eI] at h
 | n+1,x,r,hx,h=>by
   rcases Bf es x with ht| ⟨y,h1,h2⟩
   .rw[je ht] at h;injection h with h;subst h;exact⟨ht,hx⟩
   rw[gJ h1 h2] at h;exact mC hs (rA hx hs h1) h
theorem Bg {es:List V}: ∀ {n:Nat} {x r:V},eI n es x=some r->eI (n+1) es x=some r
 | 0,_,_,h=>by simp[eI] at h
 | n+1,x,r,h=>by
   rcases Bf es x with ht| ⟨y,h1,h2⟩
   .rw[je ht] at h ⊢;exact h
   rw[gJ h1 h2] at h ⊢;exact Bg h
theorem pt {es:List V} {n m:Nat} {x r:V} (P3:n<=m) (h:eI n es x=some r):eI m es x=some r:=by
 induction P3 with
 | refl=>exact h
 | step _ a=>exact Bg a
theorem QS {es:List V} {n m:Nat} {x r q:V} (h:eI n es x=some r) (k:eI m es x=some q):r=q:=by have h1:=pt (aj3 n m) h;rw[pt (ajU n m) k] at h1;injection h1 with h1;exact h1.symm
theorem Bi {es C1:List V} {x r:V} {k:Nat} (hx:bQ x=true) (hs:es.all jG=true) (hp:eI k es x=some r) (hf: ∀z,bQ z=true->zN C1 z=if z=x then some r else zN es z): ∀ {m:Nat} {z q:V},bQ z=true->eI m es z=some q->eI m C1 z=some q
 | 0,_,_,_,h=>by simp[eI] at h
 | m+1,z,q,b,h=>by
   obtain⟨f,c⟩:=mC hs hx hp;by_cases e:z=x
   .subst e;obtain rfl:=QS hp h;have h2:zN C1 z=some r:=by rw[hf z b,if_pos rfl]
    by_cases a:r=z
    .subst a;exact je (.inr h2)
    rw[gJ h2 a];have d:U0 C1 r:=by unfold U0;rw[hf r c,if_neg a];exact f
    rcases Bf es z with ht| ⟨y,h3,h4⟩
    .rw[je ht] at h;injection h with h;exact absurd h.symm a
    rw[gJ h3 h4] at h;cases m with
    | zero=>simp[eI] at h
    | succ m=>exact je d
   have h2:zN C1 z=zN es z:=by rw[hf z b,if_neg e]
   rcases Bf es z with ht| ⟨y,h3,h4⟩
   .rw[je ht] at h;injection h with h;subst h;exact je (by unfold U0;rw[h2];exact ht)
   rw[gJ h3 h4] at h;rw[gJ (h2.trans h3) h4];exact Bi hx hs hp hf (rA b hs h3) h
theorem qh: ∀ {n:Nat} {es:List V} {x r:V},bQ x=true->es.all jG=true->eI n es x=some r-> ∃es',ko n es x=some (r,es')/\es'.all jG=true/\ ∀m z q,bQ z=true->eI m es z=some q->eI m es' z=some q
 | 0,_,_,_,_,_,h=>by simp[eI] at h
 | n+1,es,x,r,hx,hs,h=>by
   have hp:=h;unfold ko;rw[Hs hx hs];rcases e:zN es x with _| y
   .simp only[eI,e] at h;injection h with h;subst h;exact⟨es,rfl,hs,fun _ _ _ _ h=>h⟩
   have hy:=rA hx hs e;simp only[lj hy hx];by_cases a:y=x
   .simp only[decide_eq_true a];simp only[eI,e,a,if_true] at h;injection h with h;subst h;exact⟨es,rfl,hs,fun _ _ _ _ h=>h⟩
   simp only[decide_eq_false a];rw[gJ e a] at h;obtain⟨UZ,h1,h2,h3⟩:=qh hy hs h;rw[h1];obtain⟨j,c⟩:=mC hs hy h;obtain⟨C1,d,f,g⟩:=Fq hx c h2;refine⟨C1,by simp[d],f,fun m z q b i=> ?_⟩;exact Bi hx h2 (h3 _ _ _ hx hp) g b (h3 _ _ _ b i)
structure UF (D:Nat) (es:List V):Prop where
 se:es.all jG=true
 all: ∀z,bQ z=true-> ∃q,eI D es z=some q
theorem UF.nil:UF 1 []:=⟨rfl,fun z _=> ⟨z,rfl⟩⟩
theorem UF.root {D:Nat} {es:List V} (h:UF D es) (c:D<=1000000) {x:V} (hx:bQ x=true): ∃r es',DG es [x]=some (r,es')/\bQ r=true/\UF D es':=by obtain⟨q,a⟩:=h.all x hx;obtain⟨es',h1,h2,h3⟩:=qh hx h.se (pt c a);refine⟨q,es',by simp only[DG,hx,h.se,akh,if_true];exact h1,(mC h.se hx a).2,h2,fun z b=> ?_⟩;obtain⟨p,hp⟩:=h.all z b;exact⟨p,h3 _ _ _ b hp⟩
theorem DP {es es':List V} {c a:V} (hs:es.all jG=true) (ha:U0 es c) (hb:U0 es a) (b:bQ a=true) (hf: ∀z,bQ z=true->zN es' z=if z=c then some a else zN es z): ∀ {m:Nat} {z q:V},bQ z=true->eI m es z=some q-> ∃g,eI (m+1) es' z=some g
 | 0,_,_,_,h=>by simp[eI] at h
 | m+1,z,q,d,h=>by
   by_cases e:z=c
   .subst e;have h2:zN es' z=some a:=by rw[hf z d,if_pos rfl]
    by_cases f:a=z
    .subst f;exact⟨_,je (.inr h2)⟩
    rw[gJ h2 f];exact⟨_,je (by unfold U0;rw[hf a b,if_neg f];exact hb)⟩
   have h2:zN es' z=zN es z:=by rw[hf z d,if_neg e]
   rcases Bf es z with ht| ⟨y,h3,h4⟩
   .exact⟨_,je (by unfold U0;rw[h2];exact ht)⟩
   rw[gJ h3 h4] at h;rw[gJ (h2.trans h3) h4];exact DP hs ha hb b hf (rA d hs h3) h
theorem UF.join {D:Nat} {es:List V} (h:UF D es) (j:D<=1000000) {a b:V} (ha:bQ a=true) (hb:bQ b=true): ∃es',DH es [a,b]=some (.tuple [],es')/\UF (D+1) es':=by
 obtain⟨t,YY⟩:=h.all a ha;obtain⟨UZ,h1,h2,h3⟩:=qh ha h.se (pt j YY);obtain⟨u,f⟩:=h.all b hb;have c:=h3 _ _ _ hb f;obtain⟨C1,l,d,g⟩:=qh hb h2 (pt j c);obtain⟨tb,k⟩:=mC d hb (g _ _ _ hb c);obtain⟨m,n⟩:=mC d ha (g _ _ _ ha (h3 _ _ _ ha YY));obtain⟨i,o,p,r⟩:=Fq n k d;refine⟨i,?_,p,fun z e=> ?_⟩
 .simp only[DH,ha,hb,h.se,akh,if_true,h1,l,o];rfl
 obtain⟨q,s⟩:=h.all z e;exact DP d m tb k r e (g _ _ _ e (h3 _ _ _ e s))
def SI (n:Nat) (ae:List V):Prop:= ∀e ∈ ae,∃ (k:V) (j:Nat),e= .tuple [k,au j]/\bQ k=true/\j<n
theorem SI.mono {n m:Nat} {ae:List V} (h:SI n ae) (P3:n<=m):SI m ae:=fun e he=>by obtain⟨k,j,h1,h2,h3⟩:=h e he;exact⟨k,j,h1,h2,ajk⟩
theorem QT {n:Nat} {r:V} (hr:bQ r=true): ∀ {ae:List V},SI n ae->(∃j,j<n/\dC [1,1,1] true (.int .i64 0) ae r= .done (.tuple [au j,.bool true]))\/dC [1,1,1] true (.int .i64 0) ae r= .done (.tuple [vi 0,.bool false])
 | [],_=> .inr rfl
 | e::ae,h=>by
   obtain⟨k,j,rfl,a,b⟩:=h e ajl;by_cases he:r=k
   .left
    exact⟨j,b,by simp only[dC,cP,lj hr a,decide_eq_true he,if_true]⟩
   have:=QT hr (ae:=ae) (fun x hx=>h x (by simp[hx]));simpa only[dC,cP,lj hr a,decide_eq_false he] using this
theorem QU {n j:Nat} {r:V} (hr:bQ r=true) (b:j<n): ∀ {ae:List V},SI n ae-> ∃YZ,ef [1,1,1] r (au j) ae=some YZ/\SI n YZ
 | [],_=> ⟨_,rfl,fun e he=> ⟨r,j,by simpa using he,hr,b⟩⟩
 | e::ae,h=>by
   obtain⟨k,i,rfl,c,hi⟩:=h e ajl;by_cases he:r=k
   .refine⟨_,by simp only[ef,lj hr c,decide_eq_true he];rfl,fun e' a=> ?_⟩;rcases ajy.1 a with rfl| a
    .exact⟨r,j,rfl,hr,b⟩
    exact h e' (by simp[a])
   obtain⟨YZ,h1,h2⟩:=QU hr b (ae:=ae) (fun x hx=>h x (by simp[hx]));refine⟨_,by simp only[ef,lj hr c,decide_eq_false he,h1];rfl,fun e' a=> ?_⟩;rcases ajy.1 a with rfl| a
   .exact⟨k,i,rfl,c,hi⟩
   exact h2 e' a
end Go.AM
namespace Go.AM
def fq (ps:List aI) (id:Int):Int:=firstIdx (fun p=>decide (p.id=id)) ps
theorem QV (p:aI) (id:Int):alH 34 [p.v,.eptr (vi id) 0] (.bool (decide (p.id=id))):=by refine amM ?_;exact dr
theorem Ft {l:List aI} {g:Nat} {caps:List V} (hc:V.al caps=true) {p:aI->Bool} (hlen:l.length< 4611686018427387904)
  (hp: ∀x,Ev E g (x.v::caps) ⟨.bool (p x),[]⟩) (hm:bu E g=[]):alH 33 [.lit 7 (l.map aI.v),.fn g caps] (vi (firstIdx p l)):=by
 exact Aq (a:=true) (fun _=>rfl) (fun _=>rfl) hc hlen hp hm
def y9 (place c:Int) (a b:aI):Int:=
 if place=c\/a.cls≠b.cls\/b.weight<a.weight\/(a.weight=b.weight/\a.id<b.id) then 1
 else if a.aC≠b.aC then 25
 else if a.name≠[]/\b.name≠[]/\a.name≠b.name then 24
 else 0
def mW (ps:List aI) (place c:Int):Int:=
 if 0<=fq ps place/\0<=fq ps c then
  match ps[(fq ps place).toNat]?,ps[(fq ps c).toNat]? with
  | some a,some b=>y9 place c a b
  | _,_=>0
 else 5
theorem gh (ps:List aI) (id:Int):fq ps id= -1\/ ∃ (i:Nat) (x:aI),fq ps id=(i:Int)/\ps[i]? =some x/\x.id=id:=by
 rcases cr (fun p:aI=>decide (p.id=id)) ps with h| ⟨i,x,h1,h2,h3⟩
 .exact .inl h.1
 exact .inr ⟨i,x,h1,h2,by simpa using h3⟩
section
variable {m:aB} (hlen:m.ar.length< 1000000)
include hlen
theorem Mv (id:Int):alH 19 [m.v,vi id] (vi (fq m.ar id)):=by
 refine amM ?_;conv=>whnf
 repeat' (first| intro g| refine ca (Ft rfl ajk (fun x=>QV x id) rfl) ?_| refine st ?_| refine br ?_ ?_<;>intro hc| rfl) <;>conv=>whnf
 all_goals rfl
theorem sY (i k:Int):alH 15 [m.v,vi i,vi k] (.tuple [vi (fq m.ar i),vi (fq m.ar k),.bool (decide (0<=fq m.ar i) &&decide (0<=fq m.ar k))]):=by
 have h:=Mv hlen;refine amM ?_;conv=>whnf
 repeat' (first| intro g| apply ca (h _) | refine st ?_| refine br ?_ ?_<;>intro hc| rfl) <;>conv=>whnf
 all_goals simp[hc]
theorem qi (place c:Int):alH 8 [m.v,vi place,vi c] (vi (mW m.ar place c)):=by
 have h:=sY hlen place c;rcases gh m.ar place with h1| ⟨i,a,h1,ha,d⟩
 .have r:mW m.ar place c=5:=by simp[mW,h1]
  rw[h1] at h;rw[r];refine amM ?_;conv=>whnf
  repeat' (first| intro g| apply ca h| refine st ?_| refine br ?_ ?_<;>intro hc| rfl) <;>conv=>whnf
  all_goals simp_all
 rcases gh m.ar c with h2| ⟨k,b,h2,hb,e⟩
 .have r:mW m.ar place c=5:=by simp[mW,h2]
  rw[h2] at h;rw[r];refine amM ?_;conv=>whnf
  repeat' (first| intro g| apply ca h| refine st ?_| refine br ?_ ?_<;>intro hc| rfl) <;>conv=>whnf
  all_goals simp_all
 have r:mW m.ar place c=y9 place c a b:=by simp[mW,h1,h2,ha,hb]
 rw[h1,h2] at h;rw[r];refine amM ?_;conv=>whnf
 repeat' (first| intro g| refine wi (aw ha rfl) ?_| refine wi (aw hb rfl) ?_| apply ca h| refine st ?_| refine br ?_ ?_<;>intro hc| rfl) <;>conv=>whnf
 all_goals (show (⟨vi _,[]⟩:fu)=_;congr 2;unfold y9;first| (simp[*];done) | (simp[*];omega) | (repeat' split) <;>first| rfl| (exfalso;simp_all;done) | (exfalso;simp_all;omega))
end
section
variable {m:aB} (hlen:m.ar.length< 1000000)
include hlen
end
theorem rB (x:Int):alH 36 [vi x] (.bool false):=by
 refine amM ?_;conv=>whnf
 repeat' (first| intro g| refine st ?_| refine br ?_ ?_<;>intro hc| rfl) <;>conv=>whnf
 all_goals simp
def jH (x y:Int):Int:=if x<y then -1 else if y<x then 1 else 0
theorem eJ (x y:Int):alH 23 [vi x,vi y] (vi (jH x y)):=by
 refine amM ?_;conv=>whnf
 repeat' (first| intro g| apply ca (rB x) | apply ca (rB y) | refine st ?_| refine br ?_ ?_<;>intro hc| rfl) <;>conv=>whnf
 all_goals simp[jH, *]
 all_goals omega
def Mw (a b:Int):Int:=if a=0 then b else a
theorem Kh (a b:Int):alH 22 [.lit 1 [vi a,vi b]] (vi (Mw a b)):=by
 refine amM ?_;conv=>whnf
 repeat' (first| intro g| refine st ?_| refine br ?_ ?_<;>intro hc| rfl) <;>conv=>whnf
 refine aO.by (fun i:Nat=> ⟨[(3,vi 0),(6,.lit 1 [vi a,vi b]),(7,au 2),(8,au i)],[]⟩) (fun i=>i<=2/\(1<=i->a=0)/\(2<=i->b=0)) (fun i=>2 - i) 0 ?_ ?_ ?_
 .exact su
 .simp
 rintro i ⟨hi,h1,h2⟩;rcases(by omega:i=0\/i=1\/i=2) with rfl| rfl| rfl
 .conv=>whnf
  repeat' (first| intro g| refine st ?_| refine br ?_ ?_<;>intro hc| rfl) <;>conv=>whnf
  .simp[Mw,hc]
  refine aR.mk (1) om ?_ su;exact⟨ajk,fun _=>by simpa using hc,fun h=>ajk⟩
 .have ha:=h1 ajk;conv=>whnf
  repeat' (first| intro g| refine st ?_| refine br ?_ ?_<;>intro hc| rfl) <;>conv=>whnf
  .simp[Mw,ha]
  refine aR.mk (2) om ?_ su;exact⟨ajk,fun _=>ha,fun _=>by simpa using hc⟩
 have ha:=h1 ajk;have hb:=h2 ajk;conv=>whnf
 repeat' (first| intro g| refine st ?_| refine br ?_ ?_<;>intro hc| rfl) <;>conv=>whnf
 all_goals simp[Mw,ha,hb]
def IsSqrt (n s:Int):Prop:=0<=s/\s*s<=n/\n< (s+1)*(s+1)
theorem jS {a b:Int} (h0:0<=a) (h:a<=b):a*a<=b*b:=Int.mul_le_mul h h h0 ajk
theorem IsSqrt.uniq {n s t:Int} (h:IsSqrt n s) (k:IsSqrt n t):s=t:=by
 obtain⟨h1,h2,h3⟩:=h;obtain⟨c,d,e⟩:=k;rcases Int.lt_trichotomy s t with hl| hl| hl
 .have:=jS (a:=s+1) (b:=t) ajk ajk;omega
 .exact hl
 have:=jS (a:=t+1) (b:=s) ajk ajk;omega
open Classical in
noncomputable def mX (n:Int):Int:=if h: ∃s,IsSqrt n s then h.choose else 0
theorem mY {n s:Int} (h:IsSqrt n s):mX n=s:=by have a: ∃s,IsSqrt n s:=⟨s,h⟩;unfold mX;rw[dif_pos a];exact a.choose_spec.uniq h
theorem xX {n:Int} (h:n<=0):mX n=0:=by
 by_cases a:n=0
 .subst a;exact mY ⟨ajk,ajk,ajk⟩
 unfold mX;rw[dif_neg];rintro⟨s,h1,h2,h3⟩;have:=akT h1 h1;omega
theorem rC {b r:Nat} (h:FloatKind.f64.format.sqrt b=some r):alH 41 [.float b] (.float r):=by have QW:alH 52 [.float b] (.float r):=Ev.ext (by rw[adj];simp[DE,h]);refine amM ?_;exact dr
theorem Aj {n:Int} (h1:n<=9223372036854775807):alH 27 [vi n] (vi (mX n)):=by
 by_cases h0:0 <n
 case neg=>
  rw[xX ajk];refine amM ?_;conv=>whnf
  repeat' (first| intro g| refine st ?_| refine br ?_ ?_<;>intro hc| rfl) <;>conv=>whnf
  all_goals trivial
 obtain⟨r,m,hr,hm,Mx,i⟩:=Ht h0 h1;have j:IntKind.i64.min<=m:=by simp[IntKind.min,IntKind.signed,IntKind.bits];omega
 have k:m<=IntKind.i64.max:=by simp[IntKind.max,IntKind.signed,IntKind.bits];omega
 refine amM ?_;conv=>whnf
 repeat' (first| intro g| refine wi ((⟨hm,j,k⟩:_/\_/\_)) ?_| apply ca (rC hr) | refine st ?_| refine br ?_ ?_<;>intro hc| rfl) <;>conv=>whnf
 generalize f: (if 3037000499 <m then(3037000499:Int) else m)=s0;have Bj:0<=s0/\s0<=3037000499:=by split at f<;>omega
 refine aO.by (fun s:Int=> ⟨[(0,vi n),(3,vi s)],[]⟩) (fun s=>0<=s/\s<=3037000499) (fun s=>s.toNat) s0 ?_ Bj ?_
 .exact su
 rintro s ⟨c,e⟩;have QW:=jS c e;have QX:0<=s*s:=akT c c;have hw:IntKind.i64.wrap (s*s)=s*s:=bo ajk ajk;conv=>whnf
 repeat' (first| intro g| refine st ?_| refine br ?_ ?_<;>intro hc| rfl) <;>conv=>whnf
 .rw[hw] at hc;have:0 <s:=by
   rcases Int.lt_or_le 0 s with h| h
   .exact h
   have:s=0:=ajk;subst this;omega
  refine aR.mk (s - 1) om ?_ su;exact⟨ajk,ajk⟩
 rw[hw] at hc;refine aO.by (fun s:Int=> ⟨[(0,vi n),(3,vi s)],[]⟩) (fun s=>0<=s/\s<=3037000499/\s*s<=n) (fun s=> (3037000499 - s).toNat) s ?_ ⟨c,e,ajk⟩ ?_
 .exact su
 clear hw QW QX hc c e s;rintro s ⟨c,e,d⟩;by_cases l:s< 3037000499
 .have QW:=jS (a:=s+1) (b:=3037000499) ajk ajk;have QX:0<=(s+1)*(s+1):=akT ajk ajk;have Fu:IntKind.i64.wrap (s+1)=s+1:=bo ajk ajk;have hw:IntKind.i64.wrap ((s+1)*(s+1))=(s+1)*(s+1):=bo ajk ajk;conv=>whnf
  repeat' (first| intro g| refine st ?_| refine br ?_ ?_<;>intro hc| rfl) <;>conv=>whnf
  .rw[Fu,hw] at hc;refine aR.mk (s+1) om ?_ su;exact⟨ajk,ajk,hc⟩
  rw[Fu,hw] at hc;rw[mY ⟨c,d,ajk⟩]
 conv=>whnf
 repeat' (first| intro g| refine st ?_| refine br ?_ ?_<;>intro hc| rfl) <;>conv=>whnf
 have:=jS (a:=3037000500) (b:=s+1) ajk ajk;rw[mY ⟨c,d,ajk⟩]
def sqV (ax ay a b_y:Int):Int:=kb (kb (kb (ax - a)*kb (ax - a))+kb (kb (ay - b_y)*kb (ay - b_y)))
theorem My (n:Int):IntKind.i64.wrap n<=9223372036854775807:=by simp[IntKind.wrap,IntKind.bits,IntKind.signed];split<;>omega
theorem xY (a b:Pt):alH 37 [a.v,b.v] ((Pt.mk (kb (a.x - b.x)) (kb (a.y - b.y))).v):=by refine amM ?_;exact dr
theorem QY (a b:Pt):alH 38 [a.v,b.v] (vi (kb (kb (a.x*b.x)+kb (a.y*b.y)))):=by refine amM ?_;exact dr
theorem xZ (a b:Pt):alH 24 [a.v,b.v] (vi (sqV a.x a.y b.x b.y)):=by
 refine amM ?_;conv=>whnf
 repeat' (first| intro g| apply ca (xY a b) | apply ca (QY _ _) | refine st ?_| refine br ?_ ?_<;>intro hc| rfl) <;>conv=>whnf
def aI.at_ (p:aI):Pt:=⟨p.x,p.y⟩
def sqP (a b:aI):Int:=sqV a.x a.y b.x b.y
noncomputable def QZ (a b:aI):Int:=kb ((mX (sqP a b)).tdiv 4)
noncomputable def ll (ps:List aI) (place c:Int):Int:=
 match ps[(fq ps place).toNat]?,ps[(fq ps c).toNat]? with
 | some a,some b=>if 0<=fq ps place/\0<=fq ps c then QZ a b else 0
 | _,_=>0
section
variable {m:aB} (hlen:m.ar.length< 1000000)
include hlen
theorem mj (place c:Int):alH 12 [m.v,vi place,vi c] (vi (ll m.ar place c)):=by
 have h:=sY hlen place c;rcases gh m.ar place with h1| ⟨i,a,h1,ha,d⟩
 .have r:ll m.ar place c=0:=by simp[ll,h1];split<;>rfl
  rw[h1] at h;rw[r];refine amM ?_;conv=>whnf
  repeat' (first| intro g| apply ca h| refine st ?_| refine br ?_ ?_<;>intro hc| rfl) <;>conv=>whnf
  all_goals simp_all
 rcases gh m.ar c with h2| ⟨k,b,h2,hb,e⟩
 .have r:ll m.ar place c=0:=by simp[ll,h2];split<;>rfl
  rw[h2] at h;rw[r];refine amM ?_;conv=>whnf
  repeat' (first| intro g| apply ca h| refine st ?_| refine br ?_ ?_<;>intro hc| rfl) <;>conv=>whnf
  all_goals simp_all
 have r:ll m.ar place c=QZ a b:=by simp[ll,h1,h2,ha,hb]
 rw[h1,h2] at h;rw[r];refine amM ?_;conv=>whnf
 repeat' (first| intro g| refine wi (aw ha rfl) ?_| refine wi (aw hb rfl) ?_| apply ca h| apply ca (xZ a.at_ b.at_) | apply ca (Aj (My _)) | refine st ?_| refine br ?_ ?_<;>intro hc| rfl) <;>conv=>whnf
 all_goals simp_all
end
def Ak (p a b:aI):Int:=Mw (jH (sqP p a) (sqP p b)) (jH a.id b.id)
theorem Ki (p a b:aI):alH 21 [a.v,b.v,.eptr p.v 0] (vi (Ak p a b)):=by
 refine amM ?_;conv=>whnf
 repeat' (first| intro g| apply ca (xZ p.at_ a.at_) | apply ca (xZ p.at_ b.at_) | apply ca (eJ _ _) | apply ca (Kh _ _) | refine st ?_| refine br ?_ ?_<;>intro hc| rfl) <;>conv=>whnf
def Hu {α:Type} (c:α->α->Int) (l:List α) (x:α):α:=l.foldl (fun m y=>if c y m< 0 then y else m) x
theorem Kj {l:List aI} {x0:aI} (hlen:l.length< 1000000) {g':Nat} {caps:List V} (hc:V.al caps=true) (hm:bu E g'=[]) {c:aI->aI->Int}
  (hp: ∀a b,Ev E g' (a.v::b.v::caps) ⟨vi (c a b),[]⟩):alH 35 [.lit 7 ((x0::l).map aI.v),.fn g' caps] ((Hu c l x0).v):=by
 refine amM ?_;conv=>whnf
 repeat' (first| intro g| refine st ?_| refine br ?_ ?_<;>intro hc| rfl) <;>conv=>whnf
 rename_i d;refine aO.by (fun (p:Nat×aI)=> ⟨[(0,.lit 7 ((x0::l).map aI.v)),(1,.fn g' caps),(4,.ptr 80 d 0 0),(5,.ptr 96 g 0 0),(6,au (p.1+1))],
   [(96,⟨g,7,false,false,some [p.2.v]⟩),(80,⟨d,7,false,false,some [(aI.mk 0 0 0 [] [] 0 0).v]⟩)]⟩)
  (fun p=>p.1<=l.length/\p.2=Hu c (l.take p.1) x0) (fun p=>l.length - p.1) (0,x0) ?_ ?_ ?_
 .exact su
 .simp[Hu]
 rintro⟨i,y⟩ ⟨hi,hy⟩;dsimp only at hi hy;conv=>whnf
 repeat' (first| intro g| refine wi (aw (l:=x0::l) (aM (i:=i+1) (by simp only[ajC];omega)) rfl) ?_| refine sf (hp _ _) ?_| refine st ?_| refine br ?_ ?_<;>intro hc| rfl) <;>conv=>whnf
 .have e: (x0::l)[i+1]'(by simp only[ajC];omega)=l[i]' ajk:=rfl;refine aR.mk (i+1,l[i]' ajk) om ⟨om,?_⟩ su;have:i<l.length:=ajk;rw[List.take_succ_eq_append_getElem this,Hu,List.foldl_append,List.foldl_cons,List.foldl_nil];rw[e,hy] at hc;exact(if_pos hc).symm
 .have e: (x0::l)[i+1]'(by simp only[ajC];omega)=l[i]' ajk:=rfl;refine aR.mk (i+1,y) om ⟨om,?_⟩ su;have:i<l.length:=ajk;rw[List.take_succ_eq_append_getElem this,Hu,List.foldl_append,List.foldl_cons,List.foldl_nil];rw[e,hy] at hc;rw[hy];exact(if_neg hc).symm
 obtain rfl:i=l.length:=ajk;rw[akd] at hy;subst hy;rfl
theorem NP (p:aI):alH 20 [.lit 7 [],.fn 21 [.eptr p.v 0]] (.tuple [(aI.mk 0 0 0 [] [] 0 0).v,.bool false]):=by refine amM ?_;exact dr
theorem Q0 (p:aI) {l:List aI} {x0:aI} (hlen:l.length< 1000000):alH 20 [.lit 7 ((x0::l).map aI.v),.fn 21 [.eptr p.v 0]] (.tuple [(Hu (Ak p) l x0).v,.bool true]):=by have h:=Kj hlen (g':=21) (caps:=[.eptr p.v 0]) rfl rfl (fun a b=>Ki p a b) (x0:=x0);refine amM ?_;exact dr
theorem alP {k g:Nat} {b:List Int->List Int->Int} (c:Go.Sort.SWO (Go.Proofs.ltOf b)) (d: ∀xs,E.ext k xs=rz 5 g b xs) (hh:E.hyb k=none) {l:List an} (h:l.length< 4611686018427387904): ∃a:List an,a.Perm l/\Ev E k [.msl 5 (l.map an.v) 0 l.length,.fn g []] ⟨.tuple [],[(0,a.map an.v)]⟩:=by obtain⟨a,h1,h2⟩:=alS (v:=an.v) (k:=5) (g:=g) (fun e=> [e.kind,e.at_,e.id,e.other,e.n]) (fun l=> ⟨l.getD 0 0,l.getD 1 0,l.getD 2 0,l.getD 3 0,l.getD 4 0⟩) (fun _=>rfl) (fun _=>rfl) (fun _=>rfl) ajm c h;exact⟨a,h1,Ev.ext ((d _).trans h2) hh⟩
theorem al7 {l:List an} (h:l.length< 4611686018427387904): ∃a:List an,a.Perm l/\Ev E 544 [.msl 5 (l.map an.v) 0 l.length,.fn 545 []] ⟨.tuple [],[(0,a.map an.v)]⟩:=alP (Av 2 4) (fun _=>rfl) rfl h
theorem al8 {l:List an} (h:l.length< 4611686018427387904): ∃a:List an,a.Perm l/\Ev E 25 [.msl 5 (l.map an.v) 0 l.length,.fn 26 []] ⟨.tuple [],[(0,a.map an.v)]⟩:=alP (XG 2) (fun _=>rfl) rfl h
def wy (ps:List aI) (p:aI) (j:Nat):Option aI:=match ps[j]? with
 | some o=>if fq ps o.id=j/\mW ps p.id o.id=0 then some o else none
 | none=>none
def qk (ps:List aI) (p:aI) (i:Nat):List aI:=(List.range i).filterMap (wy ps p)
def Fw (ps:List aI) (p:aI) (j:Nat):Option aI:=match qk ps p j with
 | []=>none
 | x::xs=>some (Hu (Ak p) xs x)
theorem Fx (ps:List aI) (p:aI) (i:Nat):qk ps p (i+1)=qk ps p i++(wy ps p i).toList:=by simp only[qk,List.range_succ,akZ];cases h:wy ps p i<;>simp[aj7,h]
theorem Hw (ps:List aI) (p:aI) (i:Nat): (qk ps p i).length<=i:=by simp only[qk];exact ajQ (alG _ _) ajl
theorem alT {α:Type} (c:α->α->Int): ∀ (l:List α) (x:α),Hu c l x ∈ x::l
 | [],x=>by simp[Hu]
 | y::l,x=>by
   have a:=alT c l (if c y x< 0 then y else x);have e:Hu c (y::l) x=Hu c l (if c y x< 0 then y else x):=rfl;rw[e];rcases ajy.1 a with h| h
   .rw[h];split<;>simp
   simp[h]
theorem alX {ps:List aI} {p o:aI} {j:Nat} (h:wy ps p j=some o):ps[j]? =some o/\fq ps o.id=j/\mW ps p.id o.id=0:=by
 unfold wy at h;split at h
 .split at h
  .rename_i hc;injection h with h;subst h;exact⟨by assumption,hc.1,hc.2⟩
  simp at h
 simp at h
theorem alY {ps:List aI} {p o:aI} {j:Nat} (h:Fw ps p j=some o): ∃i,i<j/\ps[i]? =some o/\fq ps o.id=i/\mW ps p.id o.id=0:=by
 unfold Fw at h;split at h
 .simp at h
 rename_i x xs hc;injection h with h;have:=alT (Ak p) xs x;rw[h,<-hc,qk,akw] at this;obtain⟨i,hi,h2⟩:=this;exact⟨i,by simpa using hi,alX h2⟩
noncomputable def Fy (ps:List aI) (d:Int) (j:Nat):Option an:=match ps[j]? with
 | some p=>if p.aC=d/\fq ps p.id=j then(match Fw ps p ps.length with
   | some o=>some ⟨4,if 1 <ll ps p.id o.id then ll ps p.id o.id else 1,p.id,o.id,0⟩
   | none=>none) else none
 | none=>none
noncomputable def rE (ps:List aI) (d:Int) (i:Nat):List an:=(List.range i).filterMap (Fy ps d)
theorem Hx (ps:List aI) (d:Int) (i:Nat):rE ps d (i+1)=rE ps d i++(Fy ps d i).toList:=by simp only[rE,List.range_succ,akZ];cases h:Fy ps d i<;>simp[aj7,h]
theorem Bl (ps:List aI) (d:Int) (i:Nat): (rE ps d i).length<=i:=by simp only[rE];exact ajQ (alG _ _) ajl
end Go.AM
