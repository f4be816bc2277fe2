/- Texts of the proof. -/
import Derived.Test.YtdifmldbllaeiaaGreatGae
set_option maxRecDepth 20000
set_option maxHeartbeats 4000000
set_option linter.unusedSimpArgs false
set_option linter.unusedVariables false
namespace Go.AM
theorem RG (l:List Int): (Km l).length=0↔l=[]:=by
 constructor
 .intro h;cases l with
  | nil=>rfl
  | cons a l=>
    have:0 < (eG (a::l)).length:=by rw[dW];simp
    have:=DV (eG (a::l)) _ this;unfold Km kf at h;omega
 rintro rfl;rfl
theorem wL (es:List aH) (a b:Int): (ct es a b).length=0↔es.any (cJ a b)=false:=by unfold ct;rw[RG];simp[rJ,akU]
theorem ue {es:List aH} {a b:Int} (h:es.any (cJ a b)=false): ((ct es a b).map vi).length=0:=by rw[List.length_map];exact(wL es a b).2 h
theorem fb {es:List aH} {a b:Int} (h:es.any (cJ a b)=true): ¬ ((ct es a b).map vi).length=0:=by rw[List.length_map];intro h0;rw[(wL es a b).1 h0] at h;simp at h
def rM (m:aB):Prop:=m.aA.length< 1000000/\m.ak.length< 1000000
inductive iO (m:aB) (a b:Int):Int->Prop
 | RH (h:aY m.ak a=none) (h2:aY m.ak b=none):iO m a b 5
 | RI {j g} (h:aY m.ak a=none) (h2:aY m.ak b=some j) (h3:m.ak[j]? =some g):iO m a b 5
 | RJ {i f} (h:aY m.ak a=some i) (h1:m.ak[i]? =some f) (h2:aY m.ak b=none):iO m a b 5
 | arg {i f} (h:aY m.ak a=some i) (h1:m.ak[i]? =some f) (h2:a=b):iO m a b 1
 | aC {i f j g} (h:aY m.ak a=some i) (h1:m.ak[i]? =some f) (h2:aY m.ak b=some j) (h3:m.ak[j]? =some g) (h4:a≠b) (h5:f.aC≠g.aC):iO m a b 25
 | RK {i f j g} (h:aY m.ak a=some i) (h1:m.ak[i]? =some f) (h2:aY m.ak b=some j) (h3:m.ak[j]? =some g) (h4:a≠b) (h5:f.aC=g.aC) (h6:f.aC< 1):iO m a b 25
 | Zf {i f j g} (h:aY m.ak a=some i) (h1:m.ak[i]? =some f) (h2:aY m.ak b=some j) (h3:m.ak[j]? =some g) (h4:a≠b) (h5:f.aC=g.aC) (h6: ¬f.aC< 1) (h7:m.aA.any (cJ a b)=false):iO m a b 13
 | Zg {i f j g} (h:aY m.ak a=some i) (h1:m.ak[i]? =some f) (h2:aY m.ak b=some j) (h3:m.ak[j]? =some g) (h4:a≠b) (h5:f.aC=g.aC) (h6: ¬f.aC< 1) (h7:m.aA.any (cJ a b)=true) (h8:f.name≠[]) (h9:g.name≠[]) (G2:f.name≠g.name):iO m a b 24
 | ok1 {i f j g} (h:aY m.ak a=some i) (h1:m.ak[i]? =some f) (h2:aY m.ak b=some j) (h3:m.ak[j]? =some g) (h4:a≠b) (h5:f.aC=g.aC) (h6: ¬f.aC< 1) (h7:m.aA.any (cJ a b)=true) (h8:f.name=[]):iO m a b 0
 | ok2 {i f j g} (h:aY m.ak a=some i) (h1:m.ak[i]? =some f) (h2:aY m.ak b=some j) (h3:m.ak[j]? =some g) (h4:a≠b) (h5:f.aC=g.aC) (h6: ¬f.aC< 1) (h7:m.aA.any (cJ a b)=true) (h8:f.name≠[]) (h9:g.name=[]):iO m a b 0
 | ok3 {i f j g} (h:aY m.ak a=some i) (h1:m.ak[i]? =some f) (h2:aY m.ak b=some j) (h3:m.ak[j]? =some g) (h4:a≠b) (h5:f.aC=g.aC) (h6: ¬f.aC< 1) (h7:m.aA.any (cJ a b)=true) (h8:f.name≠[]) (h9:g.name≠[]) (G2:f.name=g.name):iO m a b 0
theorem VX (m:aB) (a b:Int):iO m a b (qR m a b):=by
 unfold qR;cases h:aY m.ak a with
 | none=>
   cases h2:aY m.ak b with
   | none=>exact .RH h h2
   | some j=>obtain⟨g,hg,_⟩:=cI h2;exact .RI h h2 hg
 | some i=>
   obtain⟨f,hf,Am,_⟩:=cI h;cases h2:aY m.ak b with
   | none=>exact .RJ h hf h2
   | some j=>
     obtain⟨g,hg,_⟩:=cI h2;simp only[hf,hg,DT];by_cases h4:a=b
     .rw[if_pos h4];exact .arg h hf h4
     rw[if_neg h4];by_cases h5:f.aC=g.aC
     .by_cases h6:f.aC< 1
      .rw[if_pos (.inr h6)];exact .RK h hf h2 hg h4 h5 h6
      rw[if_neg (by rintro(h| h);exact h h5;exact h6 h)];cases h7:m.aA.any (cJ a b) with
      | false=>rw[if_pos rfl];exact .Zf h hf h2 hg h4 h5 h6 h7
      | true=>
        rw[if_neg ajl];by_cases h8:f.name=[]
        .rw[if_neg (fun h=>h.1 h8)];exact .ok1 h hf h2 hg h4 h5 h6 h7 h8
        by_cases h9:g.name=[]
        .rw[if_neg (fun h=>h.2.1 h9)];exact .ok2 h hf h2 hg h4 h5 h6 h7 h8 h9
        by_cases G2:f.name=g.name
        .rw[if_neg (fun h=>h.2.2 G2)];exact .ok3 h hf h2 hg h4 h5 h6 h7 h8 h9 G2
        rw[if_pos ⟨h8,h9,G2⟩];exact .Zg h hf h2 hg h4 h5 h6 h7 h8 h9 G2
     rw[if_pos (.inl h5)];exact .aC h hf h2 hg h4 h5
theorem BF {m:aB} {a b c:Int} (h:qR m a b=c):iO m a b c:=h ▸ VX m a b
theorem mr {k:Bool} {fs:List aP} {id:Int} (h:aY fs id=none):cZ false .nilp (bO k fs fs.length) (vi id)= .done .nilp:=
 yc _ (by rw[akd];exact h)
theorem bR {k:Bool} {fs:List aP} {id:Int} {i:Nat} {f:aP} (h:aY fs id=some i) (hf:fs[i]? =some f):cZ false .nilp (bO k fs fs.length) (vi id)= .done (FC k i f):=
 yd _ (by rw[akd];exact h) hf
abbrev amK (k:Bool) (m:aB) (a b c:Int):Prop:=alH 501 [m.kv k,.mlit (bO k m.ak m.ak.length),vi a,vi b] (vi c)
abbrev amL (m:aB) (a b:Int):Prop:=alH 495 [.lit 4 (m.aA.map aH.v),vi a,vi b] (.own 1 ((ct m.aA a b).map vi))
theorem amJ {p:Prop} (h:p:=by
 refine amM ?_
 (conv=>whnf);repeat' ((first| intro g| refine wi (by first| exact mr (by assumption) | exact bR (by assumption) (by assumption)) ?_| refine ca (by assumption) ?_| refine st ?_| refine br ?_ ?_<;>intro hc| rfl) <;>conv=>whnf)):p:=h
theorem alI {m:aB} {a b c:Int} (hb:amL m a b) (hc:iO m a b c) (h0:c=0):amK false m a b c:=by cases hc;all_goals first| exact absurd h0 ajm | (have d:=fb (by assumption:m.aA.any (cJ a b)=true);exact amJ)
theorem alJ {m:aB} {a b c:Int} (hb:amL m a b) (hc:iO m a b c) (h0:c=0):amK true m a b c:=by cases hc;all_goals first| exact absurd h0 ajm | (have d:=fb (by assumption:m.aA.any (cJ a b)=true);exact amJ)
theorem alK {m:aB} {a b c:Int} (hb:amL m a b) (hc:iO m a b c) (h0:c≠0):amK false m a b c:=by cases hc;all_goals first| exact absurd rfl h0| (have d:=ue (by assumption:m.aA.any (cJ a b)=false);exact amJ) | (have d:=fb (by assumption:m.aA.any (cJ a b)=true);exact amJ) | (rename_i e;subst e;exact amJ) | exact amJ
theorem alL {m:aB} {a b c:Int} (hb:amL m a b) (hc:iO m a b c) (h0:c≠0):amK true m a b c:=by cases hc;all_goals first| exact absurd rfl h0| (have d:=ue (by assumption:m.aA.any (cJ a b)=false);exact amJ) | (have d:=fb (by assumption:m.aA.any (cJ a b)=true);exact amJ) | (rename_i e;subst e;exact amJ) | exact amJ
theorem FN (k:Bool) {m:aB} (hs:rM m) (a b:Int):alH 501 [m.kv k,.mlit (bO k m.ak m.ak.length),vi a,vi b] (vi (qR m a b)):=by
 have hb:=Kn hs.1 a b;generalize hr:qR m a b=r;have hc:=BF hr;clear hr hs;by_cases h0:r=0
 .cases k
  .exact alI hb hc h0
  exact alJ hb hc h0
 cases k
 .exact alK hb hc h0
 exact alL hb hc h0
theorem aB.wM (k:Bool) (m:aB): (m.kv k).az=true:=by cases k<;>simp only[aB.kv,FD,V.az,V.al,aH.aV,aP.aV,bH.aV,aI.aV,akh]
theorem FO {m:aB} (hs:rM m) (a b:Int):alH 487 [m.v,vi a,vi b] (vi (qR m a b)):=by
 have h1:=wK false hs.2;have h2:=FN false hs a b;have U5:=mq false m.ak m.ak.length;have Mx:bu E 500=[]:=rfl;have c:bu E 501=[]:=rfl;have Ow:V.al [m.v]=true:=by have h0:V.az m.v=true:=aB.wM false m;simp only[V.al,h0];rfl
 have VY:V.al [m.v,.mlit (bO false m.ak m.ak.length),vi a,vi b]=true:=by have h0:V.az m.v=true:=aB.wM false m;simp only[V.al,U5,h0];rfl
 refine amM ?_;conv=>whnf
 repeat' (first| refine gY Mx Ow h1 U5 ?_| refine gY c VY h2 rfl ?_| intro g| refine st ?_| refine br ?_ ?_<;>intro hc| rfl) <;>conv=>whnf
structure ads (m:aB):Prop where
 e:m.aA.length< 1000
 f:m.ak.length< 1000
 w:m.aF.length< 1000
 p:m.ar.length< 1000
 el: ∀e ∈ m.aA,e.line.length< 1000
 wl: ∀w ∈ m.aF,w.line.length< 1000
def dH (a b x:Int):Int:=if x=a then b else x
theorem jV (a b x:Int):alH 502 [vi x,.eptr (vi a) 0,.eptr (vi b) 0] (vi (dH a b x)):=by
 unfold dH;refine amM ?_;conv=>whnf
 repeat' (first| intro g| refine st ?_| refine br ?_ ?_<;>intro hc| rfl) <;>conv=>whnf
 .rw[if_pos hc]
 rw[if_neg hc]
def gr (a b:Int) (e:aH):aH:=⟨e.id,e.line,dH a b e.left,dH a b e.right⟩
def ek (es:List aH) (a b:Int):Nat->List aH
 | 0=> []
 | n+1=>match es[n]? with
   | some e=>if cJ a b e then ek es a b n else ek es a b n++[gr a b e]
   | none=>ek es a b n
def uf (x f:aP):aP:=⟨x.id,x.cls,U1 x.name f.name,if 255 <kb (x.weight+f.weight) then 255 else kb (x.weight+f.weight),x.aC⟩
def dz (fs:List aP) (i j:Nat) (f:aP):Nat->List aP
 | 0=> []
 | n+1=>match fs[n]? with
   | some x=>if n=i then dz fs i j f n else if n=j then dz fs i j f n++[uf x f] else dz fs i j f n++[x]
   | none=>dz fs i j f n
theorem qm (es:List aH) (a b:Int): ∀n,(ek es a b n).length<=n
 | 0=>ajw _
 | n+1=>by
   have:=qm es a b n;unfold ek;split
   .split
    .omega
    simp;omega
   omega
theorem nc (fs:List aP) (i j:Nat) (f:aP): ∀n,(dz fs i j f n).length<=n
 | 0=>ajw _
 | n+1=>by
   have:=nc fs i j f n;unfold dz;split
   .split
    .omega
    split<;> (simp;omega)
   omega
theorem BG {a b:Int} (h:a≠b) (e:aH):cJ a b e=decide (dH a b e.left=b/\dH a b e.right=b/\e.left≠e.right):=by unfold cJ dH;rw[decide_eq_decide];by_cases h1:e.left=a<;>by_cases h2:e.right=a<;>by_cases h3:e.left=b<;>by_cases h4:e.right=b<;>simp_all
theorem gL {α:Type} {f:α->V} (h: ∀x,(f x).erase=f x): ∀l:List α,V.erases (l.map f)=l.map f
 | []=>rfl
 | x::l=>by simp only[List.map_cons,V.erases,h x,gL h l]
theorem Pt.er (p:Pt):p.v.erase=p.v:=rfl
theorem aH.er (e:aH):e.v.erase=e.v:=by simp only[aH.v,iW,V.erase,V.erases,vi,gL Pt.er]
theorem aP.er (e:aP):e.v.erase=e.v:=rfl
theorem bH.er (e:bH):e.v.erase=e.v:=by simp only[bH.v,iW,V.erase,V.erases,vi,gL Pt.er]
theorem aI.er (e:aI):e.v.erase=e.v:=rfl
theorem RL (m:aB) (a b:Int):cR (0,1) [m.v,vi a,vi b]=[m.kv true,vi a,vi b]:=by simp only[cR,V.erases,V.erase,aB.v,vi,gL aH.er,gL aP.er,gL bH.er,gL aI.er];rfl
def oL (sz:Nat):List V->V
 | []=> .lit sz []
 | x::l=> .own sz (x::l)
theorem X3 {α:Type} {f:α->V} (h: ∀x,(f x).erase=f x) (sz:Nat) (l:List α): (oL sz (l.map f)).erase=oL sz (l.map f):=by
 cases l with
 | nil=>rfl
 | cons x l=>simp only[List.map_cons,oL,V.erase,V.erases,h x,gL h]
def KG (m:aB) (es:List aH) (fs:List aP):V:= .tuple [.agg [oL 4 (es.map aH.v),.own 5 (fs.map aP.v),oL 8 (m.aF.map bH.v),.own 7 (m.ar.map aI.v)],vi 0]
theorem VZ (m:aB) (es:List aH) (fs:List aP): (KG m es fs).erase=KG m es fs:=by simp only[KG,V.erase,V.erases,vi,X3 aH.er,X3 bH.er,gL aP.er,gL aI.er]
structure RM where
 g3:Nat
 g4:Nat
 g5:Nat
 g6:Nat
 gP:Nat
 g10:Nat
abbrev C9 (G:RM) (M:V) (x:List (Nat×V)):List (Nat×V):=(3,.ptr 64 G.g3 0 0):: (4,.ptr 80 G.g4 0 0):: (5,.ptr 96 G.g5 0 0):: (6,.ptr 112 G.g6 0 0):: (8,M):: (10,.ptr 176 G.g10 0 0)::x
abbrev Da (G:RM) (m:aB) (a b:Int) (E' F W:V) (x:List (Nat×Obj)):List (Nat×Obj):=
 (64,⟨G.g3,4,false,false,some [m.kv true]⟩):: (80,⟨G.g4,1,false,false,some [vi a]⟩):: (96,⟨G.g5,1,false,false,some [vi b]⟩):: (112,⟨G.g6,4,false,false,some [aB.zero.v]⟩)::
 (576,⟨G.gP,7,true,false,some (m.ar.map aI.v)⟩):: (176,⟨G.g10,4,false,false,some [.agg [E',F,W,.sl 576 G.gP 0 (m.ar.map aI.v).length]]⟩)::x
abbrev lV (r:Nat) (a:Option Nat) (n:Nat):V:=match a with
 | none=> .nils
 | some g=> .sl r g 0 n
abbrev lR (r sz:Nat) (a:Option Nat) (l:List V):List (Nat×Obj):=match a with
 | none=> []
 | some g=> [(r,⟨g,sz,true,false,some l⟩)]
theorem ahA {m:aB} {a b:Int} {G:RM} {M:V} {n k:Nat} {c:Option Nat} {x:bH} {ws:List V} {L:List bH} {Q:aW->SS->Prop} (hx:ws[k]? =some x.v) (hn:ws.length=n) (h:k<n) (hb:n< 1000) (i:L.length=k) (f:c=none->L=[])
   (d:alH 32 [iW x.line] (.own 2 (x.line.map Pt.v)))
   (e: ∀T' O' g',SS.Sub ⟨C9 G M [(38,.lit 8 ws),(39,au n),(40,au (k+1))],Da G m a b .nils .nils (.sl 180 g' 0 (L++[x]).length) [(180,⟨g',8,true,false,some ((L++[x]).map bH.v)⟩)]⟩ ⟨T',O'⟩->Q .normal ⟨T',O'⟩):
   mf E VE ⟨C9 G M [(38,.lit 8 ws),(39,au n),(40,au k)],Da G m a b .nils .nils (lV 180 c L.length) (lR 180 8 c (L.map bH.v))⟩ Q:=by
 cases c with
 | none=>
   have:=f rfl;subst this;conv=>whnf
   repeat' (first| intro g| refine wi hx ?_| apply ca d| refine st ?_| refine br ?_ ?_<;>intro hc| rfl) <;>conv=>whnf
   exact e _ _ _ su
 | some j=>
   conv=>whnf
   repeat' (first| intro g| refine wi hx ?_| apply ca d| refine st ?_| refine br ?_ ?_<;>intro hc| rfl) <;>conv=>whnf
   exact e _ _ _ su
theorem Zh {m:aB} {a b:Int} {G:RM} {M:V} {n k d:Nat} {c ow:Option Nat} {e:aH} {es ws:List V} {L:List aH} {Q:aW->SS->Prop} (hx:es[k]? =some e.v) (hn:es.length=n) (h:k<n) (hb:n< 1000) (i:L.length<=k)
  (h1:dH a b e.left=b) (h2:dH a b e.right=b) (h3: ¬e.left=e.right) (hl:alH 502 [vi e.left,.eptr (vi a) 0,.eptr (vi b) 0] (vi (dH a b e.left))) (hr:alH 502 [vi e.right,.eptr (vi a) 0,.eptr (vi b) 0] (vi (dH a b e.right)))
  (f: ∀T' O',SS.Sub ⟨C9 G M [(13,.fn 502 [.ptr 80 G.g4 0 0,.ptr 96 G.g5 0 0]),(57,.lit 4 es),(58,au n),(59,au (k+1))],Da G m a b (lV 178 c L.length) .nils (lV 180 ow d) (lR 178 4 c (L.map aH.v)++lR 180 8 ow ws)⟩ ⟨T',O'⟩->Q .normal ⟨T',O'⟩):
  mf E wg ⟨C9 G M [(13,.fn 502 [.ptr 80 G.g4 0 0,.ptr 96 G.g5 0 0]),(57,.lit 4 es),(58,au n),(59,au k)],Da G m a b (lV 178 c L.length) .nils (lV 180 ow d) (lR 178 4 c (L.map aH.v)++lR 180 8 ow ws)⟩ Q:=by
 rw[h1] at hl;rw[h2] at hr;cases c<;>cases ow
 all_goals
  conv=>whnf
  repeat' (first| intro g| refine wi hx ?_| apply ca hl| apply ca hr| refine st ?_| refine br ?_ ?_<;>intro hc| rfl) <;>conv=>whnf
  exact f _ _ su
theorem adt {m:aB} {a b:Int} {G:RM} {M:V} {n k d:Nat} {c ow:Option Nat} {e:aH} {es ws:List V} {L:List aH} {Q:aW->SS->Prop} (hx:es[k]? =some e.v) (hn:es.length=n) (j:k<n) (hb:n< 1000) (l:L.length<=k) (h:c=none->L=[])
  (i:alH 32 [iW e.line] (.own 2 (e.line.map Pt.v))) (hl:alH 502 [vi e.left,.eptr (vi a) 0,.eptr (vi b) 0] (vi (dH a b e.left))) (hr:alH 502 [vi e.right,.eptr (vi a) 0,.eptr (vi b) 0] (vi (dH a b e.right)))
  (h1:dH a b e.left=b) (h2:dH a b e.right=b) (h3:e.left=e.right)
  (f: ∀T' O' g',SS.Sub ⟨C9 G M [(13,.fn 502 [.ptr 80 G.g4 0 0,.ptr 96 G.g5 0 0]),(57,.lit 4 es),(58,au n),(59,au (k+1))],Da G m a b (.sl 178 g' 0 (L++[gr a b e]).length) .nils (lV 180 ow d) ([(178,⟨g',4,true,false,some ((L++[gr a b e]).map aH.v)⟩)]++lR 180 8 ow ws)⟩ ⟨T',O'⟩->Q .normal ⟨T',O'⟩):
  mf E wg ⟨C9 G M [(13,.fn 502 [.ptr 80 G.g4 0 0,.ptr 96 G.g5 0 0]),(57,.lit 4 es),(58,au n),(59,au k)],Da G m a b (lV 178 c L.length) .nils (lV 180 ow d) (lR 178 4 c (L.map aH.v)++lR 180 8 ow ws)⟩ Q:=by
 rw[h1] at hl;rw[h2] at hr;have FP:gr a b e=⟨e.id,e.line,b,b⟩:=by simp only[gr,h1,h2]
 rw[FP] at f;clear FP;clear h1 h2;cases c<;>cases ow
 all_goals
  try (have:=h rfl;subst this)
  conv=>whnf
  repeat' (first| intro g| refine wi hx ?_| apply ca hl| apply ca hr| apply ca i| refine st ?_| refine br ?_ ?_<;>intro hc| rfl) <;>conv=>whnf
  exact f _ _ _ su
theorem adu {m:aB} {a b:Int} {G:RM} {M:V} {n k d:Nat} {c ow:Option Nat} {e:aH} {es ws:List V} {L:List aH} {Q:aW->SS->Prop} (hx:es[k]? =some e.v) (hn:es.length=n) (j:k<n) (hb:n< 1000) (l:L.length<=k) (h:c=none->L=[])
  (i:alH 32 [iW e.line] (.own 2 (e.line.map Pt.v))) (hl:alH 502 [vi e.left,.eptr (vi a) 0,.eptr (vi b) 0] (vi (dH a b e.left))) (hr:alH 502 [vi e.right,.eptr (vi a) 0,.eptr (vi b) 0] (vi (dH a b e.right)))
  (h1:dH a b e.left=b) (h2: ¬dH a b e.right=b)
  (f: ∀T' O' g',SS.Sub ⟨C9 G M [(13,.fn 502 [.ptr 80 G.g4 0 0,.ptr 96 G.g5 0 0]),(57,.lit 4 es),(58,au n),(59,au (k+1))],Da G m a b (.sl 178 g' 0 (L++[gr a b e]).length) .nils (lV 180 ow d) ([(178,⟨g',4,true,false,some ((L++[gr a b e]).map aH.v)⟩)]++lR 180 8 ow ws)⟩ ⟨T',O'⟩->Q .normal ⟨T',O'⟩):
  mf E wg ⟨C9 G M [(13,.fn 502 [.ptr 80 G.g4 0 0,.ptr 96 G.g5 0 0]),(57,.lit 4 es),(58,au n),(59,au k)],Da G m a b (lV 178 c L.length) .nils (lV 180 ow d) (lR 178 4 c (L.map aH.v)++lR 180 8 ow ws)⟩ Q:=by
 rw[h1] at hl;have FP:gr a b e=⟨e.id,e.line,b,dH a b e.right⟩:=by simp only[gr,h1]
 rw[FP] at f;clear FP;generalize dH a b e.right=r at*;clear h1;cases c<;>cases ow
 all_goals
  try (have:=h rfl;subst this)
  conv=>whnf
  repeat' (first| intro g| refine wi hx ?_| apply ca hl| apply ca hr| apply ca i| refine st ?_| refine br ?_ ?_<;>intro hc| rfl) <;>conv=>whnf
  exact f _ _ _ su
theorem adv {m:aB} {a b:Int} {G:RM} {M:V} {n k d:Nat} {c ow:Option Nat} {e:aH} {es ws:List V} {L:List aH} {Q:aW->SS->Prop} (hx:es[k]? =some e.v) (hn:es.length=n) (j:k<n) (hb:n< 1000) (o:L.length<=k) (h:c=none->L=[])
  (i:alH 32 [iW e.line] (.own 2 (e.line.map Pt.v))) (hl:alH 502 [vi e.left,.eptr (vi a) 0,.eptr (vi b) 0] (vi (dH a b e.left))) (hr:alH 502 [vi e.right,.eptr (vi a) 0,.eptr (vi b) 0] (vi (dH a b e.right)))
  (h1: ¬dH a b e.left=b)
  (f: ∀T' O' g',SS.Sub ⟨C9 G M [(13,.fn 502 [.ptr 80 G.g4 0 0,.ptr 96 G.g5 0 0]),(57,.lit 4 es),(58,au n),(59,au (k+1))],Da G m a b (.sl 178 g' 0 (L++[gr a b e]).length) .nils (lV 180 ow d) ([(178,⟨g',4,true,false,some ((L++[gr a b e]).map aH.v)⟩)]++lR 180 8 ow ws)⟩ ⟨T',O'⟩->Q .normal ⟨T',O'⟩):
  mf E wg ⟨C9 G M [(13,.fn 502 [.ptr 80 G.g4 0 0,.ptr 96 G.g5 0 0]),(57,.lit 4 es),(58,au n),(59,au k)],Da G m a b (lV 178 c L.length) .nils (lV 180 ow d) (lR 178 4 c (L.map aH.v)++lR 180 8 ow ws)⟩ Q:=by
 have FP:gr a b e=⟨e.id,e.line,dH a b e.left,dH a b e.right⟩:=rfl;rw[FP] at f;clear FP;generalize dH a b e.left=l at*;generalize dH a b e.right=r at*;cases c<;>cases ow
 all_goals
  try (have:=h rfl;subst this)
  conv=>whnf
  repeat' (first| intro g| refine wi hx ?_| apply ca hl| apply ca hr| apply ca i| refine st ?_| refine br ?_ ?_<;>intro hc| rfl) <;>conv=>whnf
  exact f _ _ _ su
theorem V0 {m:aB} {a b:Int} {G:RM} {M:V} {n k j:Nat} {c ow:Option Nat} {e:aH} {es ws:List V} {L:List aH} {Q:aW->SS->Prop} (hx:es[k]? =some e.v) (hn:es.length=n) (d:k<n) (hb:n< 1000) (f:L.length<=k) (g:c=none->L=[])
  (h:alH 32 [iW e.line] (.own 2 (e.line.map Pt.v))) (hl:alH 502 [vi e.left,.eptr (vi a) 0,.eptr (vi b) 0] (vi (dH a b e.left))) (hr:alH 502 [vi e.right,.eptr (vi a) 0,.eptr (vi b) 0] (vi (dH a b e.right))) (C8:a≠b) (ht:cJ a b e=false)
  (i: ∀T' O' g',SS.Sub ⟨C9 G M [(13,.fn 502 [.ptr 80 G.g4 0 0,.ptr 96 G.g5 0 0]),(57,.lit 4 es),(58,au n),(59,au (k+1))],Da G m a b (.sl 178 g' 0 (L++[gr a b e]).length) .nils (lV 180 ow j) ([(178,⟨g',4,true,false,some ((L++[gr a b e]).map aH.v)⟩)]++lR 180 8 ow ws)⟩ ⟨T',O'⟩->Q .normal ⟨T',O'⟩):
  mf E wg ⟨C9 G M [(13,.fn 502 [.ptr 80 G.g4 0 0,.ptr 96 G.g5 0 0]),(57,.lit 4 es),(58,au n),(59,au k)],Da G m a b (lV 178 c L.length) .nils (lV 180 ow j) (lR 178 4 c (L.map aH.v)++lR 180 8 ow ws)⟩ Q:=by
 rw[BG C8] at ht;by_cases h1:dH a b e.left=b
 .by_cases h2:dH a b e.right=b
  .by_cases h3:e.left=e.right
   .exact adt hx hn d hb f g h hl hr h1 h2 h3 i
   simp[h1,h2,h3] at ht
  exact adu hx hn d hb f g h hl hr h1 h2 i
 exact adv hx hn d hb f g h hl hr h1 i
theorem RO {m:aB} {a b:Int} {G:RM} {M:V} {n k i j ne e:Nat} {f g x:aP} {c d ow:Option Nat} {es ws:List V} {L:List aP} {Q:aW->SS->Prop} (hx: (m.ak.map aP.v)[k]? =some x.v) (hn:m.ak.length=n) (l:k<n) (hb:n< 1000) (o:L.length<=k) (p:c=none->L=[]) (h1:k=i)
  (h: ∀T' O',SS.Sub ⟨C9 G M [(18,.epk i 5 f.v 0),(19,.epk j 5 g.v 0),(109,au n),(110,au (k+1))],Da G m a b (lV 178 d ne) (lV 179 c L.length) (lV 180 ow e) (lR 179 5 c (L.map aP.v)++lR 178 4 d es++lR 180 8 ow ws)⟩ ⟨T',O'⟩->Q .normal ⟨T',O'⟩):
  mf E Fk ⟨C9 G M [(18,.epk i 5 f.v 0),(19,.epk j 5 g.v 0),(109,au n),(110,au k)],Da G m a b (lV 178 d ne) (lV 179 c L.length) (lV 180 ow e) (lR 179 5 c (L.map aP.v)++lR 178 4 d es++lR 180 8 ow ws)⟩ Q:=by
 subst h1;have Ap: (((k:Int).toNat==k) !=false)=true:=ajl;cases c<;>cases d<;>cases ow
 all_goals
  conv=>whnf
  repeat' (first| intro g| refine wi hx ?_| refine st ?_| refine br ?_ ?_<;>intro hc| rfl) <;>conv=>whnf
  exact h _ _ su
theorem RP {m:aB} {a b:Int} {G:RM} {M:V} {n k i j ne e:Nat} {f g x:aP} {d c ow:Option Nat} {es ws:List V} {L:List aP} {Q:aW->SS->Prop} (hx: (m.ak.map aP.v)[k]? =some x.v) (hn:m.ak.length=n) (o:k<n) (hb:n< 1000) (p:L.length<=k) (h:d=none->L=[]) (h1: ¬k=i) (h2: ¬k=j)
  (l: ∀T' O' g',SS.Sub ⟨C9 G M [(18,.epk i 5 f.v 0),(19,.epk j 5 g.v 0),(109,au n),(110,au (k+1))],Da G m a b (lV 178 c ne) (.sl 179 g' 0 (L++[x]).length) (lV 180 ow e) ([(179,⟨g',5,true,false,some ((L++[x]).map aP.v)⟩)]++lR 178 4 c es++lR 180 8 ow ws)⟩ ⟨T',O'⟩->Q .normal ⟨T',O'⟩):
  mf E Fk ⟨C9 G M [(18,.epk i 5 f.v 0),(19,.epk j 5 g.v 0),(109,au n),(110,au k)],Da G m a b (lV 178 c ne) (lV 179 d L.length) (lV 180 ow e) (lR 179 5 d (L.map aP.v)++lR 178 4 c es++lR 180 8 ow ws)⟩ Q:=by
 have Ap: (((k:Int).toNat==i) !=false)=false:=by simpa using h1
 have q: (((k:Int).toNat==j) !=false)=false:=by simpa using h2
 cases d<;>cases c<;>cases ow
 all_goals
  try (have:=h rfl;subst this)
  conv=>whnf
  repeat' (first| intro g| refine wi hx ?_| refine st ?_| refine br ?_ ?_<;>intro hc| rfl) <;>conv=>whnf
  exact l _ _ _ su
theorem RQ {m:aB} {a b:Int} {G:RM} {M:V} {n k i j ne e:Nat} {f g x:aP} {d c ow:Option Nat} {es ws:List V} {L:List aP} {Q:aW->SS->Prop} (hx: (m.ak.map aP.v)[k]? =some x.v) (hn:m.ak.length=n) (p:k<n) (hb:n< 1000) (q:L.length<=k) (h:d=none->L=[]) (h1: ¬k=i) (h2:k=j) (l:alH 17 [.lit 1 [.str x.name,.str f.name]] (.str (U1 x.name f.name)))
  (o: ∀T' O' g',SS.Sub ⟨C9 G M [(18,.epk i 5 f.v 0),(19,.epk j 5 g.v 0),(109,au n),(110,au (k+1))],Da G m a b (lV 178 c ne) (.sl 179 g' 0 (L++[uf x f]).length) (lV 180 ow e) ([(179,⟨g',5,true,false,some ((L++[uf x f]).map aP.v)⟩)]++lR 178 4 c es++lR 180 8 ow ws)⟩ ⟨T',O'⟩->Q .normal ⟨T',O'⟩):
  mf E Fk ⟨C9 G M [(18,.epk i 5 f.v 0),(19,.epk j 5 g.v 0),(109,au n),(110,au k)],Da G m a b (lV 178 c ne) (lV 179 d L.length) (lV 180 ow e) (lR 179 5 d (L.map aP.v)++lR 178 4 c es++lR 180 8 ow ws)⟩ Q:=by
 subst h2;generalize hy:uf x f=y at*;unfold uf kb at hy;generalize U1 x.name f.name=r at*;have Ap: (((k:Int).toNat==i) !=false)=false:=by simpa using h1
 have s: (((k:Int).toNat==k) !=false)=true:=ajl;cases d<;>cases c<;>cases ow
 all_goals
  try (have:=h rfl;subst this)
  conv=>whnf
  repeat' (first| intro g| refine wi hx ?_| apply ca l| refine st ?_| refine br ?_ ?_<;>intro hc| rfl) <;>conv=>whnf
  subst hy;exact o _ _ _ su
theorem take_succ {α:Type} {l:List α} {n:Nat} {x:α} (h:l[n]? =some x):l.take (n+1)=l.take n++[x]:=by rw[aj6,h];rfl
theorem D8 {fs:List aP} {i j:Nat} {y:aP} (hy:fs[j]? =some y) (JL:i≠j) (f:aP): ∀n,j<n->dz fs i j f n≠[]
 | 0,h=>ajk
 | n+1,h=>by
   by_cases hn:n=j
   .subst hn;simp[dz,hy,akN JL]
   have a:=D8 hy JL f n ajk;cases hx:fs[n]? with
   | none=>rw[dz,hx];exact a
   | some x=>
     rw[dz,hx];by_cases hi:n=i
     .simp only[if_pos hi];exact a
     simp only[if_neg hi,if_neg hn];simp
theorem Ox {m:aB} (hs:ads m) (a b:Int) (hc:qR m a b=0) {i j:Nat} {f y:aP} (hi:aY m.ak a=some i) (u:m.ak[i]? =some f) (D:aY m.ak b=some j) (o:m.ak[j]? =some y) (JL:i≠j) (C8:a≠b):
  alH 485 [m.v,vi a,vi b] (KG m (ek m.aA a b m.aA.length) (dz m.ak i j f m.ak.length)):=by
 have h1:=wK true (m:=m) (by have:=hs.f;omega);have h2:=FN true (m:=m) ⟨by have:=hs.e;omega,by have:=hs.f;omega⟩ a b;rw[hc] at h2;have U5:=mq true m.ak m.ak.length;have h0:=aB.wM true m;have Mx:bu E 500=[]:=rfl;have z:bu E 501=[]:=rfl;have Ow:V.al [m.kv true]=true:=by simp only[V.al,h0];rfl
 have VY:V.al [m.kv true,.mlit (bO true m.ak m.ak.length),vi a,vi b]=true:=by simp only[V.al,U5,h0];rfl
 have P9:=mD m.ar (by have:=hs.p;omega);have s:=bR (k:=true) hi u;have t:=bR (k:=true) D o;have C:m.aA.length< 1000:=hs.e;have A:m.ak.length< 1000:=hs.f;have F:m.aF.length< 1000:=hs.w;obtain⟨res,h3,h4⟩:=Ev.aa7 (R:=fun r=>r=⟨KG m (ek m.aA a b m.aA.length) (dz m.ak i j f m.ak.length),[]⟩) acv (acw _) rfl rfl (by simp only[V.al,show V.az m.v=true from aB.wM false m];rfl) (RL m a b) (by
  conv=>whnf
  repeat' (first| refine gY Mx Ow h1 U5 ?_| refine gY z VY h2 rfl ?_| intro g| apply ca P9| refine st ?_| refine br ?_ ?_<;>intro hc| rfl) <;>conv=>whnf
  rename_i g3 g4 g5 g6 gP;clear h1 h2 P9 Ow VY h0;refine aO.by (fun ((k,c):Nat×Option Nat)=> ⟨C9 ⟨g3,g4,g5,g6,gP,g⟩ (.mlit (bO true m.ak m.ak.length)) [(38,.lit 8 (m.aF.map bH.v)),(39,au m.aF.length),(40,au k)],
      Da ⟨g3,g4,g5,g6,gP,g⟩ m a b .nils .nils (lV 180 c (m.aF.take k).length) (lR 180 8 c ((m.aF.take k).map bH.v))⟩)
    (fun (k,c)=>k<=m.aF.length/\(c=none↔m.aF.take k=[])) (fun (k,_)=>m.aF.length - k) (0,none) ?_ ⟨ajl,ajl⟩ ?_
  ·(refine⟨?_,?_⟩ <;>repeat' (first| exact True.intro| refine And.intro ((by(conv=>whnf);first| rfl| simp)) ?_| refine ai ?_| refine And.intro ?_ ?_))
  rintro⟨k,c⟩ ⟨hk,uX⟩
  try dsimp only at hk uX
  by_cases d:k<m.aF.length
  . obtain⟨x,hx⟩: ∃x,m.aF[k]? =some x:=⟨_,aM d⟩
    have B:=dZ x.line (by have:=hs.wl x (List.mem_of_getElem? hx);omega);refine ahA (m:=m) (a:=a) (b:=b) (G:=⟨g3,g4,g5,g6,gP,g⟩) (x:=x) (by simp[hx]) ajl d F (by simp;omega) uX.1 B fun T' O' q n=>aR.mk (k+1,some q) om ⟨ajk,by simp[take_succ hx]⟩ ?_;simp only[take_succ hx];exact n
  obtain rfl:k=m.aF.length:=ajk;simp only[akd] at uX ⊢;clear hk d;conv=>whnf
  repeat' (first| intro g| refine st ?_| refine br ?_ ?_<;>intro hc| rfl) <;>conv=>whnf
  clear U5;refine aO.by (fun ((k,h):Nat×Option Nat)=> ⟨C9 ⟨g3,g4,g5,g6,gP,g⟩ (.mlit (bO true m.ak m.ak.length)) [(13,.fn 502 [.ptr 80 g4 0 0,.ptr 96 g5 0 0]),(57,.lit 4 (m.aA.map aH.v)),(58,au m.aA.length),(59,au k)],
      Da ⟨g3,g4,g5,g6,gP,g⟩ m a b (lV 178 h (ek m.aA a b k).length) .nils (lV 180 c m.aF.length) (lR 178 4 h ((ek m.aA a b k).map aH.v)++lR 180 8 c (m.aF.map bH.v))⟩)
    (fun (k,h)=>k<=m.aA.length/\(h=none↔ek m.aA a b k=[])) (fun (k,_)=>m.aA.length - k) (0,none) ?_ ⟨ajl,by simp[ek]⟩ ?_
  .cases c<;> (refine⟨?_,?_⟩ <;>repeat' (first| exact True.intro| refine And.intro ((by(conv=>whnf);first| rfl| simp)) ?_| refine ai ?_| refine And.intro ?_ ?_))
  rintro⟨k,h⟩ ⟨hk,V1⟩
  try dsimp only at hk V1
  by_cases d:k<m.aA.length
  . obtain⟨x,hx⟩: ∃x,m.aA[k]? =some x:=⟨_,aM d⟩
    have B:=dZ x.line (by have:=hs.el x (List.mem_of_getElem? hx);omega);have hl:=jV a b x.left;have hr:=jV a b x.right;cases ht:cJ a b x with
    | true=>
      have hn:ek m.aA a b (k+1)=ek m.aA a b k:=by simp[ek,hx,ht]
      rw[BG C8] at ht;simp only[decide_eq_true_eq] at ht;refine Zh (m:=m) (a:=a) (b:=b) (G:=⟨g3,g4,g5,g6,gP,g⟩) (e:=x) (by simp[hx]) ajl d C (qm ..) ht.1 ht.2.1 ht.2.2 hl hr fun T' O' n=>aR.mk (k+1,h) om ⟨ajk,by rw[hn];exact V1⟩ ?_;simp only[hn];exact n
    | false=>
      have hn:ek m.aA a b (k+1)=ek m.aA a b k++[gr a b x]:=by simp[ek,hx,ht]
      refine V0 (m:=m) (a:=a) (b:=b) (G:=⟨g3,g4,g5,g6,gP,g⟩) (e:=x) (by simp[hx]) ajl d C (qm ..) V1.1 B hl hr C8 ht fun T' O' q n=>aR.mk (k+1,some q) om ⟨ajk,by rw[hn];simp⟩ ?_;simp only[hn];exact n
  obtain rfl:k=m.aA.length:=ajk;clear hk d;conv=>whnf
  repeat' (first| intro g| refine wi s ?_| refine wi t ?_| refine st ?_| refine br ?_ ?_<;>intro hc| rfl) <;>conv=>whnf
  clear s t;generalize H:ek m.aA a b m.aA.length=Es at*;refine aO.by (fun ((k,of):Nat×Option Nat)=> ⟨C9 ⟨g3,g4,g5,g6,gP,g⟩ (.mlit (bO true m.ak m.ak.length)) [(18,.epk i 5 f.v 0),(19,.epk j 5 y.v 0),(109,au m.ak.length),(110,au k)],
      Da ⟨g3,g4,g5,g6,gP,g⟩ m a b (lV 178 h Es.length) (lV 179 of (dz m.ak i j f k).length) (lV 180 c m.aF.length) (lR 179 5 of ((dz m.ak i j f k).map aP.v)++lR 178 4 h (Es.map aH.v)++lR 180 8 c (m.aF.map bH.v))⟩)
    (fun (k,of)=>k<=m.ak.length/\(of=none↔dz m.ak i j f k=[])) (fun (k,_)=>m.ak.length - k) (0,none) ?_ ⟨ajl,by simp[dz]⟩ ?_
  .cases c<;>cases h<;> (refine⟨?_,?_⟩ <;>repeat' (first| exact True.intro| refine And.intro ((by(conv=>whnf);first| rfl| simp)) ?_| refine ai ?_| refine And.intro ?_ ?_))
  rintro⟨k,of⟩ ⟨hk,Zi⟩
  try dsimp only at hk Zi
  by_cases d:k<m.ak.length
  . obtain⟨x,hx⟩: ∃x,m.ak[k]? =some x:=⟨_,aM d⟩
    by_cases U2:k=i
    . have hn:dz m.ak i j f (k+1)=dz m.ak i j f k:=by rw[dz,hx];simp only[if_pos U2]
      refine RO (m:=m) (a:=a) (b:=b) (G:=⟨g3,g4,g5,g6,gP,g⟩) (x:=x) (by simp[hx]) rfl d A (nc ..) Zi.1 U2 fun T' O' n=>aR.mk (k+1,of) om ⟨ajk,by rw[hn];exact Zi⟩ ?_;simp only[hn];exact n
    by_cases VL:k=j
    . have hn:dz m.ak i j f (k+1)=dz m.ak i j f k++[uf x f]:=by rw[dz,hx];simp only[if_neg U2,if_pos VL]
      refine RQ (m:=m) (a:=a) (b:=b) (G:=⟨g3,g4,g5,g6,gP,g⟩) (x:=x) (by simp[hx]) rfl d A (nc ..) Zi.1 U2 VL (Q9 _ _) fun T' O' q n=>aR.mk (k+1,some q) om ⟨ajk,by rw[hn];simp⟩ ?_;simp only[hn];exact n
    have hn:dz m.ak i j f (k+1)=dz m.ak i j f k++[x]:=by rw[dz,hx];simp only[if_neg U2,if_neg VL]
    refine RP (m:=m) (a:=a) (b:=b) (G:=⟨g3,g4,g5,g6,gP,g⟩) (x:=x) (by simp[hx]) rfl d A (nc ..) Zi.1 U2 VL fun T' O' q n=>aR.mk (k+1,some q) om ⟨ajk,by rw[hn];simp⟩ ?_;simp only[hn];exact n
  obtain rfl:k=m.ak.length:=ajk;clear hk d;have bW:=D8 o JL f m.ak.length (ajp.1 o).1
  try dsimp only
  generalize dz m.ak i j f m.ak.length=Fs at*;cases of with
  | none=>exact absurd (Zi.1 rfl) bW
  | some I=>
    have o1:h=none/\Es=[]\/(∃g,h=some g)/\oL 4 (Es.map aH.v)= .own 4 (Es.map aH.v):=by
      cases h with
      | none=>exact .inl ⟨rfl,V1.1 rfl⟩
      | some g=>
        refine .inr ⟨⟨g,rfl⟩,?_⟩;cases Es with
        | nil=>simp at V1
        | cons e l=>rfl
    have o2:c=none/\m.aF=[]\/(∃g,c=some g)/\oL 8 (m.aF.map bH.v)= .own 8 (m.aF.map bH.v):=by
      cases c with
      | none=>exact .inl ⟨rfl,uX.1 rfl⟩
      | some g=>
        refine .inr ⟨⟨g,rfl⟩,?_⟩;cases hw:m.aF with
        | nil=>simp[hw] at uX
        | cons e l=>rfl
    unfold KG;clear V1 uX Zi bW hs;rcases o1 with⟨rfl,rfl⟩ | ⟨⟨g1,rfl⟩,e1⟩ <;>rcases o2 with⟨rfl,e2⟩ | ⟨⟨g2,rfl⟩,e2⟩
    . rw[e2]
      conv=>whnf
      repeat' (first| intro g| refine wi (jd ajl) ?_| refine st ?_| refine br ?_ ?_<;>intro hc| rfl) <;>conv=>whnf
      all_goals rfl
    . rw[e2]
      conv=>whnf
      repeat' (first| intro g| refine wi (jd ajl) ?_| refine st ?_| refine br ?_ ?_<;>intro hc| rfl) <;>conv=>whnf
      all_goals rfl
    . rw[e1,e2]
      conv=>whnf
      repeat' (first| intro g| refine wi (jd ajl) ?_| refine st ?_| refine br ?_ ?_<;>intro hc| rfl) <;>conv=>whnf
      all_goals rfl
    rw[e1,e2];conv=>whnf
    repeat' (first| intro g| refine wi (jd ajl) ?_| refine st ?_| refine br ?_ ?_<;>intro hc| rfl) <;>conv=>whnf
    all_goals rfl
  )
 rw[h4] at h3;simp only[VZ] at h3;exact h3
def RR (p q:Pt):Int:=kb (kb (kb (q.x - p.x)*kb (q.x - p.x))+kb (kb (q.y - p.y)*kb (q.y - p.y)))
theorem RS (p q:Pt):RR p q<=9223372036854775807:=My _
noncomputable def KH (l:List Pt):Nat->Int
 | 0=>0
 | k+1=>match l[k]?,l[k+1]? with
   | some p,some q=>kb (KH l k+mX (RR p q))
   | _,_=>KH l k
noncomputable def wN (l:List Pt):Int:=KH l (l.length - 1)
theorem Oy {l:List Pt} {k:Nat} {p q:Pt} (hp:l[k]? =some p) (a:l[k+1]? =some q):KH l (k+1)=kb (KH l k+mX (RR p q)):=by simp only[KH,hp,a]
theorem lr: ∀ (ps:List Pt) (i k:Nat),(fN i (ps.map Pt.v))[k]? =match ps[k]?,ps[k+1]? with
   | some p,some q=>some [.int .i64 ((i+k:Nat):Int),.agg [vi p.x,vi p.y,vi q.x,vi q.y]]
   | _,_=>none
 | [],i,k=>by simp[fN]
 | [p],i,k=>by cases k<;>simp[fN]
 | p::q::r,i,0=>by simp[fN,Pt.v,V.cells]
 | p::q::r,i,k+1=>by have a:=lr (q::r) (i+1) k;simp only[List.map_cons,fN,akf] at a ⊢;rw[a];have:i+1+k=i+(k+1):=ajk;rw[this]
theorem rN: ∀ (ps:List Pt) (i:Nat),(fN i (ps.map Pt.v)).length=ps.length - 1
 | [],i=>by simp[fN]
 | [p],i=>by simp[fN]
 | p::q::r,i=>by have a:=rN (q::r) (i+1);simp only[List.map_cons,fN,ajC] at a ⊢;omega
theorem pD: ∀ (ps:List V) (i:Nat),∀x ∈ fN i ps,x.length=2
 | [],i,x,h=>by simp[fN] at h
 | [p],i,x,h=>by simp[fN] at h
 | p::q::r,i,x,h=>by
   rw[fN] at h;rcases ajy.1 h with rfl| h
   .rfl
   exact pD (q::r) (i+1) x h
theorem nZ (l:List Pt):alH 182 [iW l] (.fn 221 [.eptr (iW l) 0]):=by refine amM ?_;exact dr
theorem Zj {l:List Pt} (hl:l.length< 1000000):alH 496 [iW l] (vi (wN l)):=by
 have Oz:=nZ l;refine amM ?_;conv=>whnf
 repeat' (first| intro g| apply ca Oz| refine st ?_| refine br ?_ ?_<;>intro hc| rfl) <;>conv=>whnf
 have hi:E.iter 221 [(iW l).eptr 0]=some (fN 0 (l.map Pt.v)):=by show (if (l.map Pt.v).length< 4611686018427387904 then some (fN 0 (l.map Pt.v)) else none)=_;rw[if_pos (by simp;omega)]
 refine rk.by (fN 0 (l.map Pt.v)) rfl hi (fun x hx=>pD _ _ x hx) (fun (k:Nat)=> [(48,⟨g,1,false,false,some [vi (KH l k)]⟩)]) (fun k a=>a=k) 0 ?_ rfl ?_ ?_
 ·(repeat' (first| exact True.intro| refine ai ?_| refine And.intro ?_ ?_))
 .rintro _ x k hx rfl;rw[lr] at hx;cases hp:l[k]? with
  | none=>rw[hp] at hx;cases hx
  | some p=>
  cases b:l[k+1]? with
  | none=>rw[hp,b] at hx;cases hx
  | some q=>
  rw[hp,b] at hx;injection hx with hx;subst hx;have c:=Oy hp b;have QW:=Aj (RS p q);conv=>whnf
  repeat' (first| intro g| apply ca (xY q p) | apply ca (QY _ _) | apply ca QW| refine st ?_| refine br ?_ ?_<;>intro hc| rfl) <;>conv=>whnf
  refine NL.mk (k+1) rfl ?_;simp only[c]
  (repeat' (first| exact True.intro| refine ai ?_| refine And.intro ?_ ?_))
 rintro a rfl;rw[rN];exact dr
theorem zS {α:Type} (p:α->Bool) (l:List α): (firstIdx p l= -1/\ ∀ (i:Nat) (x:α),l[i]? =some x->p x=false)\/ ∃ (i:Nat) (x:α),firstIdx p l=(i:Int)/\l[i]? =some x/\p x=true/\ ∀ (j:Nat) (y:α),j<i->l[j]? =some y->p y=false:=by
 rcases cr p l with h| ⟨i,x,h1,h2,h3⟩
 .exact .inl h
 .refine .inr ⟨i,x,h1,h2,h3,?_⟩;unfold firstIdx at h1;cases h:l.findIdx? p with
  | none=>rw[h] at h1;simp at h1
  | some k=>
    rw[h] at h1;rw[akE] at h;obtain⟨hl,hp,a⟩:=h;intro j y b hy;obtain⟨NU,rfl⟩:=ajp.1 hy;have:k=i:=by simp at h1;omega
    subst this;simpa using a j b
theorem H3 {α:Type} {p:α->Bool} {l:List α} {i:Nat} {x:α} (h:l[i]? =some x): (l.take (i+1)).filter p=(l.take i).filter p++(if p x then [x] else []):=by rw[aj6,h,Option.toList_some,List.filter_append];simp[akO]
def Cl (g:Nat) (caps:List V) (f:Int->V):Prop:=V.al caps=true/\bu E g=[]/\ ∀x,Ev E g (vi x::caps) ⟨f x,[]⟩
theorem Zk {l:List Int} {g:Nat} {caps:List V} {p:Int->Bool} (hlen:l.length< 1000000) (hc:Cl g caps fun x=> .bool (p x)):alH 280 [.lit 1 (l.map vi),.fn g caps] (vi (firstIdx p l)):=by exact Aq (a:=false) (fun _=>rfl) (fun _=>rfl) hc.1 ajk hc.2.2 hc.2.1
def lO (l:List Int) (p:Int->Bool):List Int:=l.filter fun x=> !p x
theorem OA (l:List Int) (p:Int->Bool): (lO l p).length<=l.length:=akA ..
theorem BI {l:List Int} {p:Int->Bool} {i:Nat} {x:Int} (h:l[i]? =some x):lO (l.take (i+1)) p=lO (l.take i) p++(if p x then [] else [x]):=by unfold lO;rw[H3 h];cases p x<;>rfl
theorem D9 {l:List Int} {p:Int->Bool} (h: ∀ (i:Nat) x,l[i]? =some x->p x=false):lO l p=l:=by unfold lO;rw[List.filter_eq_self];intro y hy;obtain⟨j,a⟩:=aj0.1 hy;simp[h j y a]
theorem Zl {l:List Int} {g:Nat} {caps:List V} {p:Int->Bool} (hl:l.length< 1000000) (s:Cl g caps fun x=> .bool (p x)): ∃rest:List V,V.al rest=true/\Ev E 505 [.msl 1 (l.map vi) 0 l.length,.fn g caps] ⟨.sl 0 0 0 (lO l p).length,[(0,(lO l p).map vi++rest)]⟩:=by
 have k:=Zk hl s;obtain⟨hc,hm,hp⟩:=s;have ME:bu E 280=[]:=rfl;have m:V.al (l.map vi)=true:=dO l;have Hn:V.al [.lit 1 (l.map vi),.fn g caps]=true:=by simp[V.al,V.az,hc,m]
 have key:=Ev.cg (R:=fun r=> ∃ (rest:List V),V.al rest=true/\r=⟨.sl 0 0 0 (lO l p).length,[(0,(lO l p).map vi++rest)]⟩) acB (acC [.msl 1 (l.map vi) 0 l.length,.fn g caps]) rfl ?_
 .obtain⟨r,h1,rest,h2,rfl⟩:=key;exact⟨rest,h2,h1⟩
 rcases zS p l with⟨h1,h2⟩ | ⟨i0,x0,h1,h2,h3,h4⟩
 .rw[h1] at k;have e:lO l p=l:=D9 h2;rw[e];conv=>whnf
  repeat' (first| intro g| apply ca k| refine st ?_| refine br ?_ ?_<;>intro hc| rfl| (simp only[List.append,ec,gU,V.az,hc,cond_true])) <;>conv=>whnf
  exact⟨[],rfl,ajl⟩
 rw[h1] at k;conv=>whnf
 repeat' (first| intro g| apply ca k| refine st ?_| refine br ?_ ?_<;>intro hc| rfl| (simp only[List.append,ec,gU,V.az,hc,cond_true])) <;>conv=>whnf
 have t:=(ajp.1 h2).1;have Db:lO (l.take i0) p=l.take i0:=by
  refine D9 fun j y hy=> ?_;have c:j<i0:=by have:=(ajp.1 hy).1;simp at this;omega
  rw[List.getElem?_take_of_lt c] at hy;exact h4 j y c hy
 refine aO.by (fun ((j,i,es):Nat×Nat×List Int)=> ⟨[(0,.sl 0 0 0 l.length),(1,.fn g caps),(5,vi i),(6,vi j)],[(0,⟨0,1,true,false,some (es.map vi)⟩)]⟩)
  (fun (j,i,es)=>j<=l.length/\i<j/\es.length=l.length/\es.take i=lO (l.take j) p/\es.drop j=l.drop j) (fun (j,_,_)=>l.length - j) (i0+1,i0,l) ?_ ?_ ?_
 .have hw:IntKind.i64.wrap ((i0:Int)+1)=((i0+1:Nat):Int):=bo ajk ajk;simp only[hw];exact su
 .refine⟨ajk,ajk,rfl,?_,rfl⟩;rw[BI h2,Db];simp[h3]
 rintro⟨j,i,es⟩ ⟨hj,JL,bC,JM,hdr⟩
 try dsimp only at hj JL bC JM hdr
 have w: (es.map vi).length=es.length:=List.length_map ..;have z:=hc;by_cases u:j<l.length
 .have hx:l[j]? =some l[j]:=aM u;have MD:=hp l[j];generalize l[j]=x at hx MD;have n:es[j]? =some x:=by
    have h5: (es.drop j)[0]? =(l.drop j)[0]? :=by rw[hdr]
    simpa [ak5,hx] using h5
  have d: (es.map vi)[j]? =some (vi x):=by simp[n]
  have f:=BI (p:=p) hx;have h:es.drop (j+1)=l.drop (j+1):=by
    have h5: (es.drop j).drop 1=(l.drop j).drop 1:=by rw[hdr]
    simpa [akS,Nat.add_comm] using h5
  cases a:p x with
  | false=>
    have FF: (es.set i x).take (i+1)=lO (l.take (j+1)) p:=by rw[f,<-JM,a];rw[aj6,List.take_set_of_le ajk];simp[akz,show i<es.length by omega]
    have o: (es.set i x).drop (j+1)=l.drop (j+1):=by rw[List.drop_set_of_lt ajk,h]
    have v: (⟨0,1,true,false,some ((es.map vi).set ((i:Nat):Int).toNat (vi x))⟩:Obj)=⟨0,1,true,false,some ((es.set i x).map vi)⟩:=by simp[akl]
    simp only[a] at MD;conv=>whnf
    repeat' (first| intro g| refine wi d ?_| refine sf MD ?_| refine st ?_| refine br ?_ ?_<;>intro hc| rfl) <;>conv=>whnf
    exact aR.mk (j+1,i+1,es.set i x) om ⟨ajk,ajk,by simp[bC],FF,o⟩ (by(refine⟨?_,?_⟩ <;>repeat' (first| exact True.intro| refine And.intro (v) ?_| refine ai ?_| refine And.intro ?_ ?_)))
  | true=>
    simp only[a] at MD;conv=>whnf
    repeat' (first| intro g| refine wi d ?_| refine sf MD ?_| refine st ?_| refine br ?_ ?_<;>intro hc| rfl) <;>conv=>whnf
    exact aR.mk (j+1,i,es) om ⟨ajk,ajk,bC,by rw[JM,f];simp[a],h⟩ su
 obtain rfl:j=l.length:=ajk;rw[akd] at JM;have q: (lO l p).length=i:=by rw[<-JM];simp;omega
 have b:V.al (es.map vi)=true:=dO es;conv=>whnf
 repeat' (first| intro g| refine nd (by first| ((and_intros<;>first| rfl| exact bD b (bY rfl) | exact iw (bD b (bY rfl)) | (simp only[overwrite,List.length_append,akj,ak3,akH,List.length_map];omega) | omega)) | fail) ?_| refine st ?_| refine br ?_ ?_<;>intro hc| rfl) <;>conv=>whnf
 simp only[ajZ,akg,Nat.sub_zero,overwrite,akB];rw[q,<-alx,JM];exact⟨_,fE (bY rfl) (dp fun y hy=>fS b y (aki hy)),rfl⟩
noncomputable def rO (f:Int->Int) (l:List Int):Nat->Int
 | 0=>0
 | k+1=>match l[k]? with
   | some x=>if k=0\/f (rO f l k) <f x then x else rO f l k
   | none=>rO f l k
noncomputable def MG (f:Int->Int) (l:List Int):Int:=rO f l l.length
theorem KI {f:Int->Int} {l:List Int} {k:Nat} {x:Int} (h:l[k]? =some x):rO f l (k+1)=if k=0\/f (rO f l k) <f x then x else rO f l k:=by simp only[rO,h]
theorem KJ {l:List Int} {g:Nat} {caps:List V} {f:Int->Int} (hl:l.length< 1000000) (d:Cl g caps fun x=>vi (f x)):alH 508 [.lit 1 (l.map vi),.fn g caps] (.tuple [vi (MG f l),.bool (decide (0 <l.length))]):=by
 obtain⟨hc,hm,hp⟩:=d;have e:=dO l;refine amM ?_;conv=>whnf
 repeat' (first| intro g| refine nd (by simp[V.al,V.az,hc,e]) ?_| refine st ?_| refine br ?_ ?_<;>intro hc| rfl) <;>conv=>whnf
 refine aO.by (fun k:Nat=> ⟨[(0,.lit 1 (l.map vi)),(1,.fn g caps),(6,vi (rO f l k)),(9,.lit 1 (l.map vi)),(10,au (l.map vi).length),(11,au k)],[]⟩) (fun k=>k<=l.length) (fun k=>l.length - k) 0 su ajk ?_
 intro k i
 try dsimp only at i
 have m:=hc;by_cases j:k<l.length
 .have hx:l[k]? =some l[k]:=aM j;generalize l[k]=x at hx;have b: (l.map vi)[k]? =some (vi x):=by simp[hx]
  have h1:=hp x;have h2:=hp (rO f l k);have a:=KI (f:=f) hx;by_cases h0:k=0
  .subst h0;rw[if_pos (.inl rfl)] at a;conv=>whnf
   repeat' (first| intro g| refine wi b ?_| refine st ?_| refine br ?_ ?_<;>intro hc| rfl) <;>conv=>whnf
   refine aR.mk 1 om ajk ?_;simp only[a];exact su
  by_cases c:f (rO f l k) <f x
  .rw[if_pos (.inr c)] at a;conv=>whnf
   repeat' (first| intro g| refine wi b ?_| refine sf h1 ?_| refine sf h2 ?_| refine st ?_| refine br ?_ ?_<;>intro hc| rfl) <;>conv=>whnf
   refine aR.mk (k+1) om ajk ?_;simp only[a];exact su
  rw[if_neg (fun h=>h.elim h0 c)] at a;conv=>whnf
  repeat' (first| intro g| refine wi b ?_| refine sf h1 ?_| refine sf h2 ?_| refine st ?_| refine br ?_ ?_<;>intro hc| rfl) <;>conv=>whnf
  refine aR.mk (k+1) om ajk ?_;simp only[a];exact su
 obtain rfl:k=l.length:=ajk;conv=>whnf
 repeat' (first| intro g| refine st ?_| refine br ?_ ?_<;>intro hc| rfl) <;>conv=>whnf
 simp[MG]
noncomputable def zT (es:List aH) (a b:Int):Nat->Int
 | 0=>0
 | i+1=>match es[i]? with
   | some e=>if cJ a b e=true then kb (zT es a b i+wN e.line) else zT es a b i
   | none=>zT es a b i
noncomputable def brd (es:List aH) (a b:Int):Int:=zT es a b es.length
theorem RT {es:List aH} {a b:Int} {i:Nat} {e:aH} (h:es[i]? =some e) (ht:cJ a b e=true):zT es a b (i+1)=kb (zT es a b i+wN e.line):=by simp only[zT,h,if_pos ht]
theorem V2 {es:List aH} {a b:Int} {i:Nat} {e:aH} (h:es[i]? =some e) (ht:cJ a b e=false):zT es a b (i+1)=zT es a b i:=by simp only[zT,h,ht];rfl
def Zm (es:List aH):Prop:=es.length< 1000000/\ ∀e ∈ es,e.line.length< 1000000
theorem RU {a b:Int} {e:aH} (ht:cJ a b e=false): ¬ (e.left=a/\e.right=b\/e.left=b/\e.right=a):=by simpa [cJ] using ht
theorem Zn {L:List V} {e:aH} {i n:Nat} {a b s:Int} {f p9:V} {Q:aW->SS->Prop} (he:L[i]? =some e.v) (hn:L.length=n) (hi:i<n) (hb:n< 1000000) (ht:cJ a b e=false)
  (d: ∀T' O',SS.Sub ⟨[(0,vi b),(1,f),(2,.eptr (vi a) 0),(5,vi s),(9,.lit 4 L),(10,au n),(11,au (i+1))],[]⟩ ⟨T',O'⟩->Q .normal ⟨T',O'⟩):
  mf E Mp ⟨[(0,vi b),(1,f),(2,.eptr (vi a) 0),(5,vi s),(9,.lit 4 L),(10,au n),(11,au i)],[]⟩ Q:=by
 have c:=RU ht;clear ht;by_cases h1:e.left=a
 .have h2: ¬e.right=b:=fun h=>c (.inl ⟨h1,h⟩);by_cases h3:e.left=b
  .have h4: ¬e.right=a:=fun h=>c (.inr ⟨h3,h⟩);clear c;conv=>whnf
   repeat' (first| intro g| refine wi he ?_| refine st ?_| refine br ?_ ?_<;>intro hc| rfl) <;>conv=>whnf
   exact d _ _ su
  clear c;conv=>whnf
  repeat' (first| intro g| refine wi he ?_| refine st ?_| refine br ?_ ?_<;>intro hc| rfl) <;>conv=>whnf
  exact d _ _ su
 by_cases h3:e.left=b
 .have h4: ¬e.right=a:=fun h=>c (.inr ⟨h3,h⟩);clear c;conv=>whnf
  repeat' (first| intro g| refine wi he ?_| refine st ?_| refine br ?_ ?_<;>intro hc| rfl) <;>conv=>whnf
  exact d _ _ su
 clear c;conv=>whnf
 repeat' (first| intro g| refine wi he ?_| refine st ?_| refine br ?_ ?_<;>intro hc| rfl) <;>conv=>whnf
 exact d _ _ su
theorem V3 {L:List V} {e:aH} {i n:Nat} {a b s:Int} {d:V} {Q:aW->SS->Prop} (he:L[i]? =some e.v) (hn:L.length=n) (hi:i<n) (hb:n< 1000000) (ht:cJ a b e=true) (c:alH 496 [iW e.line] (vi (wN e.line)))
  (f: ∀T' O',SS.Sub ⟨[(0,vi b),(1,d),(2,.eptr (vi a) 0),(5,vi (kb (s+wN e.line))),(9,.lit 4 L),(10,au n),(11,au (i+1))],[]⟩ ⟨T',O'⟩->Q .normal ⟨T',O'⟩):
  mf E Mp ⟨[(0,vi b),(1,d),(2,.eptr (vi a) 0),(5,vi s),(9,.lit 4 L),(10,au n),(11,au i)],[]⟩ Q:=by
 rcases DU ht with⟨h1,h2⟩ | ⟨h1,h2,h3,h4⟩ | ⟨h1,h3,h4⟩;all_goals
  clear ht;conv=>whnf
  repeat' (first| intro g| refine wi he ?_| apply ca c| refine st ?_| refine br ?_ ?_<;>intro hc| rfl) <;>conv=>whnf
  exact f _ _ su
theorem Zo {m:aB} (hl:Zm m.aA) (a b:Int):alH 507 [vi b,.eptr m.v 0,.eptr (vi a) 0] (vi (brd m.aA a b)):=by
 refine amM ?_;conv=>whnf
 repeat' (first| intro g| refine st ?_| refine br ?_ ?_<;>intro hc| rfl) <;>conv=>whnf
 refine aO.by (fun i:Nat=> ⟨[(0,vi b),(1,.eptr m.v 0),(2,.eptr (vi a) 0),(5,vi (zT m.aA a b i)),(9,.lit 4 (m.aA.map aH.v)),(10,au m.aA.length),(11,au i)],[]⟩) (fun i=>i<=m.aA.length) (fun i=>m.aA.length - i) 0 ?_ ajk ?_
 ·(refine⟨?_,?_⟩ <;>repeat' (first| exact True.intro| refine And.intro ((by(conv=>whnf);simp[zT])) ?_| refine ai ?_| refine And.intro ?_ ?_))
 intro i hi
 try dsimp only at hi
 have X4:=hl.1;by_cases c:i<m.aA.length
 .obtain⟨e,he⟩: ∃e,m.aA[i]? =some e:=⟨_,aM c⟩;have f: (m.aA.map aH.v)[i]? =some e.v:=by simp[he]
  have FE: (m.aA.map aH.v).length=m.aA.length:=ajl;cases ht:cJ a b e with
  | false=>
    have hn:=V2 he ht;refine Zn (p9:= .nils) f FE c X4 ht fun T' O' hs=>aR.mk (i+1) om ajk ?_;simp only[hn];exact hs
  | true=>
    have hn:=RT he ht;have d:=Zj (hl.2 e (List.mem_of_getElem? he));refine V3 f FE c X4 ht d fun T' O' hs=>aR.mk (i+1) om ajk ?_;simp only[hn];exact hs
 obtain rfl:i=m.aA.length:=ajk;exact dr
theorem Zp {m:aB} (hl:Zm m.aA) (a:Int):Cl 507 [.eptr m.v 0,.eptr (vi a) 0] fun b=>vi (brd m.aA a b):=
 ⟨by have h0:V.az m.v=true:=aB.wM false m
     simp only[V.al,V.az,h0];rfl,rfl,fun b=>Zo hl a b⟩
def rP (m:aB):V:= .mlit (bO false m.ak m.ak.length)
theorem V4 {m:aB} (hs:rM m) (a b:Int):alH 506 [vi b,.eptr m.v 0,.eptr (rP m) 0,.eptr (vi a) 0] (.bool (decide (qR m a b≠0))):=by
 have hc:=FN false hs a b;have hm:bu E 501=[]:=rfl;have hp:V.al [m.v,rP m,vi a,vi b]=true:=by have h0:V.az m.v=true:=aB.wM false m;have h1:V.az (rP m)=true:=mq ..;simp only[V.al,h0,h1];rfl
 refine amM ?_;conv=>whnf
 repeat' (first| refine gY hm hp hc rfl ?_| intro g| refine st ?_| refine br ?_ ?_<;>intro hc| rfl) <;>conv=>whnf
 all_goals simp
theorem Zq {m:aB} (hs:rM m) (a:Int):Cl 506 [.eptr m.v 0,.eptr (rP m) 0,.eptr (vi a) 0] fun b=> .bool (decide (qR m a b≠0)):=
 ⟨by have h0:V.az m.v=true:=aB.wM false m
     have h1:V.az (rP m)=true:=mq ..;simp only[V.al,V.az,h0,h1];rfl,rfl,fun b=>V4 hs a b⟩
def wO (m:aB) (a:Int):Int:=match aY m.ak a with
 | none=>0
 | some i=>match m.ak[i]? with
   | some f=>kb (4*f.weight)
   | none=>0
theorem BJ {m:aB} (hs:rM m) (a b:Int):alH 489 [m.v,vi a,vi b] (vi (wO m a)):=by
 have d:=wK false hs.2;have hm:bu E 500=[]:=rfl;have hp:V.al [m.v]=true:=by have h0:V.az m.v=true:=aB.wM false m;simp only[V.al,h0];rfl
 refine amM ?_;cases h:aY m.ak a with
 | none=>
   have e:wO m a=0:=by simp only[wO,h]
   rw[e];conv=>whnf
   repeat' (first| refine gY hm hp d (mq ..) ?_| intro g| refine wi (mr h) ?_| refine st ?_| refine br ?_ ?_<;>intro hc| rfl) <;>conv=>whnf
 | some i=>
   obtain⟨f,hf,_⟩:=cI h;have e:wO m a=kb (4*f.weight):=by simp only[wO,h,hf]
   rw[e];have c: (m.ak.map aP.v)[i]? =some f.v:=by simp[hf]
   conv=>whnf
   repeat' (first| refine gY hm hp d (mq ..) ?_| intro g| refine wi (bR h hf) ?_| refine wi c ?_| refine st ?_| refine br ?_ ?_<;>intro hc| rfl) <;>conv=>whnf
def ng:V->Int
 | .tuple (.int _ n::_)=>n
 | _=>0
theorem pE (k:Bool) (fs:List aP): ∀n,∀e ∈ bO k fs n,∃ (i:Nat) (f:aP),fs[i]? =some f/\e= .tuple [vi f.id,FC k i f]
 | 0,e,h=>by simp[bO] at h
 | n+1,e,h=>by
   unfold bO at h;split at h
   .rename_i f hf;split at h
    .rcases ajD.1 h with h| h
     .exact pE k fs n e h
     simp at h;exact⟨n,f,hf,h⟩
    exact pE k fs n e h
   exact pE k fs n e h
def wP (fs:List aP) (n:Nat):List Int:=(bO false fs n).map ng
theorem tf (fs:List aP): ∀n,(wP fs n).length<=n
 | 0=>by simp[wP,bO]
 | n+1=>by
   have a:=tf fs n;simp only[wP,List.length_map] at a ⊢;unfold bO;split
   .split
    .simp;omega
    omega
   omega
theorem Ea (fs:List aP) (id:Int): ∀n,id ∈ wP fs n↔ ∃ (i:Nat) (f:aP),i<n/\fs[i]? =some f/\f.id=id
 | 0=>by simp[wP,bO]
 | n+1=> by
   have b:=Ea fs id n;have d: (∃ (i:Nat) (f:aP),i<n+1/\fs[i]? =some f/\f.id=id)↔(∃ (i:Nat) (f:aP),i<n/\fs[i]? =some f/\f.id=id)\/ ∃f,fs[n]? =some f/\f.id=id:=by
     constructor
     .rintro⟨i,f,h1,h2,h3⟩;rcases(by omega:i<n\/i=n) with h| rfl
      .exact .inl ⟨i,f,h,h2,h3⟩
      exact .inr ⟨f,h2,h3⟩
     rintro(⟨i,f,h1,h2,h3⟩ | ⟨f,h2,h3⟩)
     .exact⟨i,f,ajk,h2,h3⟩
     exact⟨n,f,ajk,h2,h3⟩
   rw[d,<-b];unfold wP;conv=>lhs;unfold bO
   cases hf:fs[n]? with
   | none=>simp
   | some f=>
     simp only[ajq];by_cases hn:aY (fs.take n) f.id=none
     .simp only[hn,if_true,ajV,ajD];simp[ng,eq_comm]
     simp only[hn,if_false];constructor
     .exact .inl
     rintro(h| ⟨g,rfl,rfl⟩)
     .exact h
     cases c:aY (fs.take n) f.id with
     | none=>exact absurd c hn
     | some i=>
       obtain⟨g,hg,a,_⟩:=cI c;have GZ:i<n:=by have:=(ajp.1 hg).1;simp at this;omega
       exact b.2 ⟨i,g,GZ,by rw[ajW] at hg;simpa [GZ] using hg,a⟩
def cK (m:aB):List Int:=eG (wP m.ak m.ak.length)
theorem uY (l:List Int): (eG l).Perm l:=qa J0 l
theorem qn (l:List Int): (eG l).Pairwise (J0 · ·):=lU (fun a b c h1 h2=>by simp[J0] at h1 h2 ⊢;omega) (fun a b=>by simp[J0];omega) l
theorem Dc {l c:List Int} (h:l.Perm c):eG l=eG c:=
 DF (le:=J0) (fun a b h1 h2=>by simp[J0] at h1 h2;omega) ((uY l).trans (h.trans (uY c).symm)) (qn l) (qn c)
theorem zi (m:aB): (cK m).length<=m.ak.length:=by unfold cK;rw[dW];exact tf ..
theorem H4 (m:aB) (id:Int):id ∈ cK m↔ ∃ (i:Nat) (f:aP),i<m.ak.length/\m.ak[i]? =some f/\f.id=id:=
 (uY _).mem_iff.trans (Ea ..)
end Go.AM
