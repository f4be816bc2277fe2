/-
  Texts of the proof, joined by program: SortH. Own work.
-/
import Derived.Test.YtkdfnbahehdhmaaGreatRa
import Derived.Test.YtkdfnbahehdhmaaGreatRb
import Derived.Test.YtkdfnbahehdhmaaGreatRc
import Derived.Test.YtkdfnbahehdhmaaGreatRd
set_option linter.unusedSimpArgs false
set_option linter.unusedSectionVars false
set_option linter.unusedVariables false
set_option maxRecDepth 20000
set_option maxHeartbeats 4000000
namespace Go.AM
def pdS (n a b:Nat) (k:Int) (aft wp:Bool) (L:List Event) (g:Nat):SS:=⟨[(0,.sl 0 0 0 n),(1,aD a),(2,aD b),(3,vi k),(4,.fn g []),(10,.bool aft),(11,.bool wp)],[(0,⟨0,5,true,false,some (L.map Event.v)⟩)]⟩
abbrev aiV (L0 L:List Event):V:= .msl 5 (L.map Event.v) 0 L0.length
abbrev aiW (L:List Event):fL:=⟨.tuple [],[(0,L.map Event.v)]⟩
section
variable {c:Event→Event→Int} {g:Nat} {L0 L:List Event} {a0 b0 a b:Nat} {k:Int} {Q:bd→SS→Prop}
theorem ahg (ho:Ij c) (hm:df E g=[]) (acJ: ∀a b:Event,Ev E g [a.v,b.v] ⟨vi (c a b),[]⟩) (v3:b0≤L0.length) (hlen:L0.length< 200) (ht:afO c a0 b0 L0 a b L)
  (hR: ∀L' T' O',afG a0 b0 L0 L'→afH c L' a0 b0→SS.Sub ⟨[],[(0,⟨0,5,true,false,some (L'.map Event.v)⟩)]⟩ ⟨T',O'⟩→Q .ret ⟨T',O'⟩) {aft wp:Bool} (h12:b - a≤12):oN E JK (pdS L0.length a b k aft wp L g) Q:=by
 have hl:=ht.p.len
 have:=ht.h2;have:=ht.h3
 obtain⟨L',p1,p2,SR⟩:=ahb ho hm acJ (L0:=L) ht.h2 (by omega) (by omega)
 rw[hl] at SR
 obtain⟨f1,f2⟩:=ht.done p1 p2
 have w0:IntKind.i64.wrap ((b:Int) - a)=((b - a:Nat):Int):=(wrap64 (by omega) (by omega)).trans (by omega)
 unfold pdS
 (conv=>whnf);repeat' ((first| ((exfalso;omega)) | intro g| refine dI.mk (⟨rfl,rfl,rfl,by simp;omega,Event.bZ _⟩) ?_| refine dI.mk (⟨rfl,rfl,Event.bZ _⟩) ?_| refine ag.mk _ (SR) ?_| refine st ?_| (first| refine b1 ?_ ?_| refine b2 ?_ ?_| refine Br.mk ?_ ?_) <;>intro hc| exact rfl) <;>conv=>whnf)
 exact hR L' _ _ f1 f2 (by(refine⟨?_,?_⟩ <;>repeat' (first| exact True.intro| refine ai ?_| refine And.intro ?_ ?_)))
theorem agW (ho:Ij c) (hm:df E g=[]) (acJ: ∀a b:Event,Ev E g [a.v,b.v] ⟨vi (c a b),[]⟩) (v3:b0≤L0.length) (hlen:L0.length< 200) (ht:afO c a0 b0 L0 a b L)
  (hR: ∀L' T' O',afG a0 b0 L0 L'→afH c L' a0 b0→SS.Sub ⟨[],[(0,⟨0,5,true,false,some (L'.map Event.v)⟩)]⟩ ⟨T',O'⟩→Q .ret ⟨T',O'⟩) {aft wp:Bool} (h12:12 <b - a) (hk:k=0):oN E JK (pdS L0.length a b k aft wp L g) Q:=by
 have hl:=ht.p.len
 have:=ht.h2;have:=ht.h3
 obtain⟨L',p1,p2,SR⟩:=agT ho hm acJ (L0:=L) (a:=a) (b:=b) (by omega) (by omega) (by omega)
 rw[hl] at SR
 obtain⟨f1,f2⟩:=ht.done p1 p2
 have w0:IntKind.i64.wrap ((b:Int) - a)=((b - a:Nat):Int):=(wrap64 (by omega) (by omega)).trans (by omega)
 unfold pdS
 (conv=>whnf);repeat' ((first| ((exfalso;omega)) | intro g| refine dI.mk (⟨rfl,rfl,rfl,by simp;omega,Event.bZ _⟩) ?_| refine dI.mk (⟨rfl,rfl,Event.bZ _⟩) ?_| refine ag.mk _ (SR) ?_| refine st ?_| (first| refine b1 ?_ ?_| refine b2 ?_ ?_| refine Br.mk ?_ ?_) <;>intro hc| exact rfl) <;>conv=>whnf)
 exact hR L' _ _ f1 f2 (by(refine⟨?_,?_⟩ <;>repeat' (first| exact True.intro| refine ai ?_| refine And.intro ?_ ?_)))
theorem afL {x y:Int} (h:x=y):V.int .i64 x=V.int .i64 y:=by rw[h]
theorem afJ {a:Nat} (h:0 <a) (h2:a< 1000000):IntKind.i64.wrap ((a:Int) - 1)=((a - 1:Nat):Int):=(wrap64 (by omega) (by omega)).trans (by omega)
theorem aiX {a b m:Nat} (h1:a≤m) (h2:m<b) (h3:b< 1000000):IntKind.i64.wrap ((b:Int) - a)=((b - a:Nat):Int)∧IntKind.i64.wrap ((m:Int) - a)=((m - a:Nat):Int)∧IntKind.i64.wrap ((b:Int) - m)=((b - m:Nat):Int)∧IntKind.i64.wrap ((a:Int) - 1)=(a:Int) - 1:=
 ⟨(wrap64 (by omega) (by omega)).trans (by omega),(wrap64 (by omega) (by omega)).trans (by omega),(wrap64 (by omega) (by omega)).trans (by omega),wrap64 (by omega) (by omega)⟩
theorem aiZ {a b p p':Nat} (hp:a≤p∧p<b) (A7:p'=b - 1 - (p - a)) (h3:b< 1000000):IntKind.i64.wrap (IntKind.i64.wrap ((b:Int) - 1) - IntKind.i64.wrap ((p:Int) - a))=(p':Int):=by
 rw[show IntKind.i64.wrap ((b:Int) - 1)=(b:Int) - 1 from wrap64 (by omega) (by omega),show IntKind.i64.wrap ((p:Int) - a)=(p:Int) - a from wrap64 (by omega) (by omega)];exact(wrap64 (by omega) (by omega)).trans (by omega)
theorem aiY {m:Nat} (h:m< 1000000):IntKind.i64.wrap ((m:Int)+1)=((m+1:Nat):Int):=(wrap64 (by omega) (by omega)).trans (by omega)
variable (hm:df E g=[]) (acJ: ∀a b:Event,Ev E g [a.v,b.v] ⟨vi (c a b),[]⟩) (hlen:L0.length< 200) (hb:b≤L0.length) (h12:12 <b - a) (hk:k≠0) {p:Nat} {h:Int} (hp:a≤p∧p<b)
include hm acJ hlen hb h12 hk hp
theorem ahh {afh afu:List Event} {m:Nat} {w2:Bool} {wp:Bool}
  (afv:L.length=L0.length) (lL2:afh.length=L0.length) (lL5:afu.length=L0.length)
  (hbr:Ev E 569 [aiV L0 L,aD a,aD b,.fn g []] (aiW afh))
  (hch:Ev E 570 [.lit 5 (afh.map Event.v),aD a,aD b,.fn g []] ⟨.tuple [aD p,vi h],[]⟩) (hh:h≠2)
  (ahd:0 <a→c (at0 afh (a - 1)) (at0 afh p) < 0) (hm1:a≤m) (KL:m<b)
  (Xi:Ev E 574 [aiV L0 afh,aD a,aD b,aD p,.fn g []] ⟨.tuple [aD m,.bool w2],[(0,afu.map Event.v)]⟩)
  (hs:m - a<b - m) {afw:List Event} (lL6:afw.length=L0.length)
  (abQ:Ev E 558 [aiV L0 afu,aD a,aD m,vi (IntKind.i64.wrap (k - 1)),.fn g []] (aiW afw))
  (hN: ∀aft T' O',SS.Sub (pdS L0.length (m+1) b (IntKind.i64.wrap (k - 1)) aft w2 afw g) ⟨T',O'⟩→Q .normal ⟨T',O'⟩):
  oN E JK (pdS L0.length a b k false wp L g) Q:=by
 obtain⟨w0,x1,x2,wa⟩:=aiX hm1 KL (by omega)
 have wm:=afL (aiY (m:=m) (by omega))
 unfold pdS
 (conv=>whnf);repeat' ((first| ((exfalso;omega)) | intro g| refine dI.mk (⟨rfl,rfl,rfl,by simp;omega,Event.bZ _⟩) ?_| refine dI.mk (⟨rfl,rfl,by simp;omega,Event.bZ _⟩) ?_| refine dI.mk (⟨rfl,rfl,Event.bZ _⟩) ?_| refine aL.mk _ (bC (by omega)) ?_| refine aL.mk _ (afF (by omega) (afJ (by omega) (by omega))) ?_| refine aL.mk _ (afF (by omega) rfl) ?_| refine gG (by assumption) (by first| assumption| rfl| (simp only[V.an,V.aC,Bool.and_self,Bool.true_and,Bool.and_true, *])) (acJ _ _) rfl ?_| refine ag.mk _ (hbr) ?_| refine ag.mk _ (hch) ?_| refine ag.mk _ (Xi) ?_| refine ag.mk _ (abQ) ?_| refine st ?_| (first| refine b1 ?_ ?_| refine b2 ?_ ?_| refine Br.mk ?_ ?_) <;>intro hc| exact rfl) <;>conv=>whnf)
 all_goals refine hN (decide (IntKind.i64.wrap ((IntKind.i64.wrap ((b:Int) - a)).tdiv 8)≤IntKind.i64.wrap ((m:Int) - a))) _ _ ?_
 all_goals unfold pdS
 all_goals (refine⟨?_,?_⟩ <;>repeat' (first| exact True.intro| refine And.intro (wm) ?_| refine ai ?_| refine And.intro ?_ ?_))
theorem ahi {afh afu:List Event} {m:Nat} {w2:Bool} {wp:Bool}
  (afv:L.length=L0.length) (lL2:afh.length=L0.length) (lL5:afu.length=L0.length)
  (hbr:Ev E 569 [aiV L0 L,aD a,aD b,.fn g []] (aiW afh))
  (hch:Ev E 570 [.lit 5 (afh.map Event.v),aD a,aD b,.fn g []] ⟨.tuple [aD p,vi h],[]⟩) (hh:h≠2)
  (ahd:0 <a→c (at0 afh (a - 1)) (at0 afh p) < 0) (hm1:a≤m) (KL:m<b)
  (Xi:Ev E 574 [aiV L0 afh,aD a,aD b,aD p,.fn g []] ⟨.tuple [aD m,.bool w2],[(0,afu.map Event.v)]⟩)
  (hs: ¬m - a<b - m) {afw:List Event} (lL6:afw.length=L0.length)
  (abQ:Ev E 558 [aiV L0 afu,aD (m+1),aD b,vi (IntKind.i64.wrap (k - 1)),.fn g []] (aiW afw))
  (hN: ∀aft T' O',SS.Sub (pdS L0.length a m (IntKind.i64.wrap (k - 1)) aft w2 afw g) ⟨T',O'⟩→Q .normal ⟨T',O'⟩):
  oN E JK (pdS L0.length a b k false wp L g) Q:=by
 obtain⟨w0,x1,x2,wa⟩:=aiX hm1 KL (by omega)
 have wm:=aiY (m:=m) (by omega)
 change Ev E 558 [_,V.int .i64 ((m+1:Nat):Int),_,_,_] _ at abQ
 rw[←afL wm] at abQ
 unfold pdS
 (conv=>whnf);repeat' ((first| ((exfalso;omega)) | intro g| refine dI.mk (⟨rfl,rfl,rfl,by simp;omega,Event.bZ _⟩) ?_| refine dI.mk (⟨rfl,rfl,by simp;omega,Event.bZ _⟩) ?_| refine dI.mk (⟨rfl,rfl,Event.bZ _⟩) ?_| refine aL.mk _ (bC (by omega)) ?_| refine aL.mk _ (afF (by omega) (afJ (by omega) (by omega))) ?_| refine aL.mk _ (afF (by omega) rfl) ?_| refine gG (by assumption) (by first| assumption| rfl| (simp only[V.an,V.aC,Bool.and_self,Bool.true_and,Bool.and_true, *])) (acJ _ _) rfl ?_| refine ag.mk _ (hbr) ?_| refine ag.mk _ (hch) ?_| refine ag.mk _ (Xi) ?_| refine ag.mk _ (abQ) ?_| refine st ?_| (first| refine b1 ?_ ?_| refine b2 ?_ ?_| refine Br.mk ?_ ?_) <;>intro hc| exact rfl) <;>conv=>whnf)
 all_goals refine hN (decide (IntKind.i64.wrap ((IntKind.i64.wrap ((b:Int) - a)).tdiv 8)≤IntKind.i64.wrap ((b:Int) - m))) _ _ ?_
 all_goals unfold pdS
 all_goals (refine⟨?_,?_⟩ <;>repeat' (first| exact True.intro| refine ai ?_| refine And.intro ?_ ?_))
theorem agX {afh afx afu:List Event} {p' m:Nat} {w2:Bool} {wp:Bool}
  (afv:L.length=L0.length) (lL2:afh.length=L0.length) (lL3:afx.length=L0.length) (lL5:afu.length=L0.length)
  (hbr:Ev E 569 [aiV L0 L,aD a,aD b,.fn g []] (aiW afh))
  (hch:Ev E 570 [.lit 5 (afh.map Event.v),aD a,aD b,.fn g []] ⟨.tuple [aD p,vi h],[]⟩) (hh:h=2)
  (hrv:Ev E 571 [aiV L0 afh,aD a,aD b,.fn g []] (aiW afx)) (A7:p'=b - 1 - (p - a))
  (ahd:0 <a→c (at0 afx (a - 1)) (at0 afx p') < 0) (hm1:a≤m) (KL:m<b)
  (Xi:Ev E 574 [aiV L0 afx,aD a,aD b,aD p',.fn g []] ⟨.tuple [aD m,.bool w2],[(0,afu.map Event.v)]⟩)
  (hs:m - a<b - m) {afw:List Event} (lL6:afw.length=L0.length)
  (abQ:Ev E 558 [aiV L0 afu,aD a,aD m,vi (IntKind.i64.wrap (k - 1)),.fn g []] (aiW afw))
  (hN: ∀aft T' O',SS.Sub (pdS L0.length (m+1) b (IntKind.i64.wrap (k - 1)) aft w2 afw g) ⟨T',O'⟩→Q .normal ⟨T',O'⟩):
  oN E JK (pdS L0.length a b k false wp L g) Q:=by
 obtain⟨w0,x1,x2,wa⟩:=aiX hm1 KL (by omega)
 have wp1:=aiZ hp A7 (by omega)
 change Ev E 574 [_,_,_,V.int .i64 (p':Int),_] _ at Xi
 rw[←afL wp1] at Xi
 have wm:=afL (aiY (m:=m) (by omega))
 unfold pdS
 (conv=>whnf);repeat' ((first| ((exfalso;omega)) | intro g| refine dI.mk (⟨rfl,rfl,rfl,by simp;omega,Event.bZ _⟩) ?_| refine dI.mk (⟨rfl,rfl,by simp;omega,Event.bZ _⟩) ?_| refine dI.mk (⟨rfl,rfl,Event.bZ _⟩) ?_| refine aL.mk _ (bC (by omega)) ?_| refine aL.mk _ (afF (by omega) (afJ (by omega) (by omega))) ?_| refine aL.mk _ (afF (by omega) wp1) ?_| refine gG (by assumption) (by first| assumption| rfl| (simp only[V.an,V.aC,Bool.and_self,Bool.true_and,Bool.and_true, *])) (acJ _ _) rfl ?_| refine ag.mk _ (hbr) ?_| refine ag.mk _ (hch) ?_| refine ag.mk _ (hrv) ?_| refine ag.mk _ (Xi) ?_| refine ag.mk _ (abQ) ?_| refine st ?_| (first| refine b1 ?_ ?_| refine b2 ?_ ?_| refine Br.mk ?_ ?_) <;>intro hc| exact rfl) <;>conv=>whnf)
 all_goals refine hN (decide (IntKind.i64.wrap ((IntKind.i64.wrap ((b:Int) - a)).tdiv 8)≤IntKind.i64.wrap ((m:Int) - a))) _ _ ?_
 all_goals unfold pdS
 all_goals (refine⟨?_,?_⟩ <;>repeat' (first| exact True.intro| refine And.intro (wm) ?_| refine ai ?_| refine And.intro ?_ ?_))
theorem agY {afh afx afu:List Event} {p' m:Nat} {w2:Bool} {wp:Bool}
  (afv:L.length=L0.length) (lL2:afh.length=L0.length) (lL3:afx.length=L0.length) (lL5:afu.length=L0.length)
  (hbr:Ev E 569 [aiV L0 L,aD a,aD b,.fn g []] (aiW afh))
  (hch:Ev E 570 [.lit 5 (afh.map Event.v),aD a,aD b,.fn g []] ⟨.tuple [aD p,vi h],[]⟩) (hh:h=2)
  (hrv:Ev E 571 [aiV L0 afh,aD a,aD b,.fn g []] (aiW afx)) (A7:p'=b - 1 - (p - a))
  (ahd:0 <a→c (at0 afx (a - 1)) (at0 afx p') < 0) (hm1:a≤m) (KL:m<b)
  (Xi:Ev E 574 [aiV L0 afx,aD a,aD b,aD p',.fn g []] ⟨.tuple [aD m,.bool w2],[(0,afu.map Event.v)]⟩)
  (hs: ¬m - a<b - m) {afw:List Event} (lL6:afw.length=L0.length)
  (abQ:Ev E 558 [aiV L0 afu,aD (m+1),aD b,vi (IntKind.i64.wrap (k - 1)),.fn g []] (aiW afw))
  (hN: ∀aft T' O',SS.Sub (pdS L0.length a m (IntKind.i64.wrap (k - 1)) aft w2 afw g) ⟨T',O'⟩→Q .normal ⟨T',O'⟩):
  oN E JK (pdS L0.length a b k false wp L g) Q:=by
 obtain⟨w0,x1,x2,wa⟩:=aiX hm1 KL (by omega)
 have wp1:=aiZ hp A7 (by omega)
 change Ev E 574 [_,_,_,V.int .i64 (p':Int),_] _ at Xi
 rw[←afL wp1] at Xi
 have wm:=aiY (m:=m) (by omega)
 change Ev E 558 [_,V.int .i64 ((m+1:Nat):Int),_,_,_] _ at abQ
 rw[←afL wm] at abQ
 unfold pdS
 (conv=>whnf);repeat' ((first| ((exfalso;omega)) | intro g| refine dI.mk (⟨rfl,rfl,rfl,by simp;omega,Event.bZ _⟩) ?_| refine dI.mk (⟨rfl,rfl,by simp;omega,Event.bZ _⟩) ?_| refine dI.mk (⟨rfl,rfl,Event.bZ _⟩) ?_| refine aL.mk _ (bC (by omega)) ?_| refine aL.mk _ (afF (by omega) (afJ (by omega) (by omega))) ?_| refine aL.mk _ (afF (by omega) wp1) ?_| refine gG (by assumption) (by first| assumption| rfl| (simp only[V.an,V.aC,Bool.and_self,Bool.true_and,Bool.and_true, *])) (acJ _ _) rfl ?_| refine ag.mk _ (hbr) ?_| refine ag.mk _ (hch) ?_| refine ag.mk _ (hrv) ?_| refine ag.mk _ (Xi) ?_| refine ag.mk _ (abQ) ?_| refine st ?_| (first| refine b1 ?_ ?_| refine b2 ?_ ?_| refine Br.mk ?_ ?_) <;>intro hc| exact rfl) <;>conv=>whnf)
 all_goals refine hN (decide (IntKind.i64.wrap ((IntKind.i64.wrap ((b:Int) - a)).tdiv 8)≤IntKind.i64.wrap ((b:Int) - m))) _ _ ?_
 all_goals unfold pdS
 all_goals (refine⟨?_,?_⟩ <;>repeat' (first| exact True.intro| refine ai ?_| refine And.intro ?_ ?_))
theorem ahj {afu:List Event} {m:Nat} {w2:Bool}
  (afv:L.length=L0.length) (lL5:afu.length=L0.length)
  (hch:Ev E 570 [.lit 5 (L.map Event.v),aD a,aD b,.fn g []] ⟨.tuple [aD p,vi h],[]⟩) (hh:h≠2)
  (ahd:0 <a→c (at0 L (a - 1)) (at0 L p) < 0) (hm1:a≤m) (KL:m<b)
  (Xi:Ev E 574 [aiV L0 L,aD a,aD b,aD p,.fn g []] ⟨.tuple [aD m,.bool w2],[(0,afu.map Event.v)]⟩)
  (hs:m - a<b - m) {afw:List Event} (lL6:afw.length=L0.length)
  (abQ:Ev E 558 [aiV L0 afu,aD a,aD m,vi k,.fn g []] (aiW afw))
  (hN: ∀aft T' O',SS.Sub (pdS L0.length (m+1) b k aft w2 afw g) ⟨T',O'⟩→Q .normal ⟨T',O'⟩):
  oN E JK (pdS L0.length a b k true false L g) Q:=by
 obtain⟨w0,x1,x2,wa⟩:=aiX hm1 KL (by omega)
 have wm:=afL (aiY (m:=m) (by omega))
 unfold pdS
 (conv=>whnf);repeat' ((first| ((exfalso;omega)) | intro g| refine dI.mk (⟨rfl,rfl,rfl,by simp;omega,Event.bZ _⟩) ?_| refine dI.mk (⟨rfl,rfl,by simp;omega,Event.bZ _⟩) ?_| refine dI.mk (⟨rfl,rfl,Event.bZ _⟩) ?_| refine aL.mk _ (bC (by omega)) ?_| refine aL.mk _ (afF (by omega) (afJ (by omega) (by omega))) ?_| refine aL.mk _ (afF (by omega) rfl) ?_| refine gG (by assumption) (by first| assumption| rfl| (simp only[V.an,V.aC,Bool.and_self,Bool.true_and,Bool.and_true, *])) (acJ _ _) rfl ?_| refine ag.mk _ (hch) ?_| refine ag.mk _ (Xi) ?_| refine ag.mk _ (abQ) ?_| refine st ?_| (first| refine b1 ?_ ?_| refine b2 ?_ ?_| refine Br.mk ?_ ?_) <;>intro hc| exact rfl) <;>conv=>whnf)
 all_goals refine hN (decide (IntKind.i64.wrap ((IntKind.i64.wrap ((b:Int) - a)).tdiv 8)≤IntKind.i64.wrap ((m:Int) - a))) _ _ ?_
 all_goals unfold pdS
 all_goals (refine⟨?_,?_⟩ <;>repeat' (first| exact True.intro| refine And.intro (wm) ?_| refine ai ?_| refine And.intro ?_ ?_))
theorem ahk {afu:List Event} {m:Nat} {w2:Bool}
  (afv:L.length=L0.length) (lL5:afu.length=L0.length)
  (hch:Ev E 570 [.lit 5 (L.map Event.v),aD a,aD b,.fn g []] ⟨.tuple [aD p,vi h],[]⟩) (hh:h≠2)
  (ahd:0 <a→c (at0 L (a - 1)) (at0 L p) < 0) (hm1:a≤m) (KL:m<b)
  (Xi:Ev E 574 [aiV L0 L,aD a,aD b,aD p,.fn g []] ⟨.tuple [aD m,.bool w2],[(0,afu.map Event.v)]⟩)
  (hs: ¬m - a<b - m) {afw:List Event} (lL6:afw.length=L0.length)
  (abQ:Ev E 558 [aiV L0 afu,aD (m+1),aD b,vi k,.fn g []] (aiW afw))
  (hN: ∀aft T' O',SS.Sub (pdS L0.length a m k aft w2 afw g) ⟨T',O'⟩→Q .normal ⟨T',O'⟩):
  oN E JK (pdS L0.length a b k true false L g) Q:=by
 obtain⟨w0,x1,x2,wa⟩:=aiX hm1 KL (by omega)
 have wm:=aiY (m:=m) (by omega)
 change Ev E 558 [_,V.int .i64 ((m+1:Nat):Int),_,_,_] _ at abQ
 rw[←afL wm] at abQ
 unfold pdS
 (conv=>whnf);repeat' ((first| ((exfalso;omega)) | intro g| refine dI.mk (⟨rfl,rfl,rfl,by simp;omega,Event.bZ _⟩) ?_| refine dI.mk (⟨rfl,rfl,by simp;omega,Event.bZ _⟩) ?_| refine dI.mk (⟨rfl,rfl,Event.bZ _⟩) ?_| refine aL.mk _ (bC (by omega)) ?_| refine aL.mk _ (afF (by omega) (afJ (by omega) (by omega))) ?_| refine aL.mk _ (afF (by omega) rfl) ?_| refine gG (by assumption) (by first| assumption| rfl| (simp only[V.an,V.aC,Bool.and_self,Bool.true_and,Bool.and_true, *])) (acJ _ _) rfl ?_| refine ag.mk _ (hch) ?_| refine ag.mk _ (Xi) ?_| refine ag.mk _ (abQ) ?_| refine st ?_| (first| refine b1 ?_ ?_| refine b2 ?_ ?_| refine Br.mk ?_ ?_) <;>intro hc| exact rfl) <;>conv=>whnf)
 all_goals refine hN (decide (IntKind.i64.wrap ((IntKind.i64.wrap ((b:Int) - a)).tdiv 8)≤IntKind.i64.wrap ((b:Int) - m))) _ _ ?_
 all_goals unfold pdS
 all_goals (refine⟨?_,?_⟩ <;>repeat' (first| exact True.intro| refine ai ?_| refine And.intro ?_ ?_))
theorem agZ {afx afu:List Event} {p' m:Nat} {w2:Bool}
  (afv:L.length=L0.length) (lL3:afx.length=L0.length) (lL5:afu.length=L0.length)
  (hch:Ev E 570 [.lit 5 (L.map Event.v),aD a,aD b,.fn g []] ⟨.tuple [aD p,vi h],[]⟩) (hh:h=2)
  (hrv:Ev E 571 [aiV L0 L,aD a,aD b,.fn g []] (aiW afx)) (A7:p'=b - 1 - (p - a))
  (ahd:0 <a→c (at0 afx (a - 1)) (at0 afx p') < 0) (hm1:a≤m) (KL:m<b)
  (Xi:Ev E 574 [aiV L0 afx,aD a,aD b,aD p',.fn g []] ⟨.tuple [aD m,.bool w2],[(0,afu.map Event.v)]⟩)
  (hs:m - a<b - m) {afw:List Event} (lL6:afw.length=L0.length)
  (abQ:Ev E 558 [aiV L0 afu,aD a,aD m,vi k,.fn g []] (aiW afw))
  (hN: ∀aft T' O',SS.Sub (pdS L0.length (m+1) b k aft w2 afw g) ⟨T',O'⟩→Q .normal ⟨T',O'⟩):
  oN E JK (pdS L0.length a b k true false L g) Q:=by
 obtain⟨w0,x1,x2,wa⟩:=aiX hm1 KL (by omega)
 have wp1:=aiZ hp A7 (by omega)
 change Ev E 574 [_,_,_,V.int .i64 (p':Int),_] _ at Xi
 rw[←afL wp1] at Xi
 have wm:=afL (aiY (m:=m) (by omega))
 unfold pdS
 (conv=>whnf);repeat' ((first| ((exfalso;omega)) | intro g| refine dI.mk (⟨rfl,rfl,rfl,by simp;omega,Event.bZ _⟩) ?_| refine dI.mk (⟨rfl,rfl,by simp;omega,Event.bZ _⟩) ?_| refine dI.mk (⟨rfl,rfl,Event.bZ _⟩) ?_| refine aL.mk _ (bC (by omega)) ?_| refine aL.mk _ (afF (by omega) (afJ (by omega) (by omega))) ?_| refine aL.mk _ (afF (by omega) wp1) ?_| refine gG (by assumption) (by first| assumption| rfl| (simp only[V.an,V.aC,Bool.and_self,Bool.true_and,Bool.and_true, *])) (acJ _ _) rfl ?_| refine ag.mk _ (hch) ?_| refine ag.mk _ (hrv) ?_| refine ag.mk _ (Xi) ?_| refine ag.mk _ (abQ) ?_| refine st ?_| (first| refine b1 ?_ ?_| refine b2 ?_ ?_| refine Br.mk ?_ ?_) <;>intro hc| exact rfl) <;>conv=>whnf)
 all_goals refine hN (decide (IntKind.i64.wrap ((IntKind.i64.wrap ((b:Int) - a)).tdiv 8)≤IntKind.i64.wrap ((m:Int) - a))) _ _ ?_
 all_goals unfold pdS
 all_goals (refine⟨?_,?_⟩ <;>repeat' (first| exact True.intro| refine And.intro (wm) ?_| refine ai ?_| refine And.intro ?_ ?_))
theorem ag0 {afx afu:List Event} {p' m:Nat} {w2:Bool}
  (afv:L.length=L0.length) (lL3:afx.length=L0.length) (lL5:afu.length=L0.length)
  (hch:Ev E 570 [.lit 5 (L.map Event.v),aD a,aD b,.fn g []] ⟨.tuple [aD p,vi h],[]⟩) (hh:h=2)
  (hrv:Ev E 571 [aiV L0 L,aD a,aD b,.fn g []] (aiW afx)) (A7:p'=b - 1 - (p - a))
  (ahd:0 <a→c (at0 afx (a - 1)) (at0 afx p') < 0) (hm1:a≤m) (KL:m<b)
  (Xi:Ev E 574 [aiV L0 afx,aD a,aD b,aD p',.fn g []] ⟨.tuple [aD m,.bool w2],[(0,afu.map Event.v)]⟩)
  (hs: ¬m - a<b - m) {afw:List Event} (lL6:afw.length=L0.length)
  (abQ:Ev E 558 [aiV L0 afu,aD (m+1),aD b,vi k,.fn g []] (aiW afw))
  (hN: ∀aft T' O',SS.Sub (pdS L0.length a m k aft w2 afw g) ⟨T',O'⟩→Q .normal ⟨T',O'⟩):
  oN E JK (pdS L0.length a b k true false L g) Q:=by
 obtain⟨w0,x1,x2,wa⟩:=aiX hm1 KL (by omega)
 have wp1:=aiZ hp A7 (by omega)
 change Ev E 574 [_,_,_,V.int .i64 (p':Int),_] _ at Xi
 rw[←afL wp1] at Xi
 have wm:=aiY (m:=m) (by omega)
 change Ev E 558 [_,V.int .i64 ((m+1:Nat):Int),_,_,_] _ at abQ
 rw[←afL wm] at abQ
 unfold pdS
 (conv=>whnf);repeat' ((first| ((exfalso;omega)) | intro g| refine dI.mk (⟨rfl,rfl,rfl,by simp;omega,Event.bZ _⟩) ?_| refine dI.mk (⟨rfl,rfl,by simp;omega,Event.bZ _⟩) ?_| refine dI.mk (⟨rfl,rfl,Event.bZ _⟩) ?_| refine aL.mk _ (bC (by omega)) ?_| refine aL.mk _ (afF (by omega) (afJ (by omega) (by omega))) ?_| refine aL.mk _ (afF (by omega) wp1) ?_| refine gG (by assumption) (by first| assumption| rfl| (simp only[V.an,V.aC,Bool.and_self,Bool.true_and,Bool.and_true, *])) (acJ _ _) rfl ?_| refine ag.mk _ (hch) ?_| refine ag.mk _ (hrv) ?_| refine ag.mk _ (Xi) ?_| refine ag.mk _ (abQ) ?_| refine st ?_| (first| refine b1 ?_ ?_| refine b2 ?_ ?_| refine Br.mk ?_ ?_) <;>intro hc| exact rfl) <;>conv=>whnf)
 all_goals refine hN (decide (IntKind.i64.wrap ((IntKind.i64.wrap ((b:Int) - a)).tdiv 8)≤IntKind.i64.wrap ((b:Int) - m))) _ _ ?_
 all_goals unfold pdS
 all_goals (refine⟨?_,?_⟩ <;>repeat' (first| exact True.intro| refine ai ?_| refine And.intro ?_ ?_))
theorem ahl {afu:List Event} {m:Nat} {w2:Bool}
  (afv:L.length=L0.length) (lL5:afu.length=L0.length)
  (hch:Ev E 570 [.lit 5 (L.map Event.v),aD a,aD b,.fn g []] ⟨.tuple [aD p,vi h],[]⟩) (hh:h≠2) (hh1:h≠1)
  (ahd:0 <a→c (at0 L (a - 1)) (at0 L p) < 0) (hm1:a≤m) (KL:m<b)
  (Xi:Ev E 574 [aiV L0 L,aD a,aD b,aD p,.fn g []] ⟨.tuple [aD m,.bool w2],[(0,afu.map Event.v)]⟩)
  (hs:m - a<b - m) {afw:List Event} (lL6:afw.length=L0.length)
  (abQ:Ev E 558 [aiV L0 afu,aD a,aD m,vi k,.fn g []] (aiW afw))
  (hN: ∀aft T' O',SS.Sub (pdS L0.length (m+1) b k aft w2 afw g) ⟨T',O'⟩→Q .normal ⟨T',O'⟩):
  oN E JK (pdS L0.length a b k true true L g) Q:=by
 obtain⟨w0,x1,x2,wa⟩:=aiX hm1 KL (by omega)
 have wm:=afL (aiY (m:=m) (by omega))
 unfold pdS
 (conv=>whnf);repeat' ((first| ((exfalso;omega)) | intro g| refine dI.mk (⟨rfl,rfl,rfl,by simp;omega,Event.bZ _⟩) ?_| refine dI.mk (⟨rfl,rfl,by simp;omega,Event.bZ _⟩) ?_| refine dI.mk (⟨rfl,rfl,Event.bZ _⟩) ?_| refine aL.mk _ (bC (by omega)) ?_| refine aL.mk _ (afF (by omega) (afJ (by omega) (by omega))) ?_| refine aL.mk _ (afF (by omega) rfl) ?_| refine gG (by assumption) (by first| assumption| rfl| (simp only[V.an,V.aC,Bool.and_self,Bool.true_and,Bool.and_true, *])) (acJ _ _) rfl ?_| refine ag.mk _ (hch) ?_| refine ag.mk _ (Xi) ?_| refine ag.mk _ (abQ) ?_| refine st ?_| (first| refine b1 ?_ ?_| refine b2 ?_ ?_| refine Br.mk ?_ ?_) <;>intro hc| exact rfl) <;>conv=>whnf)
 all_goals refine hN (decide (IntKind.i64.wrap ((IntKind.i64.wrap ((b:Int) - a)).tdiv 8)≤IntKind.i64.wrap ((m:Int) - a))) _ _ ?_
 all_goals unfold pdS
 all_goals (refine⟨?_,?_⟩ <;>repeat' (first| exact True.intro| refine And.intro (wm) ?_| refine ai ?_| refine And.intro ?_ ?_))
theorem ahm {afu:List Event} {m:Nat} {w2:Bool}
  (afv:L.length=L0.length) (lL5:afu.length=L0.length)
  (hch:Ev E 570 [.lit 5 (L.map Event.v),aD a,aD b,.fn g []] ⟨.tuple [aD p,vi h],[]⟩) (hh:h≠2) (hh1:h≠1)
  (ahd:0 <a→c (at0 L (a - 1)) (at0 L p) < 0) (hm1:a≤m) (KL:m<b)
  (Xi:Ev E 574 [aiV L0 L,aD a,aD b,aD p,.fn g []] ⟨.tuple [aD m,.bool w2],[(0,afu.map Event.v)]⟩)
  (hs: ¬m - a<b - m) {afw:List Event} (lL6:afw.length=L0.length)
  (abQ:Ev E 558 [aiV L0 afu,aD (m+1),aD b,vi k,.fn g []] (aiW afw))
  (hN: ∀aft T' O',SS.Sub (pdS L0.length a m k aft w2 afw g) ⟨T',O'⟩→Q .normal ⟨T',O'⟩):
  oN E JK (pdS L0.length a b k true true L g) Q:=by
 obtain⟨w0,x1,x2,wa⟩:=aiX hm1 KL (by omega)
 have wm:=aiY (m:=m) (by omega)
 change Ev E 558 [_,V.int .i64 ((m+1:Nat):Int),_,_,_] _ at abQ
 rw[←afL wm] at abQ
 unfold pdS
 (conv=>whnf);repeat' ((first| ((exfalso;omega)) | intro g| refine dI.mk (⟨rfl,rfl,rfl,by simp;omega,Event.bZ _⟩) ?_| refine dI.mk (⟨rfl,rfl,by simp;omega,Event.bZ _⟩) ?_| refine dI.mk (⟨rfl,rfl,Event.bZ _⟩) ?_| refine aL.mk _ (bC (by omega)) ?_| refine aL.mk _ (afF (by omega) (afJ (by omega) (by omega))) ?_| refine aL.mk _ (afF (by omega) rfl) ?_| refine gG (by assumption) (by first| assumption| rfl| (simp only[V.an,V.aC,Bool.and_self,Bool.true_and,Bool.and_true, *])) (acJ _ _) rfl ?_| refine ag.mk _ (hch) ?_| refine ag.mk _ (Xi) ?_| refine ag.mk _ (abQ) ?_| refine st ?_| (first| refine b1 ?_ ?_| refine b2 ?_ ?_| refine Br.mk ?_ ?_) <;>intro hc| exact rfl) <;>conv=>whnf)
 all_goals refine hN (decide (IntKind.i64.wrap ((IntKind.i64.wrap ((b:Int) - a)).tdiv 8)≤IntKind.i64.wrap ((b:Int) - m))) _ _ ?_
 all_goals unfold pdS
 all_goals (refine⟨?_,?_⟩ <;>repeat' (first| exact True.intro| refine ai ?_| refine And.intro ?_ ?_))
theorem ag1 {afy afu:List Event} {m:Nat} {w2:Bool}
  (afv:L.length=L0.length) (lL4:afy.length=L0.length) (lL5:afu.length=L0.length)
  (hch:Ev E 570 [.lit 5 (L.map Event.v),aD a,aD b,.fn g []] ⟨.tuple [aD p,vi h],[]⟩) (hh:h≠2) (hh1:h=1)
  (hpi:Ev E 572 [aiV L0 L,aD a,aD b,.fn g []] ⟨.bool false,[(0,afy.map Event.v)]⟩)
  (ahd:0 <a→c (at0 afy (a - 1)) (at0 afy p) < 0) (hm1:a≤m) (KL:m<b)
  (Xi:Ev E 574 [aiV L0 afy,aD a,aD b,aD p,.fn g []] ⟨.tuple [aD m,.bool w2],[(0,afu.map Event.v)]⟩)
  (hs:m - a<b - m) {afw:List Event} (lL6:afw.length=L0.length)
  (abQ:Ev E 558 [aiV L0 afu,aD a,aD m,vi k,.fn g []] (aiW afw))
  (hN: ∀aft T' O',SS.Sub (pdS L0.length (m+1) b k aft w2 afw g) ⟨T',O'⟩→Q .normal ⟨T',O'⟩):
  oN E JK (pdS L0.length a b k true true L g) Q:=by
 obtain⟨w0,x1,x2,wa⟩:=aiX hm1 KL (by omega)
 have wm:=afL (aiY (m:=m) (by omega))
 unfold pdS
 (conv=>whnf);repeat' ((first| ((exfalso;omega)) | intro g| refine dI.mk (⟨rfl,rfl,rfl,by simp;omega,Event.bZ _⟩) ?_| refine dI.mk (⟨rfl,rfl,by simp;omega,Event.bZ _⟩) ?_| refine dI.mk (⟨rfl,rfl,Event.bZ _⟩) ?_| refine aL.mk _ (bC (by omega)) ?_| refine aL.mk _ (afF (by omega) (afJ (by omega) (by omega))) ?_| refine aL.mk _ (afF (by omega) rfl) ?_| refine gG (by assumption) (by first| assumption| rfl| (simp only[V.an,V.aC,Bool.and_self,Bool.true_and,Bool.and_true, *])) (acJ _ _) rfl ?_| refine ag.mk _ (hch) ?_| refine ag.mk _ (hpi) ?_| refine ag.mk _ (Xi) ?_| refine ag.mk _ (abQ) ?_| refine st ?_| (first| refine b1 ?_ ?_| refine b2 ?_ ?_| refine Br.mk ?_ ?_) <;>intro hc| exact rfl) <;>conv=>whnf)
 all_goals refine hN (decide (IntKind.i64.wrap ((IntKind.i64.wrap ((b:Int) - a)).tdiv 8)≤IntKind.i64.wrap ((m:Int) - a))) _ _ ?_
 all_goals unfold pdS
 all_goals (refine⟨?_,?_⟩ <;>repeat' (first| exact True.intro| refine And.intro (wm) ?_| refine ai ?_| refine And.intro ?_ ?_))
theorem ag2 {afy afu:List Event} {m:Nat} {w2:Bool}
  (afv:L.length=L0.length) (lL4:afy.length=L0.length) (lL5:afu.length=L0.length)
  (hch:Ev E 570 [.lit 5 (L.map Event.v),aD a,aD b,.fn g []] ⟨.tuple [aD p,vi h],[]⟩) (hh:h≠2) (hh1:h=1)
  (hpi:Ev E 572 [aiV L0 L,aD a,aD b,.fn g []] ⟨.bool false,[(0,afy.map Event.v)]⟩)
  (ahd:0 <a→c (at0 afy (a - 1)) (at0 afy p) < 0) (hm1:a≤m) (KL:m<b)
  (Xi:Ev E 574 [aiV L0 afy,aD a,aD b,aD p,.fn g []] ⟨.tuple [aD m,.bool w2],[(0,afu.map Event.v)]⟩)
  (hs: ¬m - a<b - m) {afw:List Event} (lL6:afw.length=L0.length)
  (abQ:Ev E 558 [aiV L0 afu,aD (m+1),aD b,vi k,.fn g []] (aiW afw))
  (hN: ∀aft T' O',SS.Sub (pdS L0.length a m k aft w2 afw g) ⟨T',O'⟩→Q .normal ⟨T',O'⟩):
  oN E JK (pdS L0.length a b k true true L g) Q:=by
 obtain⟨w0,x1,x2,wa⟩:=aiX hm1 KL (by omega)
 have wm:=aiY (m:=m) (by omega)
 change Ev E 558 [_,V.int .i64 ((m+1:Nat):Int),_,_,_] _ at abQ
 rw[←afL wm] at abQ
 unfold pdS
 (conv=>whnf);repeat' ((first| ((exfalso;omega)) | intro g| refine dI.mk (⟨rfl,rfl,rfl,by simp;omega,Event.bZ _⟩) ?_| refine dI.mk (⟨rfl,rfl,by simp;omega,Event.bZ _⟩) ?_| refine dI.mk (⟨rfl,rfl,Event.bZ _⟩) ?_| refine aL.mk _ (bC (by omega)) ?_| refine aL.mk _ (afF (by omega) (afJ (by omega) (by omega))) ?_| refine aL.mk _ (afF (by omega) rfl) ?_| refine gG (by assumption) (by first| assumption| rfl| (simp only[V.an,V.aC,Bool.and_self,Bool.true_and,Bool.and_true, *])) (acJ _ _) rfl ?_| refine ag.mk _ (hch) ?_| refine ag.mk _ (hpi) ?_| refine ag.mk _ (Xi) ?_| refine ag.mk _ (abQ) ?_| refine st ?_| (first| refine b1 ?_ ?_| refine b2 ?_ ?_| refine Br.mk ?_ ?_) <;>intro hc| exact rfl) <;>conv=>whnf)
 all_goals refine hN (decide (IntKind.i64.wrap ((IntKind.i64.wrap ((b:Int) - a)).tdiv 8)≤IntKind.i64.wrap ((b:Int) - m))) _ _ ?_
 all_goals unfold pdS
 all_goals (refine⟨?_,?_⟩ <;>repeat' (first| exact True.intro| refine ai ?_| refine And.intro ?_ ?_))
theorem ag3 {afx afy afu:List Event} {p' m:Nat} {w2:Bool}
  (afv:L.length=L0.length) (lL3:afx.length=L0.length) (lL4:afy.length=L0.length) (lL5:afu.length=L0.length)
  (hch:Ev E 570 [.lit 5 (L.map Event.v),aD a,aD b,.fn g []] ⟨.tuple [aD p,vi h],[]⟩) (hh:h=2)
  (hrv:Ev E 571 [aiV L0 L,aD a,aD b,.fn g []] (aiW afx)) (A7:p'=b - 1 - (p - a))
  (hpi:Ev E 572 [aiV L0 afx,aD a,aD b,.fn g []] ⟨.bool false,[(0,afy.map Event.v)]⟩)
  (ahd:0 <a→c (at0 afy (a - 1)) (at0 afy p') < 0) (hm1:a≤m) (KL:m<b)
  (Xi:Ev E 574 [aiV L0 afy,aD a,aD b,aD p',.fn g []] ⟨.tuple [aD m,.bool w2],[(0,afu.map Event.v)]⟩)
  (hs:m - a<b - m) {afw:List Event} (lL6:afw.length=L0.length)
  (abQ:Ev E 558 [aiV L0 afu,aD a,aD m,vi k,.fn g []] (aiW afw))
  (hN: ∀aft T' O',SS.Sub (pdS L0.length (m+1) b k aft w2 afw g) ⟨T',O'⟩→Q .normal ⟨T',O'⟩):
  oN E JK (pdS L0.length a b k true true L g) Q:=by
 obtain⟨w0,x1,x2,wa⟩:=aiX hm1 KL (by omega)
 have wp1:=aiZ hp A7 (by omega)
 change Ev E 574 [_,_,_,V.int .i64 (p':Int),_] _ at Xi
 rw[←afL wp1] at Xi
 have wm:=afL (aiY (m:=m) (by omega))
 unfold pdS
 (conv=>whnf);repeat' ((first| ((exfalso;omega)) | intro g| refine dI.mk (⟨rfl,rfl,rfl,by simp;omega,Event.bZ _⟩) ?_| refine dI.mk (⟨rfl,rfl,by simp;omega,Event.bZ _⟩) ?_| refine dI.mk (⟨rfl,rfl,Event.bZ _⟩) ?_| refine aL.mk _ (bC (by omega)) ?_| refine aL.mk _ (afF (by omega) (afJ (by omega) (by omega))) ?_| refine aL.mk _ (afF (by omega) wp1) ?_| refine gG (by assumption) (by first| assumption| rfl| (simp only[V.an,V.aC,Bool.and_self,Bool.true_and,Bool.and_true, *])) (acJ _ _) rfl ?_| refine ag.mk _ (hch) ?_| refine ag.mk _ (hrv) ?_| refine ag.mk _ (hpi) ?_| refine ag.mk _ (Xi) ?_| refine ag.mk _ (abQ) ?_| refine st ?_| (first| refine b1 ?_ ?_| refine b2 ?_ ?_| refine Br.mk ?_ ?_) <;>intro hc| exact rfl) <;>conv=>whnf)
 all_goals refine hN (decide (IntKind.i64.wrap ((IntKind.i64.wrap ((b:Int) - a)).tdiv 8)≤IntKind.i64.wrap ((m:Int) - a))) _ _ ?_
 all_goals unfold pdS
 all_goals (refine⟨?_,?_⟩ <;>repeat' (first| exact True.intro| refine And.intro (wm) ?_| refine ai ?_| refine And.intro ?_ ?_))
theorem ag4 {afx afy afu:List Event} {p' m:Nat} {w2:Bool}
  (afv:L.length=L0.length) (lL3:afx.length=L0.length) (lL4:afy.length=L0.length) (lL5:afu.length=L0.length)
  (hch:Ev E 570 [.lit 5 (L.map Event.v),aD a,aD b,.fn g []] ⟨.tuple [aD p,vi h],[]⟩) (hh:h=2)
  (hrv:Ev E 571 [aiV L0 L,aD a,aD b,.fn g []] (aiW afx)) (A7:p'=b - 1 - (p - a))
  (hpi:Ev E 572 [aiV L0 afx,aD a,aD b,.fn g []] ⟨.bool false,[(0,afy.map Event.v)]⟩)
  (ahd:0 <a→c (at0 afy (a - 1)) (at0 afy p') < 0) (hm1:a≤m) (KL:m<b)
  (Xi:Ev E 574 [aiV L0 afy,aD a,aD b,aD p',.fn g []] ⟨.tuple [aD m,.bool w2],[(0,afu.map Event.v)]⟩)
  (hs: ¬m - a<b - m) {afw:List Event} (lL6:afw.length=L0.length)
  (abQ:Ev E 558 [aiV L0 afu,aD (m+1),aD b,vi k,.fn g []] (aiW afw))
  (hN: ∀aft T' O',SS.Sub (pdS L0.length a m k aft w2 afw g) ⟨T',O'⟩→Q .normal ⟨T',O'⟩):
  oN E JK (pdS L0.length a b k true true L g) Q:=by
 obtain⟨w0,x1,x2,wa⟩:=aiX hm1 KL (by omega)
 have wp1:=aiZ hp A7 (by omega)
 change Ev E 574 [_,_,_,V.int .i64 (p':Int),_] _ at Xi
 rw[←afL wp1] at Xi
 have wm:=aiY (m:=m) (by omega)
 change Ev E 558 [_,V.int .i64 ((m+1:Nat):Int),_,_,_] _ at abQ
 rw[←afL wm] at abQ
 unfold pdS
 (conv=>whnf);repeat' ((first| ((exfalso;omega)) | intro g| refine dI.mk (⟨rfl,rfl,rfl,by simp;omega,Event.bZ _⟩) ?_| refine dI.mk (⟨rfl,rfl,by simp;omega,Event.bZ _⟩) ?_| refine dI.mk (⟨rfl,rfl,Event.bZ _⟩) ?_| refine aL.mk _ (bC (by omega)) ?_| refine aL.mk _ (afF (by omega) (afJ (by omega) (by omega))) ?_| refine aL.mk _ (afF (by omega) wp1) ?_| refine gG (by assumption) (by first| assumption| rfl| (simp only[V.an,V.aC,Bool.and_self,Bool.true_and,Bool.and_true, *])) (acJ _ _) rfl ?_| refine ag.mk _ (hch) ?_| refine ag.mk _ (hrv) ?_| refine ag.mk _ (hpi) ?_| refine ag.mk _ (Xi) ?_| refine ag.mk _ (abQ) ?_| refine st ?_| (first| refine b1 ?_ ?_| refine b2 ?_ ?_| refine Br.mk ?_ ?_) <;>intro hc| exact rfl) <;>conv=>whnf)
 all_goals refine hN (decide (IntKind.i64.wrap ((IntKind.i64.wrap ((b:Int) - a)).tdiv 8)≤IntKind.i64.wrap ((b:Int) - m))) _ _ ?_
 all_goals unfold pdS
 all_goals (refine⟨?_,?_⟩ <;>repeat' (first| exact True.intro| refine ai ?_| refine And.intro ?_ ?_))
theorem aiy {afy:List Event}
  (afv:L.length=L0.length) (lL4:afy.length=L0.length)
  (hch:Ev E 570 [.lit 5 (L.map Event.v),aD a,aD b,.fn g []] ⟨.tuple [aD p,vi h],[]⟩) (hh:h≠2) (hh1:h=1)
  (hpi:Ev E 572 [aiV L0 L,aD a,aD b,.fn g []] ⟨.bool true,[(0,afy.map Event.v)]⟩)
  (hR: ∀T' O',SS.Sub ⟨[],[(0,⟨0,5,true,false,some (afy.map Event.v)⟩)]⟩ ⟨T',O'⟩→Q .ret ⟨T',O'⟩):
  oN E JK (pdS L0.length a b k true true L g) Q:=by
 have w0:IntKind.i64.wrap ((b:Int) - a)=((b - a:Nat):Int):=(wrap64 (by omega) (by omega)).trans (by omega)
 unfold pdS
 (conv=>whnf);repeat' ((first| ((exfalso;omega)) | intro g| refine dI.mk (⟨rfl,rfl,rfl,by simp;omega,Event.bZ _⟩) ?_| refine dI.mk (⟨rfl,rfl,by simp;omega,Event.bZ _⟩) ?_| refine dI.mk (⟨rfl,rfl,Event.bZ _⟩) ?_| refine aL.mk _ (bC (by omega)) ?_| refine gG (by assumption) (by first| assumption| rfl| (simp only[V.an,V.aC,Bool.and_self,Bool.true_and,Bool.and_true, *])) (acJ _ _) rfl ?_| refine ag.mk _ (hch) ?_| refine ag.mk _ (hpi) ?_| refine st ?_| (first| refine b1 ?_ ?_| refine b2 ?_ ?_| refine Br.mk ?_ ?_) <;>intro hc| exact rfl) <;>conv=>whnf)
 exact hR _ _ (by(refine⟨?_,?_⟩ <;>repeat' (first| exact True.intro| refine ai ?_| refine And.intro ?_ ?_)))
theorem aiz {afx afy:List Event} {p':Nat}
  (afv:L.length=L0.length) (lL3:afx.length=L0.length) (lL4:afy.length=L0.length)
  (hch:Ev E 570 [.lit 5 (L.map Event.v),aD a,aD b,.fn g []] ⟨.tuple [aD p,vi h],[]⟩) (hh:h=2)
  (hrv:Ev E 571 [aiV L0 L,aD a,aD b,.fn g []] (aiW afx)) (A7:p'=b - 1 - (p - a))
  (hpi:Ev E 572 [aiV L0 afx,aD a,aD b,.fn g []] ⟨.bool true,[(0,afy.map Event.v)]⟩)
  (hR: ∀T' O',SS.Sub ⟨[],[(0,⟨0,5,true,false,some (afy.map Event.v)⟩)]⟩ ⟨T',O'⟩→Q .ret ⟨T',O'⟩):
  oN E JK (pdS L0.length a b k true true L g) Q:=by
 have w0:IntKind.i64.wrap ((b:Int) - a)=((b - a:Nat):Int):=(wrap64 (by omega) (by omega)).trans (by omega)
 have wp1:=aiZ hp A7 (by omega)
 unfold pdS
 (conv=>whnf);repeat' ((first| ((exfalso;omega)) | intro g| refine dI.mk (⟨rfl,rfl,rfl,by simp;omega,Event.bZ _⟩) ?_| refine dI.mk (⟨rfl,rfl,by simp;omega,Event.bZ _⟩) ?_| refine dI.mk (⟨rfl,rfl,Event.bZ _⟩) ?_| refine aL.mk _ (bC (by omega)) ?_| refine gG (by assumption) (by first| assumption| rfl| (simp only[V.an,V.aC,Bool.and_self,Bool.true_and,Bool.and_true, *])) (acJ _ _) rfl ?_| refine ag.mk _ (hch) ?_| refine ag.mk _ (hrv) ?_| refine ag.mk _ (hpi) ?_| refine st ?_| (first| refine b1 ?_ ?_| refine b2 ?_ ?_| refine Br.mk ?_ ?_) <;>intro hc| exact rfl) <;>conv=>whnf)
 exact hR _ _ (by(refine⟨?_,?_⟩ <;>repeat' (first| exact True.intro| refine ai ?_| refine And.intro ?_ ?_)))
end
end Go.AM
