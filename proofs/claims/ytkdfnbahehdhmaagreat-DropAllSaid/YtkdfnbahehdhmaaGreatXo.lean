/-
  Texts of the proof, joined by program: DcO, DcP. Own work.
-/
import Derived.Test.YtkdfnbahehdhmaaGreatXe
import Derived.Test.YtkdfnbahehdhmaaGreatXc
set_option linter.unusedSimpArgs false
set_option linter.unusedVariables false
set_option maxRecDepth 20000
set_option maxHeartbeats 4000000
namespace Go.AM
section
variable {a b c d e:Pt} {z1 z2 q1 q2 q3 q4 y1 y2 y3:Bool}
def p8 (p a:Pt) (q:Bool):Prop:=(p.x==a.x && (p.y==a.y &&true))=q∧ ¬ (p.x==a.x && (p.y==a.y &&true))= !q
variable (hr:Ev E 559 [.lit 2 [a.v,b.v,c.v,d.v,e.v]] ⟨.bool true,[]⟩)
include hr
theorem acP (i1:Ev E 563 [a.v,b.v,c.v,d.v] ⟨.bool true,[]⟩) (h1:p8 d a false) (h2:p8 d c false):Ev E 562 [a.v,b.v,c.v,d.v,e.v] ⟨.bool true,[]⟩:=by
 obtain⟨g1,k1⟩:=h1
 obtain⟨g2,k2⟩:=h2
 refine Ev.aG kp (kq _) rfl ?_
 (conv=>whnf);repeat' ((first| contradiction| intro g| refine ag.mk _ (hr) ?_| refine ag.mk _ (i1) ?_| refine st ?_| (first| refine b1 ?_ ?_| refine b2 ?_ ?_| refine Br.mk ?_ ?_) <;>intro hc| exact rfl) <;>conv=>whnf)
theorem aay (i1:Ev E 563 [a.v,b.v,c.v,d.v] ⟨.bool false,[]⟩) (i2:Ev E 563 [a.v,b.v,c.v,e.v] ⟨.bool true,[]⟩) (h3:p8 e a false) (h4:p8 e c false):Ev E 562 [a.v,b.v,c.v,d.v,e.v] ⟨.bool true,[]⟩:=by
 obtain⟨g3,k3⟩:=h3
 obtain⟨g4,k4⟩:=h4
 refine Ev.aG kp (kq _) rfl ?_
 (conv=>whnf);repeat' ((first| contradiction| intro g| refine ag.mk _ (hr) ?_| refine ag.mk _ (i1) ?_| refine ag.mk _ (i2) ?_| refine st ?_| (first| refine b1 ?_ ?_| refine b2 ?_ ?_| refine Br.mk ?_ ?_) <;>intro hc| exact rfl) <;>conv=>whnf)
theorem aaz (i1:Ev E 563 [a.v,b.v,c.v,d.v] ⟨.bool false,[]⟩) (i2:Ev E 563 [a.v,b.v,c.v,e.v] ⟨.bool false,[]⟩) (n1:Ev E 581 [a.v,b.v,d.v,e.v,a.v,c.v] ⟨.bool y1,[]⟩) (n2:Ev E 581 [b.v,c.v,d.v,e.v,a.v,c.v] ⟨.bool y2,[]⟩) (n3:Ev E 581 [c.v,a.v,d.v,e.v,a.v,c.v] ⟨.bool y3,[]⟩):Ev E 562 [a.v,b.v,c.v,d.v,e.v] ⟨.bool (y1 || (y2 || y3)),[]⟩:=by
 cases y1<;>cases y2
 all_goals
  refine Ev.aG kp (kq _) rfl ?_
  (conv=>whnf);repeat' ((first| contradiction| intro g| refine ag.mk _ (hr) ?_| refine ag.mk _ (i1) ?_| refine ag.mk _ (i2) ?_| refine ag.mk _ (n1) ?_| refine ag.mk _ (n2) ?_| refine ag.mk _ (n3) ?_| refine st ?_| (first| refine b1 ?_ ?_| refine b2 ?_ ?_| refine Br.mk ?_ ?_) <;>intro hc| exact rfl) <;>conv=>whnf)
theorem aaA (i1:Ev E 563 [a.v,b.v,c.v,d.v] ⟨.bool false,[]⟩) (i2:Ev E 563 [a.v,b.v,c.v,e.v] ⟨.bool true,[]⟩) (n1:Ev E 581 [a.v,b.v,d.v,e.v,a.v,c.v] ⟨.bool y1,[]⟩) (n2:Ev E 581 [b.v,c.v,d.v,e.v,a.v,c.v] ⟨.bool y2,[]⟩) (n3:Ev E 581 [c.v,a.v,d.v,e.v,a.v,c.v] ⟨.bool y3,[]⟩) (h3:p8 e a true):Ev E 562 [a.v,b.v,c.v,d.v,e.v] ⟨.bool (y1 || (y2 || y3)),[]⟩:=by
 obtain⟨g3,k3⟩:=h3
 cases y1<;>cases y2
 all_goals
  refine Ev.aG kp (kq _) rfl ?_
  (conv=>whnf);repeat' ((first| contradiction| intro g| refine ag.mk _ (hr) ?_| refine ag.mk _ (i1) ?_| refine ag.mk _ (i2) ?_| refine ag.mk _ (n1) ?_| refine ag.mk _ (n2) ?_| refine ag.mk _ (n3) ?_| refine st ?_| (first| refine b1 ?_ ?_| refine b2 ?_ ?_| refine Br.mk ?_ ?_) <;>intro hc| exact rfl) <;>conv=>whnf)
theorem aaB (i1:Ev E 563 [a.v,b.v,c.v,d.v] ⟨.bool false,[]⟩) (i2:Ev E 563 [a.v,b.v,c.v,e.v] ⟨.bool true,[]⟩) (n1:Ev E 581 [a.v,b.v,d.v,e.v,a.v,c.v] ⟨.bool y1,[]⟩) (n2:Ev E 581 [b.v,c.v,d.v,e.v,a.v,c.v] ⟨.bool y2,[]⟩) (n3:Ev E 581 [c.v,a.v,d.v,e.v,a.v,c.v] ⟨.bool y3,[]⟩) (h3:p8 e a false) (h4:p8 e c true):Ev E 562 [a.v,b.v,c.v,d.v,e.v] ⟨.bool (y1 || (y2 || y3)),[]⟩:=by
 obtain⟨g3,k3⟩:=h3
 obtain⟨g4,k4⟩:=h4
 cases y1<;>cases y2
 all_goals
  refine Ev.aG kp (kq _) rfl ?_
  (conv=>whnf);repeat' ((first| contradiction| intro g| refine ag.mk _ (hr) ?_| refine ag.mk _ (i1) ?_| refine ag.mk _ (i2) ?_| refine ag.mk _ (n1) ?_| refine ag.mk _ (n2) ?_| refine ag.mk _ (n3) ?_| refine st ?_| (first| refine b1 ?_ ?_| refine b2 ?_ ?_| refine Br.mk ?_ ?_) <;>intro hc| exact rfl) <;>conv=>whnf)
theorem aaC (i1:Ev E 563 [a.v,b.v,c.v,d.v] ⟨.bool true,[]⟩) (i2:Ev E 563 [a.v,b.v,c.v,e.v] ⟨.bool true,[]⟩) (h1:p8 d a true) (h3:p8 e a false) (h4:p8 e c false):Ev E 562 [a.v,b.v,c.v,d.v,e.v] ⟨.bool true,[]⟩:=by
 obtain⟨g1,k1⟩:=h1
 obtain⟨g3,k3⟩:=h3
 obtain⟨g4,k4⟩:=h4
 refine Ev.aG kp (kq _) rfl ?_
 (conv=>whnf);repeat' ((first| contradiction| intro g| refine ag.mk _ (hr) ?_| refine ag.mk _ (i1) ?_| refine ag.mk _ (i2) ?_| refine st ?_| (first| refine b1 ?_ ?_| refine b2 ?_ ?_| refine Br.mk ?_ ?_) <;>intro hc| exact rfl) <;>conv=>whnf)
theorem aaD (i1:Ev E 563 [a.v,b.v,c.v,d.v] ⟨.bool true,[]⟩) (i2:Ev E 563 [a.v,b.v,c.v,e.v] ⟨.bool false,[]⟩) (n1:Ev E 581 [a.v,b.v,d.v,e.v,a.v,c.v] ⟨.bool y1,[]⟩) (n2:Ev E 581 [b.v,c.v,d.v,e.v,a.v,c.v] ⟨.bool y2,[]⟩) (n3:Ev E 581 [c.v,a.v,d.v,e.v,a.v,c.v] ⟨.bool y3,[]⟩) (h1:p8 d a true):Ev E 562 [a.v,b.v,c.v,d.v,e.v] ⟨.bool (y1 || (y2 || y3)),[]⟩:=by
 obtain⟨g1,k1⟩:=h1
 cases y1<;>cases y2
 all_goals
  refine Ev.aG kp (kq _) rfl ?_
  (conv=>whnf);repeat' ((first| contradiction| intro g| refine ag.mk _ (hr) ?_| refine ag.mk _ (i1) ?_| refine ag.mk _ (i2) ?_| refine ag.mk _ (n1) ?_| refine ag.mk _ (n2) ?_| refine ag.mk _ (n3) ?_| refine st ?_| (first| refine b1 ?_ ?_| refine b2 ?_ ?_| refine Br.mk ?_ ?_) <;>intro hc| exact rfl) <;>conv=>whnf)
theorem aaE (i1:Ev E 563 [a.v,b.v,c.v,d.v] ⟨.bool true,[]⟩) (i2:Ev E 563 [a.v,b.v,c.v,e.v] ⟨.bool true,[]⟩) (n1:Ev E 581 [a.v,b.v,d.v,e.v,a.v,c.v] ⟨.bool y1,[]⟩) (n2:Ev E 581 [b.v,c.v,d.v,e.v,a.v,c.v] ⟨.bool y2,[]⟩) (n3:Ev E 581 [c.v,a.v,d.v,e.v,a.v,c.v] ⟨.bool y3,[]⟩) (h1:p8 d a true) (h3:p8 e a true):Ev E 562 [a.v,b.v,c.v,d.v,e.v] ⟨.bool (y1 || (y2 || y3)),[]⟩:=by
 obtain⟨g1,k1⟩:=h1
 obtain⟨g3,k3⟩:=h3
 cases y1<;>cases y2
 all_goals
  refine Ev.aG kp (kq _) rfl ?_
  (conv=>whnf);repeat' ((first| contradiction| intro g| refine ag.mk _ (hr) ?_| refine ag.mk _ (i1) ?_| refine ag.mk _ (i2) ?_| refine ag.mk _ (n1) ?_| refine ag.mk _ (n2) ?_| refine ag.mk _ (n3) ?_| refine st ?_| (first| refine b1 ?_ ?_| refine b2 ?_ ?_| refine Br.mk ?_ ?_) <;>intro hc| exact rfl) <;>conv=>whnf)
theorem aaF (i1:Ev E 563 [a.v,b.v,c.v,d.v] ⟨.bool true,[]⟩) (i2:Ev E 563 [a.v,b.v,c.v,e.v] ⟨.bool true,[]⟩) (n1:Ev E 581 [a.v,b.v,d.v,e.v,a.v,c.v] ⟨.bool y1,[]⟩) (n2:Ev E 581 [b.v,c.v,d.v,e.v,a.v,c.v] ⟨.bool y2,[]⟩) (n3:Ev E 581 [c.v,a.v,d.v,e.v,a.v,c.v] ⟨.bool y3,[]⟩) (h1:p8 d a true) (h3:p8 e a false) (h4:p8 e c true):Ev E 562 [a.v,b.v,c.v,d.v,e.v] ⟨.bool (y1 || (y2 || y3)),[]⟩:=by
 obtain⟨g1,k1⟩:=h1
 obtain⟨g3,k3⟩:=h3
 obtain⟨g4,k4⟩:=h4
 cases y1<;>cases y2
 all_goals
  refine Ev.aG kp (kq _) rfl ?_
  (conv=>whnf);repeat' ((first| contradiction| intro g| refine ag.mk _ (hr) ?_| refine ag.mk _ (i1) ?_| refine ag.mk _ (i2) ?_| refine ag.mk _ (n1) ?_| refine ag.mk _ (n2) ?_| refine ag.mk _ (n3) ?_| refine st ?_| (first| refine b1 ?_ ?_| refine b2 ?_ ?_| refine Br.mk ?_ ?_) <;>intro hc| exact rfl) <;>conv=>whnf)
theorem aaG (i1:Ev E 563 [a.v,b.v,c.v,d.v] ⟨.bool true,[]⟩) (i2:Ev E 563 [a.v,b.v,c.v,e.v] ⟨.bool true,[]⟩) (h1:p8 d a false) (h2:p8 d c true) (h3:p8 e a false) (h4:p8 e c false):Ev E 562 [a.v,b.v,c.v,d.v,e.v] ⟨.bool true,[]⟩:=by
 obtain⟨g1,k1⟩:=h1
 obtain⟨g2,k2⟩:=h2
 obtain⟨g3,k3⟩:=h3
 obtain⟨g4,k4⟩:=h4
 refine Ev.aG kp (kq _) rfl ?_
 (conv=>whnf);repeat' ((first| contradiction| intro g| refine ag.mk _ (hr) ?_| refine ag.mk _ (i1) ?_| refine ag.mk _ (i2) ?_| refine st ?_| (first| refine b1 ?_ ?_| refine b2 ?_ ?_| refine Br.mk ?_ ?_) <;>intro hc| exact rfl) <;>conv=>whnf)
theorem aaH (i1:Ev E 563 [a.v,b.v,c.v,d.v] ⟨.bool true,[]⟩) (i2:Ev E 563 [a.v,b.v,c.v,e.v] ⟨.bool false,[]⟩) (n1:Ev E 581 [a.v,b.v,d.v,e.v,a.v,c.v] ⟨.bool y1,[]⟩) (n2:Ev E 581 [b.v,c.v,d.v,e.v,a.v,c.v] ⟨.bool y2,[]⟩) (n3:Ev E 581 [c.v,a.v,d.v,e.v,a.v,c.v] ⟨.bool y3,[]⟩) (h1:p8 d a false) (h2:p8 d c true):Ev E 562 [a.v,b.v,c.v,d.v,e.v] ⟨.bool (y1 || (y2 || y3)),[]⟩:=by
 obtain⟨g1,k1⟩:=h1
 obtain⟨g2,k2⟩:=h2
 cases y1<;>cases y2
 all_goals
  refine Ev.aG kp (kq _) rfl ?_
  (conv=>whnf);repeat' ((first| contradiction| intro g| refine ag.mk _ (hr) ?_| refine ag.mk _ (i1) ?_| refine ag.mk _ (i2) ?_| refine ag.mk _ (n1) ?_| refine ag.mk _ (n2) ?_| refine ag.mk _ (n3) ?_| refine st ?_| (first| refine b1 ?_ ?_| refine b2 ?_ ?_| refine Br.mk ?_ ?_) <;>intro hc| exact rfl) <;>conv=>whnf)
theorem aaI (i1:Ev E 563 [a.v,b.v,c.v,d.v] ⟨.bool true,[]⟩) (i2:Ev E 563 [a.v,b.v,c.v,e.v] ⟨.bool true,[]⟩) (n1:Ev E 581 [a.v,b.v,d.v,e.v,a.v,c.v] ⟨.bool y1,[]⟩) (n2:Ev E 581 [b.v,c.v,d.v,e.v,a.v,c.v] ⟨.bool y2,[]⟩) (n3:Ev E 581 [c.v,a.v,d.v,e.v,a.v,c.v] ⟨.bool y3,[]⟩) (h1:p8 d a false) (h2:p8 d c true) (h3:p8 e a true):Ev E 562 [a.v,b.v,c.v,d.v,e.v] ⟨.bool (y1 || (y2 || y3)),[]⟩:=by
 obtain⟨g1,k1⟩:=h1
 obtain⟨g2,k2⟩:=h2
 obtain⟨g3,k3⟩:=h3
 cases y1<;>cases y2
 all_goals
  refine Ev.aG kp (kq _) rfl ?_
  (conv=>whnf);repeat' ((first| contradiction| intro g| refine ag.mk _ (hr) ?_| refine ag.mk _ (i1) ?_| refine ag.mk _ (i2) ?_| refine ag.mk _ (n1) ?_| refine ag.mk _ (n2) ?_| refine ag.mk _ (n3) ?_| refine st ?_| (first| refine b1 ?_ ?_| refine b2 ?_ ?_| refine Br.mk ?_ ?_) <;>intro hc| exact rfl) <;>conv=>whnf)
theorem aaJ (i1:Ev E 563 [a.v,b.v,c.v,d.v] ⟨.bool true,[]⟩) (i2:Ev E 563 [a.v,b.v,c.v,e.v] ⟨.bool true,[]⟩) (n1:Ev E 581 [a.v,b.v,d.v,e.v,a.v,c.v] ⟨.bool y1,[]⟩) (n2:Ev E 581 [b.v,c.v,d.v,e.v,a.v,c.v] ⟨.bool y2,[]⟩) (n3:Ev E 581 [c.v,a.v,d.v,e.v,a.v,c.v] ⟨.bool y3,[]⟩) (h1:p8 d a false) (h2:p8 d c true) (h3:p8 e a false) (h4:p8 e c true):Ev E 562 [a.v,b.v,c.v,d.v,e.v] ⟨.bool (y1 || (y2 || y3)),[]⟩:=by
 obtain⟨g1,k1⟩:=h1
 obtain⟨g2,k2⟩:=h2
 obtain⟨g3,k3⟩:=h3
 obtain⟨g4,k4⟩:=h4
 cases y1<;>cases y2
 all_goals
  refine Ev.aG kp (kq _) rfl ?_
  (conv=>whnf);repeat' ((first| contradiction| intro g| refine ag.mk _ (hr) ?_| refine ag.mk _ (i1) ?_| refine ag.mk _ (i2) ?_| refine ag.mk _ (n1) ?_| refine ag.mk _ (n2) ?_| refine ag.mk _ (n3) ?_| refine st ?_| (first| refine b1 ?_ ?_| refine b2 ?_ ?_| refine Br.mk ?_ ?_) <;>intro hc| exact rfl) <;>conv=>whnf)
end
theorem yV (p a:Pt):p8 p a (qp p a):=⟨rfl,by unfold qp;cases h: (p.x==a.x && (p.y==a.y &&true)) <;>simp⟩
theorem A0 (a b c d e:Pt):Ev E 562 [a.v,b.v,c.v,d.v,e.v] ⟨.bool (eL a b c d e),[]⟩:=by
 have hr:Ev E 559 [.lit 2 [a.v,b.v,c.v,d.v,e.v]] ⟨.bool (du [a,b,c,d,e]),[]⟩:=vN (l:=[a,b,c,d,e]) (by simp)
 unfold eL
 cases hf:du [a,b,c,d,e] with
 | false=>
   rw[hf] at hr
   refine Ev.aG kp (kq _) rfl ?_
   (conv=>whnf);repeat' ((first| intro g| refine ag.mk _ (hr) ?_| refine st ?_| (first| refine b1 ?_ ?_| refine b2 ?_ ?_| refine Br.mk ?_ ?_) <;>intro hc| exact rfl) <;>conv=>whnf)
 | true=>
   have hk: ∀x ∈ [a,b,c,d,e],eb x:=by simpa [du] using hf
   have ha:=hk a (by simp);have hb:=hk b (by simp);have hc:=hk c (by simp);have hd:=hk d (by simp);have he:=hk e (by simp)
   rw[hf] at hr
   have i1:=yS (a:=a) (b:=b) (c:=c) (p:=d)
   have i2:=yS (a:=a) (b:=b) (c:=c) (p:=e)
   have f1:du [a,b,c,d]=true:=by simp[du,ha,hb,hc,hd]
   have f2:du [a,b,c,e]=true:=by simp[du,ha,hb,hc,he]
   unfold Cu at i1 i2
   rw[f1,Bool.true_and] at i1
   rw[f2,Bool.true_and] at i2
   have n1:=nT ha hc hd he ha hb
   have n2:=nT ha hc hd he hb hc
   have n3:=nT ha hc hd he hc ha
   have h1:=yV d a;have h2:=yV d c;have h3:=yV e a;have h4:=yV e c
   clear ha hb hc hd he hk hf f1 f2
   unfold wD
   generalize MS a b c d=z1 at*
   generalize MS a b c e=z2 at*
   generalize AQ a b d e a c=y1 at*
   generalize AQ b c d e a c=y2 at*
   generalize AQ c a d e a c=y3 at*
   generalize qp d a=q1 at*
   generalize qp d c=q2 at*
   generalize qp e a=q3 at*
   generalize qp e c=q4 at*
   cases z1
   · rw[show (!q1 && (!q2 &&false))=false by simp]
     cases z2
     · rw[show (!q3 && (!q4 &&false))=false by simp]
       exact aaz hr i1 i2 n1 n2 n3
     cases q3
     · cases q4
       · exact aay hr i1 i2 h3 h4
       · exact aaB hr i1 i2 n1 n2 n3 h3 h4
     · exact aaA hr i1 i2 n1 n2 n3 h3
   cases q1
   · cases q2
     · exact acP hr i1 h1 h2
     · show Ev E 562 _ ⟨.bool (true && (false || _)),[]⟩
       cases z2
       · rw[show (!q3 && (!q4 &&false))=false by simp]
         exact aaH hr i1 i2 n1 n2 n3 h1 h2
       cases q3
       · cases q4
         · exact aaG hr i1 i2 h1 h2 h3 h4
         · exact aaJ hr i1 i2 n1 n2 n3 h1 h2 h3 h4
       · exact aaI hr i1 i2 n1 n2 n3 h1 h2 h3
   · show Ev E 562 _ ⟨.bool (true && (false || _)),[]⟩
     cases z2
     · rw[show (!q3 && (!q4 &&false))=false by simp]
       exact aaD hr i1 i2 n1 n2 n3 h1
     cases q3
     · cases q4
       · exact aaC hr i1 i2 h1 h3 h4
       · exact aaF hr i1 i2 n1 n2 n3 h1 h3 h4
     · exact aaE hr i1 i2 n1 n2 n3 h1 h3
end Go.AM
set_option maxRecDepth 20000
set_option maxHeartbeats 4000000
namespace Go.AM
theorem acQ {l:List Pt} {i k:Nat} {n:Int} {C:Bool} {p q p2 q2:Pt} {Q:bd→SS→Prop} (hp:l[i]? =some p) (hq:l[i+1]? =some q) (uM:l[k]? =some p2) (w6:l[k+1]? =some q2)
   (hm:Ev E 561 [p2.v,q2.v,p.v,q.v] ⟨vi n,[]⟩) (qT:Ev E 560 [dJ l] ⟨.bool C,[]⟩) (hk:k<i) (hi:i< 1000) (hl:l.length< 1000)
   (hS:decide (n≠if (decide (i=k+1) || (decide (k=0) && (decide (i=l.length - 2) &&C)))=true then 1 else 0)=true→ ∀T' O',lk T' 2=some (vi 11)→Q .ret ⟨T',O'⟩)
   (hN:decide (n≠if (decide (i=k+1) || (decide (k=0) && (decide (i=l.length - 2) &&C)))=true then 1 else 0)=false→ ∀T' O',SS.Sub ⟨[(0,dJ l),(3,aD (l.length - 2)),(4,aD i),(5,aD (k+1))],[]⟩ ⟨T',O'⟩→Q .normal ⟨T',O'⟩):
   oN E CS ⟨[(0,dJ l),(3,aD (l.length - 2)),(4,aD i),(5,aD k)],[]⟩ Q:=by
 have tw:=Two.mk hS hN
 clear hS hN
 have w1:IntKind.i64.wrap ((k:Int)+1)=((k+1:Nat):Int):=(wrap64 (by omega) (by omega)).trans (by omega)
 have w2:IntKind.i64.wrap ((i:Int)+1)=((i+1:Nat):Int):=(wrap64 (by omega) (by omega)).trans (by omega)
 (conv=>whnf);repeat' ((first| intro g| refine aL.mk _ (aq hp rfl) ?_| refine aL.mk _ (aq hq w2) ?_| refine aL.mk _ (aq uM rfl) ?_| refine aL.mk _ (aq w6 w1) ?_| refine ag.mk _ (hm) ?_| refine ag.mk _ (qT) ?_| refine st ?_| (first| refine b1 ?_ ?_| refine b2 ?_ ?_| refine Br.mk ?_ ?_) <;>intro hc| exact rfl) <;>conv=>whnf)
 · exact tw.a (by rw[decide_eq_true (show i=k+1 by omega)];simp[hc]) _ _ rfl
 · exact tw.b (by rw[decide_eq_true (show i=k+1 by omega)];simp[hc]) _ _ (by(refine⟨?_,?_⟩ <;>repeat' (first| exact True.intro| refine ai ?_| refine And.intro ?_ ?_)))
 · rename_i r1 r2 r3 r4
   exact tw.a (by rw[decide_eq_false (show ¬i=k+1 by omega),decide_eq_true (show k=0 by omega),decide_eq_true (show i=l.length - 2 by omega),r2];simp[hc]) _ _ rfl
 · rename_i r1 r2 r3 r4
   exact tw.b (by rw[decide_eq_false (show ¬i=k+1 by omega),decide_eq_true (show k=0 by omega),decide_eq_true (show i=l.length - 2 by omega),r2];simp[hc]) _ _ (by(refine⟨?_,?_⟩ <;>repeat' (first| exact True.intro| refine ai ?_| refine And.intro ?_ ?_)))
 · exact tw.a (by rw[decide_eq_false (show ¬i=k+1 by omega),decide_eq_true (show k=0 by omega),decide_eq_false (show ¬i=l.length - 2 by omega)];simp[hc]) _ _ rfl
 · exact tw.b (by rw[decide_eq_false (show ¬i=k+1 by omega),decide_eq_true (show k=0 by omega),decide_eq_false (show ¬i=l.length - 2 by omega)];simp[hc]) _ _ (by(refine⟨?_,?_⟩ <;>repeat' (first| exact True.intro| refine ai ?_| refine And.intro ?_ ?_)))
 · exact tw.a (by rw[decide_eq_false (show ¬i=k+1 by omega),decide_eq_false (show ¬k=0 by omega)];simp[hc]) _ _ rfl
 · exact tw.b (by rw[decide_eq_false (show ¬i=k+1 by omega),decide_eq_false (show ¬k=0 by omega)];simp[hc]) _ _ (by(refine⟨?_,?_⟩ <;>repeat' (first| exact True.intro| refine ai ?_| refine And.intro ?_ ?_)))
 · rename_i r1 r2
   exact tw.a (by rw[decide_eq_false (show ¬i=k+1 by omega),r2];simp[hc]) _ _ rfl
 · rename_i r1 r2
   exact tw.b (by rw[decide_eq_false (show ¬i=k+1 by omega),r2];simp[hc]) _ _ (by(refine⟨?_,?_⟩ <;>repeat' (first| exact True.intro| refine ai ?_| refine And.intro ?_ ?_)))
theorem FE (l:List Pt) (hl:l.length< 1000000):Ev E 548 [dJ l] ⟨vi (pS l),[]⟩:=by
 classical
 have hr:Ev E 559 [dJ l] ⟨.bool (du l),[]⟩:=vN hl
 have qT:Ev E 560 [dJ l] ⟨.bool (mz l),[]⟩:=Cx hl
 unfold pS
 by_cases hlen:l.length< 2∨40 <l.length
 · rw[if_pos hlen]
   refine Ev.aG GB (GC _) rfl ?_
   (conv=>whnf);repeat' ((first| intro g| refine ag.mk _ (hr) ?_| refine st ?_| (first| refine b1 ?_ ?_| refine b2 ?_ ?_| refine Br.mk ?_ ?_) <;>intro hc| exact rfl) <;>conv=>whnf)
   all_goals (exfalso;simp only[List.length_map] at*;omega)
 rw[if_neg hlen]
 have MT:2≤l.length∧l.length≤40:=by omega
 clear hlen
 cases hf:du l with
 | false=>
   rw[hf] at hr
   rw[if_pos rfl]
   refine Ev.aG GB (GC _) rfl ?_
   (conv=>whnf);repeat' ((first| intro g| refine ag.mk _ (hr) ?_| refine st ?_| (first| refine b1 ?_ ?_| refine b2 ?_ ?_| refine Br.mk ?_ ?_) <;>intro hc| exact rfl) <;>conv=>whnf)
 | true=>
 rw[hf] at hr
 rw[if_neg (by simp)]
 have hk: ∀p ∈ l,eb p:=by simpa [du] using hf
 obtain⟨Z,hZ⟩: ∃Z:Int,Z=if Sy l then 11 else 0:=⟨_,rfl⟩
 have zb:Sy l→Z=11:=fun h=>by rw[hZ,if_pos h]
 have zg: ¬Sy l→Z=0:=fun h=>by rw[hZ,if_neg h]
 rw[←hZ]
 clear hZ hf
 have hz:IntKind.i64.wrap (((l.map Pt.v).length:Int) - 2)=((l.length - 2:Nat):Int):=by
   rw[List.length_map];exact(wrap64 (by omega) (by omega)).trans (by omega)
 refine Ev.aG GB (GC _) rfl ?_
 have pR:Z=11→ ∀T' O',lk T' 2=some (vi 11)→v9 JD.results [dJ l] (fun res=>res=⟨vi Z,[]⟩) .ret ⟨T',O'⟩:=by
   intro hZ T' O' h
   show kH [.tmp 2] [dJ l] ⟨T',O'⟩ (fun res=>res=⟨vi Z,[]⟩)
   unfold kH
   simp only[xP,h]
   rw[hZ]
   (conv=>whnf);repeat' ((first| intro g| refine st ?_| (first| refine b1 ?_ ?_| refine b2 ?_ ?_| refine Br.mk ?_ ?_) <;>intro hc| exact rfl) <;>conv=>whnf)
 (conv=>whnf);repeat' ((first| intro g| refine ag.mk _ (hr) ?_| refine st ?_| (first| refine b1 ?_ ?_| refine b2 ?_ ?_| refine Br.mk ?_ ?_) <;>intro hc| exact rfl) <;>conv=>whnf)
 rw[hz]
 refine aV.by (fun i:Nat=> ⟨[(0,dJ l),(3,aD (l.length - 2)),(4,aD i)],[]⟩) (fun i=>i≤l.length - 1∧ ∀j,j<i→DI l j) (fun i=>l.length - 1 - i) 0 (by(refine⟨?_,?_⟩ <;>repeat' (first| exact True.intro| refine ai ?_| refine And.intro ?_ ?_))) ⟨by omega,by intro j hj;omega⟩ ?_
 rintro i ⟨hi,hP⟩
 try dsimp only at hi hP
 by_cases bl:i<l.length - 1
 · obtain⟨p,hp⟩: ∃p,l[i]? =some p:=⟨_,aE (by omega)⟩
   obtain⟨q,hq⟩: ∃q,l[i+1]? =some q:=⟨_,aE (by omega)⟩
   have okp:=hk p (List.mem_of_getElem? hp)
   have okq:=hk q (List.mem_of_getElem? hq)
   have gp:=tN hp
   have gq:=tN hq
   have w2:IntKind.i64.wrap ((i:Int)+1)=((i+1:Nat):Int):=(wrap64 (by omega) (by omega)).trans (by omega)
   cases e1:qp p q with
   | true=>
     have hb:=zb ⟨i,by omega,.inl (by rw[gp,gq];exact e1)⟩
     unfold qp at e1
     clear hP zg zb pR hk hr qT
     rw[hb]
     (conv=>whnf);repeat' ((first| intro g| refine aL.mk _ (aq hp rfl) ?_| refine aL.mk _ (aq hq w2) ?_| refine st ?_| (first| refine b1 ?_ ?_| refine b2 ?_ ?_| refine Br.mk ?_ ?_) <;>intro hc| exact rfl) <;>conv=>whnf)
     rw[e1] at hc;cases hc
   | false=>
     have cP: ∀ (h: ∀j,j<i→lF l i j=false),∀j,j<i+1→DI l j:=fun h j hj=>by
       by_cases e:j=i
       · subst e;exact⟨by rw[gp,gq];exact e1,h⟩
       · exact hP j (by omega)
     unfold qp at e1
     clear hP
     (conv=>whnf);repeat' ((first| intro g| refine aL.mk _ (aq hp rfl) ?_| refine aL.mk _ (aq hq w2) ?_| refine st ?_| (first| refine b1 ?_ ?_| refine b2 ?_ ?_| refine Br.mk ?_ ?_) <;>intro hc| exact rfl) <;>conv=>whnf)
     refine aV.by (fun k:Nat=> ⟨[(0,dJ l),(3,aD (l.length - 2)),(4,aD i),(5,aD k)],[]⟩) (fun k=>k≤i∧ ∀j,j<k→lF l i j=false) (fun k=>i - k) 0 (by(refine⟨?_,?_⟩ <;>repeat' (first| exact True.intro| refine ai ?_| refine And.intro ?_ ?_))) ⟨by omega,by intro j hj;omega⟩ ?_
     rintro k ⟨Ri,Fm⟩
     try dsimp only at Ri Fm
     by_cases I2:k<i
     · obtain⟨p2,uM⟩: ∃p,l[k]? =some p:=⟨_,aE (by omega)⟩
       obtain⟨q2,w6⟩: ∃q,l[k+1]? =some q:=⟨_,aE (by omega)⟩
       have hm:=AV (hk p2 (List.mem_of_getElem? uM)) (hk q2 (List.mem_of_getElem? w6)) okp okq
       rw[vH] at hm
       have Fo:lF l i k=decide (eC p q p2 q2≠if AS l i k=true then 1 else 0):=by unfold lF;rw[gp,gq,tN uM,tN w6]
       unfold AS at Fo
       refine acQ hp hq uM w6 hm qT I2 (by omega) (by omega) (fun h T' O' hh=>pR (zb ⟨i,by omega,.inr ⟨k,I2,by rw[Fo];exact h⟩⟩) T' O' hh) fun h T' O' hs=>a9.mk (k+1) (by first| omega| (dsimp only;omega)) ⟨by omega,fun j hj=> ?_⟩ hs
       by_cases e:j=k
       · subst e;rw[Fo];exact h
       · exact Fm j (by omega)
     · obtain rfl:k=i:=by omega
       have cP:=cP Fm
       clear pR zb zg hk
       (conv=>whnf);repeat' ((first| intro g| refine st ?_| (first| refine b1 ?_ ?_| refine b2 ?_ ?_| refine Br.mk ?_ ?_) <;>intro hc| exact rfl) <;>conv=>whnf)
       exact a9.mk (k+1) (by first| omega| (dsimp only;omega)) ⟨by omega,cP⟩ (by(refine⟨?_,?_⟩ <;>repeat' (first| exact True.intro| refine ai ?_| refine And.intro ?_ ?_)))
 · have hb:=zg fun ⟨j,hj,h⟩=>by
     have cP:=hP j (by omega)
     rcases h with h| ⟨m,hm,h⟩
     · rw[cP.1] at h;cases h
     · rw[cP.2 m hm] at h;cases h
   rw[hb]
   (conv=>whnf);repeat' ((first| intro g| refine st ?_| (first| refine b1 ?_ ?_| refine b2 ?_ ?_| refine Br.mk ?_ ?_) <;>intro hc| exact rfl) <;>conv=>whnf)
end Go.AM
