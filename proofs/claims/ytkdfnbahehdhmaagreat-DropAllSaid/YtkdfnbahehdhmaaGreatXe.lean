/-
  Texts of the proof, joined by program: DcM, DcN. Own work.
-/
import Derived.Test.YtkdfnbahehdhmaaGreatXd
import Derived.Test.YtkdfnbahehdhmaaGreatXc
set_option linter.unusedSimpArgs false
set_option linter.unusedVariables false
set_option maxRecDepth 20000
set_option maxHeartbeats 4000000
namespace Go.AM
theorem vN {l:List Pt} (hl:l.length< 1000000):Ev E 559 [.lit 2 (l.map Pt.v)] ⟨.bool (du l),[]⟩:=by
 refine Ev.aG Vs (Vt _) rfl ?_
 (conv=>whnf);repeat' ((first| intro g| refine st ?_| (first| refine b1 ?_ ?_| refine b2 ?_ ?_| refine Br.mk ?_ ?_) <;>intro hc| exact rfl) <;>conv=>whnf)
 refine aV.by (fun i:Nat=> ⟨[(0,.lit 2 (l.map Pt.v)),(3,aD i)],[]⟩) (fun i=>i≤l.length∧ ∀ (j:Nat) y,j<i→l[j]? =some y→eb y) (fun i=>l.length - i) 0 (by(refine⟨?_,?_⟩ <;>repeat' (first| exact True.intro| refine ai ?_| refine And.intro ?_ ?_))) ⟨by simp,by intro j y hj;omega⟩ ?_
 rintro i ⟨hi,ez⟩
 try dsimp only at hi ez
 by_cases bl:i<l.length
 · obtain⟨x,hx⟩: ∃x,l[i]? =some x:=⟨_,aE bl⟩
   have hr:=Fq x
   by_cases hk:eb x
   · rw[decide_eq_true hk] at hr
     (conv=>whnf);repeat' ((first| intro g| refine aL.mk _ (aq hx rfl) ?_| refine ag.mk _ (hr) ?_| refine st ?_| (first| refine b1 ?_ ?_| refine b2 ?_ ?_| refine Br.mk ?_ ?_) <;>intro hc| exact rfl) <;>conv=>whnf)
     exact a9.mk (i+1) (by first| omega| (dsimp only;omega)) ⟨by omega,fun j y hj hy=>by
      by_cases e:j=i
      · subst e;rw[hx] at hy;injection hy with hy;subst hy;exact hk
      · exact ez j y (by omega) hy⟩ (by(refine⟨?_,?_⟩ <;>repeat' (first| exact True.intro| refine ai ?_| refine And.intro ?_ ?_)))
   · rw[decide_eq_false hk] at hr
     have hz:du l=false:=by
      unfold du
      rw[List.all_eq_false]
      exact⟨x,List.mem_of_getElem? hx,by simpa using hk⟩
     rw[hz]
     (conv=>whnf);repeat' ((first| intro g| refine aL.mk _ (aq hx rfl) ?_| refine ag.mk _ (hr) ?_| refine st ?_| (first| refine b1 ?_ ?_| refine b2 ?_ ?_| refine Br.mk ?_ ?_) <;>intro hc| exact rfl) <;>conv=>whnf)
 · have hz:du l=true:=by
     unfold du
     rw[List.all_eq_true]
     intro x hx
     obtain⟨j,hj,rfl⟩:=List.getElem_of_mem hx
     exact decide_eq_true (ez j _ (by omega) (aE hj))
   rw[hz]
   (conv=>whnf);repeat' ((first| intro g| refine st ?_| (first| refine b1 ?_ ?_| refine b2 ?_ ?_| refine Br.mk ?_ ?_) <;>intro hc| exact rfl) <;>conv=>whnf)
theorem Lg {x:Bool} {P:Prop} [Decidable P] (h:x=true↔P): (⟨.bool x,[]⟩:fL)=⟨.bool (decide P),[]⟩:=by
 congr 2
 rw[Bool.eq_iff_iff,h,decide_eq_true_eq]
section
variable {a b c d e x y p:Pt} (ha:eb a) (hb:eb b) (hc:eb c) (hd:eb d) (he:eb e) (hp:eb p)
theorem yS:Ev E 563 [a.v,b.v,c.v,p.v] ⟨.bool (Cu a b c p),[]⟩:=by
 have hr:Ev E 559 [.lit 2 [a.v,b.v,c.v,p.v]] ⟨.bool (du [a,b,c,p]),[]⟩:=vN (l:=[a,b,c,p]) (by simp)
 unfold Cu
 cases hf:du [a,b,c,p] with
 | false=>
   rw[hf] at hr
   refine Ev.aG GD (GF _) rfl ?_
   (conv=>whnf);repeat' ((first| intro g| refine ag.mk _ (hr) ?_| refine st ?_| (first| refine b1 ?_ ?_| refine b2 ?_ ?_| refine Br.mk ?_ ?_) <;>intro hc| exact rfl) <;>conv=>whnf)
 | true=>
   have hk: ∀x ∈ [a,b,c,p],eb x:=by simpa [du] using hf
   rw[hf] at hr
   have ha:=hk a (by simp);have hb:=hk b (by simp);have hc:=hk c (by simp);have hp:=hk p (by simp)
   have s0:=cF ha hb hc
   have s1:=cF ha hb hp
   have s2:=cF hb hc hp
   have s3:=cF hc ha hp
   have o1:=pT ha hb hp
   have o2:=pT hb hc hp
   have o3:=pT hc ha hp
   clear ha hb hc hp hk hf
   unfold MS
   rw[Bool.true_and]
   generalize vG a b p=y1 at*
   generalize vG b c p=y2 at*
   generalize vG c a p=y3 at*
   by_cases h0:dL a b c=0
   · rw[if_pos h0]
     rw[h0] at s0
     cases y1<;>cases y2
     all_goals
      refine Ev.aG GD (GF _) rfl ?_
      (conv=>whnf);repeat' ((first| intro g| refine ag.mk _ (hr) ?_| refine ag.mk _ (s0) ?_| refine ag.mk _ (o1) ?_| refine ag.mk _ (o2) ?_| refine ag.mk _ (o3) ?_| refine st ?_| (first| refine b1 ?_ ?_| refine b2 ?_ ?_| refine Br.mk ?_ ?_) <;>intro hc| exact rfl) <;>conv=>whnf)
   · rw[if_neg h0]
     generalize dL a b c=w0 at*
     generalize dL a b p=w1 at*
     generalize dL b c p=w2 at*
     generalize dL c a p=w3 at*
     refine Ev.aG GD (GF _) rfl ?_
     (conv=>whnf);repeat' ((first| intro g| refine ag.mk _ (hr) ?_| refine ag.mk _ (s0) ?_| refine ag.mk _ (s1) ?_| refine ag.mk _ (s2) ?_| refine ag.mk _ (s3) ?_| refine st ?_| (first| refine b1 ?_ ?_| refine b2 ?_ ?_| refine Br.mk ?_ ?_) <;>intro hc| exact rfl) <;>conv=>whnf)
     all_goals (refine Lg ?_;simp only[decide_eq_true_eq,Bool.false_eq_true,true_iff,false_iff];omega)
end
end Go.AM
set_option maxRecDepth 20000
set_option maxHeartbeats 4000000
namespace Go.AM
section
variable {a b c d e x y p:Pt} (ha:eb a) (hc:eb c) (hd:eb d) (he:eb e) (hx:eb x) (hy:eb y)
include ha hc hd he hx hy
theorem nT:Ev E 581 [x.v,y.v,d.v,e.v,a.v,c.v] ⟨.bool (AQ x y d e a c),[]⟩:=by
 have hm:=AV hx hy hd he
 rw[vH] at hm
 have hr:=AR d e x y
 have o1:=pT hx hy ha
 have o2:=pT hd he ha
 have o3:=pT hx hy hc
 have o4:=pT hd he hc
 clear ha hc hd he hx hy
 unfold AQ vL
 generalize eC d e x y=n at*
 generalize vG x y a=w1 at*
 generalize vG d e a=w2 at*
 generalize vG x y c=w3 at*
 generalize vG d e c=w4 at*
 rcases hr with rfl| rfl| rfl
 · refine Ev.aG GI (GJ _) rfl ?_
   (conv=>whnf);repeat' ((first| intro g| refine ag.mk _ (hm) ?_| refine st ?_| (first| refine b1 ?_ ?_| refine b2 ?_ ?_| refine Br.mk ?_ ?_) <;>intro hc| exact rfl) <;>conv=>whnf)
 · rw[ if_pos rfl]
   obtain⟨Z,hZ⟩: ∃Z,Z=(!(w2 &&w1) && !(w4 &&w3)):=⟨_,rfl⟩
   rw[←hZ]
   refine Ev.aG GI (GJ _) rfl ?_
   (conv=>whnf);repeat' ((first| intro g| refine ag.mk _ (hm) ?_| refine st ?_| (first| refine b1 ?_ ?_| refine b2 ?_ ?_| refine Br.mk ?_ ?_) <;>intro hc| exact rfl) <;>conv=>whnf)
   rename_i pQ nS fp iB Ix Sv
   refine aV.by (fun i:Nat=> ⟨[(6,.ptr 112 pQ 0 0),(7,.ptr 128 nS 0 0),(8,.ptr 144 fp 0 0),(9,.ptr 160 iB 0 0),(14,.ptr 240 g 0 0),(15,aD i)],
     [(112,⟨pQ,2,false,false,some [x.v]⟩),(128,⟨nS,2,false,false,some [y.v]⟩),(144,⟨fp,2,false,false,some [d.v]⟩),(160,⟨iB,2,false,false,some [e.v]⟩),(240,⟨g,4,false,false,some [.agg [vi a.x,vi a.y,vi c.x,vi c.y]]⟩)]⟩)
     (fun i=>i≤2∧(0 <i→(w2 &&w1)=false)∧(1 <i→(w4 &&w3)=false)) (fun i=>2 - i) 0 (by(refine⟨?_,?_⟩ <;>repeat' (first| exact True.intro| refine ai ?_| refine And.intro ?_ ?_))) ⟨by simp,by simp,by simp⟩ ?_
   rintro i ⟨hi,i1,i2⟩
   try dsimp only at hi i1 i2
   rcases(by omega:i=0∨i=1∨i=2) with rfl| rfl| rfl
   · clear i1 i2 o3 o4 hm
     cases h: (w2 &&w1)
     · clear hZ
       cases w1<;>cases w2
       · (conv=>whnf);repeat' ((first| intro g| refine ag.mk _ (o1) ?_| refine ag.mk _ (o2) ?_| refine st ?_| (first| refine b1 ?_ ?_| refine b2 ?_ ?_| refine Br.mk ?_ ?_) <;>intro hc| exact rfl) <;>conv=>whnf)
         exact a9.mk 1 (by first| omega| (dsimp only;omega)) ⟨by simp,fun _=>rfl,by simp⟩ (by(refine⟨?_,?_⟩ <;>repeat' (first| exact True.intro| refine ai ?_| refine And.intro ?_ ?_)))
       · (conv=>whnf);repeat' ((first| intro g| refine ag.mk _ (o1) ?_| refine ag.mk _ (o2) ?_| refine st ?_| (first| refine b1 ?_ ?_| refine b2 ?_ ?_| refine Br.mk ?_ ?_) <;>intro hc| exact rfl) <;>conv=>whnf)
         exact a9.mk 1 (by first| omega| (dsimp only;omega)) ⟨by simp,fun _=>rfl,by simp⟩ (by(refine⟨?_,?_⟩ <;>repeat' (first| exact True.intro| refine ai ?_| refine And.intro ?_ ?_)))
       · (conv=>whnf);repeat' ((first| intro g| refine ag.mk _ (o1) ?_| refine ag.mk _ (o2) ?_| refine st ?_| (first| refine b1 ?_ ?_| refine b2 ?_ ?_| refine Br.mk ?_ ?_) <;>intro hc| exact rfl) <;>conv=>whnf)
         exact a9.mk 1 (by first| omega| (dsimp only;omega)) ⟨by simp,fun _=>rfl,by simp⟩ (by(refine⟨?_,?_⟩ <;>repeat' (first| exact True.intro| refine ai ?_| refine And.intro ?_ ?_)))
       · cases h
     · have e:w2=true∧w1=true:=by simpa using h
       obtain⟨rfl,rfl⟩:=e
       rw[hZ]
       (conv=>whnf);repeat' ((first| intro g| refine ag.mk _ (o1) ?_| refine ag.mk _ (o2) ?_| refine st ?_| (first| refine b1 ?_ ?_| refine b2 ?_ ?_| refine Br.mk ?_ ?_) <;>intro hc| exact rfl) <;>conv=>whnf)
   · have i1:=i1 (by omega)
     clear i2 o1 o2 hm
     cases h: (w4 &&w3)
     · clear hZ
       cases w3<;>cases w4
       · (conv=>whnf);repeat' ((first| intro g| refine ag.mk _ (o3) ?_| refine ag.mk _ (o4) ?_| refine st ?_| (first| refine b1 ?_ ?_| refine b2 ?_ ?_| refine Br.mk ?_ ?_) <;>intro hc| exact rfl) <;>conv=>whnf)
         exact a9.mk 2 (by first| omega| (dsimp only;omega)) ⟨by simp,fun _=>i1,fun _=>rfl⟩ (by(refine⟨?_,?_⟩ <;>repeat' (first| exact True.intro| refine ai ?_| refine And.intro ?_ ?_)))
       · (conv=>whnf);repeat' ((first| intro g| refine ag.mk _ (o3) ?_| refine ag.mk _ (o4) ?_| refine st ?_| (first| refine b1 ?_ ?_| refine b2 ?_ ?_| refine Br.mk ?_ ?_) <;>intro hc| exact rfl) <;>conv=>whnf)
         exact a9.mk 2 (by first| omega| (dsimp only;omega)) ⟨by simp,fun _=>i1,fun _=>rfl⟩ (by(refine⟨?_,?_⟩ <;>repeat' (first| exact True.intro| refine ai ?_| refine And.intro ?_ ?_)))
       · (conv=>whnf);repeat' ((first| intro g| refine ag.mk _ (o3) ?_| refine ag.mk _ (o4) ?_| refine st ?_| (first| refine b1 ?_ ?_| refine b2 ?_ ?_| refine Br.mk ?_ ?_) <;>intro hc| exact rfl) <;>conv=>whnf)
         exact a9.mk 2 (by first| omega| (dsimp only;omega)) ⟨by simp,fun _=>i1,fun _=>rfl⟩ (by(refine⟨?_,?_⟩ <;>repeat' (first| exact True.intro| refine ai ?_| refine And.intro ?_ ?_)))
       · cases h
     · have e:w4=true∧w3=true:=by simpa using h
       obtain⟨rfl,rfl⟩:=e
       rw[i1] at hZ
       rw[hZ]
       (conv=>whnf);repeat' ((first| intro g| refine ag.mk _ (o3) ?_| refine ag.mk _ (o4) ?_| refine st ?_| (first| refine b1 ?_ ?_| refine b2 ?_ ?_| refine Br.mk ?_ ?_) <;>intro hc| exact rfl) <;>conv=>whnf)
   · have i1:=i1 (by omega)
     have i2:=i2 (by omega)
     rw[i1,i2] at hZ
     rw[hZ]
     (conv=>whnf);repeat' ((first| intro g| refine st ?_| (first| refine b1 ?_ ?_| refine b2 ?_ ?_| refine Br.mk ?_ ?_) <;>intro hc| exact rfl) <;>conv=>whnf)
 · refine Ev.aG GI (GJ _) rfl ?_
   (conv=>whnf);repeat' ((first| intro g| refine ag.mk _ (hm) ?_| refine st ?_| (first| refine b1 ?_ ?_| refine b2 ?_ ?_| refine Br.mk ?_ ?_) <;>intro hc| exact rfl) <;>conv=>whnf)
end
end Go.AM
