/-
  Texts of the proof, joined by program: QaG. Own work.
-/
import Derived.Test.YtgkdgapmmkkcaaaGreatXa
set_option linter.unusedSimpArgs false
set_option linter.unusedVariables false
set_option maxRecDepth 20000
namespace Go.AM
theorem six {K:List Kn} (h:K.length=6): ∃a0 a1 a2 a3 a4 a5,K=[a0,a1,a2,a3,a4,a5]:=by
 match K,h with
 | [a0,a1,a2,a3,a4,a5],_=>exact⟨_,_,_,_,_,_,rfl⟩
def kd:Kn:=⟨0,0,0,[]⟩
def zu (K:List Kn) (l0 l1 l2 l3 l4 l5:Int) (k n rX BT:Nat) (v5 v10 DV:V) (DW ns tH:Obj):Prop:= ∀Q:aY→SS→Prop,
 (∀T' O' lo hi,lo=(if k=0∨[l0,l1,l2,l3,l4,l5].getD n 0 < (K.getD n kd).low then [l0,l1,l2,l3,l4,l5].getD n 0 else(K.getD n kd).low)→
   hi=(if k=0∨(K.getD n kd).high< [l0,l1,l2,l3,l4,l5].getD n 0 then [l0,l1,l2,l3,l4,l5].getD n 0 else(K.getD n kd).high)→
   SS.Sub ⟨[(5,v5),(10,v10),(11,.sl 193 rX 0 6),(12,aT k),(13,DV),(14,.ptr 240 BT 0 0),(15,aT (n+1))],
   [(97,DW),(177,ns),(193,⟨rX,4,true,false,some ((K.set n ⟨(K.getD n kd).var,lo,hi,(K.getD n kd).texts⟩).map Kn.v)⟩),(224,tH),(240,⟨BT,6,false,false,some [.agg [vi l0,vi l1,vi l2,vi l3,vi l4,vi l5]]⟩)]⟩ ⟨T',O'⟩→Q .normal ⟨T',O'⟩)→
 oE E zG ⟨[(5,v5),(10,v10),(11,.sl 193 rX 0 6),(12,aT k),(13,DV),(14,.ptr 240 BT 0 0),(15,aT n)],
   [(97,DW),(177,ns),(193,⟨rX,4,true,false,some (K.map Kn.v)⟩),(224,tH),(240,⟨BT,6,false,false,some [.agg [vi l0,vi l1,vi l2,vi l3,vi l4,vi l5]]⟩)]⟩ Q
section
variable {a0 a1 a2 a3 a4 a5:Kn} {l0 l1 l2 l3 l4 l5:Int} {k rX BT:Nat} {v5 v10 DV:V} {DW ns tH:Obj}
theorem Un:zu [a0,a1,a2,a3,a4,a5] l0 l1 l2 l3 l4 l5 k 0 rX BT v5 v10 DV DW ns tH:=by
 intro Q hQ
 (conv=>whnf);repeat' ((first| intro g| refine st ?_| (first| refine b1 ?_ ?_| refine b2 ?_ ?_| refine Br.mk ?_ ?_) <;>intro hc| exact rfl) <;>conv=>whnf)
 · exact hQ _ _ l0 l0 (by clear hQ;simp only[List.getD_cons_zero,List.getD_cons_succ,List.getElem_cons_zero,List.getElem_cons_succ] at*;split<;>omega) (by clear hQ;simp only[List.getD_cons_zero,List.getD_cons_succ,List.getElem_cons_zero,List.getElem_cons_succ] at*;split<;>omega) (by(refine⟨?_,?_⟩ <;>repeat' (first| exact True.intro| refine ai ?_| refine And.intro ?_ ?_)))
 · exact hQ _ _ l0 l0 (by clear hQ;simp only[List.getD_cons_zero,List.getD_cons_succ,List.getElem_cons_zero,List.getElem_cons_succ] at*;split<;>omega) (by clear hQ;simp only[List.getD_cons_zero,List.getD_cons_succ,List.getElem_cons_zero,List.getElem_cons_succ] at*;split<;>omega) (by(refine⟨?_,?_⟩ <;>repeat' (first| exact True.intro| refine ai ?_| refine And.intro ?_ ?_)))
 · exact hQ _ _ l0 a0.high (by clear hQ;simp only[List.getD_cons_zero,List.getD_cons_succ,List.getElem_cons_zero,List.getElem_cons_succ] at*;split<;>omega) (by clear hQ;simp only[List.getD_cons_zero,List.getD_cons_succ,List.getElem_cons_zero,List.getElem_cons_succ] at*;split<;>omega) (by(refine⟨?_,?_⟩ <;>repeat' (first| exact True.intro| refine ai ?_| refine And.intro ?_ ?_)))
 · exact hQ _ _ a0.low l0 (by clear hQ;simp only[List.getD_cons_zero,List.getD_cons_succ,List.getElem_cons_zero,List.getElem_cons_succ] at*;split<;>omega) (by clear hQ;simp only[List.getD_cons_zero,List.getD_cons_succ,List.getElem_cons_zero,List.getElem_cons_succ] at*;split<;>omega) (by(refine⟨?_,?_⟩ <;>repeat' (first| exact True.intro| refine ai ?_| refine And.intro ?_ ?_)))
 · exact hQ _ _ a0.low a0.high (by clear hQ;simp only[List.getD_cons_zero,List.getD_cons_succ,List.getElem_cons_zero,List.getElem_cons_succ] at*;split<;>omega) (by clear hQ;simp only[List.getD_cons_zero,List.getD_cons_succ,List.getElem_cons_zero,List.getElem_cons_succ] at*;split<;>omega) (by(refine⟨?_,?_⟩ <;>repeat' (first| exact True.intro| refine ai ?_| refine And.intro ?_ ?_)))
theorem Uo:zu [a0,a1,a2,a3,a4,a5] l0 l1 l2 l3 l4 l5 k 1 rX BT v5 v10 DV DW ns tH:=by
 intro Q hQ
 (conv=>whnf);repeat' ((first| intro g| refine st ?_| (first| refine b1 ?_ ?_| refine b2 ?_ ?_| refine Br.mk ?_ ?_) <;>intro hc| exact rfl) <;>conv=>whnf)
 · exact hQ _ _ l1 l1 (by clear hQ;simp only[List.getD_cons_zero,List.getD_cons_succ,List.getElem_cons_zero,List.getElem_cons_succ] at*;split<;>omega) (by clear hQ;simp only[List.getD_cons_zero,List.getD_cons_succ,List.getElem_cons_zero,List.getElem_cons_succ] at*;split<;>omega) (by(refine⟨?_,?_⟩ <;>repeat' (first| exact True.intro| refine ai ?_| refine And.intro ?_ ?_)))
 · exact hQ _ _ l1 l1 (by clear hQ;simp only[List.getD_cons_zero,List.getD_cons_succ,List.getElem_cons_zero,List.getElem_cons_succ] at*;split<;>omega) (by clear hQ;simp only[List.getD_cons_zero,List.getD_cons_succ,List.getElem_cons_zero,List.getElem_cons_succ] at*;split<;>omega) (by(refine⟨?_,?_⟩ <;>repeat' (first| exact True.intro| refine ai ?_| refine And.intro ?_ ?_)))
 · exact hQ _ _ l1 a1.high (by clear hQ;simp only[List.getD_cons_zero,List.getD_cons_succ,List.getElem_cons_zero,List.getElem_cons_succ] at*;split<;>omega) (by clear hQ;simp only[List.getD_cons_zero,List.getD_cons_succ,List.getElem_cons_zero,List.getElem_cons_succ] at*;split<;>omega) (by(refine⟨?_,?_⟩ <;>repeat' (first| exact True.intro| refine ai ?_| refine And.intro ?_ ?_)))
 · exact hQ _ _ a1.low l1 (by clear hQ;simp only[List.getD_cons_zero,List.getD_cons_succ,List.getElem_cons_zero,List.getElem_cons_succ] at*;split<;>omega) (by clear hQ;simp only[List.getD_cons_zero,List.getD_cons_succ,List.getElem_cons_zero,List.getElem_cons_succ] at*;split<;>omega) (by(refine⟨?_,?_⟩ <;>repeat' (first| exact True.intro| refine ai ?_| refine And.intro ?_ ?_)))
 · exact hQ _ _ a1.low a1.high (by clear hQ;simp only[List.getD_cons_zero,List.getD_cons_succ,List.getElem_cons_zero,List.getElem_cons_succ] at*;split<;>omega) (by clear hQ;simp only[List.getD_cons_zero,List.getD_cons_succ,List.getElem_cons_zero,List.getElem_cons_succ] at*;split<;>omega) (by(refine⟨?_,?_⟩ <;>repeat' (first| exact True.intro| refine ai ?_| refine And.intro ?_ ?_)))
theorem Up:zu [a0,a1,a2,a3,a4,a5] l0 l1 l2 l3 l4 l5 k 2 rX BT v5 v10 DV DW ns tH:=by
 intro Q hQ
 (conv=>whnf);repeat' ((first| intro g| refine st ?_| (first| refine b1 ?_ ?_| refine b2 ?_ ?_| refine Br.mk ?_ ?_) <;>intro hc| exact rfl) <;>conv=>whnf)
 · exact hQ _ _ l2 l2 (by clear hQ;simp only[List.getD_cons_zero,List.getD_cons_succ,List.getElem_cons_zero,List.getElem_cons_succ] at*;split<;>omega) (by clear hQ;simp only[List.getD_cons_zero,List.getD_cons_succ,List.getElem_cons_zero,List.getElem_cons_succ] at*;split<;>omega) (by(refine⟨?_,?_⟩ <;>repeat' (first| exact True.intro| refine ai ?_| refine And.intro ?_ ?_)))
 · exact hQ _ _ l2 l2 (by clear hQ;simp only[List.getD_cons_zero,List.getD_cons_succ,List.getElem_cons_zero,List.getElem_cons_succ] at*;split<;>omega) (by clear hQ;simp only[List.getD_cons_zero,List.getD_cons_succ,List.getElem_cons_zero,List.getElem_cons_succ] at*;split<;>omega) (by(refine⟨?_,?_⟩ <;>repeat' (first| exact True.intro| refine ai ?_| refine And.intro ?_ ?_)))
 · exact hQ _ _ l2 a2.high (by clear hQ;simp only[List.getD_cons_zero,List.getD_cons_succ,List.getElem_cons_zero,List.getElem_cons_succ] at*;split<;>omega) (by clear hQ;simp only[List.getD_cons_zero,List.getD_cons_succ,List.getElem_cons_zero,List.getElem_cons_succ] at*;split<;>omega) (by(refine⟨?_,?_⟩ <;>repeat' (first| exact True.intro| refine ai ?_| refine And.intro ?_ ?_)))
 · exact hQ _ _ a2.low l2 (by clear hQ;simp only[List.getD_cons_zero,List.getD_cons_succ,List.getElem_cons_zero,List.getElem_cons_succ] at*;split<;>omega) (by clear hQ;simp only[List.getD_cons_zero,List.getD_cons_succ,List.getElem_cons_zero,List.getElem_cons_succ] at*;split<;>omega) (by(refine⟨?_,?_⟩ <;>repeat' (first| exact True.intro| refine ai ?_| refine And.intro ?_ ?_)))
 · exact hQ _ _ a2.low a2.high (by clear hQ;simp only[List.getD_cons_zero,List.getD_cons_succ,List.getElem_cons_zero,List.getElem_cons_succ] at*;split<;>omega) (by clear hQ;simp only[List.getD_cons_zero,List.getD_cons_succ,List.getElem_cons_zero,List.getElem_cons_succ] at*;split<;>omega) (by(refine⟨?_,?_⟩ <;>repeat' (first| exact True.intro| refine ai ?_| refine And.intro ?_ ?_)))
theorem Uq:zu [a0,a1,a2,a3,a4,a5] l0 l1 l2 l3 l4 l5 k 3 rX BT v5 v10 DV DW ns tH:=by
 intro Q hQ
 (conv=>whnf);repeat' ((first| intro g| refine st ?_| (first| refine b1 ?_ ?_| refine b2 ?_ ?_| refine Br.mk ?_ ?_) <;>intro hc| exact rfl) <;>conv=>whnf)
 · exact hQ _ _ l3 l3 (by clear hQ;simp only[List.getD_cons_zero,List.getD_cons_succ,List.getElem_cons_zero,List.getElem_cons_succ] at*;split<;>omega) (by clear hQ;simp only[List.getD_cons_zero,List.getD_cons_succ,List.getElem_cons_zero,List.getElem_cons_succ] at*;split<;>omega) (by(refine⟨?_,?_⟩ <;>repeat' (first| exact True.intro| refine ai ?_| refine And.intro ?_ ?_)))
 · exact hQ _ _ l3 l3 (by clear hQ;simp only[List.getD_cons_zero,List.getD_cons_succ,List.getElem_cons_zero,List.getElem_cons_succ] at*;split<;>omega) (by clear hQ;simp only[List.getD_cons_zero,List.getD_cons_succ,List.getElem_cons_zero,List.getElem_cons_succ] at*;split<;>omega) (by(refine⟨?_,?_⟩ <;>repeat' (first| exact True.intro| refine ai ?_| refine And.intro ?_ ?_)))
 · exact hQ _ _ l3 a3.high (by clear hQ;simp only[List.getD_cons_zero,List.getD_cons_succ,List.getElem_cons_zero,List.getElem_cons_succ] at*;split<;>omega) (by clear hQ;simp only[List.getD_cons_zero,List.getD_cons_succ,List.getElem_cons_zero,List.getElem_cons_succ] at*;split<;>omega) (by(refine⟨?_,?_⟩ <;>repeat' (first| exact True.intro| refine ai ?_| refine And.intro ?_ ?_)))
 · exact hQ _ _ a3.low l3 (by clear hQ;simp only[List.getD_cons_zero,List.getD_cons_succ,List.getElem_cons_zero,List.getElem_cons_succ] at*;split<;>omega) (by clear hQ;simp only[List.getD_cons_zero,List.getD_cons_succ,List.getElem_cons_zero,List.getElem_cons_succ] at*;split<;>omega) (by(refine⟨?_,?_⟩ <;>repeat' (first| exact True.intro| refine ai ?_| refine And.intro ?_ ?_)))
 · exact hQ _ _ a3.low a3.high (by clear hQ;simp only[List.getD_cons_zero,List.getD_cons_succ,List.getElem_cons_zero,List.getElem_cons_succ] at*;split<;>omega) (by clear hQ;simp only[List.getD_cons_zero,List.getD_cons_succ,List.getElem_cons_zero,List.getElem_cons_succ] at*;split<;>omega) (by(refine⟨?_,?_⟩ <;>repeat' (first| exact True.intro| refine ai ?_| refine And.intro ?_ ?_)))
theorem Ur:zu [a0,a1,a2,a3,a4,a5] l0 l1 l2 l3 l4 l5 k 4 rX BT v5 v10 DV DW ns tH:=by
 intro Q hQ
 (conv=>whnf);repeat' ((first| intro g| refine st ?_| (first| refine b1 ?_ ?_| refine b2 ?_ ?_| refine Br.mk ?_ ?_) <;>intro hc| exact rfl) <;>conv=>whnf)
 · exact hQ _ _ l4 l4 (by clear hQ;simp only[List.getD_cons_zero,List.getD_cons_succ,List.getElem_cons_zero,List.getElem_cons_succ] at*;split<;>omega) (by clear hQ;simp only[List.getD_cons_zero,List.getD_cons_succ,List.getElem_cons_zero,List.getElem_cons_succ] at*;split<;>omega) (by(refine⟨?_,?_⟩ <;>repeat' (first| exact True.intro| refine ai ?_| refine And.intro ?_ ?_)))
 · exact hQ _ _ l4 l4 (by clear hQ;simp only[List.getD_cons_zero,List.getD_cons_succ,List.getElem_cons_zero,List.getElem_cons_succ] at*;split<;>omega) (by clear hQ;simp only[List.getD_cons_zero,List.getD_cons_succ,List.getElem_cons_zero,List.getElem_cons_succ] at*;split<;>omega) (by(refine⟨?_,?_⟩ <;>repeat' (first| exact True.intro| refine ai ?_| refine And.intro ?_ ?_)))
 · exact hQ _ _ l4 a4.high (by clear hQ;simp only[List.getD_cons_zero,List.getD_cons_succ,List.getElem_cons_zero,List.getElem_cons_succ] at*;split<;>omega) (by clear hQ;simp only[List.getD_cons_zero,List.getD_cons_succ,List.getElem_cons_zero,List.getElem_cons_succ] at*;split<;>omega) (by(refine⟨?_,?_⟩ <;>repeat' (first| exact True.intro| refine ai ?_| refine And.intro ?_ ?_)))
 · exact hQ _ _ a4.low l4 (by clear hQ;simp only[List.getD_cons_zero,List.getD_cons_succ,List.getElem_cons_zero,List.getElem_cons_succ] at*;split<;>omega) (by clear hQ;simp only[List.getD_cons_zero,List.getD_cons_succ,List.getElem_cons_zero,List.getElem_cons_succ] at*;split<;>omega) (by(refine⟨?_,?_⟩ <;>repeat' (first| exact True.intro| refine ai ?_| refine And.intro ?_ ?_)))
 · exact hQ _ _ a4.low a4.high (by clear hQ;simp only[List.getD_cons_zero,List.getD_cons_succ,List.getElem_cons_zero,List.getElem_cons_succ] at*;split<;>omega) (by clear hQ;simp only[List.getD_cons_zero,List.getD_cons_succ,List.getElem_cons_zero,List.getElem_cons_succ] at*;split<;>omega) (by(refine⟨?_,?_⟩ <;>repeat' (first| exact True.intro| refine ai ?_| refine And.intro ?_ ?_)))
theorem Us:zu [a0,a1,a2,a3,a4,a5] l0 l1 l2 l3 l4 l5 k 5 rX BT v5 v10 DV DW ns tH:=by
 intro Q hQ
 (conv=>whnf);repeat' ((first| intro g| refine st ?_| (first| refine b1 ?_ ?_| refine b2 ?_ ?_| refine Br.mk ?_ ?_) <;>intro hc| exact rfl) <;>conv=>whnf)
 · exact hQ _ _ l5 l5 (by clear hQ;simp only[List.getD_cons_zero,List.getD_cons_succ,List.getElem_cons_zero,List.getElem_cons_succ] at*;split<;>omega) (by clear hQ;simp only[List.getD_cons_zero,List.getD_cons_succ,List.getElem_cons_zero,List.getElem_cons_succ] at*;split<;>omega) (by(refine⟨?_,?_⟩ <;>repeat' (first| exact True.intro| refine ai ?_| refine And.intro ?_ ?_)))
 · exact hQ _ _ l5 l5 (by clear hQ;simp only[List.getD_cons_zero,List.getD_cons_succ,List.getElem_cons_zero,List.getElem_cons_succ] at*;split<;>omega) (by clear hQ;simp only[List.getD_cons_zero,List.getD_cons_succ,List.getElem_cons_zero,List.getElem_cons_succ] at*;split<;>omega) (by(refine⟨?_,?_⟩ <;>repeat' (first| exact True.intro| refine ai ?_| refine And.intro ?_ ?_)))
 · exact hQ _ _ l5 a5.high (by clear hQ;simp only[List.getD_cons_zero,List.getD_cons_succ,List.getElem_cons_zero,List.getElem_cons_succ] at*;split<;>omega) (by clear hQ;simp only[List.getD_cons_zero,List.getD_cons_succ,List.getElem_cons_zero,List.getElem_cons_succ] at*;split<;>omega) (by(refine⟨?_,?_⟩ <;>repeat' (first| exact True.intro| refine ai ?_| refine And.intro ?_ ?_)))
 · exact hQ _ _ a5.low l5 (by clear hQ;simp only[List.getD_cons_zero,List.getD_cons_succ,List.getElem_cons_zero,List.getElem_cons_succ] at*;split<;>omega) (by clear hQ;simp only[List.getD_cons_zero,List.getD_cons_succ,List.getElem_cons_zero,List.getElem_cons_succ] at*;split<;>omega) (by(refine⟨?_,?_⟩ <;>repeat' (first| exact True.intro| refine ai ?_| refine And.intro ?_ ?_)))
 · exact hQ _ _ a5.low a5.high (by clear hQ;simp only[List.getD_cons_zero,List.getD_cons_succ,List.getElem_cons_zero,List.getElem_cons_succ] at*;split<;>omega) (by clear hQ;simp only[List.getD_cons_zero,List.getD_cons_succ,List.getElem_cons_zero,List.getElem_cons_succ] at*;split<;>omega) (by(refine⟨?_,?_⟩ <;>repeat' (first| exact True.intro| refine ai ?_| refine And.intro ?_ ?_)))
end
theorem DX {K:List Kn} {l0 l1 l2 l3 l4 l5:Int} {k n rX BT:Nat} {v5 v10 DV:V} {DW ns tH:Obj} (hK:K.length=6) (hn:n< 6):zu K l0 l1 l2 l3 l4 l5 k n rX BT v5 v10 DV DW ns tH:=by
 obtain⟨a0,a1,a2,a3,a4,a5,rfl⟩:=six hK
 rcases(by omega:n=0∨n=1∨n=2∨n=3∨n=4∨n=5) with rfl| rfl| rfl| rfl| rfl| rfl
 · exact Un
 · exact Uo
 · exact Up
 · exact Uq
 · exact Ur
 · exact Us
end Go.AM
