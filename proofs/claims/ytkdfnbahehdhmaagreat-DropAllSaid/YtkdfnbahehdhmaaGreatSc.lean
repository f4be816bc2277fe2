/-
  Texts of the proof, joined by program: DrSan. Own work.
-/
import Derived.Test.YtkdfnbahehdhmaaGreatBase
import Derived.Test.YtkdfnbahehdhmaaGreatSa
import Derived.Test.YtkdfnbahehdhmaaGreatSb
set_option linter.unusedSimpArgs false
set_option linter.unusedVariables false
set_option maxRecDepth 100000
namespace Go.AM
abbrev sE:List V:=[.agg [vi 11,.lit 2 [.agg [vi 0,vi 0],.agg [vi 40,vi 0],.agg [vi 40,vi 40],.agg [vi 20,vi 40]],vi 2,vi 0],.agg [vi 12,.lit 2 [.agg [vi 20,vi 40],.agg [vi 0,vi 40],.agg [vi 0,vi 0]],vi 1,vi 0],.agg [vi 13,.lit 2 [.agg [vi 0,vi 0],.agg [vi 10,vi 12],.agg [vi 20,vi 14],.agg [vi 20,vi 40]],vi 1,vi 2]]
abbrev sX:List V:=[.agg [vi 11,.lit 2 [.agg [vi 0,vi 0],.agg [vi 40,vi 0],.agg [vi 40,vi 40],.agg [vi 20,vi 40]],vi 2,vi 0],.agg [vi 12,.lit 2 [.agg [vi 20,vi 40],.agg [vi 0,vi 40],.agg [vi 0,vi 0]],vi 1,vi 0],.agg [vi 13,.lit 2 [.agg [vi 0,vi 0],.agg [vi 20,vi 14],.agg [vi 20,vi 40]],vi 1,vi 2]]
abbrev sF:List V:=[.agg [vi 1,.str [97],.str [],vi 1,vi 1],.agg [vi 2,.str [97],.str [],vi 1,vi 1]]
abbrev sP:List V:=[.agg [vi 21,vi 19,vi 20,.str [97],.str [],vi 1,vi 1]]
abbrev sM:V:= .agg [.lit 4 sE,.lit 5 sF,.lit 8 [],.lit 7 sP]
def yI:ze:=[(553,[.agg [vi 0,vi 0],.agg [vi 10,vi 12],.agg [vi 20,vi 14],.agg [vi 0,vi 0],.agg [vi 40,vi 0]],⟨.bool false,[]⟩),
 (553,[.agg [vi 0,vi 0],.agg [vi 10,vi 12],.agg [vi 20,vi 14],.agg [vi 40,vi 0],.agg [vi 40,vi 40]],⟨.bool false,[]⟩),
 (553,[.agg [vi 0,vi 0],.agg [vi 10,vi 12],.agg [vi 20,vi 14],.agg [vi 40,vi 40],.agg [vi 20,vi 40]],⟨.bool false,[]⟩),
 (553,[.agg [vi 0,vi 0],.agg [vi 10,vi 12],.agg [vi 20,vi 14],.agg [vi 20,vi 40],.agg [vi 0,vi 40]],⟨.bool false,[]⟩),
 (553,[.agg [vi 0,vi 0],.agg [vi 10,vi 12],.agg [vi 20,vi 14],.agg [vi 0,vi 40],.agg [vi 0,vi 0]],⟨.bool false,[]⟩),
 (553,[.agg [vi 0,vi 0],.agg [vi 10,vi 12],.agg [vi 20,vi 14],.agg [vi 20,vi 14],.agg [vi 20,vi 40]],⟨.bool false,[]⟩),
 (553,[.agg [vi 10,vi 12],.agg [vi 20,vi 14],.agg [vi 20,vi 40],.agg [vi 0,vi 0],.agg [vi 40,vi 0]],⟨.bool false,[]⟩),
 (553,[.agg [vi 10,vi 12],.agg [vi 20,vi 14],.agg [vi 20,vi 40],.agg [vi 40,vi 0],.agg [vi 40,vi 40]],⟨.bool false,[]⟩),
 (553,[.agg [vi 10,vi 12],.agg [vi 20,vi 14],.agg [vi 20,vi 40],.agg [vi 40,vi 40],.agg [vi 20,vi 40]],⟨.bool false,[]⟩),
 (553,[.agg [vi 10,vi 12],.agg [vi 20,vi 14],.agg [vi 20,vi 40],.agg [vi 20,vi 40],.agg [vi 0,vi 40]],⟨.bool false,[]⟩),
 (553,[.agg [vi 10,vi 12],.agg [vi 20,vi 14],.agg [vi 20,vi 40],.agg [vi 0,vi 40],.agg [vi 0,vi 0]],⟨.bool false,[]⟩),
 (553,[.agg [vi 10,vi 12],.agg [vi 20,vi 14],.agg [vi 20,vi 40],.agg [vi 0,vi 0],.agg [vi 10,vi 12]],⟨.bool false,[]⟩)]
theorem Ar: ∀p ∈ yI,Ev E p.1 p.2.1 p.2.2:=List.forall_mem_cons.2 ⟨R0,List.forall_mem_cons.2 ⟨R1,List.forall_mem_cons.2 ⟨R2,List.forall_mem_cons.2 ⟨R3,List.forall_mem_cons.2 ⟨R4,List.forall_mem_cons.2 ⟨R5,List.forall_mem_cons.2 ⟨R6,List.forall_mem_cons.2 ⟨R7,List.forall_mem_cons.2 ⟨R8,List.forall_mem_cons.2 ⟨R9,List.forall_mem_cons.2 ⟨KU,List.forall_mem_cons.2 ⟨KV,(by simp)⟩⟩⟩⟩⟩⟩⟩⟩⟩⟩⟩⟩
theorem Sa:Ev E 532 [] ⟨.agg [.own 4 sE,.own 5 sF,.lit 8 [],.own 7 sP],[]⟩:=⟨1000,by kernel_rfl⟩
theorem HW:zf E yI 1000 526 [sM,vi 13,vi 1]=some ⟨vi 0,[]⟩:=by kernel_rfl
theorem HX:Ev E 526 [sM,vi 13,vi 1] ⟨vi 0,[]⟩:=Ev.I9 Ar HW
theorem HY:zf E yI 1000 526 [sM,vi 13,vi 2]=some ⟨vi 22,[]⟩:=by kernel_rfl
theorem HZ:Ev E 526 [sM,vi 13,vi 2] ⟨vi 22,[]⟩:=Ev.I9 Ar HY
def vA:ze:=[(526,[sM,vi 13,vi 1],⟨vi 0,[]⟩),(526,[sM,vi 13,vi 2],⟨vi 22,[]⟩)]
theorem xw: ∀p ∈ vA,Ev E p.1 p.2.1 p.2.2:=List.forall_mem_cons.2 ⟨HX,List.forall_mem_cons.2 ⟨HZ,by simp⟩⟩
theorem Sb:Ev E 526 [sM,vi 13,vi 3] ⟨vi 1,[]⟩:=⟨1000,by kernel_rfl⟩
theorem Sc:Ev E 526 [sM,vi 11,vi 1] ⟨vi 25,[]⟩:=⟨1000,by kernel_rfl⟩
theorem Sd:Ev E 526 [sM,vi 14,vi 1] ⟨vi 5,[]⟩:=⟨1000,by kernel_rfl⟩
theorem H0:zf E vA 1000 524 [sM,vi 13,vi 1]=some ⟨.tuple [.agg [.own 4 sX,.own 5 sF,.own 8 [],.own 7 sP],vi 0],[]⟩:=by kernel_rfl
theorem Se:Ev E 524 [sM,vi 13,vi 1] ⟨.tuple [.agg [.own 4 sX,.own 5 sF,.own 8 [],.own 7 sP],vi 0],[]⟩:=Ev.I9 xw H0
theorem H2:zf E vA 1000 529 [sM,vi 1]=some ⟨.own 5 [.agg [vi 1,vi 10,vi 13,vi 0,vi 1]],[]⟩:=by kernel_rfl
theorem Sg:Ev E 529 [sM,vi 1] ⟨.own 5 [.agg [vi 1,vi 10,vi 13,vi 0,vi 1]],[]⟩:=Ev.I9 xw H2
theorem Si:Ev E 527 [sM,vi 13,vi 1] ⟨vi 10,[]⟩:=⟨1000,by kernel_rfl⟩
theorem Sj:Ev E 527 [sM,vi 13,vi 0] ⟨vi 0,[]⟩:=⟨1000,by kernel_rfl⟩
theorem Sk:Ev E 529 [sM,vi 0] ⟨.own 5 [],[]⟩:=⟨1000,by kernel_rfl⟩
theorem Sl:Ev E 533 [.lit 1 [vi 0,vi 0,vi 20,vi 14,vi 20,vi 40]] ⟨.own 2 [.agg [vi 0,vi 0],.agg [vi 20,vi 14],.agg [vi 20,vi 40]],[]⟩:=⟨1000,by kernel_rfl⟩
theorem Sm:Ev E 165 [.lit 2 [.agg [vi 0,vi 0],.agg [vi 20,vi 14],.agg [vi 20,vi 40]],.lit 2 [.agg [vi 0,vi 0],.agg [vi 20,vi 14],.agg [vi 20,vi 40]]] ⟨.bool true,[]⟩:=⟨1000,by kernel_rfl⟩
theorem H3:Ev E 521 [] ⟨.bool true,[]⟩:=by
 refine Ev.aG T7 (T8 _) rfl ?_
 (conv=>whnf);repeat' ((first| intro g| refine ag.mk _ (Sa) ?_| refine ag.mk _ (HX) ?_| refine ag.mk _ (HZ) ?_| refine ag.mk _ (Sb) ?_| refine ag.mk _ (Sc) ?_| refine ag.mk _ (Sd) ?_| refine ag.mk _ (Se) ?_| refine ag.mk _ (Sg) ?_| refine ag.mk _ (Si) ?_| refine ag.mk _ (Sj) ?_| refine ag.mk _ (Sk) ?_| refine ag.mk _ (Sl) ?_| refine ag.mk _ (Sm) ?_| refine st ?_| (first| refine b1 ?_ ?_| refine b2 ?_ ?_| refine Br.mk ?_ ?_) <;>intro hc| exact rfl) <;>conv=>whnf)
end Go.AM
