/-
  Texts of the proof, joined by program: DrSan. Own work.
-/
import Derived.Test.YtkdfnbahehdhmaaGreatBase
import Derived.Test.YtkdfnbahehdhmaaGreatSa
import Derived.Test.YtkdfnbahehdhmaaGreatSb
set_option linter.unusedSimpArgs false
set_option linter.unusedVariables false
set_option maxRecDepth 100000
namespace Go.AM
abbrev sE:List V:=[.agg [vi 11,.lit 2 [.agg [vi 0,vi 0],.agg [vi 40,vi 0],.agg [vi 40,vi 40],.agg [vi 20,vi 40]],vi 2,vi 0],.agg [vi 12,.lit 2 [.agg [vi 20,vi 40],.agg [vi 0,vi 40],.agg [vi 0,vi 0]],vi 1,vi 0],.agg [vi 13,.lit 2 [.agg [vi 0,vi 0],.agg [vi 10,vi 12],.agg [vi 20,vi 14],.agg [vi 20,vi 40]],vi 1,vi 2]]
abbrev sX:List V:=[.agg [vi 11,.lit 2 [.agg [vi 0,vi 0],.agg [vi 40,vi 0],.agg [vi 40,vi 40],.agg [vi 20,vi 40]],vi 2,vi 0],.agg [vi 12,.lit 2 [.agg [vi 20,vi 40],.agg [vi 0,vi 40],.agg [vi 0,vi 0]],vi 1,vi 0],.agg [vi 13,.lit 2 [.agg [vi 0,vi 0],.agg [vi 20,vi 14],.agg [vi 20,vi 40]],vi 1,vi 2]]
abbrev sF:List V:=[.agg [vi 1,.str [97],.str [],vi 1,vi 1],.agg [vi 2,.str [97],.str [],vi 1,vi 1]]
abbrev sP:List V:=[.agg [vi 21,vi 19,vi 20,.str [97],.str [],vi 1,vi 1]]
abbrev sM:V:= .agg [.lit 4 sE,.lit 5 sF,.lit 8 [],.lit 7 sP]
def vH:v8:=[(553,[.agg [vi 0,vi 0],.agg [vi 10,vi 12],.agg [vi 20,vi 14],.agg [vi 0,vi 0],.agg [vi 40,vi 0]],⟨.bool false,[]⟩),
 (553,[.agg [vi 0,vi 0],.agg [vi 10,vi 12],.agg [vi 20,vi 14],.agg [vi 40,vi 0],.agg [vi 40,vi 40]],⟨.bool false,[]⟩),
 (553,[.agg [vi 0,vi 0],.agg [vi 10,vi 12],.agg [vi 20,vi 14],.agg [vi 40,vi 40],.agg [vi 20,vi 40]],⟨.bool false,[]⟩),
 (553,[.agg [vi 0,vi 0],.agg [vi 10,vi 12],.agg [vi 20,vi 14],.agg [vi 20,vi 40],.agg [vi 0,vi 40]],⟨.bool false,[]⟩),
 (553,[.agg [vi 0,vi 0],.agg [vi 10,vi 12],.agg [vi 20,vi 14],.agg [vi 0,vi 40],.agg [vi 0,vi 0]],⟨.bool false,[]⟩),
 (553,[.agg [vi 0,vi 0],.agg [vi 10,vi 12],.agg [vi 20,vi 14],.agg [vi 20,vi 14],.agg [vi 20,vi 40]],⟨.bool false,[]⟩),
 (553,[.agg [vi 10,vi 12],.agg [vi 20,vi 14],.agg [vi 20,vi 40],.agg [vi 0,vi 0],.agg [vi 40,vi 0]],⟨.bool false,[]⟩),
 (553,[.agg [vi 10,vi 12],.agg [vi 20,vi 14],.agg [vi 20,vi 40],.agg [vi 40,vi 0],.agg [vi 40,vi 40]],⟨.bool false,[]⟩),
 (553,[.agg [vi 10,vi 12],.agg [vi 20,vi 14],.agg [vi 20,vi 40],.agg [vi 40,vi 40],.agg [vi 20,vi 40]],⟨.bool false,[]⟩),
 (553,[.agg [vi 10,vi 12],.agg [vi 20,vi 14],.agg [vi 20,vi 40],.agg [vi 20,vi 40],.agg [vi 0,vi 40]],⟨.bool false,[]⟩),
 (553,[.agg [vi 10,vi 12],.agg [vi 20,vi 14],.agg [vi 20,vi 40],.agg [vi 0,vi 40],.agg [vi 0,vi 0]],⟨.bool false,[]⟩),
 (553,[.agg [vi 10,vi 12],.agg [vi 20,vi 14],.agg [vi 20,vi 40],.agg [vi 0,vi 0],.agg [vi 10,vi 12]],⟨.bool false,[]⟩)]
theorem xu: ∀p ∈ vH,Ev E p.1 p.2.1 p.2.2:=List.forall_mem_cons.2 ⟨LN,List.forall_mem_cons.2 ⟨LO,List.forall_mem_cons.2 ⟨LP,List.forall_mem_cons.2 ⟨LQ,List.forall_mem_cons.2 ⟨LR,List.forall_mem_cons.2 ⟨LS,List.forall_mem_cons.2 ⟨LU,List.forall_mem_cons.2 ⟨LV,List.forall_mem_cons.2 ⟨LW,List.forall_mem_cons.2 ⟨LX,List.forall_mem_cons.2 ⟨Gv,List.forall_mem_cons.2 ⟨Gw,(by simp)⟩⟩⟩⟩⟩⟩⟩⟩⟩⟩⟩⟩
theorem LY:Ev E 532 [] ⟨.agg [.own 4 sE,.own 5 sF,.lit 8 [],.own 7 sP],[]⟩:=⟨1000,by kernel_rfl⟩
theorem DT:v9 E vH 1000 526 [sM,vi 13,vi 1]=some ⟨vi 0,[]⟩:=by kernel_rfl
theorem DU:Ev E 526 [sM,vi 13,vi 1] ⟨vi 0,[]⟩:=Ev.EY xu DT
theorem DV:v9 E vH 1000 526 [sM,vi 13,vi 2]=some ⟨vi 22,[]⟩:=by kernel_rfl
theorem DW:Ev E 526 [sM,vi 13,vi 2] ⟨vi 22,[]⟩:=Ev.EY xu DV
def sA:v8:=[(526,[sM,vi 13,vi 1],⟨vi 0,[]⟩),(526,[sM,vi 13,vi 2],⟨vi 22,[]⟩)]
theorem uy: ∀p ∈ sA,Ev E p.1 p.2.1 p.2.2:=List.forall_mem_cons.2 ⟨DU,List.forall_mem_cons.2 ⟨DW,by simp⟩⟩
theorem LZ:Ev E 526 [sM,vi 13,vi 3] ⟨vi 1,[]⟩:=⟨1000,by kernel_rfl⟩
theorem L0:Ev E 526 [sM,vi 11,vi 1] ⟨vi 25,[]⟩:=⟨1000,by kernel_rfl⟩
theorem L1:Ev E 526 [sM,vi 14,vi 1] ⟨vi 5,[]⟩:=⟨1000,by kernel_rfl⟩
theorem DX:v9 E sA 1000 524 [sM,vi 13,vi 1]=some ⟨.tuple [.agg [.own 4 sX,.own 5 sF,.own 8 [],.own 7 sP],vi 0],[]⟩:=by kernel_rfl
theorem L2:Ev E 524 [sM,vi 13,vi 1] ⟨.tuple [.agg [.own 4 sX,.own 5 sF,.own 8 [],.own 7 sP],vi 0],[]⟩:=Ev.EY uy DX
theorem DY:v9 E sA 1000 529 [sM,vi 1]=some ⟨.own 5 [.agg [vi 1,vi 10,vi 13,vi 0,vi 1]],[]⟩:=by kernel_rfl
theorem L3:Ev E 529 [sM,vi 1] ⟨.own 5 [.agg [vi 1,vi 10,vi 13,vi 0,vi 1]],[]⟩:=Ev.EY uy DY
theorem L4:Ev E 527 [sM,vi 13,vi 1] ⟨vi 10,[]⟩:=⟨1000,by kernel_rfl⟩
theorem L5:Ev E 527 [sM,vi 13,vi 0] ⟨vi 0,[]⟩:=⟨1000,by kernel_rfl⟩
theorem L6:Ev E 529 [sM,vi 0] ⟨.own 5 [],[]⟩:=⟨1000,by kernel_rfl⟩
theorem L7:Ev E 533 [.lit 1 [vi 0,vi 0,vi 20,vi 14,vi 20,vi 40]] ⟨.own 2 [.agg [vi 0,vi 0],.agg [vi 20,vi 14],.agg [vi 20,vi 40]],[]⟩:=⟨1000,by kernel_rfl⟩
theorem L8:Ev E 165 [.lit 2 [.agg [vi 0,vi 0],.agg [vi 20,vi 14],.agg [vi 20,vi 40]],.lit 2 [.agg [vi 0,vi 0],.agg [vi 20,vi 14],.agg [vi 20,vi 40]]] ⟨.bool true,[]⟩:=⟨1000,by kernel_rfl⟩
theorem sB:Ev E 521 [] ⟨.bool true,[]⟩:=by
 refine Ev.bY Nw (Nx _) rfl ?_
 (conv=>whnf);repeat' ((first| intro g| refine ak.mk _ (LY) ?_| refine ak.mk _ (DU) ?_| refine ak.mk _ (DW) ?_| refine ak.mk _ (LZ) ?_| refine ak.mk _ (L0) ?_| refine ak.mk _ (L1) ?_| refine ak.mk _ (L2) ?_| refine ak.mk _ (L3) ?_| refine ak.mk _ (L4) ?_| refine ak.mk _ (L5) ?_| refine ak.mk _ (L6) ?_| refine ak.mk _ (L7) ?_| refine ak.mk _ (L8) ?_| refine st ?_| (first| refine b1 ?_ ?_| refine b2 ?_ ?_| refine Br.mk ?_ ?_) <;>intro hc| exact rfl) <;>conv=>whnf)
end Go.AM
