/-
  Texts of the proof: LbO.
-/
import Derived.Test.YtjkmpppkkhbjkaaGreatFns
import Derived.Test.YtjkmpppkkhbjkaaGreatDa
import Derived.Test.YtjkmpppkkhbjkaaGreatBase
import Derived.KernelRfl
set_option linter.unusedSimpArgs false
set_option linter.unusedVariables false
set_option maxRecDepth 100000
namespace Go.AM
def LR (r:Option dk):Bool:=match r with
 | some ⟨.agg [.lit 4 [],.lit 5 [],.lit 8 [],.own 7 [.agg [.int .i64 1,.int .i64 0,.int .i64 0,.str [],.str [69,108,109],.int .i64 5,.int .i64 0],.agg [.int .i64 2,.int .i64 180,.int .i64 0,.str [],.str [79,97,107],.int .i64 9,.int .i64 0],.agg [.int .i64 3,.int .i64 0,.int .i64 90,.str [],.str [65,115,104],.int .i64 2,.int .i64 0]]],[]⟩=>true
 | _=>false
theorem FY {r:Option dk} (h:LR r=true):r=some ⟨.agg [.lit 4 [],.lit 5 [],.lit 8 [],.own 7 [.agg [.int .i64 1,.int .i64 0,.int .i64 0,.str [],.str [69,108,109],.int .i64 5,.int .i64 0],.agg [.int .i64 2,.int .i64 180,.int .i64 0,.str [],.str [79,97,107],.int .i64 9,.int .i64 0],.agg [.int .i64 3,.int .i64 0,.int .i64 90,.str [],.str [65,115,104],.int .i64 2,.int .i64 0]]],[]⟩:=by
 unfold LR at h
 split at h
 · rfl
 · simp at h
theorem LS:LR (call E 1000 611 [])=true:=by kernel_rfl
theorem IH:Ev E 611 [] ⟨.agg [.lit 4 [],.lit 5 [],.lit 8 [],.own 7 [.agg [.int .i64 1,.int .i64 0,.int .i64 0,.str [],.str [69,108,109],.int .i64 5,.int .i64 0],.agg [.int .i64 2,.int .i64 180,.int .i64 0,.str [],.str [79,97,107],.int .i64 9,.int .i64 0],.agg [.int .i64 3,.int .i64 0,.int .i64 90,.str [],.str [65,115,104],.int .i64 2,.int .i64 0]]],[]⟩:=⟨1000,FY LS⟩
def LU (r:Option dk):Bool:=match r with
 | some ⟨.own 6 [.agg [.int .i64 2,.int .i64 180,.int .i64 0,.int .i64 9,.str [79,97,107],.int .i64 1024],.agg [.int .i64 1,.int .i64 0,.int .i64 0,.int .i64 9,.str [69,108,109],.int .i64 10],.agg [.int .i64 3,.int .i64 0,.int .i64 90,.int .i64 9,.str [65,115,104],.int .i64 5]],[]⟩=>true
 | _=>false
theorem FZ {r:Option dk} (h:LU r=true):r=some ⟨.own 6 [.agg [.int .i64 2,.int .i64 180,.int .i64 0,.int .i64 9,.str [79,97,107],.int .i64 1024],.agg [.int .i64 1,.int .i64 0,.int .i64 0,.int .i64 9,.str [69,108,109],.int .i64 10],.agg [.int .i64 3,.int .i64 0,.int .i64 90,.int .i64 9,.str [65,115,104],.int .i64 5]],[]⟩:=by
 unfold LU at h
 split at h
 · rfl
 · simp at h
theorem LV:LU (call E 1000 596 [.agg [.lit 4 [],.lit 5 [],.lit 8 [],.lit 7 [.agg [.int .i64 1,.int .i64 0,.int .i64 0,.str [],.str [69,108,109],.int .i64 5,.int .i64 0],.agg [.int .i64 2,.int .i64 180,.int .i64 0,.str [],.str [79,97,107],.int .i64 9,.int .i64 0],.agg [.int .i64 3,.int .i64 0,.int .i64 90,.str [],.str [65,115,104],.int .i64 2,.int .i64 0]]],.nils])=true:=by kernel_rfl
theorem II:Ev E 596 [.agg [.lit 4 [],.lit 5 [],.lit 8 [],.lit 7 [.agg [.int .i64 1,.int .i64 0,.int .i64 0,.str [],.str [69,108,109],.int .i64 5,.int .i64 0],.agg [.int .i64 2,.int .i64 180,.int .i64 0,.str [],.str [79,97,107],.int .i64 9,.int .i64 0],.agg [.int .i64 3,.int .i64 0,.int .i64 90,.str [],.str [65,115,104],.int .i64 2,.int .i64 0]]],.nils] ⟨.own 6 [.agg [.int .i64 2,.int .i64 180,.int .i64 0,.int .i64 9,.str [79,97,107],.int .i64 1024],.agg [.int .i64 1,.int .i64 0,.int .i64 0,.int .i64 9,.str [69,108,109],.int .i64 10],.agg [.int .i64 3,.int .i64 0,.int .i64 90,.int .i64 9,.str [65,115,104],.int .i64 5]],[]⟩:=⟨1000,FZ LV⟩
def LW (r:Option dk):Bool:=match r with
 | some ⟨.own 1 [.int .i64 2,.int .i64 1,.int .i64 3],[]⟩=>true
 | _=>false
theorem F0 {r:Option dk} (h:LW r=true):r=some ⟨.own 1 [.int .i64 2,.int .i64 1,.int .i64 3],[]⟩:=by
 unfold LW at h
 split at h
 · rfl
 · simp at h
theorem LX:LW (call E 1000 600 [.agg [.lit 4 [],.lit 5 [],.lit 8 [],.lit 7 [.agg [.int .i64 1,.int .i64 0,.int .i64 0,.str [],.str [69,108,109],.int .i64 5,.int .i64 0],.agg [.int .i64 2,.int .i64 180,.int .i64 0,.str [],.str [79,97,107],.int .i64 9,.int .i64 0],.agg [.int .i64 3,.int .i64 0,.int .i64 90,.str [],.str [65,115,104],.int .i64 2,.int .i64 0]]]])=true:=by kernel_rfl
theorem IJ:Ev E 600 [.agg [.lit 4 [],.lit 5 [],.lit 8 [],.lit 7 [.agg [.int .i64 1,.int .i64 0,.int .i64 0,.str [],.str [69,108,109],.int .i64 5,.int .i64 0],.agg [.int .i64 2,.int .i64 180,.int .i64 0,.str [],.str [79,97,107],.int .i64 9,.int .i64 0],.agg [.int .i64 3,.int .i64 0,.int .i64 90,.str [],.str [65,115,104],.int .i64 2,.int .i64 0]]]] ⟨.own 1 [.int .i64 2,.int .i64 1,.int .i64 3],[]⟩:=⟨1000,F0 LX⟩
def LY (r:Option dk):Bool:=match r with
 | some ⟨.bool true,[]⟩=>true
 | _=>false
theorem F1 {r:Option dk} (h:LY r=true):r=some ⟨.bool true,[]⟩:=by
 unfold LY at h
 split at h
 · rfl
 · simp at h
theorem LZ:LY (call E 1000 599 [.lit 1 [.int .i64 2,.int .i64 1,.int .i64 3],.lit 1 [.int .i64 2,.int .i64 1,.int .i64 3]])=true:=by kernel_rfl
theorem CJ:Ev E 599 [.lit 1 [.int .i64 2,.int .i64 1,.int .i64 3],.lit 1 [.int .i64 2,.int .i64 1,.int .i64 3]] ⟨.bool true,[]⟩:=⟨1000,F1 LZ⟩
def L0 (r:Option dk):Bool:=match r with
 | some ⟨.int .i64 9,[]⟩=>true
 | _=>false
theorem F3 {r:Option dk} (h:L0 r=true):r=some ⟨.int .i64 9,[]⟩:=by
 unfold L0 at h
 split at h
 · rfl
 · simp at h
theorem L1:L0 (call E 1000 604 [.str [69,108,109]])=true:=by kernel_rfl
theorem IK:Ev E 604 [.str [69,108,109]] ⟨.int .i64 9,[]⟩:=⟨1000,F3 L1⟩
def L3 (r:Option dk):Bool:=match r with
 | some ⟨.int .i64 10,[]⟩=>true
 | _=>false
theorem F4 {r:Option dk} (h:L3 r=true):r=some ⟨.int .i64 10,[]⟩:=by
 unfold L3 at h
 split at h
 · rfl
 · simp at h
theorem L4:L3 (call E 1000 612 [.agg [.int .i64 2,.int .i64 180,.int .i64 0,.int .i64 9,.str [79,97,107],.int .i64 1024],.agg [.int .i64 1,.int .i64 0,.int .i64 0,.int .i64 9,.str [69,108,109],.int .i64 10]])=true:=by kernel_rfl
theorem IL:Ev E 612 [.agg [.int .i64 2,.int .i64 180,.int .i64 0,.int .i64 9,.str [79,97,107],.int .i64 1024],.agg [.int .i64 1,.int .i64 0,.int .i64 0,.int .i64 9,.str [69,108,109],.int .i64 10]] ⟨.int .i64 10,[]⟩:=⟨1000,F4 L4⟩
def L5 (r:Option dk):Bool:=match r with
 | some ⟨.int .i64 5,[]⟩=>true
 | _=>false
theorem F5 {r:Option dk} (h:L5 r=true):r=some ⟨.int .i64 5,[]⟩:=by
 unfold L5 at h
 split at h
 · rfl
 · simp at h
theorem L6:L5 (call E 1000 612 [.agg [.int .i64 1,.int .i64 0,.int .i64 0,.int .i64 9,.str [69,108,109],.int .i64 10],.agg [.int .i64 3,.int .i64 0,.int .i64 90,.int .i64 9,.str [65,115,104],.int .i64 5]])=true:=by kernel_rfl
theorem IM:Ev E 612 [.agg [.int .i64 1,.int .i64 0,.int .i64 0,.int .i64 9,.str [69,108,109],.int .i64 10],.agg [.int .i64 3,.int .i64 0,.int .i64 90,.int .i64 9,.str [65,115,104],.int .i64 5]] ⟨.int .i64 5,[]⟩:=⟨1000,F5 L6⟩
def L7 (r:Option dk):Bool:=match r with
 | some ⟨.bool false,[]⟩=>true
 | _=>false
theorem F6 {r:Option dk} (h:L7 r=true):r=some ⟨.bool false,[]⟩:=by
 unfold L7 at h
 split at h
 · rfl
 · simp at h
theorem L8:L7 (call E 1000 609 [.agg [.int .i64 1,.int .i64 0,.int .i64 0,.int .i64 9,.str [69,108,109],.int .i64 10],.agg [.int .i64 3,.int .i64 0,.int .i64 90,.int .i64 9,.str [65,115,104],.int .i64 5],.int .i64 25])=true:=by kernel_rfl
theorem IN:Ev E 609 [.agg [.int .i64 1,.int .i64 0,.int .i64 0,.int .i64 9,.str [69,108,109],.int .i64 10],.agg [.int .i64 3,.int .i64 0,.int .i64 90,.int .i64 9,.str [65,115,104],.int .i64 5],.int .i64 25] ⟨.bool false,[]⟩:=⟨1000,F6 L8⟩
def L9 (r:Option dk):Bool:=match r with
 | some ⟨.bool true,[]⟩=>true
 | _=>false
theorem F7 {r:Option dk} (h:L9 r=true):r=some ⟨.bool true,[]⟩:=by
 unfold L9 at h
 split at h
 · rfl
 · simp at h
theorem Ma:L9 (call E 1000 609 [.agg [.int .i64 1,.int .i64 0,.int .i64 0,.int .i64 9,.str [69,108,109],.int .i64 10],.agg [.int .i64 3,.int .i64 0,.int .i64 90,.int .i64 9,.str [65,115,104],.int .i64 5],.int .i64 26])=true:=by kernel_rfl
theorem IP:Ev E 609 [.agg [.int .i64 1,.int .i64 0,.int .i64 0,.int .i64 9,.str [69,108,109],.int .i64 10],.agg [.int .i64 3,.int .i64 0,.int .i64 90,.int .i64 9,.str [65,115,104],.int .i64 5],.int .i64 26] ⟨.bool true,[]⟩:=⟨1000,F7 Ma⟩
def Mb (r:Option dk):Bool:=match r with
 | some ⟨.own 1 [.int .i64 2,.int .i64 1,.int .i64 3],[]⟩=>true
 | _=>false
theorem F8 {r:Option dk} (h:Mb r=true):r=some ⟨.own 1 [.int .i64 2,.int .i64 1,.int .i64 3],[]⟩:=by
 unfold Mb at h
 split at h
 · rfl
 · simp at h
theorem Mc:Mb (call E 1000 602 [.lit 6 [.agg [.int .i64 2,.int .i64 180,.int .i64 0,.int .i64 9,.str [79,97,107],.int .i64 1024],.agg [.int .i64 1,.int .i64 0,.int .i64 0,.int .i64 9,.str [69,108,109],.int .i64 10],.agg [.int .i64 3,.int .i64 0,.int .i64 90,.int .i64 9,.str [65,115,104],.int .i64 5]],.int .i64 25])=true:=by kernel_rfl
theorem IQ:Ev E 602 [.lit 6 [.agg [.int .i64 2,.int .i64 180,.int .i64 0,.int .i64 9,.str [79,97,107],.int .i64 1024],.agg [.int .i64 1,.int .i64 0,.int .i64 0,.int .i64 9,.str [69,108,109],.int .i64 10],.agg [.int .i64 3,.int .i64 0,.int .i64 90,.int .i64 9,.str [65,115,104],.int .i64 5]],.int .i64 25] ⟨.own 1 [.int .i64 2,.int .i64 1,.int .i64 3],[]⟩:=⟨1000,F8 Mc⟩
def F9 (r:Option dk):Bool:=match r with
 | some ⟨.own 1 [.int .i64 2,.int .i64 1],[]⟩=>true
 | _=>false
theorem DF {r:Option dk} (h:F9 r=true):r=some ⟨.own 1 [.int .i64 2,.int .i64 1],[]⟩:=by
 unfold F9 at h
 split at h
 · rfl
 · simp at h
theorem IS:F9 (call E 1000 602 [.lit 6 [.agg [.int .i64 2,.int .i64 180,.int .i64 0,.int .i64 9,.str [79,97,107],.int .i64 1024],.agg [.int .i64 1,.int .i64 0,.int .i64 0,.int .i64 9,.str [69,108,109],.int .i64 10],.agg [.int .i64 3,.int .i64 0,.int .i64 90,.int .i64 9,.str [65,115,104],.int .i64 5]],.int .i64 26])=true:=by kernel_rfl
theorem Ga:Ev E 602 [.lit 6 [.agg [.int .i64 2,.int .i64 180,.int .i64 0,.int .i64 9,.str [79,97,107],.int .i64 1024],.agg [.int .i64 1,.int .i64 0,.int .i64 0,.int .i64 9,.str [69,108,109],.int .i64 10],.agg [.int .i64 3,.int .i64 0,.int .i64 90,.int .i64 9,.str [65,115,104],.int .i64 5]],.int .i64 26] ⟨.own 1 [.int .i64 2,.int .i64 1],[]⟩:=⟨1000,DF IS⟩
def Gb (r:Option dk):Bool:=match r with
 | some ⟨.own 1 [.int .i64 2,.int .i64 1],[]⟩=>true
 | _=>false
theorem DG {r:Option dk} (h:Gb r=true):r=some ⟨.own 1 [.int .i64 2,.int .i64 1],[]⟩:=by
 unfold Gb at h
 split at h
 · rfl
 · simp at h
theorem IT:Gb (call E 1000 602 [.lit 6 [.agg [.int .i64 2,.int .i64 180,.int .i64 0,.int .i64 9,.str [79,97,107],.int .i64 1024],.agg [.int .i64 1,.int .i64 0,.int .i64 0,.int .i64 9,.str [69,108,109],.int .i64 10],.agg [.int .i64 3,.int .i64 0,.int .i64 90,.int .i64 9,.str [65,115,104],.int .i64 5]],.int .i64 100])=true:=by kernel_rfl
theorem Gc:Ev E 602 [.lit 6 [.agg [.int .i64 2,.int .i64 180,.int .i64 0,.int .i64 9,.str [79,97,107],.int .i64 1024],.agg [.int .i64 1,.int .i64 0,.int .i64 0,.int .i64 9,.str [69,108,109],.int .i64 10],.agg [.int .i64 3,.int .i64 0,.int .i64 90,.int .i64 9,.str [65,115,104],.int .i64 5]],.int .i64 100] ⟨.own 1 [.int .i64 2,.int .i64 1],[]⟩:=⟨1000,DG IT⟩
def Gd (r:Option dk):Bool:=match r with
 | some ⟨.own 1 [.int .i64 2],[]⟩=>true
 | _=>false
theorem DH {r:Option dk} (h:Gd r=true):r=some ⟨.own 1 [.int .i64 2],[]⟩:=by
 unfold Gd at h
 split at h
 · rfl
 · simp at h
theorem IU:Gd (call E 1000 602 [.lit 6 [.agg [.int .i64 2,.int .i64 180,.int .i64 0,.int .i64 9,.str [79,97,107],.int .i64 1024],.agg [.int .i64 1,.int .i64 0,.int .i64 0,.int .i64 9,.str [69,108,109],.int .i64 10],.agg [.int .i64 3,.int .i64 0,.int .i64 90,.int .i64 9,.str [65,115,104],.int .i64 5]],.int .i64 101])=true:=by kernel_rfl
theorem Ge:Ev E 602 [.lit 6 [.agg [.int .i64 2,.int .i64 180,.int .i64 0,.int .i64 9,.str [79,97,107],.int .i64 1024],.agg [.int .i64 1,.int .i64 0,.int .i64 0,.int .i64 9,.str [69,108,109],.int .i64 10],.agg [.int .i64 3,.int .i64 0,.int .i64 90,.int .i64 9,.str [65,115,104],.int .i64 5]],.int .i64 101] ⟨.own 1 [.int .i64 2],[]⟩:=⟨1000,DH IU⟩
def Gf (r:Option dk):Bool:=match r with
 | some ⟨.bool true,[]⟩=>true
 | _=>false
theorem DI {r:Option dk} (h:Gf r=true):r=some ⟨.bool true,[]⟩:=by
 unfold Gf at h
 split at h
 · rfl
 · simp at h
theorem IV:Gf (call E 1000 599 [.lit 1 [.int .i64 2,.int .i64 1],.lit 1 [.int .i64 2,.int .i64 1]])=true:=by kernel_rfl
theorem Gg:Ev E 599 [.lit 1 [.int .i64 2,.int .i64 1],.lit 1 [.int .i64 2,.int .i64 1]] ⟨.bool true,[]⟩:=⟨1000,DI IV⟩
def Gh (r:Option dk):Bool:=match r with
 | some ⟨.bool true,[]⟩=>true
 | _=>false
theorem DJ {r:Option dk} (h:Gh r=true):r=some ⟨.bool true,[]⟩:=by
 unfold Gh at h
 split at h
 · rfl
 · simp at h
theorem IW:Gh (call E 1000 599 [.lit 1 [.int .i64 2],.lit 1 [.int .i64 2]])=true:=by kernel_rfl
theorem Gi:Ev E 599 [.lit 1 [.int .i64 2],.lit 1 [.int .i64 2]] ⟨.bool true,[]⟩:=⟨1000,DJ IW⟩
def Gj (r:Option dk):Bool:=match r with
 | some ⟨.own 6 [.agg [.int .i64 2,.int .i64 180,.int .i64 0,.int .i64 9,.str [79,97,107],.int .i64 1024],.agg [.int .i64 1,.int .i64 50,.int .i64 0,.int .i64 9,.str [69,108,109],.int .i64 7],.agg [.int .i64 3,.int .i64 0,.int .i64 90,.int .i64 9,.str [65,115,104],.int .i64 4]],[]⟩=>true
 | _=>false
theorem DK {r:Option dk} (h:Gj r=true):r=some ⟨.own 6 [.agg [.int .i64 2,.int .i64 180,.int .i64 0,.int .i64 9,.str [79,97,107],.int .i64 1024],.agg [.int .i64 1,.int .i64 50,.int .i64 0,.int .i64 9,.str [69,108,109],.int .i64 7],.agg [.int .i64 3,.int .i64 0,.int .i64 90,.int .i64 9,.str [65,115,104],.int .i64 4]],[]⟩:=by
 unfold Gj at h
 split at h
 · rfl
 · simp at h
theorem IX:Gj (call E 1000 596 [.agg [.lit 4 [],.lit 5 [],.lit 8 [],.lit 7 [.agg [.int .i64 1,.int .i64 50,.int .i64 0,.str [],.str [69,108,109],.int .i64 5,.int .i64 0],.agg [.int .i64 2,.int .i64 180,.int .i64 0,.str [],.str [79,97,107],.int .i64 9,.int .i64 0],.agg [.int .i64 3,.int .i64 0,.int .i64 90,.str [],.str [65,115,104],.int .i64 2,.int .i64 0]]],.lit 2 [.agg [.int .i64 0,.lit 5 [.agg [.int .i64 3,.int .i64 4,.int .i64 9,.int .i64 0,.int .i64 0],.agg [.int .i64 4,.int .i64 8,.int .i64 3,.int .i64 1,.int .i64 0]]]]])=true:=by kernel_rfl
theorem Gk:Ev E 596 [.agg [.lit 4 [],.lit 5 [],.lit 8 [],.lit 7 [.agg [.int .i64 1,.int .i64 50,.int .i64 0,.str [],.str [69,108,109],.int .i64 5,.int .i64 0],.agg [.int .i64 2,.int .i64 180,.int .i64 0,.str [],.str [79,97,107],.int .i64 9,.int .i64 0],.agg [.int .i64 3,.int .i64 0,.int .i64 90,.str [],.str [65,115,104],.int .i64 2,.int .i64 0]]],.lit 2 [.agg [.int .i64 0,.lit 5 [.agg [.int .i64 3,.int .i64 4,.int .i64 9,.int .i64 0,.int .i64 0],.agg [.int .i64 4,.int .i64 8,.int .i64 3,.int .i64 1,.int .i64 0]]]]] ⟨.own 6 [.agg [.int .i64 2,.int .i64 180,.int .i64 0,.int .i64 9,.str [79,97,107],.int .i64 1024],.agg [.int .i64 1,.int .i64 50,.int .i64 0,.int .i64 9,.str [69,108,109],.int .i64 7],.agg [.int .i64 3,.int .i64 0,.int .i64 90,.int .i64 9,.str [65,115,104],.int .i64 4]],[]⟩:=⟨1000,DK IX⟩
end Go.AM
