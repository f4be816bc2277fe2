/-
  Texts of the proof, joined by program: PSan, PSanB. Own work.
-/
import Derived.Test.YtgkdgapmmkkcaaaGreatFns
import Derived.Test.YtgkdgapmmkkcaaaGreatData
import Derived.KernelRfl
set_option linter.unusedSimpArgs false
set_option linter.unusedVariables false
namespace Go.AM
def isTrue (r:Option fh):Bool:=match r with
 | some ⟨.bool true,[]⟩=>true
 | _=>false
theorem gL {r:Option fh} (h:isTrue r=true):r=some ⟨.bool true,[]⟩:=by
 unfold isTrue at h
 split at h
 · rfl
 · simp at h
end Go.AM
set_option maxRecDepth 20000
namespace Go.AM
set_option maxRecDepth 100000 in
theorem Rr:isTrue (call E 1000 331 [.str [119,101,105,103,104,116,32,43,32,51],.str [119,101,105,103,104,116,32,43,32,51],vi (8),vi (12)])=true:=by kernel_rfl
theorem Lv:Ev E 331 [.str [119,101,105,103,104,116,32,43,32,51],.str [119,101,105,103,104,116,32,43,32,51],vi (8),vi (12)] ⟨.bool true,[]⟩:=⟨1000,gL Rr⟩
set_option maxRecDepth 100000 in
theorem Rs:isTrue (call E 1000 331 [.str [119,101,105,103,104,116,32,60,32,49,48],.str [116,114,117,101],vi (1),vi (1)])=true:=by kernel_rfl
theorem Lw:Ev E 331 [.str [119,101,105,103,104,116,32,60,32,49,48],.str [116,114,117,101],vi (1),vi (1)] ⟨.bool true,[]⟩:=⟨1000,gL Rs⟩
set_option maxRecDepth 100000 in
theorem Rt:isTrue (call E 1000 331 [.str [40,99,108,97,115,115,32,61,32,34,114,111,97,100,34,41,32,111,114,32,40,115,99,97,108,101,32,60,32,57,41],.str [115,99,97,108,101,32,60,32,57],vi (0),vi (1)])=true:=by kernel_rfl
theorem Lx:Ev E 331 [.str [40,99,108,97,115,115,32,61,32,34,114,111,97,100,34,41,32,111,114,32,40,115,99,97,108,101,32,60,32,57,41],.str [115,99,97,108,101,32,60,32,57],vi (0),vi (1)] ⟨.bool true,[]⟩:=⟨1000,gL Rt⟩
set_option maxRecDepth 100000 in
theorem Ru:isTrue (call E 1000 331 [.str [105,102,32,115,116,97,105,114,115,32,116,104,101,110,32,49,32,101,108,115,101,32,40,119,101,105,103,104,116,32,42,32,45,50,41],.str [119,101,105,103,104,116,32,42,32,45,50],vi (-18),vi (-10)])=true:=by kernel_rfl
theorem Lz:Ev E 331 [.str [105,102,32,115,116,97,105,114,115,32,116,104,101,110,32,49,32,101,108,115,101,32,40,119,101,105,103,104,116,32,42,32,45,50,41],.str [119,101,105,103,104,116,32,42,32,45,50],vi (-18),vi (-10)] ⟨.bool true,[]⟩:=⟨1000,gL Ru⟩
set_option maxRecDepth 100000 in
theorem Rv:isTrue (call E 1000 331 [.str [99,108,97,115,115,32,61,32,34,116,114,101,101,34],.str [99,108,97,115,115,32,61,32,34,116,114,101,101,34],vi (0),vi (1)])=true:=by kernel_rfl
theorem LA:Ev E 331 [.str [99,108,97,115,115,32,61,32,34,116,114,101,101,34],.str [99,108,97,115,115,32,61,32,34,116,114,101,101,34],vi (0),vi (1)] ⟨.bool true,[]⟩:=⟨1000,gL Rv⟩
set_option maxRecDepth 100000 in
theorem Rw:isTrue (call E 1000 331 [.str [110,97,109,101],.str [110,97,109,101],vi (0),vi (-1)])=true:=by kernel_rfl
theorem LB:Ev E 331 [.str [110,97,109,101],.str [110,97,109,101],vi (0),vi (-1)] ⟨.bool true,[]⟩:=⟨1000,gL Rw⟩
def LC (r:Option fh):Bool:=match r with
 | some ⟨.bool true,[]⟩=>true
 | _=>false
theorem DK {r:Option fh} (h:LC r=true):r=some ⟨.bool true,[]⟩:=by
 unfold LC at h
 split at h
 · rfl
 · simp at h
set_option maxRecDepth 100000 in
theorem Rx:LC (call E 1000 322 [.agg [vi 0,.str [],.str [],vi 9,vi 0,.bool false,vi 0,vi 0,vi 0],.lit 4 [.agg [vi 4,vi 5,vi 9,.lit 1 []]]])=true:=by kernel_rfl
theorem LD:Ev E 322 [.agg [vi 0,.str [],.str [],vi 9,vi 0,.bool false,vi 0,vi 0,vi 0],.lit 4 [.agg [vi 4,vi 5,vi 9,.lit 1 []]]] ⟨.bool true,[]⟩:=⟨1000,DK Rx⟩
def LF (r:Option fh):Bool:=match r with
 | some ⟨.bool false,[]⟩=>true
 | _=>false
theorem DL {r:Option fh} (h:LF r=true):r=some ⟨.bool false,[]⟩:=by
 unfold LF at h
 split at h
 · rfl
 · simp at h
set_option maxRecDepth 100000 in
theorem Ry:LF (call E 1000 322 [.agg [vi 0,.str [],.str [],vi 10,vi 0,.bool false,vi 0,vi 0,vi 0],.lit 4 [.agg [vi 4,vi 5,vi 9,.lit 1 []]]])=true:=by kernel_rfl
theorem LG:Ev E 322 [.agg [vi 0,.str [],.str [],vi 10,vi 0,.bool false,vi 0,vi 0,vi 0],.lit 4 [.agg [vi 4,vi 5,vi 9,.lit 1 []]]] ⟨.bool false,[]⟩:=⟨1000,DL Ry⟩
theorem BK:Ev E 311 [] ⟨.bool true,[]⟩:=by
 refine Ev.cY Oo (Oq _) rfl ?_
 (conv=>whnf);repeat' ((first| intro g| refine ag.mk _ (Lv) ?_| refine ag.mk _ (Lw) ?_| refine ag.mk _ (Lx) ?_| refine ag.mk _ (Lz) ?_| refine ag.mk _ (LA) ?_| refine ag.mk _ (LB) ?_| refine ag.mk _ (LD) ?_| refine ag.mk _ (LG) ?_| refine st ?_| (first| refine b1 ?_ ?_| refine b2 ?_ ?_| refine Br.mk ?_ ?_) <;>intro hc| exact rfl) <;>conv=>whnf)
end Go.AM
