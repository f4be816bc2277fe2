/-
  Texts of the proof: PSanB.
-/
import Derived.Test.YtjmcpijpclfakaaGreatData
set_option maxRecDepth 20000
set_option linter.unusedSimpArgs false
set_option linter.unusedVariables false
namespace Go.AM
set_option maxRecDepth 100000 in
theorem acL:isTrue (call E 1000 331 [.str [119,101,105,103,104,116,32,43,32,51],.str [119,101,105,103,104,116,32,43,32,51],vi (8),vi (12)])=true:=by kernel_rfl
theorem XN:Ev E 331 [.str [119,101,105,103,104,116,32,43,32,51],.str [119,101,105,103,104,116,32,43,32,51],vi (8),vi (12)] ⟨.bool true,[]⟩:=⟨1000,jD acL⟩
set_option maxRecDepth 100000 in
theorem acM:isTrue (call E 1000 331 [.str [119,101,105,103,104,116,32,60,32,49,48],.str [116,114,117,101],vi (1),vi (1)])=true:=by kernel_rfl
theorem XO:Ev E 331 [.str [119,101,105,103,104,116,32,60,32,49,48],.str [116,114,117,101],vi (1),vi (1)] ⟨.bool true,[]⟩:=⟨1000,jD acM⟩
set_option maxRecDepth 100000 in
theorem acN:isTrue (call E 1000 331 [.str [40,99,108,97,115,115,32,61,32,34,114,111,97,100,34,41,32,111,114,32,40,115,99,97,108,101,32,60,32,57,41],.str [115,99,97,108,101,32,60,32,57],vi (0),vi (1)])=true:=by kernel_rfl
theorem XP:Ev E 331 [.str [40,99,108,97,115,115,32,61,32,34,114,111,97,100,34,41,32,111,114,32,40,115,99,97,108,101,32,60,32,57,41],.str [115,99,97,108,101,32,60,32,57],vi (0),vi (1)] ⟨.bool true,[]⟩:=⟨1000,jD acN⟩
set_option maxRecDepth 100000 in
theorem acO:isTrue (call E 1000 331 [.str [105,102,32,115,116,97,105,114,115,32,116,104,101,110,32,49,32,101,108,115,101,32,40,119,101,105,103,104,116,32,42,32,45,50,41],.str [119,101,105,103,104,116,32,42,32,45,50],vi (-18),vi (-10)])=true:=by kernel_rfl
theorem XQ:Ev E 331 [.str [105,102,32,115,116,97,105,114,115,32,116,104,101,110,32,49,32,101,108,115,101,32,40,119,101,105,103,104,116,32,42,32,45,50,41],.str [119,101,105,103,104,116,32,42,32,45,50],vi (-18),vi (-10)] ⟨.bool true,[]⟩:=⟨1000,jD acO⟩
set_option maxRecDepth 100000 in
theorem acP:isTrue (call E 1000 331 [.str [99,108,97,115,115,32,61,32,34,116,114,101,101,34],.str [99,108,97,115,115,32,61,32,34,116,114,101,101,34],vi (0),vi (1)])=true:=by kernel_rfl
theorem XR:Ev E 331 [.str [99,108,97,115,115,32,61,32,34,116,114,101,101,34],.str [99,108,97,115,115,32,61,32,34,116,114,101,101,34],vi (0),vi (1)] ⟨.bool true,[]⟩:=⟨1000,jD acP⟩
set_option maxRecDepth 100000 in
theorem acQ:isTrue (call E 1000 331 [.str [110,97,109,101],.str [110,97,109,101],vi (0),vi (-1)])=true:=by kernel_rfl
theorem XS:Ev E 331 [.str [110,97,109,101],.str [110,97,109,101],vi (0),vi (-1)] ⟨.bool true,[]⟩:=⟨1000,jD acQ⟩
def XT (r:Option iE):Bool:=match r with
 | some ⟨.bool true,[]⟩=>true
 | _=>false
theorem MS {r:Option iE} (h:XT r=true):r=some ⟨.bool true,[]⟩:=by
 unfold XT at h
 split at h
 · rfl
 · simp at h
set_option maxRecDepth 100000 in
theorem acR:XT (call E 1000 322 [.agg [vi 0,.str [],.str [],vi 9,vi 0,.bool false,vi 0,vi 0,vi 0],.lit 4 [.agg [vi 4,vi 5,vi 9,.lit 1 []]]])=true:=by kernel_rfl
theorem XU:Ev E 322 [.agg [vi 0,.str [],.str [],vi 9,vi 0,.bool false,vi 0,vi 0,vi 0],.lit 4 [.agg [vi 4,vi 5,vi 9,.lit 1 []]]] ⟨.bool true,[]⟩:=⟨1000,MS acR⟩
def XV (r:Option iE):Bool:=match r with
 | some ⟨.bool false,[]⟩=>true
 | _=>false
theorem MT {r:Option iE} (h:XV r=true):r=some ⟨.bool false,[]⟩:=by
 unfold XV at h
 split at h
 · rfl
 · simp at h
set_option maxRecDepth 100000 in
theorem acS:XV (call E 1000 322 [.agg [vi 0,.str [],.str [],vi 10,vi 0,.bool false,vi 0,vi 0,vi 0],.lit 4 [.agg [vi 4,vi 5,vi 9,.lit 1 []]]])=true:=by kernel_rfl
theorem XW:Ev E 322 [.agg [vi 0,.str [],.str [],vi 10,vi 0,.bool false,vi 0,vi 0,vi 0],.lit 4 [.agg [vi 4,vi 5,vi 9,.lit 1 []]]] ⟨.bool false,[]⟩:=⟨1000,MT acS⟩
theorem JY:Ev E 311 [] ⟨.bool true,[]⟩:=by
 refine Ev.aG aau (aav _) rfl ?_
 (conv=>whnf);repeat' ((first| intro g| refine av.mk _ (XN) ?_| refine av.mk _ (XO) ?_| refine av.mk _ (XP) ?_| refine av.mk _ (XQ) ?_| refine av.mk _ (XR) ?_| refine av.mk _ (XS) ?_| refine av.mk _ (XU) ?_| refine av.mk _ (XW) ?_| refine st ?_| (first| refine b1 ?_ ?_| refine b2 ?_ ?_| refine Br.mk ?_ ?_) <;>intro hc| exact rfl) <;>conv=>whnf)
end Go.AM
