/-
  Texts of the proof: LbT.
-/
import Derived.Test.YtjkmpppkkhbjkaaGreatLx
set_option maxRecDepth 20000
set_option linter.unusedSimpArgs false
set_option linter.unusedVariables false
set_option maxHeartbeats 4000000
namespace Go.AM
theorem DL:Ev E 591 [] ⟨.bool true,[]⟩:=Ev.Ls Uf (Ug _) rfl (by
 refine WS.cut 3 (fun ((dn,gp):Nat×Nat)=> ⟨(1,.ptr 32 dn 0 0):: (2,.lit 6 [.agg [.int .i64 2,.int .i64 180,.int .i64 0,.int .i64 9,.str [79,97,107],.int .i64 1024],.agg [.int .i64 1,.int .i64 0,.int .i64 0,.int .i64 9,.str [69,108,109],.int .i64 10],.agg [.int .i64 3,.int .i64 0,.int .i64 90,.int .i64 9,.str [65,115,104],.int .i64 5]]):: [],[(32,⟨dn,4,false,false,some [.agg [.lit 4 [],.lit 5 [],.lit 8 [],.sl 115 gp 0 3]]⟩),(115,⟨gp,7,true,false,some [.agg [.int .i64 1,.int .i64 0,.int .i64 0,.str [],.str [69,108,109],.int .i64 5,.int .i64 0],.agg [.int .i64 2,.int .i64 180,.int .i64 0,.str [],.str [79,97,107],.int .i64 9,.int .i64 0],.agg [.int .i64 3,.int .i64 0,.int .i64 90,.str [],.str [65,115,104],.int .i64 2,.int .i64 0]]⟩)]⟩) (fun _=>True) ?_ ?_
 · (conv=>whnf);repeat' ((first| intro g| refine ah.mk _ (IH) ?_| refine ah.mk _ (II) ?_| refine st ?_| (first| refine b1 ?_ ?_| refine b2 ?_ ?_| refine Br.mk ?_ ?_) <;>intro hc| exact rfl) <;>conv=>whnf)
   rename_i gp
   exact vN.mk (g,gp) trivial (by(refine⟨?_,?_⟩ <;>repeat' (first| exact True.intro| refine ai ?_| refine And.intro ?_ ?_)))
 rintro⟨dn,gp⟩ -
 refine WS.cut 1 (fun _:Unit=> ⟨(1,.ptr 32 dn 0 0):: (2,.lit 6 [.agg [.int .i64 2,.int .i64 180,.int .i64 0,.int .i64 9,.str [79,97,107],.int .i64 1024],.agg [.int .i64 1,.int .i64 0,.int .i64 0,.int .i64 9,.str [69,108,109],.int .i64 10],.agg [.int .i64 3,.int .i64 0,.int .i64 90,.int .i64 9,.str [65,115,104],.int .i64 5]]):: [],[(32,⟨dn,4,false,false,some [.agg [.lit 4 [],.lit 5 [],.lit 8 [],.sl 115 gp 0 3]]⟩),(115,⟨gp,7,true,false,some [.agg [.int .i64 1,.int .i64 0,.int .i64 0,.str [],.str [69,108,109],.int .i64 5,.int .i64 0],.agg [.int .i64 2,.int .i64 180,.int .i64 0,.str [],.str [79,97,107],.int .i64 9,.int .i64 0],.agg [.int .i64 3,.int .i64 0,.int .i64 90,.str [],.str [65,115,104],.int .i64 2,.int .i64 0]]⟩)]⟩) (fun _=>True) ?_ ?_
 · (conv=>whnf);repeat' ((first| intro g| refine ah.mk _ (IJ) ?_| refine ah.mk _ (CJ) ?_| refine st ?_| (first| refine b1 ?_ ?_| refine b2 ?_ ?_| refine Br.mk ?_ ?_) <;>intro hc| exact rfl) <;>conv=>whnf)
   exact vN.mk () trivial (by(refine⟨?_,?_⟩ <;>repeat' (first| exact True.intro| refine ai ?_| refine And.intro ?_ ?_)))
 rintro _ -
 refine WS.drw (aaa dn gp) Gr ?_
 refine WS.cut 1 (fun _:Unit=> ⟨(1,.ptr 32 dn 0 0):: (2,.lit 6 [.agg [.int .i64 2,.int .i64 180,.int .i64 0,.int .i64 9,.str [79,97,107],.int .i64 1024],.agg [.int .i64 1,.int .i64 0,.int .i64 0,.int .i64 9,.str [69,108,109],.int .i64 10],.agg [.int .i64 3,.int .i64 0,.int .i64 90,.int .i64 9,.str [65,115,104],.int .i64 5]]):: [(3,.bool true),(4,.bool true)],[(32,⟨dn,4,false,false,some [.agg [.lit 4 [],.lit 5 [],.lit 8 [],.sl 115 gp 0 3]]⟩),(115,⟨gp,7,true,false,some [.agg [.int .i64 1,.int .i64 0,.int .i64 0,.str [],.str [69,108,109],.int .i64 5,.int .i64 0],.agg [.int .i64 2,.int .i64 180,.int .i64 0,.str [],.str [79,97,107],.int .i64 9,.int .i64 0],.agg [.int .i64 3,.int .i64 0,.int .i64 90,.str [],.str [65,115,104],.int .i64 2,.int .i64 0]]⟩)]⟩) (fun _=>True) ?_ ?_
 · (conv=>whnf);repeat' ((first| intro g| refine ah.mk _ (IQ) ?_| refine ah.mk _ (Ga) ?_| refine ah.mk _ (Gc) ?_| refine ah.mk _ (Ge) ?_| refine ah.mk _ (CJ) ?_| refine ah.mk _ (Gg) ?_| refine ah.mk _ (Gi) ?_| refine st ?_| (first| refine b1 ?_ ?_| refine b2 ?_ ?_| refine Br.mk ?_ ?_) <;>intro hc| exact rfl) <;>conv=>whnf)
   exact vN.mk () trivial (by(refine⟨?_,?_⟩ <;>repeat' (first| exact True.intro| refine ai ?_| refine And.intro ?_ ?_)))
 rintro _ -
 refine WS.cut 1 (fun _:Unit=> ⟨(1,.ptr 32 dn 0 0):: (2,.lit 6 [.agg [.int .i64 2,.int .i64 180,.int .i64 0,.int .i64 9,.str [79,97,107],.int .i64 1024],.agg [.int .i64 1,.int .i64 0,.int .i64 0,.int .i64 9,.str [69,108,109],.int .i64 10],.agg [.int .i64 3,.int .i64 0,.int .i64 90,.int .i64 9,.str [65,115,104],.int .i64 5]]):: [(3,.bool true),(4,.bool true)],[(32,⟨dn,4,false,false,some [.agg [.lit 4 [],.lit 5 [],.lit 8 [],.sl 115 gp 0 3]]⟩),(115,⟨gp,7,true,false,some [.agg [.int .i64 1,.int .i64 50,.int .i64 0,.str [],.str [69,108,109],.int .i64 5,.int .i64 0],.agg [.int .i64 2,.int .i64 180,.int .i64 0,.str [],.str [79,97,107],.int .i64 9,.int .i64 0],.agg [.int .i64 3,.int .i64 0,.int .i64 90,.str [],.str [65,115,104],.int .i64 2,.int .i64 0]]⟩)]⟩) (fun _=>True) ?_ ?_
 · (conv=>whnf);repeat' ((first| intro g| refine st ?_| (first| refine b1 ?_ ?_| refine b2 ?_ ?_| refine Br.mk ?_ ?_) <;>intro hc| exact rfl) <;>conv=>whnf)
   exact vN.mk () trivial (by(refine⟨?_,?_⟩ <;>repeat' (first| exact True.intro| refine ai ?_| refine And.intro ?_ ?_)))
 rintro _ -
 refine WS.cut 1 (fun _:Unit=> ⟨[(3,.bool true),(4,.bool true),(5,.lit 6 [.agg [.int .i64 2,.int .i64 180,.int .i64 0,.int .i64 9,.str [79,97,107],.int .i64 1024],.agg [.int .i64 1,.int .i64 50,.int .i64 0,.int .i64 9,.str [69,108,109],.int .i64 7],.agg [.int .i64 3,.int .i64 0,.int .i64 90,.int .i64 9,.str [65,115,104],.int .i64 4]])],[]⟩) (fun _=>True) ?_ ?_
 · (conv=>whnf);repeat' ((first| intro g| refine ah.mk _ (Gk) ?_| refine st ?_| (first| refine b1 ?_ ?_| refine b2 ?_ ?_| refine Br.mk ?_ ?_) <;>intro hc| exact rfl) <;>conv=>whnf)
   exact vN.mk () trivial (by(refine⟨?_,?_⟩ <;>repeat' (first| exact True.intro| refine ai ?_| refine And.intro ?_ ?_)))
 rintro _ -
 refine WS.of ?_
 (conv=>whnf);repeat' ((first| intro g| refine st ?_| (first| refine b1 ?_ ?_| refine b2 ?_ ?_| refine Br.mk ?_ ?_) <;>intro hc| exact rfl) <;>conv=>whnf))
end Go.AM
