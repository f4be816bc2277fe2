/-
  Texts of the proof: LtL0_ap2ns, LtL0_ap2sn, LtL0_ap2ss, LtL0.
-/
import Derived.Test.YtjkmpppkkhbjkaaGreatTe
import Derived.Test.YtjkmpppkkhbjkaaGreatTf
set_option maxRecDepth 20000
set_option linter.unusedSimpArgs false
set_option linter.unusedVariables false
set_option maxHeartbeats 4000000
namespace Go.AM
theorem Yy {m:bk} {f:bu} {a b:Int} {k g6 g9 fL gR ge gf:Nat} {L:List Edge} {K:List bu} {p q:Bool} {Q:aX→SS→Prop} {u:bu} (hu:m.ba[k]? =some u) (hf:m.ba.length< 1000) (hK:K.length≤k) (m9: ∀ (T:List (Nat×V)) (O:List (Nat×Obj)) (p q:Bool),SS.Sub ⟨[(1,vi a),(2,vi b),(6,.ptr 112 g6 0 0),(9,.ptr 160 g9 0 0),(11,.ptr 192 fL 0 0),(12,.ptr 208 gR 0 0),(15,.bool p),(16,.bool q),(17,aC (k+1))],[(112,⟨g6,4,false,false,some [.agg [.lit 4 [],.lit 5 [],.lit 8 [],.lit 7 []]]⟩),(160,⟨g9,5,false,false,some [f.v]⟩),(192,⟨fL,4,false,false,some [m.v]⟩),(208,⟨gR,4,false,false,some [.agg [.nils,.sl 211 gf 0 (K).length,.lit 8 (m.ways.map Way.v),.lit 7 (m.au.map Place.v)]]⟩),(211,⟨gf,5,true,false,some ((K).map bu.v)⟩)]⟩ ⟨T,O⟩→Q .normal ⟨T,O⟩)
   (iC: ∀ (T:List (Nat×V)) (O:List (Nat×Obj)) (g:Nat) (p q:Bool) (x1:Int) (x2 x3:vF) (x4 x5:Int),SS.Sub ⟨[(1,vi a),(2,vi b),(6,.ptr 112 g6 0 0),(9,.ptr 160 g9 0 0),(11,.ptr 192 fL 0 0),(12,.ptr 208 gR 0 0),(15,.bool p),(16,.bool q),(17,aC (k+1))],[(112,⟨g6,4,false,false,some [.agg [.lit 4 [],.lit 5 [],.lit 8 [],.lit 7 []]]⟩),(160,⟨g9,5,false,false,some [f.v]⟩),(192,⟨fL,4,false,false,some [m.v]⟩),(208,⟨gR,4,false,false,some [.agg [.nils,.sl 211 g 0 (K++[bu.mk x1 x2 x3 x4 x5]).length,.lit 8 (m.ways.map Way.v),.lit 7 (m.au.map Place.v)]]⟩),(211,⟨g,5,true,false,some ((K++[bu.mk x1 x2 x3 x4 x5]).map bu.v)⟩)]⟩ ⟨T,O⟩→Q .normal ⟨T,O⟩):lR E tf ⟨[(1,vi a),(2,vi b),(6,.ptr 112 g6 0 0),(9,.ptr 160 g9 0 0),(11,.ptr 192 fL 0 0),(12,.ptr 208 gR 0 0),(15,.bool p),(16,.bool q),(17,aC (k))],[(112,⟨g6,4,false,false,some [.agg [.lit 4 [],.lit 5 [],.lit 8 [],.lit 7 []]]⟩),(160,⟨g9,5,false,false,some [f.v]⟩),(192,⟨fL,4,false,false,some [m.v]⟩),(208,⟨gR,4,false,false,some [.agg [.nils,.sl 211 gf 0 (K).length,.lit 8 (m.ways.map Way.v),.lit 7 (m.au.map Place.v)]]⟩),(211,⟨gf,5,true,false,some ((K).map bu.v)⟩)]⟩ Q:=by
 have hk:=(List.getElem?_eq_some_iff.1 hu).1
 by_cases ha:u.id=a∧p=false
 · obtain⟨kK,rfl⟩:=ha
   (conv=>whnf);repeat' ((first| intro g| refine aN.mk _ (al hu rfl) ?_| refine st ?_| (first| refine b1 ?_ ?_| refine b2 ?_ ?_| refine Br.mk ?_ ?_) <;>intro hc| exact rfl) <;>conv=>whnf)
   all_goals exact m9 _ _ _ _ (by(refine⟨?_,?_⟩ <;>repeat' (first| exact True.intro| refine ai ?_| refine And.intro ?_ ?_)))
 have eU: ¬u.id=a∨u.id=a∧p=true:=by
   by_cases e:u.id=a
   · cases p
     · exact absurd ⟨e,rfl⟩ ha
     · exact .inr ⟨e,rfl⟩
   · exact .inl e
 clear ha
 by_cases hb:u.id=b∧q=false
 · obtain⟨tq,rfl⟩:=hb
   by_cases hn:u.name=[]
   · rcases eU with kK| ⟨kK,rfl⟩
     all_goals
      (conv=>whnf);repeat' ((first| intro g| refine aN.mk _ (al hu rfl) ?_| refine st ?_| (first| refine b1 ?_ ?_| refine b2 ?_ ?_| refine Br.mk ?_ ?_) <;>intro hc| exact rfl) <;>conv=>whnf)
      exact iC _ _ g _ true u.id u.cls f.name (if (255:Int) <c9 (u.weight+f.weight) then 255 else c9 (u.weight+f.weight)) u.eM (by(refine⟨?_,?_⟩ <;>repeat' (first| exact True.intro| refine ai ?_| refine And.intro ?_ ?_)))
   · rcases eU with kK| ⟨kK,rfl⟩
     all_goals
      (conv=>whnf);repeat' ((first| intro g| refine aN.mk _ (al hu rfl) ?_| refine st ?_| (first| refine b1 ?_ ?_| refine b2 ?_ ?_| refine Br.mk ?_ ?_) <;>intro hc| exact rfl) <;>conv=>whnf)
      exact iC _ _ g _ true u.id u.cls u.name (if (255:Int) <c9 (u.weight+f.weight) then 255 else c9 (u.weight+f.weight)) u.eM (by(refine⟨?_,?_⟩ <;>repeat' (first| exact True.intro| refine ai ?_| refine And.intro ?_ ?_)))
 have pf: ¬u.id=b∨u.id=b∧q=true:=by
   by_cases e:u.id=b
   · cases q
     · exact absurd ⟨e,rfl⟩ hb
     · exact .inr ⟨e,rfl⟩
   · exact .inl e
 clear hb
 rcases eU with kK| ⟨kK,rfl⟩ <;>rcases pf with tq| ⟨tq,rfl⟩
 all_goals
   (conv=>whnf);repeat' ((first| intro g| refine aN.mk _ (al hu rfl) ?_| refine st ?_| (first| refine b1 ?_ ?_| refine b2 ?_ ?_| refine Br.mk ?_ ?_) <;>intro hc| exact rfl) <;>conv=>whnf)
   exact iC _ _ g _ _ u.id u.cls u.name u.weight u.eM (by(refine⟨?_,?_⟩ <;>repeat' (first| exact True.intro| refine ai ?_| refine And.intro ?_ ?_)))
end Go.AM
set_option maxHeartbeats 4000000
namespace Go.AM
theorem Yz {m:bk} {f:bu} {a b:Int} {k g6 g9 fL gR ge gf:Nat} {L:List Edge} {K:List bu} {p q:Bool} {Q:aX→SS→Prop} {u:bu} (hu:m.ba[k]? =some u) (hf:m.ba.length< 1000) (hK:K.length≤k) (m9: ∀ (T:List (Nat×V)) (O:List (Nat×Obj)) (p q:Bool),SS.Sub ⟨[(1,vi a),(2,vi b),(6,.ptr 112 g6 0 0),(9,.ptr 160 g9 0 0),(11,.ptr 192 fL 0 0),(12,.ptr 208 gR 0 0),(15,.bool p),(16,.bool q),(17,aC (k+1))],[(112,⟨g6,4,false,false,some [.agg [.lit 4 [],.lit 5 [],.lit 8 [],.lit 7 []]]⟩),(160,⟨g9,5,false,false,some [f.v]⟩),(192,⟨fL,4,false,false,some [m.v]⟩),(208,⟨gR,4,false,false,some [.agg [.sl 210 ge 0 (L).length,.nils,.lit 8 (m.ways.map Way.v),.lit 7 (m.au.map Place.v)]]⟩),(210,⟨ge,4,true,false,some ((L).map Edge.v)⟩)]⟩ ⟨T,O⟩→Q .normal ⟨T,O⟩)
   (iC: ∀ (T:List (Nat×V)) (O:List (Nat×Obj)) (g:Nat) (p q:Bool) (x1:Int) (x2 x3:vF) (x4 x5:Int),SS.Sub ⟨[(1,vi a),(2,vi b),(6,.ptr 112 g6 0 0),(9,.ptr 160 g9 0 0),(11,.ptr 192 fL 0 0),(12,.ptr 208 gR 0 0),(15,.bool p),(16,.bool q),(17,aC (k+1))],[(112,⟨g6,4,false,false,some [.agg [.lit 4 [],.lit 5 [],.lit 8 [],.lit 7 []]]⟩),(160,⟨g9,5,false,false,some [f.v]⟩),(192,⟨fL,4,false,false,some [m.v]⟩),(208,⟨gR,4,false,false,some [.agg [.sl 210 ge 0 (L).length,.sl 211 g 0 ([bu.mk x1 x2 x3 x4 x5]).length,.lit 8 (m.ways.map Way.v),.lit 7 (m.au.map Place.v)]]⟩),(210,⟨ge,4,true,false,some ((L).map Edge.v)⟩),(211,⟨g,5,true,false,some (([bu.mk x1 x2 x3 x4 x5]).map bu.v)⟩)]⟩ ⟨T,O⟩→Q .normal ⟨T,O⟩):lR E tf ⟨[(1,vi a),(2,vi b),(6,.ptr 112 g6 0 0),(9,.ptr 160 g9 0 0),(11,.ptr 192 fL 0 0),(12,.ptr 208 gR 0 0),(15,.bool p),(16,.bool q),(17,aC (k))],[(112,⟨g6,4,false,false,some [.agg [.lit 4 [],.lit 5 [],.lit 8 [],.lit 7 []]]⟩),(160,⟨g9,5,false,false,some [f.v]⟩),(192,⟨fL,4,false,false,some [m.v]⟩),(208,⟨gR,4,false,false,some [.agg [.sl 210 ge 0 (L).length,.nils,.lit 8 (m.ways.map Way.v),.lit 7 (m.au.map Place.v)]]⟩),(210,⟨ge,4,true,false,some ((L).map Edge.v)⟩)]⟩ Q:=by
 have hk:=(List.getElem?_eq_some_iff.1 hu).1
 by_cases ha:u.id=a∧p=false
 · obtain⟨kK,rfl⟩:=ha
   (conv=>whnf);repeat' ((first| intro g| refine aN.mk _ (al hu rfl) ?_| refine st ?_| (first| refine b1 ?_ ?_| refine b2 ?_ ?_| refine Br.mk ?_ ?_) <;>intro hc| exact rfl) <;>conv=>whnf)
   all_goals exact m9 _ _ _ _ (by(refine⟨?_,?_⟩ <;>repeat' (first| exact True.intro| refine ai ?_| refine And.intro ?_ ?_)))
 have eU: ¬u.id=a∨u.id=a∧p=true:=by
   by_cases e:u.id=a
   · cases p
     · exact absurd ⟨e,rfl⟩ ha
     · exact .inr ⟨e,rfl⟩
   · exact .inl e
 clear ha
 by_cases hb:u.id=b∧q=false
 · obtain⟨tq,rfl⟩:=hb
   by_cases hn:u.name=[]
   · rcases eU with kK| ⟨kK,rfl⟩
     all_goals
      (conv=>whnf);repeat' ((first| intro g| refine aN.mk _ (al hu rfl) ?_| refine st ?_| (first| refine b1 ?_ ?_| refine b2 ?_ ?_| refine Br.mk ?_ ?_) <;>intro hc| exact rfl) <;>conv=>whnf)
      exact iC _ _ g _ true u.id u.cls f.name (if (255:Int) <c9 (u.weight+f.weight) then 255 else c9 (u.weight+f.weight)) u.eM (by(refine⟨?_,?_⟩ <;>repeat' (first| exact True.intro| refine ai ?_| refine And.intro ?_ ?_)))
   · rcases eU with kK| ⟨kK,rfl⟩
     all_goals
      (conv=>whnf);repeat' ((first| intro g| refine aN.mk _ (al hu rfl) ?_| refine st ?_| (first| refine b1 ?_ ?_| refine b2 ?_ ?_| refine Br.mk ?_ ?_) <;>intro hc| exact rfl) <;>conv=>whnf)
      exact iC _ _ g _ true u.id u.cls u.name (if (255:Int) <c9 (u.weight+f.weight) then 255 else c9 (u.weight+f.weight)) u.eM (by(refine⟨?_,?_⟩ <;>repeat' (first| exact True.intro| refine ai ?_| refine And.intro ?_ ?_)))
 have pf: ¬u.id=b∨u.id=b∧q=true:=by
   by_cases e:u.id=b
   · cases q
     · exact absurd ⟨e,rfl⟩ hb
     · exact .inr ⟨e,rfl⟩
   · exact .inl e
 clear hb
 rcases eU with kK| ⟨kK,rfl⟩ <;>rcases pf with tq| ⟨tq,rfl⟩
 all_goals
   (conv=>whnf);repeat' ((first| intro g| refine aN.mk _ (al hu rfl) ?_| refine st ?_| (first| refine b1 ?_ ?_| refine b2 ?_ ?_| refine Br.mk ?_ ?_) <;>intro hc| exact rfl) <;>conv=>whnf)
   exact iC _ _ g _ _ u.id u.cls u.name u.weight u.eM (by(refine⟨?_,?_⟩ <;>repeat' (first| exact True.intro| refine ai ?_| refine And.intro ?_ ?_)))
end Go.AM
set_option maxHeartbeats 4000000
namespace Go.AM
theorem YA {m:bk} {f:bu} {a b:Int} {k g6 g9 fL gR ge gf:Nat} {L:List Edge} {K:List bu} {p q:Bool} {Q:aX→SS→Prop} {u:bu} (hu:m.ba[k]? =some u) (hf:m.ba.length< 1000) (hK:K.length≤k) (m9: ∀ (T:List (Nat×V)) (O:List (Nat×Obj)) (p q:Bool),SS.Sub ⟨[(1,vi a),(2,vi b),(6,.ptr 112 g6 0 0),(9,.ptr 160 g9 0 0),(11,.ptr 192 fL 0 0),(12,.ptr 208 gR 0 0),(15,.bool p),(16,.bool q),(17,aC (k+1))],[(112,⟨g6,4,false,false,some [.agg [.lit 4 [],.lit 5 [],.lit 8 [],.lit 7 []]]⟩),(160,⟨g9,5,false,false,some [f.v]⟩),(192,⟨fL,4,false,false,some [m.v]⟩),(208,⟨gR,4,false,false,some [.agg [.sl 210 ge 0 (L).length,.sl 211 gf 0 (K).length,.lit 8 (m.ways.map Way.v),.lit 7 (m.au.map Place.v)]]⟩),(210,⟨ge,4,true,false,some ((L).map Edge.v)⟩),(211,⟨gf,5,true,false,some ((K).map bu.v)⟩)]⟩ ⟨T,O⟩→Q .normal ⟨T,O⟩)
   (iC: ∀ (T:List (Nat×V)) (O:List (Nat×Obj)) (g:Nat) (p q:Bool) (x1:Int) (x2 x3:vF) (x4 x5:Int),SS.Sub ⟨[(1,vi a),(2,vi b),(6,.ptr 112 g6 0 0),(9,.ptr 160 g9 0 0),(11,.ptr 192 fL 0 0),(12,.ptr 208 gR 0 0),(15,.bool p),(16,.bool q),(17,aC (k+1))],[(112,⟨g6,4,false,false,some [.agg [.lit 4 [],.lit 5 [],.lit 8 [],.lit 7 []]]⟩),(160,⟨g9,5,false,false,some [f.v]⟩),(192,⟨fL,4,false,false,some [m.v]⟩),(208,⟨gR,4,false,false,some [.agg [.sl 210 ge 0 (L).length,.sl 211 g 0 (K++[bu.mk x1 x2 x3 x4 x5]).length,.lit 8 (m.ways.map Way.v),.lit 7 (m.au.map Place.v)]]⟩),(210,⟨ge,4,true,false,some ((L).map Edge.v)⟩),(211,⟨g,5,true,false,some ((K++[bu.mk x1 x2 x3 x4 x5]).map bu.v)⟩)]⟩ ⟨T,O⟩→Q .normal ⟨T,O⟩):lR E tf ⟨[(1,vi a),(2,vi b),(6,.ptr 112 g6 0 0),(9,.ptr 160 g9 0 0),(11,.ptr 192 fL 0 0),(12,.ptr 208 gR 0 0),(15,.bool p),(16,.bool q),(17,aC (k))],[(112,⟨g6,4,false,false,some [.agg [.lit 4 [],.lit 5 [],.lit 8 [],.lit 7 []]]⟩),(160,⟨g9,5,false,false,some [f.v]⟩),(192,⟨fL,4,false,false,some [m.v]⟩),(208,⟨gR,4,false,false,some [.agg [.sl 210 ge 0 (L).length,.sl 211 gf 0 (K).length,.lit 8 (m.ways.map Way.v),.lit 7 (m.au.map Place.v)]]⟩),(210,⟨ge,4,true,false,some ((L).map Edge.v)⟩),(211,⟨gf,5,true,false,some ((K).map bu.v)⟩)]⟩ Q:=by
 have hk:=(List.getElem?_eq_some_iff.1 hu).1
 by_cases ha:u.id=a∧p=false
 · obtain⟨kK,rfl⟩:=ha
   (conv=>whnf);repeat' ((first| intro g| refine aN.mk _ (al hu rfl) ?_| refine st ?_| (first| refine b1 ?_ ?_| refine b2 ?_ ?_| refine Br.mk ?_ ?_) <;>intro hc| exact rfl) <;>conv=>whnf)
   all_goals exact m9 _ _ _ _ (by(refine⟨?_,?_⟩ <;>repeat' (first| exact True.intro| refine ai ?_| refine And.intro ?_ ?_)))
 have eU: ¬u.id=a∨u.id=a∧p=true:=by
   by_cases e:u.id=a
   · cases p
     · exact absurd ⟨e,rfl⟩ ha
     · exact .inr ⟨e,rfl⟩
   · exact .inl e
 clear ha
 by_cases hb:u.id=b∧q=false
 · obtain⟨tq,rfl⟩:=hb
   by_cases hn:u.name=[]
   · rcases eU with kK| ⟨kK,rfl⟩
     all_goals
      (conv=>whnf);repeat' ((first| intro g| refine aN.mk _ (al hu rfl) ?_| refine st ?_| (first| refine b1 ?_ ?_| refine b2 ?_ ?_| refine Br.mk ?_ ?_) <;>intro hc| exact rfl) <;>conv=>whnf)
      exact iC _ _ g _ true u.id u.cls f.name (if (255:Int) <c9 (u.weight+f.weight) then 255 else c9 (u.weight+f.weight)) u.eM (by(refine⟨?_,?_⟩ <;>repeat' (first| exact True.intro| refine ai ?_| refine And.intro ?_ ?_)))
   · rcases eU with kK| ⟨kK,rfl⟩
     all_goals
      (conv=>whnf);repeat' ((first| intro g| refine aN.mk _ (al hu rfl) ?_| refine st ?_| (first| refine b1 ?_ ?_| refine b2 ?_ ?_| refine Br.mk ?_ ?_) <;>intro hc| exact rfl) <;>conv=>whnf)
      exact iC _ _ g _ true u.id u.cls u.name (if (255:Int) <c9 (u.weight+f.weight) then 255 else c9 (u.weight+f.weight)) u.eM (by(refine⟨?_,?_⟩ <;>repeat' (first| exact True.intro| refine ai ?_| refine And.intro ?_ ?_)))
 have pf: ¬u.id=b∨u.id=b∧q=true:=by
   by_cases e:u.id=b
   · cases q
     · exact absurd ⟨e,rfl⟩ hb
     · exact .inr ⟨e,rfl⟩
   · exact .inl e
 clear hb
 rcases eU with kK| ⟨kK,rfl⟩ <;>rcases pf with tq| ⟨tq,rfl⟩
 all_goals
   (conv=>whnf);repeat' ((first| intro g| refine aN.mk _ (al hu rfl) ?_| refine st ?_| (first| refine b1 ?_ ?_| refine b2 ?_ ?_| refine Br.mk ?_ ?_) <;>intro hc| exact rfl) <;>conv=>whnf)
   exact iC _ _ g _ _ u.id u.cls u.name u.weight u.eM (by(refine⟨?_,?_⟩ <;>repeat' (first| exact True.intro| refine ai ?_| refine And.intro ?_ ?_)))
end Go.AM
