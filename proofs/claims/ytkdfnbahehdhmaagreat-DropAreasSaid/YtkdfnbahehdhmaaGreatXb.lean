/-
  Texts of the proof, joined by program: DaD. Own work.
-/
import Derived.Test.YtkdfnbahehdhmaaGreatXa
set_option linter.unusedSimpArgs false
set_option linter.unusedVariables false
set_option maxRecDepth 20000
set_option maxHeartbeats 4000000
namespace Go.AM
theorem xV (a b c d p:Pt): ∃r:Bool,Ev E 566 [p.v,.eptr (.agg [vi a.x,vi a.y,vi b.x,vi b.y]) 0,.eptr (.agg [vi c.x,vi c.y,vi d.x,vi d.y]) 0] ⟨.bool r,[]⟩:=by
 have key:=Ev.bT (R:=fun res=> ∃r:Bool,res=⟨.bool r,[]⟩) Pe (Pf [p.v,.eptr (.agg [vi a.x,vi a.y,vi b.x,vi b.y]) 0,.eptr (.agg [vi c.x,vi c.y,vi d.x,vi d.y]) 0]) rfl ?_
 · obtain⟨res,h1,r,rfl⟩:=key
   exact⟨r,h1⟩
 (conv=>whnf);repeat' ((first| intro g| refine ak.mk _ (xQ a b p) ?_| refine ak.mk _ (xQ c d p) ?_| refine st ?_| (first| refine b1 ?_ ?_| refine b2 ?_ ?_| refine Br.mk ?_ ?_) <;>intro hc| exact rfl) <;>conv=>whnf)
 all_goals exact⟨_,rfl⟩
noncomputable def T6 (a b c d p:Pt):Bool:=(xV a b c d p).choose
theorem GQ (a b c d p:Pt):Ev E 566 [p.v,.eptr (.agg [vi a.x,vi a.y,vi b.x,vi b.y]) 0,.eptr (.agg [vi c.x,vi c.y,vi d.x,vi d.y]) 0] ⟨.bool (T6 a b c d p),[]⟩:=(xV a b c d p).choose_spec
theorem zI (l:List Pt) (hl:l.length< 1000000): ∃r:Bool,Ev E 183 [.lit 2 (l.map Pt.v)] ⟨.bool r,[]⟩:=by
 have key:=Ev.bT (R:=fun res=> ∃r:Bool,res=⟨.bool r,[]⟩) Ok (Ol [.lit 2 (l.map Pt.v)]) rfl ?_
 · obtain⟨res,h1,r,rfl⟩:=key
   exact⟨r,h1⟩
 by_cases h3:3 <l.length
 · obtain⟨x,hx⟩: ∃x,l[0]? =some x:=⟨_,bu (by omega)⟩
   obtain⟨y,hy⟩: ∃y,l[l.length - 1]? =some y:=⟨_,bu (by omega)⟩
   have hw:IntKind.i64.wrap (((l.map Pt.v).length:Int) - 1)=((l.length - 1:Nat):Int):=by
    rw[List.length_map];exact(wrap64 (by omega) (by omega)).trans (by omega)
   (conv=>whnf);repeat' ((first| intro g| refine bd.mk _ (aJ hx rfl) ?_| refine bd.mk _ (aJ hy hw) ?_| refine st ?_| (first| refine b1 ?_ ?_| refine b2 ?_ ?_| refine Br.mk ?_ ?_) <;>intro hc| exact rfl) <;>conv=>whnf)
   all_goals exact⟨_,rfl⟩
 · (conv=>whnf);repeat' ((first| intro g| refine st ?_| (first| refine b1 ?_ ?_| refine b2 ?_ ?_| refine Br.mk ?_ ?_) <;>intro hc| exact rfl) <;>conv=>whnf)
   all_goals exact⟨_,rfl⟩
theorem YF {Q:aP→SS→Prop} {i yp lD oP qJ qK g:Nat} {a b c d e p:Pt} {L:List V} (hL:L[i]? =some p.v) (hi:i< 2)
  (hR: ∀T' O',lk T' 10=some (.bool true)→Q .ret ⟨T',O'⟩)
  (hN: ∀T' O',SS.Sub ⟨[(5,.ptr 96 yp 0 0),(6,.ptr 112 lD 0 0),(7,.ptr 128 oP 0 0),(8,.ptr 144 qJ 0 0),(9,.ptr 160 qK 0 0),(28,.sl 464 g 0 2),(29,aM 2),(30,aM (i+1))],
    [(96,⟨yp,2,false,false,some [a.v]⟩),(112,⟨lD,2,false,false,some [b.v]⟩),(128,⟨oP,2,false,false,some [c.v]⟩),(144,⟨qJ,2,false,false,some [d.v]⟩),(160,⟨qK,2,false,false,some [e.v]⟩),(464,⟨g,2,true,false,some L⟩)]⟩ ⟨T',O'⟩→Q .normal ⟨T',O'⟩):
  oT E zV ⟨[(5,.ptr 96 yp 0 0),(6,.ptr 112 lD 0 0),(7,.ptr 128 oP 0 0),(8,.ptr 144 qJ 0 0),(9,.ptr 160 qK 0 0),(28,.sl 464 g 0 2),(29,aM 2),(30,aM i)],
    [(96,⟨yp,2,false,false,some [a.v]⟩),(112,⟨lD,2,false,false,some [b.v]⟩),(128,⟨oP,2,false,false,some [c.v]⟩),(144,⟨qJ,2,false,false,some [d.v]⟩),(160,⟨qK,2,false,false,some [e.v]⟩),(464,⟨g,2,true,false,some L⟩)]⟩ Q:=by
 (conv=>whnf);repeat' ((first| intro g| refine bd.mk _ (hL) ?_| refine ak.mk _ (Ew _ _ _ _) ?_| refine st ?_| (first| refine b1 ?_ ?_| refine b2 ?_ ?_| refine Br.mk ?_ ?_) <;>intro hc| exact rfl) <;>conv=>whnf)
 all_goals first| exact hR _ _ rfl| exact hN _ _ (by(refine⟨?_,?_⟩ <;>repeat' (first| exact True.intro| refine ai ?_| refine And.intro ?_ ?_)))
theorem Xp {Q:aP→SS→Prop} {i yp oP zJ g:Nat} {a c d e x y:Pt} {L:List V} (hL:L[i]? =some (.agg [vi x.x,vi x.y,vi y.x,vi y.y])) (hi:i< 3)
  (hR: ∀T' O',lk T' 10=some (.bool true)→Q .ret ⟨T',O'⟩)
  (hN: ∀T' O',SS.Sub ⟨[(5,.ptr 96 yp 0 0),(7,.ptr 128 oP 0 0),(13,.ptr 224 zJ 0 0),(62,.sl 1008 g 0 3),(63,aM 3),(64,aM (i+1))],
    [(96,⟨yp,2,false,false,some [a.v]⟩),(128,⟨oP,2,false,false,some [c.v]⟩),(224,⟨zJ,4,false,false,some [.agg [vi d.x,vi d.y,vi e.x,vi e.y]]⟩),(1008,⟨g,4,true,false,some L⟩)]⟩ ⟨T',O'⟩→Q .normal ⟨T',O'⟩):
  oT E zW ⟨[(5,.ptr 96 yp 0 0),(7,.ptr 128 oP 0 0),(13,.ptr 224 zJ 0 0),(62,.sl 1008 g 0 3),(63,aM 3),(64,aM i)],
    [(96,⟨yp,2,false,false,some [a.v]⟩),(128,⟨oP,2,false,false,some [c.v]⟩),(224,⟨zJ,4,false,false,some [.agg [vi d.x,vi d.y,vi e.x,vi e.y]]⟩),(1008,⟨g,4,true,false,some L⟩)]⟩ Q:=by
 (conv=>whnf);repeat' ((first| intro g| refine bd.mk _ (hL) ?_| refine ak.mk _ (sL d e x y) ?_| refine ak.mk _ (GQ d e x y _) ?_| refine st ?_| (first| refine b1 ?_ ?_| refine b2 ?_ ?_| refine Br.mk ?_ ?_) <;>intro hc| exact rfl) <;>conv=>whnf)
 all_goals first| exact hR _ _ rfl| exact hN _ _ (by(refine⟨?_,?_⟩ <;>repeat' (first| exact True.intro| refine ai ?_| refine And.intro ?_ ?_)))
theorem qA (a b c d e:Pt): ∃r:Bool,Ev E 553 [a.v,b.v,c.v,d.v,e.v] ⟨.bool r,[]⟩:=by
 have key:=Ev.bT (R:=fun res=> ∃r:Bool,res=⟨.bool r,[]⟩) Ov (Ow [a.v,b.v,c.v,d.v,e.v]) rfl ?_
 · obtain⟨res,h1,r,rfl⟩:=key
   exact⟨r,h1⟩
 have hr:Ev E 181 [.lit 2 [a.v,b.v,c.v,d.v,e.v]] ⟨.bool (vM [a,b,c,d,e]),[]⟩:=sK [a,b,c,d,e] (by simp)
 have Ex: ∀T' O',lk T' 10=some (V.bool true)→v7 Fo.results [a.v,b.v,c.v,d.v,e.v] (fun res=> ∃r:Bool,res=⟨.bool r,[]⟩) .ret ⟨T',O'⟩:=by
   intro T' O' h
   show pq [.tmp 10] [a.v,b.v,c.v,d.v,e.v] ⟨T',O'⟩ (fun res=> ∃r:Bool,res=⟨.bool r,[]⟩)
   unfold pq
   simp only[yB,h]
   (conv=>whnf);repeat' ((first| intro g| refine st ?_| (first| refine b1 ?_ ?_| refine b2 ?_ ?_| refine Br.mk ?_ ?_) <;>intro hc| exact rfl) <;>conv=>whnf)
   exact⟨_,rfl⟩
 (conv=>whnf);repeat' ((first| intro g| refine ak.mk _ (hr) ?_| refine st ?_| (first| refine b1 ?_ ?_| refine b2 ?_ ?_| refine Br.mk ?_ ?_) <;>intro hc| exact rfl) <;>conv=>whnf)
 · exact⟨_,rfl⟩
 rename_i yp lD oP qJ qK aag
 clear hr hc
 refine a9.by (fun (i:Nat)=> ⟨[(5,.ptr 96 yp 0 0),(6,.ptr 112 lD 0 0),(7,.ptr 128 oP 0 0),(8,.ptr 144 qJ 0 0),(9,.ptr 160 qK 0 0),(28,.sl 464 g 0 2),(29,aM 2),(30,aM i)],
    [(96,⟨yp,2,false,false,some [a.v]⟩),(112,⟨lD,2,false,false,some [b.v]⟩),(128,⟨oP,2,false,false,some [c.v]⟩),(144,⟨qJ,2,false,false,some [d.v]⟩),(160,⟨qK,2,false,false,some [e.v]⟩),(464,⟨g,2,true,false,some [d.v,e.v]⟩)]⟩)
   (fun i=>i≤2) (fun i=>2 - i) 0 (by(refine⟨?_,?_⟩ <;>repeat' (first| exact True.intro| refine ai ?_| refine And.intro ?_ ?_))) (by simp) ?_
 rintro i hi
 rcases(by omega:i=0∨i=1∨i=2) with rfl| rfl| rfl
 · exact YF rfl (by omega) (fun T' O' h=>Ex T' O' h) fun T' O' hs=>br.mk 1 (by first| omega| (dsimp only;omega)) (by simp) hs
 · exact YF rfl (by omega) (fun T' O' h=>Ex T' O' h) fun T' O' hs=>br.mk 2 (by first| omega| (dsimp only;omega)) (by simp) hs
 clear hi
 (conv=>whnf);repeat' ((first| intro g| refine st ?_| (first| refine b1 ?_ ?_| refine b2 ?_ ?_| refine Br.mk ?_ ?_) <;>intro hc| exact rfl) <;>conv=>whnf)
 rename_i aah zJ
 refine a9.by (fun (i:Nat)=> ⟨[(5,.ptr 96 yp 0 0),(7,.ptr 128 oP 0 0),(13,.ptr 224 zJ 0 0),(62,.sl 1008 g 0 3),(63,aM 3),(64,aM i)],
    [(96,⟨yp,2,false,false,some [a.v]⟩),(128,⟨oP,2,false,false,some [c.v]⟩),(224,⟨zJ,4,false,false,some [.agg [vi d.x,vi d.y,vi e.x,vi e.y]]⟩),(1008,⟨g,4,true,false,some [.agg [vi a.x,vi a.y,vi b.x,vi b.y],.agg [vi b.x,vi b.y,vi c.x,vi c.y],.agg [vi c.x,vi c.y,vi a.x,vi a.y]]⟩)]⟩)
   (fun i=>i≤3) (fun i=>3 - i) 0 (by(refine⟨?_,?_⟩ <;>repeat' (first| exact True.intro| refine ai ?_| refine And.intro ?_ ?_))) (by simp) ?_
 rintro i hi
 rcases(by omega:i=0∨i=1∨i=2∨i=3) with rfl| rfl| rfl| rfl
 · exact Xp (x:=a) (y:=b) rfl (by omega) (fun T' O' h=>Ex T' O' h) fun T' O' hs=>br.mk 1 (by first| omega| (dsimp only;omega)) (by simp) hs
 · exact Xp (x:=b) (y:=c) rfl (by omega) (fun T' O' h=>Ex T' O' h) fun T' O' hs=>br.mk 2 (by first| omega| (dsimp only;omega)) (by simp) hs
 · exact Xp (x:=c) (y:=a) rfl (by omega) (fun T' O' h=>Ex T' O' h) fun T' O' hs=>br.mk 3 (by first| omega| (dsimp only;omega)) (by simp) hs
 · (conv=>whnf);repeat' ((first| intro g| refine st ?_| (first| refine b1 ?_ ?_| refine b2 ?_ ?_| refine Br.mk ?_ ?_) <;>intro hc| exact rfl) <;>conv=>whnf)
   all_goals exact⟨_,rfl⟩
noncomputable def Ey (a b c d e:Pt):Bool:=(qA a b c d e).choose
theorem zK (a b c d e:Pt):Ev E 553 [a.v,b.v,c.v,d.v,e.v] ⟨.bool (Ey a b c d e),[]⟩:=(qA a b c d e).choose_spec
end Go.AM
