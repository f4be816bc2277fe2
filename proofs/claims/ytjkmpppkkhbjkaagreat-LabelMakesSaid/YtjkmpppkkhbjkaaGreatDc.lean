/-
  Texts of the proof: LbA, LmB, LmC, LmD.
-/
import Derived.Test.YtjkmpppkkhbjkaaGreatDa
import Derived.Test.YtjkmpppkkhbjkaaGreatDb
import Derived.Test.YtjkmpppkkhbjkaaGreatDd
set_option maxRecDepth 20000
set_option linter.unusedSimpArgs false
set_option linter.unusedVariables false
set_option maxHeartbeats 4000000
namespace Go.AM
theorem Cy (n l h:Int):Ev E 282 [vi n,vi l,vi h] ⟨.bool (decide (l≤n∧n≤h)),[]⟩:=by
 refine Ev.aT Ka (Kb _) rfl ?_
 (conv=>whnf);repeat' ((first| intro g| refine st ?_| (first| refine b1 ?_ ?_| refine b2 ?_ ?_| refine Br.mk ?_ ?_) <;>intro hc| exact rfl) <;>conv=>whnf)
 all_goals simp[*]
theorem ny (p:Pt):Ev E 575 [p.v] ⟨.bool (nP p.x p.y),[]⟩:=by
 have h1:=Cy p.x (-16384) 16384
 have h2:=Cy p.y (-16384) 16384
 unfold nP
 generalize decide (-16384≤p.x∧p.x≤16384)=b1 at*
 generalize decide (-16384≤p.y∧p.y≤16384)=b2 at*
 refine Ev.aT Kg (Kh _) rfl ?_
 cases b1
 · (conv=>whnf);repeat' ((first| intro g| refine ah.mk _ (h1) ?_| refine ah.mk _ (h2) ?_| refine st ?_| (first| refine b1 ?_ ?_| refine b2 ?_ ?_| refine Br.mk ?_ ?_) <;>intro hc| exact rfl) <;>conv=>whnf)
 · (conv=>whnf);repeat' ((first| intro g| refine ah.mk _ (h1) ?_| refine ah.mk _ (h2) ?_| refine st ?_| (first| refine b1 ?_ ?_| refine b2 ?_ ?_| refine Br.mk ?_ ?_) <;>intro hc| exact rfl) <;>conv=>whnf)
theorem Ki {a b:dq} (h:wx a b=true):c9 (c9 (c9 (a.x - b.x)*c9 (a.x - b.x))+c9 (c9 (a.y - b.y)*c9 (a.y - b.y)))=Cq a b:=by
 have hs:=xB h
 simp only[wx,Bool.and_eq_true] at h
 have h1:=p8 h.1;have h2:=p8 h.2
 have k1:=xA (x:=a.x - b.x) (by omega) (by omega)
 have k2:=xA (x:=a.y - b.y) (by omega) (by omega)
 rw[q6 (n:=a.x - b.x) (by omega) (by omega),q6 (n:=a.y - b.y) (by omega) (by omega),q6 (n:=(a.x - b.x)*(a.x - b.x)) (by omega) (by omega),q6 (n:=(a.y - b.y)*(a.y - b.y)) (by omega) (by omega),q6 (by omega) (by omega)]
 rfl
theorem Bh {a b:dq} (h:wx a b=true):Ev E 635 [a.v,b.v] ⟨.tuple [vi (Cq a b),.bool true],[]⟩:=by
 have h1:=ny ⟨a.x,a.y⟩
 have h2:=ny ⟨b.x,b.y⟩
 have hs:=Ki h
 simp only[wx,Bool.and_eq_true] at h
 rw[h.1] at h1
 rw[h.2] at h2
 have h3:=nv ⟨a.x,a.y⟩ ⟨b.x,b.y⟩
 have h4:=xG ⟨c9 (a.x - b.x),c9 (a.y - b.y)⟩ ⟨c9 (a.x - b.x),c9 (a.y - b.y)⟩
 dsimp only at h3 h4
 rw[hs] at h4
 refine Ev.aT Kj (Kk _) rfl ?_
 (conv=>whnf);repeat' ((first| intro g| refine ah.mk _ (h1) ?_| refine ah.mk _ (h2) ?_| refine ah.mk _ (h3) ?_| refine ah.mk _ (h4) ?_| refine st ?_| (first| refine b1 ?_ ?_| refine b2 ?_ ?_| refine Br.mk ?_ ?_) <;>intro hc| exact rfl) <;>conv=>whnf)
theorem Bi {a b:dq} (h:wx a b=false):Ev E 635 [a.v,b.v] ⟨.tuple [vi 0,.bool false],[]⟩:=by
 have h1:=ny ⟨a.x,a.y⟩
 have h2:=ny ⟨b.x,b.y⟩
 dsimp only at h1 h2
 unfold wx at h
 generalize nP a.x a.y=b1 at*
 generalize nP b.x b.y=b2 at*
 cases b1<;>cases b2<;>simp at h
 all_goals
  refine Ev.aT Kj (Kk _) rfl ?_
  (conv=>whnf);repeat' ((first| intro g| refine ah.mk _ (h1) ?_| refine ah.mk _ (h2) ?_| refine st ?_| (first| refine b1 ?_ ?_| refine b2 ?_ ?_| refine Br.mk ?_ ?_) <;>intro hc| exact rfl) <;>conv=>whnf)
theorem DC (a b:dq):Ev E 636 [a.v,b.v] ⟨vi (ib a b),[]⟩:=by
 have h1:=gF a.r
 have h2:=gF b.r
 refine Ev.aT OW (OX _) rfl ?_
 (conv=>whnf);repeat' ((first| intro g| refine st ?_| (first| refine b1 ?_ ?_| refine b2 ?_ ?_| refine Br.mk ?_ ?_) <;>intro hc| exact rfl) <;>conv=>whnf)
 show (⟨vi _,[]⟩:dk)=_
 have e1: ∀r:Int,(if (0:Int) < (if (1000:Int) <r then 1000 else r) then(if (1000:Int) <r then 1000 else r) else 0)=lf r:=fun r=>by unfold lf;omega
 rw[e1,e1]
 unfold ib
 rw[wrap64 (by omega) (by omega)]
end Go.AM
set_option maxHeartbeats 8000000
namespace Go.AM
abbrev xH (fl:List (Nat×V)) (a b c d:Pt) (g1 g2 g3 g4:Nat):SS:=⟨(4,.ptr 80 g1 0 0):: (5,.ptr 96 g2 0 0):: (6,.ptr 112 g3 0 0):: (7,.ptr 128 g4 0 0)::fl,
 [(80,⟨g1,2,false,false,some [a.v]⟩),(96,⟨g2,2,false,false,some [b.v]⟩),(112,⟨g3,2,false,false,some [c.v]⟩),(128,⟨g4,2,false,false,some [d.v]⟩)]⟩
theorem wF: ∃F:Pt→Pt→Pt→Pt→Int,∀a b c d:Pt,Ev E 561 [a.v,b.v,c.v,d.v] ⟨vi (F a b c d),[]⟩:=sk4 fun a b c d=>cj (g:=vi) (Ev.J7 OY (OZ _) rfl (by
 obtain⟨B,hB⟩:=oL
 obtain⟨S,hS⟩:=q8
 obtain⟨O,hO⟩:=xD
 obtain⟨L,hL⟩:=wD
 obtain⟨D,hD⟩:=FF
 refine WS.cut 2 (fun ((g1,g2,g3,g4):Nat×Nat×Nat×Nat)=>xH [] a b c d g1 g2 g3 g4) (fun _=>True) ?_ ?_
 · (conv=>whnf);repeat' ((first| intro g| refine ah.mk _ (hB _) ?_| refine st ?_| (first| refine b1 ?_ ?_| refine b2 ?_ ?_| refine Br.mk ?_ ?_) <;>intro hc| exact rfl) <;>conv=>whnf)
   all_goals first| exact⟨_,rfl⟩ | skip
   rename_i g1 g2 g3 _ _ _
   exact vN.mk (g1,g2,g3,g) trivial (by(refine⟨?_,?_⟩ <;>repeat' (first| exact True.intro| refine ai ?_| refine And.intro ?_ ?_)))
 rintro⟨g1,g2,g3,g4⟩ -
 refine WS.cut 1 (fun fl:Bool=>xH [(9,.bool fl)] a b c d g1 g2 g3 g4) (fun _=>True) ?_ ?_
 · (conv=>whnf);repeat' ((first| intro g| refine ah.mk _ (hS _ _ _) ?_| refine st ?_| (first| refine b1 ?_ ?_| refine b2 ?_ ?_| refine Br.mk ?_ ?_) <;>intro hc| exact rfl) <;>conv=>whnf)
   all_goals exact vN.mk _ trivial (by(refine⟨?_,?_⟩ <;>repeat' (first| exact True.intro| refine ai ?_| refine And.intro ?_ ?_)))
 rintro fl -
 refine WS.cut 1 (fun _:Unit=>xH [] a b c d g1 g2 g3 g4) (fun _=>True) ?_ ?_
 · (conv=>whnf);repeat' ((first| intro g| refine ah.mk _ (hS _ _ _) ?_| refine ah.mk _ (hO _ _ _) ?_| refine st ?_| (first| refine b1 ?_ ?_| refine b2 ?_ ?_| refine Br.mk ?_ ?_) <;>intro hc| exact rfl) <;>conv=>whnf)
   all_goals first| exact⟨_,rfl⟩ | exact vN.mk () trivial (by(refine⟨?_,?_⟩ <;>repeat' (first| exact True.intro| refine ai ?_| refine And.intro ?_ ?_)))
 rintro _ -
 refine WS.cut 2 (fun ((a,b,c,d):Pt×Pt×Pt×Pt)=>xH [] a b c d g1 g2 g3 g4) (fun _=>True) ?_ ?_
 · (conv=>whnf);repeat' ((first| intro g| refine ah.mk _ (hD _ _) ?_| refine st ?_| (first| refine b1 ?_ ?_| refine b2 ?_ ?_| refine Br.mk ?_ ?_) <;>intro hc| exact rfl) <;>conv=>whnf)
   exact vN.mk (_,_,_,_) trivial (by(refine⟨?_,?_⟩ <;>repeat' (first| exact True.intro| refine ai ?_| refine And.intro ?_ ?_)))
 rintro⟨a2,b2,c2,d2⟩ -
 refine WS.of ?_
 (conv=>whnf);repeat' ((first| intro g| refine ah.mk _ (hL _ _) ?_| refine st ?_| (first| refine b1 ?_ ?_| refine b2 ?_ ?_| refine Br.mk ?_ ?_) <;>intro hc| exact rfl) <;>conv=>whnf)
 all_goals exact⟨_,rfl⟩))
end Go.AM
set_option maxHeartbeats 8000000
namespace Go.AM
theorem q9: ∃F:List Pt→Bool,∀l:List Pt,l.length< 1000000→Ev E 559 [.lit 2 (l.map Pt.v)] ⟨.bool (F l),[]⟩:=by
 classical
 have h: ∀l:List Pt,∃b:Bool,l.length< 1000000→Ev E 559 [.lit 2 (l.map Pt.v)] ⟨.bool b,[]⟩:=fun l=>by
  by_cases hl:l.length< 1000000
  case neg=>exact⟨true,fun h=>absurd h hl⟩
  obtain⟨b,hb⟩: ∃b:Bool,Ev E 559 [.lit 2 (l.map Pt.v)] ⟨.bool b,[]⟩:=cj (Ev.bz O3 (O4 _) rfl (by
   obtain⟨R,hR⟩:=Bf
   (conv=>whnf);repeat' ((first| intro g| refine st ?_| (first| refine b1 ?_ ?_| refine b2 ?_ ?_| refine Br.mk ?_ ?_) <;>intro hc| exact rfl) <;>conv=>whnf)
   refine aI.by (fun i:Nat=> ⟨[(0,.lit 2 (l.map Pt.v)),(3,aC i)],[]⟩) (fun i=>i≤l.length) (fun i=>l.length - i) 0 (by(refine⟨?_,?_⟩ <;>repeat' (first| exact True.intro| refine ai ?_| refine And.intro ?_ ?_))) (by omega) ?_
   rintro i hi
   by_cases bp:i<l.length
   · obtain⟨x,hx⟩: ∃x,l[i]? =some x:=⟨_,aD bp⟩
     (conv=>whnf);repeat' ((first| intro g| refine aN.mk _ (al hx rfl) ?_| refine ah.mk _ (hR _) ?_| refine st ?_| (first| refine b1 ?_ ?_| refine b2 ?_ ?_| refine Br.mk ?_ ?_) <;>intro hc| exact rfl) <;>conv=>whnf)
     · exact⟨_,rfl⟩
     · exact aE.mk (i+1) (by first| omega| (dsimp only;omega)) (by omega) (by(refine⟨?_,?_⟩ <;>repeat' (first| exact True.intro| refine ai ?_| refine And.intro ?_ ?_)))
   · (conv=>whnf);repeat' ((first| intro g| refine st ?_| (first| refine b1 ?_ ?_| refine b2 ?_ ?_| refine Br.mk ?_ ?_) <;>intro hc| exact rfl) <;>conv=>whnf)
     exact⟨_,rfl⟩))
  exact⟨b,fun _=>hb⟩
 exact⟨fun l=> (h l).choose,fun l=> (h l).choose_spec⟩
theorem zb (l:List Pt) (hl:l.length< 1000000): ∃b:Bool,Ev E 560 [kh l] ⟨.bool b,[]⟩:=cj (Ev.bz O5 (O6 _) rfl (by
 by_cases h4:4≤l.length
 · obtain⟨x,hx⟩: ∃x,l[0]? =some x:=⟨_,aD (by omega)⟩
   obtain⟨y,hy⟩: ∃x,l[l.length - 1]? =some x:=⟨_,aD (by omega)⟩
   have hw:IntKind.i64.wrap (((l.map Pt.v).length:Int) - 1)=((l.length - 1:Nat):Int):=by
    rw[List.length_map];exact(wrap64 (by omega) (by omega)).trans (by omega)
   (conv=>whnf);repeat' ((first| ((exfalso;omega)) | intro g| refine aN.mk _ (al hx rfl) ?_| refine aN.mk _ (al hy hw) ?_| refine st ?_| (first| refine b1 ?_ ?_| refine b2 ?_ ?_| refine Br.mk ?_ ?_) <;>intro hc| exact rfl) <;>conv=>whnf)
   all_goals exact⟨_,rfl⟩
 · (conv=>whnf);repeat' ((first| ((exfalso;omega)) | intro g| refine st ?_| (first| refine b1 ?_ ?_| refine b2 ?_ ?_| refine Br.mk ?_ ?_) <;>intro hc| exact rfl) <;>conv=>whnf)
   all_goals exact⟨_,rfl⟩))
theorem Bj (l:List Pt) (hl:l.length< 1000): ∃n:Int,Ev E 548 [kh l] ⟨vi n,[]⟩:=cj (g:=vi) (Ev.bz O7 (O8 _) rfl (by
 obtain⟨R,hR⟩:=q9
 have hr:Ev E 559 [kh l] ⟨.bool (R l),[]⟩:=hR l (by omega)
 obtain⟨C,hC⟩:=zb l (by omega)
 obtain⟨M,hM⟩:=wF
 have hz:IntKind.i64.wrap (((l.map Pt.v).length:Int) - 2)=(l.length:Int) - 2:=by
   rw[List.length_map];exact(wrap64 (by omega) (by omega)).trans (by omega)
 generalize R l=rb at*
 (conv=>whnf);repeat' ((first| intro g| refine ah.mk _ (hr) ?_| refine st ?_| (first| refine b1 ?_ ?_| refine b2 ?_ ?_| refine Br.mk ?_ ?_) <;>intro hc| exact rfl) <;>conv=>whnf)
 all_goals first| exact⟨_,rfl⟩ | skip
 refine aI.by (fun i:Nat=> ⟨[(0,kh l),(3,vi ((l.length:Int) - 2)),(4,aC i)],[]⟩) (fun i=>i≤l.length - 1) (fun i=>l.length - 1 - i) 0 (by rw[hz]; (refine⟨?_,?_⟩ <;>repeat' (first| exact True.intro| refine ai ?_| refine And.intro ?_ ?_))) (by omega) ?_
 rintro i hi
 by_cases bp:i<l.length - 1
 · obtain⟨p,hp⟩: ∃p,l[i]? =some p:=⟨_,aD (by omega)⟩
   obtain⟨q,hq⟩: ∃q,l[i+1]? =some q:=⟨_,aD (by omega)⟩
   have w2:IntKind.i64.wrap ((i:Int)+1)=((i+1:Nat):Int):=(wrap64 (by omega) (by omega)).trans (by omega)
   (conv=>whnf);repeat' ((first| intro g| refine aN.mk _ (al hp rfl) ?_| refine aN.mk _ (al hq w2) ?_| refine st ?_| (first| refine b1 ?_ ?_| refine b2 ?_ ?_| refine Br.mk ?_ ?_) <;>intro hc| exact rfl) <;>conv=>whnf)
   all_goals first| exact⟨_,rfl⟩ | skip
   refine aI.by (fun k:Nat=> ⟨[(0,kh l),(3,vi ((l.length:Int) - 2)),(4,aC i),(5,aC k)],[]⟩) (fun k=>k≤i) (fun k=>i - k) 0 (by(refine⟨?_,?_⟩ <;>repeat' (first| exact True.intro| refine ai ?_| refine And.intro ?_ ?_))) (by omega) ?_
   rintro k hki
   by_cases Ib:k<i
   · obtain⟨p2,ET⟩: ∃p,l[k]? =some p:=⟨_,aD (by omega)⟩
     obtain⟨q2,YN⟩: ∃q,l[k+1]? =some q:=⟨_,aD (by omega)⟩
     have w1:IntKind.i64.wrap ((k:Int)+1)=((k+1:Nat):Int):=(wrap64 (by omega) (by omega)).trans (by omega)
     (conv=>whnf);repeat' ((first| intro g| refine aN.mk _ (al hp rfl) ?_| refine aN.mk _ (al hq w2) ?_| refine aN.mk _ (al ET rfl) ?_| refine aN.mk _ (al YN w1) ?_| refine ah.mk _ (hM _ _ _ _) ?_| refine ah.mk _ (hC) ?_| refine st ?_| (first| refine b1 ?_ ?_| refine b2 ?_ ?_| refine Br.mk ?_ ?_) <;>intro hc| exact rfl) <;>conv=>whnf)
     all_goals first| exact⟨_,rfl⟩ | exact aE.mk (k+1) (by first| omega| (dsimp only;omega)) (by omega) (by(refine⟨?_,?_⟩ <;>repeat' (first| exact True.intro| refine ai ?_| refine And.intro ?_ ?_)))
   · (conv=>whnf);repeat' ((first| intro g| refine st ?_| (first| refine b1 ?_ ?_| refine b2 ?_ ?_| refine Br.mk ?_ ?_) <;>intro hc| exact rfl) <;>conv=>whnf)
     all_goals exact aE.mk (i+1) (by first| omega| (dsimp only;omega)) (by omega) (by(refine⟨?_,?_⟩ <;>repeat' (first| exact True.intro| refine ai ?_| refine And.intro ?_ ?_)))
 · (conv=>whnf);repeat' ((first| intro g| refine st ?_| (first| refine b1 ?_ ?_| refine b2 ?_ ?_| refine Br.mk ?_ ?_) <;>intro hc| exact rfl) <;>conv=>whnf)
   all_goals exact⟨_,rfl⟩))
end Go.AM
set_option maxHeartbeats 8000000
namespace Go.AM
theorem Cz: ∃F:Pt→Pt→Pt→Pt→Bool,∀a b c p:Pt,Ev E 563 [a.v,b.v,c.v,p.v] ⟨.bool (F a b c p),[]⟩:=sk4 fun a b c p=>cj (Ev.bz O9 (Pa _) rfl (by
 obtain⟨R,hR⟩:=q9
 have hr:Ev E 559 [.lit 2 [a.v,b.v,c.v,p.v]] ⟨.bool (R [a,b,c,p]),[]⟩:=hR [a,b,c,p] (by simp)
 obtain⟨S,hS⟩:=q8
 obtain⟨O,hO⟩:=xD
 generalize R [a,b,c,p]=rb at*
 (conv=>whnf);repeat' ((first| intro g| refine ah.mk _ (hr) ?_| refine ah.mk _ (hS _ _ _) ?_| refine ah.mk _ (hO _ _ _) ?_| refine st ?_| (first| refine b1 ?_ ?_| refine b2 ?_ ?_| refine Br.mk ?_ ?_) <;>intro hc| exact rfl) <;>conv=>whnf)
 all_goals exact⟨_,rfl⟩))
theorem xI: ∃F:Pt→Pt→Pt→Pt→Pt×Pt→Bool,∀a b d e (z:Pt×Pt),Ev E 581 [a.v,b.v,d.v,e.v,z.1.v,z.2.v] ⟨.bool (F a b d e z),[]⟩:=sk5 fun a b d e z=>cj (Ev.bz Pb (Pc _) rfl (by
 obtain⟨x,y⟩:=z
 obtain⟨M,hM⟩:=wF
 obtain⟨O,hO⟩:=xD
 have hm:=hM a b d e
 generalize M a b d e=n at*
 (conv=>whnf);repeat' ((first| intro g| refine ah.mk _ (hm) ?_| refine st ?_| (first| refine b1 ?_ ?_| refine b2 ?_ ?_| refine Br.mk ?_ ?_) <;>intro hc| exact rfl) <;>conv=>whnf)
 all_goals first| exact⟨_,rfl⟩ | skip
 rename_i zc jY fi zd xJ xK
 refine aI.by (fun i:Nat=> ⟨[(6,.ptr 112 zc 0 0),(7,.ptr 128 jY 0 0),(8,.ptr 144 fi 0 0),(9,.ptr 160 zd 0 0),(14,.ptr 240 g 0 0),(15,aC i)],
   [(112,⟨zc,2,false,false,some [a.v]⟩),(128,⟨jY,2,false,false,some [b.v]⟩),(144,⟨fi,2,false,false,some [d.v]⟩),(160,⟨zd,2,false,false,some [e.v]⟩),(240,⟨g,4,false,false,some [.agg [vi x.x,vi x.y,vi y.x,vi y.y]]⟩)]⟩)
   (fun i=>i≤2) (fun i=>2 - i) 0 (by(refine⟨?_,?_⟩ <;>repeat' (first| exact True.intro| refine ai ?_| refine And.intro ?_ ?_))) (by omega) ?_
 rintro i hi
 rcases(by omega:i=0∨i=1∨i=2) with rfl| rfl| rfl
 · (conv=>whnf);repeat' ((first| intro g| refine ah.mk _ (hO _ _ x) ?_| refine st ?_| (first| refine b1 ?_ ?_| refine b2 ?_ ?_| refine Br.mk ?_ ?_) <;>intro hc| exact rfl) <;>conv=>whnf)
   all_goals first| exact⟨_,rfl⟩ | exact aE.mk 1 (by first| omega| (dsimp only;omega)) (by omega) (by(refine⟨?_,?_⟩ <;>repeat' (first| exact True.intro| refine ai ?_| refine And.intro ?_ ?_)))
 · (conv=>whnf);repeat' ((first| intro g| refine ah.mk _ (hO _ _ y) ?_| refine st ?_| (first| refine b1 ?_ ?_| refine b2 ?_ ?_| refine Br.mk ?_ ?_) <;>intro hc| exact rfl) <;>conv=>whnf)
   all_goals first| exact⟨_,rfl⟩ | exact aE.mk 2 (by first| omega| (dsimp only;omega)) (by omega) (by(refine⟨?_,?_⟩ <;>repeat' (first| exact True.intro| refine ai ?_| refine And.intro ?_ ?_)))
 · (conv=>whnf);repeat' ((first| intro g| refine st ?_| (first| refine b1 ?_ ?_| refine b2 ?_ ?_| refine Br.mk ?_ ?_) <;>intro hc| exact rfl) <;>conv=>whnf)
   all_goals exact⟨_,rfl⟩))
theorem Bk: ∃F:Pt→Pt→Pt→Pt→Pt→Bool,∀a b c d e:Pt,Ev E 562 [a.v,b.v,c.v,d.v,e.v] ⟨.bool (F a b c d e),[]⟩:=sk5 fun a b c d e=>cj (Ev.bz Pd (Pe _) rfl (by
 obtain⟨R,hR⟩:=q9
 have hr:Ev E 559 [.lit 2 [a.v,b.v,c.v,d.v,e.v]] ⟨.bool (R [a,b,c,d,e]),[]⟩:=hR [a,b,c,d,e] (by simp)
 obtain⟨I,hI⟩:=Cz
 obtain⟨A,hA⟩:=xI
 generalize R [a,b,c,d,e]=rb at*
 (conv=>whnf);repeat' ((first| intro g| refine ah.mk _ (hr) ?_| refine ah.mk _ (hI _ _ _ _) ?_| refine ah.mk _ (hA _ _ _ _ (a,c)) ?_| refine st ?_| (first| refine b1 ?_ ?_| refine b2 ?_ ?_| refine Br.mk ?_ ?_) <;>intro hc| exact rfl) <;>conv=>whnf)
 all_goals exact⟨_,rfl⟩))
end Go.AM
