/-
  Texts of the proof, joined by program: FuT. Own work.
-/
import Derived.Test.YtinmckmdbepjcaaGreatRd
import Derived.Test.YtinmckmdbepjcaaGreatEd
import Derived.Test.YtinmckmdbepjcaaGreatSan
set_option linter.unusedSimpArgs false
set_option linter.unusedVariables false
set_option maxRecDepth 20000
namespace Go.AM
theorem nH {E:Env} {r:Nat} {g:Nat} {args:List V} {v v':V} {S:SS} {Q:KK} (hm:gv E g=[]) (hp:V.aq args=true) (he:Ev E g args ⟨v,[]⟩) (hv: ∀ (r:Nat) (k:V→bB),da false r [] v k=k v') (k:Q v' S [] []):eM E (lD E r false g args) S Q:=by
 have key: ∀ (as:List V) (i:Nat) (kk:List V→List Nat→List dZ→bB),V.aq as=true→eN (r+8) as [] i kk=kk as [] []:=by
  intro as
  induction as with
  | nil=>intro i kk _;rfl
  | cons a as ih=>
    intro i kk h
    simp only[V.aq,Bool.and_eq_true] at h
    simp only[eN,gr,h.1,cond_true,List.nil_append]
    rw[ih (i+1) _ h.2]
 unfold lD
 rw[hm,key args 0 _ hp]
 refine⟨rfl,⟨⟨v,[]⟩,he,?_⟩⟩
 simp only[gu,hv,eM]
 exact k
structure QK (m:aG):Prop where
 e:m.an.length< 903
 f:m.ah.length< 903
 w:m.ways.length< 903
 p:m.aw.length< 999
 el: ∀e ∈ m.an,e.line.length< 1000
 wl: ∀w ∈ m.ways,w.line.length< 1000
set_option maxHeartbeats 4000000 in
theorem Gp {m M:aG} {L:List (Int×Int)} {n k dK g5 Mw ko:Nat} {ms:List V} {p pp:Int×Int} {c:Int} {v1 v2:V} {Q:aW→SS→Prop} (hx: (L.map zT)[k]? =some (zT p)) (hn:L.length=n) (hk:k<n) (hb:n< 1000)
  (h1:Ev E 485 [m.v,vi p.1,vi p.2] ⟨v1,[]⟩) (i1: ∀ (r:Nat) (k:V→bB),da false r [] v1 k=k (.tuple [M.v,vi c])) (h2:Ev E 486 [m.v,vi p.1,vi p.2] ⟨v2,[]⟩) (i2: ∀ (r:Nat) (k:V→bB),da false r [] v2 k=k (.tuple [M.v,vi c]))
  (hs:Ev E 89 [M.v,M.v] ⟨.bool true,[]⟩)
  (hQ: ∀T' O',SS.Sub ⟨[(11,.ptr 192 dK 0 0),(39,.lit 2 (L.map zT)),(40,aF n),(41,aF (k+1)),(5,.ptr 96 g5 0 0),(7,.bool true),(31,.sl 512 Mw 0 3),(32,aF 3),(33,aF ko)],[(192,⟨dK,4,false,false,some [m.v]⟩),(512,⟨Mw,4,true,false,some ms⟩),(96,⟨g5,2,false,false,some [zT pp]⟩)]⟩ ⟨T',O'⟩→Q .normal ⟨T',O'⟩):
  gY E Bz ⟨[(11,.ptr 192 dK 0 0),(39,.lit 2 (L.map zT)),(40,aF n),(41,aF k),(5,.ptr 96 g5 0 0),(7,.bool true),(31,.sl 512 Mw 0 3),(32,aF 3),(33,aF ko)],[(192,⟨dK,4,false,false,some [m.v]⟩),(512,⟨Mw,4,true,false,some ms⟩),(96,⟨g5,2,false,false,some [zT pp]⟩)]⟩ Q:=by
 obtain⟨a,b⟩:=p
 have Pn:gv E 485=[]:=rfl
 have Uc:gv E 486=[]:=rfl
 have hp:V.aq [m.v,vi a,vi b]=true:=by
  have h0:V.aE m.v=true:=aG.ug false m
  simp only[V.aq,h0];rfl
 dsimp only at h1 h2
 (conv=>whnf);repeat' ((first| refine nH Pn hp h1 i1 ?_| refine nH Uc hp h2 i2 ?_| intro g| refine aH.mk _ (hx) ?_| refine ag.mk _ (hs) ?_| refine st ?_| (first| refine b1 ?_ ?_| refine b2 ?_ ?_| refine Br.mk ?_ ?_) <;>intro hc| exact rfl) <;>conv=>whnf)
 all_goals exact hQ _ _ (by(refine⟨?_,?_⟩ <;>repeat' (first| exact True.intro| refine ai ?_| refine And.intro ?_ ?_)))
theorem QK.Ch {m:aG} (hm:m.LK):QK m:=by
 have h1:=hm.aw.1
 have h2:=hm.an.1;have h3:=hm.ah;have h4:=hm.ways.1
 have hl: ∀e ∈ m.an,2≤e.line.length∧e.line.length≤5:=hm.an.2
 have hw: ∀w ∈ m.ways,2≤w.line.length∧w.line.length≤5:=hm.ways.2
 exact⟨by omega,by omega,by omega,by omega,fun e he=>by have:=hl e he;omega,fun e he=>by have:=hw e he;omega⟩
structure zD (n:Nat) (m:aG):Prop where
 e:m.an.length≤40+n
 f:m.ah.length≤40+n
 w:m.ways.length≤40+n
 p:m.aw.length≤40+100*n
 el: ∀e ∈ m.an,e.line.length< 1000
 wl: ∀w ∈ m.ways,w.line.length< 1000
theorem zD.Ch {m:aG} (hm:m.LK):zD 0 m:=by
 have h1:=hm.aw.1
 have h2:=hm.an.1;have h3:=hm.ah;have h4:=hm.ways.1
 have hl: ∀e ∈ m.an,2≤e.line.length∧e.line.length≤5:=hm.an.2
 have hw: ∀w ∈ m.ways,2≤w.line.length∧w.line.length≤5:=hm.ways.2
 exact⟨by omega,by omega,by omega,by omega,fun e he=>by have:=hl e he;omega,fun e he=>by have:=hw e he;omega⟩
theorem zD.VL {n:Nat} {m m':aG} (h:zD n m) (k:jW m m'):zD (n+1) m':=by
 have h1:=h.e;have h2:=h.f;have h3:=h.w;have h4:=h.p
 have k1:=k.an;have k2:=k.ah;have k3:=k.ways
 refine⟨by omega,by omega,by omega,?_,k.el,k.wl⟩
 rcases k.aw with k4| ⟨q,f,hq,_,k4⟩
 · omega
 · rw[k4];simp;omega
theorem zD.small {n:Nat} {m:aG} (h:zD n m) (hn:n≤2):m.Small∧rJ m:=by
 have h1:=h.e;have h2:=h.f;have h3:=h.w;have h4:=h.p
 exact⟨⟨by omega,by omega,by omega,by omega,h.el,h.wl⟩,⟨by omega,by omega,by omega,by omega,h.el,h.wl⟩⟩
theorem Gq (m:aG) (a b:Bool): ∀ (r:Nat) (k:V→bB),da false r [] (m.vw a b) k=k m.v:=by
 intro r k
 cases a<;>cases b<;>rfl
theorem Mx (m:aG): ∀ (r:Nat) (k:V→bB),da false r [] m.vo k=k m.v:=fun _ _=>rfl
theorem zE {m M:aG} (h:rJ m) (h1:M.an.length≤m.an.length) (h2:M.ah.length≤m.ah.length) (h3:M.ways.length≤m.ways.length) (h4:M.aw.length≤m.aw.length) (h5: ∀e ∈ M.an,e.line.length< 1000) (h6: ∀w ∈ M.ways,w.line.length< 1000):M.Fit:=
 ⟨by have:=h.e;omega,by have:=h.f;omega,by have:=h.w;omega,by have:=h.p;omega,fun e he=>by have:=h5 e he;omega,fun e he=>by have:=h6 e he;omega⟩
set_option maxHeartbeats 4000000 in
theorem nI {ls:List (List Int)} (hs:wa ls) (q0 q1 q2 q3 q4 q5:Int) (p:Int×Int):Ev E 480 [fU ls,.agg [vi q0,vi q1,vi q2,vi q3,vi q4,vi q5],zT p] ⟨.bool true,[]⟩:=by
 have VM:gv E 79=[]:=rfl
 have XC:gv E 77=[]:=rfl
 obtain⟨_,Jh,m,hm,rfl⟩:=Df hs
 have n0:=zD.Ch hm
 obtain⟨_,Ji,m1,a1,b1,o1,rfl⟩:=yf (n0.small (by omega)).1 q0 q1 q2
 have n1:=n0.VL o1
 obtain⟨_,Jj,m2,a2,b2,o2,rfl⟩:=yf (n1.small (by omega)).1 q3 q4 q5
 have n2:=n1.VL o2
 have hl:=hs.1
 have R5:V.aq [fU ls]=true:=rfl
 have Lu:V.aq [m.v,ll q0 q1 q2]=true:=by
   have h0:V.aE m.v=true:=aG.ug false m
   simp only[V.aq,h0];rfl
 have Lv:V.aq [m1.v,ll q3 q4 q5]=true:=by
   have h0:V.aE m1.v=true:=aG.ug false m1
   simp only[V.aq,h0];rfl
 refine Ev.bU NQ (NR _) rfl ?_
 (conv=>whnf);repeat' ((first| refine nH XC R5 Jh (Mx m) ?_| refine nH VM Lu Ji (Gq m1 a1 b1) ?_| refine nH VM Lv Jj (Gq m2 a2 b2) ?_| intro g| refine ag.mk _ (Gr) ?_| refine st ?_| (first| refine b1 ?_ ?_| refine b2 ?_ ?_| refine Br.mk ?_ ?_) <;>intro hc| exact rfl) <;>conv=>whnf)
 rename_i g5 _ _
 have XD: ∀k:Nat,k< 3→ ∃x:aG,[m.v,m1.v,m2.v][k]? =some x.v∧rJ x:=fun k hk=>by
   rcases(by omega:k=0∨k=1∨k=2) with rfl| rfl| rfl
   · exact⟨m,rfl,(n0.small (by omega)).2⟩
   · exact⟨m1,rfl,(n1.small (by omega)).2⟩
   · exact⟨m2,rfl,(n2.small (by omega)).2⟩
 have C7: [m.v,m1.v,m2.v].length=3:=rfl
 generalize Us: [m.v,m1.v,m2.v]=ms at*
 clear Jh Ji Jj n0 n1 n2 o1 o2 R5 Lu Lv Us
 refine ba.by (fun (k:Nat)=> ⟨[(5,.ptr 96 g5 0 0),(7,.bool true),(31,.sl 512 g 0 3),(32,aF 3),(33,aF k)],[(512,⟨g,4,true,false,some ms⟩),(96,⟨g5,2,false,false,some [zT p]⟩)]⟩) (fun k=>k≤3) (fun k=>3 - k) 0 (by(refine⟨?_,?_⟩ <;>repeat' (first| exact True.intro| refine ai ?_| refine And.intro ?_ ?_))) (by omega) ?_
 intro k hk
 try dsimp only at hk
 by_cases bk:k< 3
 · obtain⟨x,hx,Ut⟩:=XD k bk
   obtain⟨_,My,L,hL,rfl⟩:=Gn (m:=x) (by have:=Ut.f;omega) p
   have BI:ms[(k:Int).toNat]? =some x.v:=by simpa using hx
   (conv=>whnf);repeat' ((first| intro g| refine aH.mk _ (BI) ?_| refine aH.mk _ (hx) ?_| refine ag.mk _ (My) ?_| refine st ?_| (first| refine b1 ?_ ?_| refine b2 ?_ ?_| refine Br.mk ?_ ?_) <;>intro hc| exact rfl) <;>conv=>whnf)
   rename_i Mw
   refine ba.by (fun (i:Nat)=> ⟨[(11,.ptr 192 g 0 0),(39,.lit 2 (L.map zT)),(40,aF L.length),(41,aF i),(5,.ptr 96 g5 0 0),(7,.bool true),(31,.sl 512 Mw 0 3),(32,aF 3),(33,aF k)],
      [(192,⟨g,4,false,false,some [x.v]⟩),(512,⟨Mw,4,true,false,some ms⟩),(96,⟨g5,2,false,false,some [zT p]⟩)]⟩) (fun i=>i≤L.length) (fun i=>L.length - i) 0 ?_ (by omega) ?_
   · (refine⟨?_,?_⟩ <;>repeat' (first| exact True.intro| refine And.intro ((by(conv=>whnf);simp)) ?_| refine ai ?_| refine And.intro ?_ ?_))
   intro i hi
   try dsimp only at hi
   by_cases fS:i<L.length
   · obtain⟨pr,XE⟩: ∃y,L[i]? =some y:=⟨_,aL fS⟩
     obtain⟨M,c,r1,r2,b1,b2,⟨v1,rfl,i1⟩,⟨v2,rfl,i2⟩,c1,c2,c3,c4,c5,c6⟩:=Bj Ut pr.1 pr.2
     have oO:=Aw (zE Ut c1 c2 c3 c4 c5 c6)
     refine Gp (m:=x) (M:=M) (p:=pr) (by simp[XE]) rfl fS (by omega) b1 i1 b2 i2 oO fun T' O' dg=>bc.mk (i+1) (by first| omega| (dsimp only;omega)) (by omega) ?_
     exact dg
   · obtain rfl:i=L.length:=by omega
     (conv=>whnf);repeat' ((first| intro g| refine st ?_| (first| refine b1 ?_ ?_| refine b2 ?_ ?_| refine Br.mk ?_ ?_) <;>intro hc| exact rfl) <;>conv=>whnf)
     exact bc.mk (k+1) (by first| omega| (dsimp only;omega)) (by omega) (by(refine⟨?_,?_⟩ <;>repeat' (first| exact True.intro| refine ai ?_| refine And.intro ?_ ?_)))
 · obtain rfl:k=3:=by omega
   (conv=>whnf);repeat' ((first| intro g| refine st ?_| (first| refine b1 ?_ ?_| refine b2 ?_ ?_| refine Br.mk ?_ ?_) <;>intro hc| exact rfl) <;>conv=>whnf)
#print axioms nI
end Go.AM
