/-
  Texts of the proof, joined by program: FkL. Own work.
-/
import Derived.Test.YtinmckmdbepjcaaGreatGd
import Derived.Test.YtinmckmdbepjcaaGreatMe
import Derived.Test.YtinmckmdbepjcaaGreatEd
import Derived.Test.YtinmckmdbepjcaaGreatSan
set_option linter.unusedSimpArgs false
set_option linter.unusedVariables false
set_option maxRecDepth 20000
namespace Go.AM
theorem zD.VL {n:Nat} {m m':aG} (h:zD n m) (k:jW m m'):zD (n+1) m':=by
 have h1:=h.e;have h2:=h.f;have h3:=h.w;have h4:=h.p
 have k1:=k.an;have k2:=k.ah;have k3:=k.ways
 refine⟨by omega,by omega,by omega,?_,k.el,k.wl⟩
 rcases k.aw with k4| ⟨q,f,hq,_,k4⟩
 · omega
 · rw[k4];simp;omega
theorem zD.small {n:Nat} {m:aG} (h:zD n m) (hn:n≤2):m.Small∧abN m∧m.ah.length< 1000:=by
 have h1:=h.e;have h2:=h.f;have h3:=h.w;have h4:=h.p
 exact⟨⟨by omega,by omega,by omega,by omega,h.el,h.wl⟩,⟨⟨by omega,fun e he=>by have:=h.el e he;omega⟩,by omega⟩,by omega⟩
theorem Gq (m:aG) (a b:Bool): ∀ (r:Nat) (k:V→bB),da false r [] (m.vw a b) k=k m.v:=by
 intro r k
 cases a<;>cases b<;>rfl
set_option maxHeartbeats 4000000 in
theorem abU {m:aG} {L:List (Int×Int)} {n k dK g5 Mw ko:Nat} {ms:List V} {p pp:Int×Int} {c1 c2:Int} {Q:aW→SS→Prop} (hx: (L.map zT)[k]? =some (zT p)) (hn:L.length=n) (hk:k<n) (hb:n< 1000)
  (h1:Ev E 487 [m.v,vi p.1,vi p.2] ⟨vi c1,[]⟩) (h2:Ev E 488 [m.v,vi p.1,vi p.2] ⟨vi c1,[]⟩)
  (h3:Ev E 489 [m.v,vi p.1,vi p.2] ⟨vi c2,[]⟩) (h4:Ev E 490 [m.v,vi p.1,vi p.2] ⟨vi c2,[]⟩)
  (hQ: ∀T' O',SS.Sub ⟨[(11,.ptr 192 dK 0 0),(37,.lit 2 (L.map zT)),(38,aF n),(39,aF (k+1)),(5,.ptr 96 g5 0 0),(7,.bool true),(29,.sl 480 Mw 0 3),(30,aF 3),(31,aF ko)],[(192,⟨dK,4,false,false,some [m.v]⟩),(480,⟨Mw,4,true,false,some ms⟩),(96,⟨g5,2,false,false,some [zT pp]⟩)]⟩ ⟨T',O'⟩→Q .normal ⟨T',O'⟩):
  gY E aby ⟨[(11,.ptr 192 dK 0 0),(37,.lit 2 (L.map zT)),(38,aF n),(39,aF k),(5,.ptr 96 g5 0 0),(7,.bool true),(29,.sl 480 Mw 0 3),(30,aF 3),(31,aF ko)],[(192,⟨dK,4,false,false,some [m.v]⟩),(480,⟨Mw,4,true,false,some ms⟩),(96,⟨g5,2,false,false,some [zT pp]⟩)]⟩ Q:=by
 obtain⟨a,b⟩:=p
 have Pn:gv E 487=[]:=rfl
 have Uc:gv E 488=[]:=rfl
 have hm3:gv E 489=[]:=rfl
 have hm4:gv E 490=[]:=rfl
 have hp:V.aq [m.v,vi a,vi b]=true:=by
  have h0:V.aE m.v=true:=aG.ug false m
  simp only[V.aq,h0];rfl
 dsimp only at h1 h2 h3 h4
 (conv=>whnf);repeat' ((first| refine tg Pn hp h1 rfl ?_| refine tg Uc hp h2 rfl ?_| refine tg hm3 hp h3 rfl ?_| refine tg hm4 hp h4 rfl ?_| intro g| refine aH.mk _ (hx) ?_| refine st ?_| (first| refine b1 ?_ ?_| refine b2 ?_ ?_| refine Br.mk ?_ ?_) <;>intro hc| exact rfl) <;>conv=>whnf)
 all_goals first| exact hQ _ _ (by(refine⟨?_,?_⟩ <;>repeat' (first| exact True.intro| refine ai ?_| refine And.intro ?_ ?_))) | (simp at hc;done)
set_option maxHeartbeats 4000000 in
theorem abV {m:aG} {L:List Int} {n k dK g5 Mw g74 ko:Nat} {ms:List V} {d:Int} {pp:Int×Int} {vN:List Event} {Q:aW→SS→Prop} (hx: (L.map vi)[k]? =some (vi d)) (hn:L.length=n) (hk:k<n) (hb:n< 1000)
  (h1:Ev E 492 [m.v,vi d] ⟨.own 5 (vN.map Event.v),[]⟩) (h2:Ev E 493 [m.v,vi d] ⟨.own 5 (vN.map Event.v),[]⟩)
  (h3:Ev E 491 [.lit 5 (vN.map Event.v),.lit 5 (vN.map Event.v)] ⟨.bool true,[]⟩)
  (hQ: ∀T' O',SS.Sub ⟨[(11,.ptr 192 dK 0 0),(74,.sl 1200 g74 0 n),(75,aF n),(76,aF (k+1)),(5,.ptr 96 g5 0 0),(7,.bool true),(29,.sl 480 Mw 0 3),(30,aF 3),(31,aF ko)],[(192,⟨dK,4,false,false,some [m.v]⟩),(1200,⟨g74,1,true,false,some (L.map vi)⟩),(480,⟨Mw,4,true,false,some ms⟩),(96,⟨g5,2,false,false,some [zT pp]⟩)]⟩ ⟨T',O'⟩→Q .normal ⟨T',O'⟩):
  gY E abz ⟨[(11,.ptr 192 dK 0 0),(74,.sl 1200 g74 0 n),(75,aF n),(76,aF k),(5,.ptr 96 g5 0 0),(7,.bool true),(29,.sl 480 Mw 0 3),(30,aF 3),(31,aF ko)],[(192,⟨dK,4,false,false,some [m.v]⟩),(1200,⟨g74,1,true,false,some (L.map vi)⟩),(480,⟨Mw,4,true,false,some ms⟩),(96,⟨g5,2,false,false,some [zT pp]⟩)]⟩ Q:=by
 have Pn:gv E 492=[]:=rfl
 have Uc:gv E 493=[]:=rfl
 have hm3:gv E 491=[]:=rfl
 have hp:V.aq [m.v,vi d]=true:=by
  have h0:V.aE m.v=true:=aG.ug false m
  simp only[V.aq,h0];rfl
 have hp3:V.aq [.lit 5 (vN.map Event.v),.lit 5 (vN.map Event.v)]=true:=by
  have h0:V.aq (vN.map Event.v)=true:=AM.cN (fun _=>rfl) vN
  simp only[V.aq,V.aE,h0];rfl
 have i1: ∀ (r:Nat) (k:V→bB),da false r [] (.own 5 (vN.map Event.v)) k=k (.lit 5 (vN.map Event.v)):=fun _ _=>rfl
 (conv=>whnf);repeat' ((first| refine nH Pn hp h1 i1 ?_| refine nH Uc hp h2 i1 ?_| refine tg hm3 hp3 h3 rfl ?_| intro g| refine aH.mk _ (hx) ?_| refine st ?_| (first| refine b1 ?_ ?_| refine b2 ?_ ?_| refine Br.mk ?_ ?_) <;>intro hc| exact rfl) <;>conv=>whnf)
 all_goals exact hQ _ _ (by(refine⟨?_,?_⟩ <;>repeat' (first| exact True.intro| refine ai ?_| refine And.intro ?_ ?_)))
set_option maxHeartbeats 4000000 in
theorem aaT {ls:List (List Int)} (hs:wa ls) (q0 q1 q2 q3 q4 q5:Int) (p:Int×Int):Ev E 481 [fU ls,.agg [vi q0,vi q1,vi q2,vi q3,vi q4,vi q5],zT p] ⟨.bool true,[]⟩:=by
 have VM:gv E 79=[]:=rfl
 have XC:gv E 77=[]:=rfl
 have hm4:gv E 484=[]:=rfl
 obtain⟨_,Jh,m,hm,rfl⟩:=Df hs
 have n0:=zD.Ch hm
 obtain⟨_,Ji,m1,a1,b1,o1,rfl⟩:=yf (n0.small (by omega)).1 q0 q1 q2
 have n1:=n0.VL o1
 obtain⟨_,Jj,m2,a2,b2,o2,rfl⟩:=yf (n1.small (by omega)).1 q3 q4 q5
 have n2:=n1.VL o2
 have hl:=hs.1
 have R5:V.aq [fU ls]=true:=rfl
 have Lu:V.aq [m.v,ll q0 q1 q2]=true:=by
   have h0:V.aE m.v=true:=aG.ug false m
   simp only[V.aq,h0];rfl
 have Lv:V.aq [m1.v,ll q3 q4 q5]=true:=by
   have h0:V.aE m1.v=true:=aG.ug false m1
   simp only[V.aq,h0];rfl
 refine Ev.bU acV (acW _) rfl ?_
 (conv=>whnf);repeat' ((first| refine nH XC R5 Jh (Mx m) ?_| refine nH VM Lu Ji (Gq m1 a1 b1) ?_| refine nH VM Lv Jj (Gq m2 a2 b2) ?_| intro g| refine ag.mk _ (Gr) ?_| refine st ?_| (first| refine b1 ?_ ?_| refine b2 ?_ ?_| refine Br.mk ?_ ?_) <;>intro hc| exact rfl) <;>conv=>whnf)
 rename_i g5 _ _
 have XD: ∀k:Nat,k< 3→ ∃x:aG,[m.v,m1.v,m2.v][k]? =some x.v∧abN x∧x.ah.length< 1000:=fun k hk=>by
   rcases(by omega:k=0∨k=1∨k=2) with rfl| rfl| rfl
   · exact⟨m,rfl,(n0.small (by omega)).2⟩
   · exact⟨m1,rfl,(n1.small (by omega)).2⟩
   · exact⟨m2,rfl,(n2.small (by omega)).2⟩
 have C7: [m.v,m1.v,m2.v].length=3:=rfl
 generalize Us: [m.v,m1.v,m2.v]=ms at*
 clear Jh Ji Jj n0 n1 n2 o1 o2 R5 Lu Lv Us
 refine ba.by (fun (k:Nat)=> ⟨[(5,.ptr 96 g5 0 0),(7,.bool true),(29,.sl 480 g 0 3),(30,aF 3),(31,aF k)],[(480,⟨g,4,true,false,some ms⟩),(96,⟨g5,2,false,false,some [zT p]⟩)]⟩) (fun k=>k≤3) (fun k=>3 - k) 0 (by(refine⟨?_,?_⟩ <;>repeat' (first| exact True.intro| refine ai ?_| refine And.intro ?_ ?_))) (by omega) ?_
 intro k hk
 try dsimp only at hk
 by_cases bk:k< 3
 · obtain⟨x,hx,Ut,y6⟩:=XD k bk
   have Vs:EP x:=⟨Ut.1.1,Ut.2⟩
   obtain⟨_,My,L,hL,rfl⟩:=Gn (m:=x) (by omega) p
   have BI:ms[(k:Int).toNat]? =some x.v:=by simpa using hx
   (conv=>whnf);repeat' ((first| intro g| refine aH.mk _ (BI) ?_| refine aH.mk _ (hx) ?_| refine ag.mk _ (My) ?_| refine st ?_| (first| refine b1 ?_ ?_| refine b2 ?_ ?_| refine Br.mk ?_ ?_) <;>intro hc| exact rfl) <;>conv=>whnf)
   rename_i Mw
   refine ba.by (fun (i:Nat)=> ⟨[(11,.ptr 192 g 0 0),(37,.lit 2 (L.map zT)),(38,aF L.length),(39,aF i),(5,.ptr 96 g5 0 0),(7,.bool true),(29,.sl 480 Mw 0 3),(30,aF 3),(31,aF k)],
       [(192,⟨g,4,false,false,some [x.v]⟩),(480,⟨Mw,4,true,false,some ms⟩),(96,⟨g5,2,false,false,some [zT p]⟩)]⟩) (fun i=>i≤L.length) (fun i=>L.length - i) 0 ?_ (by omega) ?_
   · (refine⟨?_,?_⟩ <;>repeat' (first| exact True.intro| refine And.intro ((by(conv=>whnf);simp)) ?_| refine ai ?_| refine And.intro ?_ ?_))
   intro i hi
   try dsimp only at hi
   by_cases fS:i<L.length
   · obtain⟨pr,XE⟩: ∃y,L[i]? =some y:=⟨_,aL fS⟩
     refine abU (m:=x) (p:=pr) (by simp[XE]) rfl fS (by omega) (ab0 Vs pr.1 pr.2) (qv Vs pr.1 pr.2) (aci Vs pr.1 pr.2) (abl Vs pr.1 pr.2) fun T' O' dg=>bc.mk (i+1) (by first| omega| (dsimp only;omega)) (by omega) ?_
     exact dg
   · obtain rfl:i=L.length:=by omega
     (conv=>whnf);repeat' ((first| intro g| refine st ?_| (first| refine b1 ?_ ?_| refine b2 ?_ ?_| refine Br.mk ?_ ?_) <;>intro hc| exact rfl) <;>conv=>whnf)
     rename_i dK
     refine ba.by (fun (i:Nat)=> ⟨[(11,.ptr 192 dK 0 0),(74,.sl 1200 g 0 5),(75,aF 5),(76,aF i),(5,.ptr 96 g5 0 0),(7,.bool true),(29,.sl 480 Mw 0 3),(30,aF 3),(31,aF k)],
       [(192,⟨dK,4,false,false,some [x.v]⟩),(1200,⟨g,1,true,false,some ([0,1,2,3,p.1].map vi)⟩),(480,⟨Mw,4,true,false,some ms⟩),(96,⟨g5,2,false,false,some [zT p]⟩)]⟩) (fun i=>i≤5) (fun i=>5 - i) 0 (by(refine⟨?_,?_⟩ <;>repeat' (first| exact True.intro| refine ai ?_| refine And.intro ?_ ?_))) (by omega) ?_
     intro i hi
     try dsimp only at hi
     by_cases PF:i< 5
     · obtain⟨d,hd⟩: ∃y,[0,1,2,3,p.1][i]? =some y:=⟨_,aL PF⟩
       have ML:=aax x d (aag x).length
       have GA:=aau x
       refine abV (m:=x) (by simp only[List.getElem?_map,hd];rfl) rfl PF (by simp) (acF Ut d) (ab7 Ut d) (abG (by unfold acE;omega)) fun T' O' dg=>bc.mk (i+1) (by first| omega| (dsimp only;omega)) (by omega) ?_
       exact dg
     · obtain rfl:i=5:=by omega
       (conv=>whnf);repeat' ((first| intro g| refine st ?_| (first| refine b1 ?_ ?_| refine b2 ?_ ?_| refine Br.mk ?_ ?_) <;>intro hc| exact rfl) <;>conv=>whnf)
       exact bc.mk (k+1) (by first| omega| (dsimp only;omega)) (by omega) (by(refine⟨?_,?_⟩ <;>repeat' (first| exact True.intro| refine ai ?_| refine And.intro ?_ ?_)))
 · obtain rfl:k=3:=by omega
   (conv=>whnf);repeat' ((first| intro g| refine st ?_| (first| refine b1 ?_ ?_| refine b2 ?_ ?_| refine Br.mk ?_ ?_) <;>intro hc| exact rfl) <;>conv=>whnf)
#print axioms aaT
end Go.AM
