/-
  Texts of the proof, joined by program: DcE, DcT, DcK, DcL. Own work.
-/
import Derived.Test.YtkdfnbahehdhmaaGreatXb
import Derived.Test.YtkdfnbahehdhmaaGreatBase
set_option linter.unusedSimpArgs false
set_option linter.unusedVariables false
set_option maxRecDepth 20000
set_option maxHeartbeats 4000000
namespace Go.AM
section
variable {a b c d p:Pt} (ha:eb a) (hb:eb b) (hc:eb c) (hd:eb d) (hp:eb p)
include ha hb hp in
theorem yQ:Ev E 223 [a.v,b.v,p.v] ⟨.bool (vG a b p),[]⟩:=by
 have h:=DF ha hb hp hp
 rw[←K1]
 refine Ev.aG Wa (Wb _) rfl ?_
 (conv=>whnf);repeat' ((first| intro g| refine ag.mk _ (h) ?_| refine st ?_| (first| refine b1 ?_ ?_| refine b2 ?_ ?_| refine Br.mk ?_ ?_) <;>intro hc| exact rfl) <;>conv=>whnf)
include ha hb hc hd in
theorem vK:Ev E 184 [.agg [vi a.x,vi a.y,vi b.x,vi b.y],.agg [vi c.x,vi c.y,vi d.x,vi d.y]] ⟨vi (eC a b c d),[]⟩:=by
 have h:=DF ha hb hc hd
 refine Ev.aG UW (UX _) rfl ?_
 (conv=>whnf);repeat' ((first| intro g| refine ag.mk _ (h) ?_| refine st ?_| (first| refine b1 ?_ ?_| refine b2 ?_ ?_| refine Br.mk ?_ ?_) <;>intro hc| exact rfl) <;>conv=>whnf)
include ha hb hp in
theorem AP:Ev E 186 [.agg [vi a.x,vi a.y,vi b.x,vi b.y],p.v] ⟨.bool (vG a b p),[]⟩:=by
 have h:=yQ ha hb hp
 refine Ev.aG VG (VH _) rfl ?_
 (conv=>whnf);repeat' ((first| intro g| refine ag.mk _ (h) ?_| refine st ?_| (first| refine b1 ?_ ?_| refine b2 ?_ ?_| refine Br.mk ?_ ?_) <;>intro hc| exact rfl) <;>conv=>whnf)
def mn (x y:Int):Int:=if y<x then y else x
def mx (x y:Int):Int:=if x<y then y else x
theorem La (x y z:Int):Ev E 429 [.lit 1 [vi x,vi y,vi z]] ⟨vi (mn (mn x y) z),[]⟩:=by
 refine Ev.aG Wc (Wd _) rfl ?_
 (conv=>whnf);repeat' ((first| intro g| refine st ?_| (first| refine b1 ?_ ?_| refine b2 ?_ ?_| refine Br.mk ?_ ?_) <;>intro hc| exact rfl) <;>conv=>whnf)
 refine aV.by (fun ((i,r):Nat×Int)=> ⟨[(0,.lit 1 [vi x,vi y,vi z]),(3,vi r),(4,aD (i+1))],[]⟩)
   (fun (i,r)=>i≤2∧(i=0→r=x)∧(i=1→r=mn x y)∧(i=2→r=mn (mn x y) z)) (fun (i,_)=>2 - i) (0,x) (by(refine⟨?_,?_⟩ <;>repeat' (first| exact True.intro| refine ai ?_| refine And.intro ?_ ?_))) (by simp) ?_
 rintro⟨i,r⟩ ⟨hi,h0,h1,h2⟩
 try dsimp only at hi h0 h1 h2
 rcases(by omega:i=0∨i=1∨i=2) with rfl| rfl| rfl
 · obtain rfl:=h0 rfl
   (conv=>whnf);repeat' ((first| intro g| refine st ?_| (first| refine b1 ?_ ?_| refine b2 ?_ ?_| refine Br.mk ?_ ?_) <;>intro hc| exact rfl) <;>conv=>whnf)
   exact a9.mk (1,mn r y) (by first| omega| (dsimp only;omega)) (by simp) (by(refine⟨?_,?_⟩ <;>repeat' (first| exact True.intro| refine ai ?_| refine And.intro ?_ ?_)))
 · obtain rfl:=h1 rfl
   (conv=>whnf);repeat' ((first| intro g| refine st ?_| (first| refine b1 ?_ ?_| refine b2 ?_ ?_| refine Br.mk ?_ ?_) <;>intro hc| exact rfl) <;>conv=>whnf)
   exact a9.mk (2,mn (mn x y) z) (by first| omega| (dsimp only;omega)) (by simp) (by(refine⟨?_,?_⟩ <;>repeat' (first| exact True.intro| refine ai ?_| refine And.intro ?_ ?_)))
 · obtain rfl:=h2 rfl
   (conv=>whnf);repeat' ((first| intro g| refine st ?_| (first| refine b1 ?_ ?_| refine b2 ?_ ?_| refine Br.mk ?_ ?_) <;>intro hc| exact rfl) <;>conv=>whnf)
theorem Lb (x y z:Int):Ev E 430 [.lit 1 [vi x,vi y,vi z]] ⟨vi (mx (mx x y) z),[]⟩:=by
 refine Ev.aG We (Wf _) rfl ?_
 (conv=>whnf);repeat' ((first| intro g| refine st ?_| (first| refine b1 ?_ ?_| refine b2 ?_ ?_| refine Br.mk ?_ ?_) <;>intro hc| exact rfl) <;>conv=>whnf)
 refine aV.by (fun ((i,r):Nat×Int)=> ⟨[(0,.lit 1 [vi x,vi y,vi z]),(3,vi r),(4,aD (i+1))],[]⟩)
   (fun (i,r)=>i≤2∧(i=0→r=x)∧(i=1→r=mx x y)∧(i=2→r=mx (mx x y) z)) (fun (i,_)=>2 - i) (0,x) (by(refine⟨?_,?_⟩ <;>repeat' (first| exact True.intro| refine ai ?_| refine And.intro ?_ ?_))) (by simp) ?_
 rintro⟨i,r⟩ ⟨hi,h0,h1,h2⟩
 try dsimp only at hi h0 h1 h2
 rcases(by omega:i=0∨i=1∨i=2) with rfl| rfl| rfl
 · obtain rfl:=h0 rfl
   (conv=>whnf);repeat' ((first| intro g| refine st ?_| (first| refine b1 ?_ ?_| refine b2 ?_ ?_| refine Br.mk ?_ ?_) <;>intro hc| exact rfl) <;>conv=>whnf)
   exact a9.mk (1,mx r y) (by first| omega| (dsimp only;omega)) (by simp) (by(refine⟨?_,?_⟩ <;>repeat' (first| exact True.intro| refine ai ?_| refine And.intro ?_ ?_)))
 · obtain rfl:=h1 rfl
   (conv=>whnf);repeat' ((first| intro g| refine st ?_| (first| refine b1 ?_ ?_| refine b2 ?_ ?_| refine Br.mk ?_ ?_) <;>intro hc| exact rfl) <;>conv=>whnf)
   exact a9.mk (2,mx (mx x y) z) (by first| omega| (dsimp only;omega)) (by simp) (by(refine⟨?_,?_⟩ <;>repeat' (first| exact True.intro| refine ai ?_| refine And.intro ?_ ?_)))
 · obtain rfl:=h2 rfl
   (conv=>whnf);repeat' ((first| intro g| refine st ?_| (first| refine b1 ?_ ?_| refine b2 ?_ ?_| refine Br.mk ?_ ?_) <;>intro hc| exact rfl) <;>conv=>whnf)
def MS (a b c p:Pt):Bool:=if dL a b c=0 then vG a b p || vG b c p || vG c a p
 else decide ((0≤dL a b p∧0≤dL b c p∧0≤dL c a p)∨(dL a b p≤0∧dL b c p≤0∧dL c a p≤0))
def Cu (a b c p:Pt):Bool:=du [a,b,c,p] &&MS a b c p
theorem Iq (a b c p:Pt): (0≤IntKind.i64.wrap (mn (mn (dL a b p) (dL b c p)) (dL c a p)*mx (mx (dL a b p) (dL b c p)) (dL c a p)))↔((0≤dL a b p∧0≤dL b c p∧0≤dL c a p)∨(dL a b p≤0∧dL b c p≤0∧dL c a p≤0)):=by
 have r1:=cV (yO a b p);have r2:=cV (yO b c p);have r3:=cV (yO c a p)
 unfold dL
 rcases r1 with⟨e1,_⟩ | ⟨e1,_⟩ | ⟨e1,_⟩ <;>rcases r2 with⟨e2,_⟩ | ⟨e2,_⟩ | ⟨e2,_⟩ <;>rcases r3 with⟨e3,_⟩ | ⟨e3,_⟩ | ⟨e3,_⟩ <;>rw[e1,e2,e3] <;>decide
include ha hb hc hp in
theorem Ir:Ev E 565 [a.v,b.v,c.v,p.v] ⟨.bool (MS a b c p),[]⟩:=by
 have s0:=kB ha hb hc
 have s1:=kB ha hb hp
 have s2:=kB hb hc hp
 have s3:=kB hc ha hp
 have o1:=yQ ha hb hp
 have o2:=yQ hb hc hp
 have o3:=yQ hc ha hp
 have Xt:=Iq a b c p
 unfold MS
 generalize vG a b p=y1 at*
 generalize vG b c p=y2 at*
 generalize vG c a p=y3 at*
 refine Ev.aG VC (VD _) rfl ?_
 (conv=>whnf);repeat' ((first| intro g| refine ag.mk _ (s0) ?_| refine ag.mk _ (s1) ?_| refine ag.mk _ (s2) ?_| refine ag.mk _ (s3) ?_| refine ag.mk _ (o1) ?_| refine ag.mk _ (o2) ?_| refine ag.mk _ (o3) ?_| refine ag.mk _ (La _ _ _) ?_| refine ag.mk _ (Lb _ _ _) ?_| refine st ?_| (first| refine b1 ?_ ?_| refine b2 ?_ ?_| refine Br.mk ?_ ?_) <;>intro hc| exact rfl) <;>conv=>whnf)
 · rename_i q;rw[if_pos q,hc];rfl
 · rename_i q1 q2;rw[if_pos q1,hc];cases y1<;>rfl
 · rename_i q1 q2;rw[if_pos q1];cases y1<;>cases y2<;>simp_all
 · rw[if_neg hc,decide_eq_decide.2 Xt]
end
theorem Sx (a b c p:Pt):Ev E 556 [a.v,b.v,c.v,p.v] ⟨.bool (Cu a b c p),[]⟩:=by
 have hr:Ev E 181 [.lit 2 [a.v,b.v,c.v,p.v]] ⟨.bool (du [a,b,c,p]),[]⟩:=vJ (l:=[a,b,c,p]) (by simp)
 unfold Cu
 cases hf:du [a,b,c,p] with
 | false=>
   rw[hf] at hr
   refine Ev.aG LS (LU _) rfl ?_
   (conv=>whnf);repeat' ((first| intro g| refine ag.mk _ (hr) ?_| refine st ?_| (first| refine b1 ?_ ?_| refine b2 ?_ ?_| refine Br.mk ?_ ?_) <;>intro hc| exact rfl) <;>conv=>whnf)
 | true=>
   have hk: ∀x ∈ [a,b,c,p],eb x:=by simpa [du] using hf
   have h:=Ir (hk a (by simp)) (hk b (by simp)) (hk c (by simp)) (hk p (by simp))
   rw[hf] at hr
   refine Ev.aG LS (LU _) rfl ?_
   (conv=>whnf);repeat' ((first| intro g| refine ag.mk _ (hr) ?_| refine ag.mk _ (h) ?_| refine st ?_| (first| refine b1 ?_ ?_| refine b2 ?_ ?_| refine Br.mk ?_ ?_) <;>intro hc| exact rfl) <;>conv=>whnf)
end Go.AM
set_option maxRecDepth 20000
set_option maxHeartbeats 4000000
namespace Go.AM
def qp (p a:Pt):Bool:=p.x==a.x && (p.y==a.y &&true)
def wD (a b c p:Pt):Bool:= !qp p a && (!qp p c &&MS a b c p)
def vL (d e x y p:Pt):Bool:=vG d e p &&vG x y p
def AQ (x y d e a c:Pt):Bool:=if eC d e x y=1 then !vL d e x y a && !vL d e x y c else decide (eC d e x y=2)
def eL (a b c d e:Pt):Bool:=du [a,b,c,d,e] && (wD a b c d || (wD a b c e || (AQ a b d e a c || (AQ b c d e a c || AQ c a d e a c))))
theorem AR (a b c d:Pt):eC a b c d=0∨eC a b c d=1∨eC a b c d=2:=by
 unfold eC
 repeat' split
 all_goals simp
section
variable {a b c d e x y p:Pt} (ha:eb a) (hb:eb b) (hc:eb c) (hd:eb d) (he:eb e) (hx:eb x) (hy:eb y) (hp:eb p)
include hd he hx hy hp in
theorem DG:Ev E 566 [p.v,.eptr (.agg [vi d.x,vi d.y,vi e.x,vi e.y]) 0,.eptr (.agg [vi x.x,vi x.y,vi y.x,vi y.y]) 0] ⟨.bool (vL d e x y p),[]⟩:=by
 have h1:=AP hd he hp
 have h2:=AP hx hy hp
 unfold vL
 generalize vG d e p=z1 at*
 generalize vG x y p=z2 at*
 cases z1<;>cases z2
 all_goals
  refine Ev.aG VE (VF _) rfl ?_
  (conv=>whnf);repeat' ((first| intro g| refine ag.mk _ (h1) ?_| refine ag.mk _ (h2) ?_| refine st ?_| (first| refine b1 ?_ ?_| refine b2 ?_ ?_| refine Br.mk ?_ ?_) <;>intro hc| exact rfl) <;>conv=>whnf)
include ha hb hc hp in
theorem tl0 {Q:bd→SS→Prop} {i ig pQ nS fp iB g:Nat} {L:List V} {d e:Pt} (hL:L[i]? =some p.v) (hi:i< 2)
   (hR: ∀T' O',wD a b c p=true→lk T' 10=some (.bool true)→Q .ret ⟨T',O'⟩)
   (hN: ∀T' O',wD a b c p=false→SS.Sub ⟨[(5,.ptr 96 ig 0 0),(6,.ptr 112 pQ 0 0),(7,.ptr 128 nS 0 0),(8,.ptr 144 fp 0 0),(9,.ptr 160 iB 0 0),(28,.sl 464 g 0 2),(29,aD 2),(30,aD (i+1))],
     [(96,⟨ig,2,false,false,some [a.v]⟩),(112,⟨pQ,2,false,false,some [b.v]⟩),(128,⟨nS,2,false,false,some [c.v]⟩),(144,⟨fp,2,false,false,some [d.v]⟩),(160,⟨iB,2,false,false,some [e.v]⟩),(464,⟨g,2,true,false,some L⟩)]⟩ ⟨T',O'⟩→Q .normal ⟨T',O'⟩):
   oN E CU ⟨[(5,.ptr 96 ig 0 0),(6,.ptr 112 pQ 0 0),(7,.ptr 128 nS 0 0),(8,.ptr 144 fp 0 0),(9,.ptr 160 iB 0 0),(28,.sl 464 g 0 2),(29,aD 2),(30,aD i)],
     [(96,⟨ig,2,false,false,some [a.v]⟩),(112,⟨pQ,2,false,false,some [b.v]⟩),(128,⟨nS,2,false,false,some [c.v]⟩),(144,⟨fp,2,false,false,some [d.v]⟩),(160,⟨iB,2,false,false,some [e.v]⟩),(464,⟨g,2,true,false,some L⟩)]⟩ Q:=by
 have h:=Ir ha hb hc hp
 clear ha hb hc hp
 unfold wD at hR hN
 generalize MS a b c p=z at*
 cases z
 · have hN:=fun T' O'=>hN T' O' (by simp)
   clear hR
   (conv=>whnf);repeat' ((first| intro g| refine aL.mk _ (hL) ?_| refine ag.mk _ (h) ?_| refine st ?_| (first| refine b1 ?_ ?_| refine b2 ?_ ?_| refine Br.mk ?_ ?_) <;>intro hc| exact rfl) <;>conv=>whnf)
   all_goals exact hN _ _ (by(refine⟨?_,?_⟩ <;>repeat' (first| exact True.intro| refine ai ?_| refine And.intro ?_ ?_)))
 · (conv=>whnf);repeat' ((first| intro g| refine aL.mk _ (hL) ?_| refine ag.mk _ (h) ?_| refine st ?_| (first| refine b1 ?_ ?_| refine b2 ?_ ?_| refine Br.mk ?_ ?_) <;>intro hc| exact rfl) <;>conv=>whnf)
   · rename_i q
     exact hR _ _ (by unfold qp;simp only[Bool.not_eq_true] at q hc;rw[q,hc];rfl) rfl
   · exact hN _ _ (by unfold qp;rw[hc];simp) (by(refine⟨?_,?_⟩ <;>repeat' (first| exact True.intro| refine ai ?_| refine And.intro ?_ ?_)))
   · exact hN _ _ (by unfold qp;rw[hc];rfl) (by(refine⟨?_,?_⟩ <;>repeat' (first| exact True.intro| refine ai ?_| refine And.intro ?_ ?_)))
include ha hc hd he hx hy in
theorem tl1 {Q:bd→SS→Prop} {i ig nS Cv g:Nat} {L:List V} (hL:L[i]? =some (.agg [vi x.x,vi x.y,vi y.x,vi y.y])) (hi:i< 3)
   (hR: ∀T' O',AQ x y d e a c=true→lk T' 10=some (.bool true)→Q .ret ⟨T',O'⟩)
   (hN: ∀T' O',AQ x y d e a c=false→SS.Sub ⟨[(5,.ptr 96 ig 0 0),(7,.ptr 128 nS 0 0),(13,.ptr 224 Cv 0 0),(62,.sl 1008 g 0 3),(63,aD 3),(64,aD (i+1))],
     [(96,⟨ig,2,false,false,some [a.v]⟩),(128,⟨nS,2,false,false,some [c.v]⟩),(224,⟨Cv,4,false,false,some [.agg [vi d.x,vi d.y,vi e.x,vi e.y]]⟩),(1008,⟨g,4,true,false,some L⟩)]⟩ ⟨T',O'⟩→Q .normal ⟨T',O'⟩):
   oN E CV ⟨[(5,.ptr 96 ig 0 0),(7,.ptr 128 nS 0 0),(13,.ptr 224 Cv 0 0),(62,.sl 1008 g 0 3),(63,aD 3),(64,aD i)],
     [(96,⟨ig,2,false,false,some [a.v]⟩),(128,⟨nS,2,false,false,some [c.v]⟩),(224,⟨Cv,4,false,false,some [.agg [vi d.x,vi d.y,vi e.x,vi e.y]]⟩),(1008,⟨g,4,true,false,some L⟩)]⟩ Q:=by
 have h:=vK hd he hx hy
 have h1:=DG hd he hx hy ha
 have h2:=DG hd he hx hy hc
 have hm:=AR d e x y
 clear ha hc hd he hx hy
 unfold AQ at hR hN
 generalize eC d e x y=n at*
 generalize vL d e x y a=z1 at*
 generalize vL d e x y c=z2 at*
 rcases hm with rfl| rfl| rfl
 · have hN:=fun T' O'=>hN T' O' rfl
   clear hR
   (conv=>whnf);repeat' ((first| intro g| refine aL.mk _ (hL) ?_| refine ag.mk _ (h) ?_| refine ag.mk _ (h1) ?_| refine ag.mk _ (h2) ?_| refine st ?_| (first| refine b1 ?_ ?_| refine b2 ?_ ?_| refine Br.mk ?_ ?_) <;>intro hc| exact rfl) <;>conv=>whnf)
   exact hN _ _ (by(refine⟨?_,?_⟩ <;>repeat' (first| exact True.intro| refine ai ?_| refine And.intro ?_ ?_)))
 · cases z1<;>cases z2
   · have hR:=fun T' O'=>hR T' O' rfl
     clear hN
     (conv=>whnf);repeat' ((first| intro g| refine aL.mk _ (hL) ?_| refine ag.mk _ (h) ?_| refine ag.mk _ (h1) ?_| refine ag.mk _ (h2) ?_| refine st ?_| (first| refine b1 ?_ ?_| refine b2 ?_ ?_| refine Br.mk ?_ ?_) <;>intro hc| exact rfl) <;>conv=>whnf)
     exact hR _ _ rfl
   all_goals
     have hN:=fun T' O'=>hN T' O' rfl
     clear hR
     (conv=>whnf);repeat' ((first| intro g| refine aL.mk _ (hL) ?_| refine ag.mk _ (h) ?_| refine ag.mk _ (h1) ?_| refine ag.mk _ (h2) ?_| refine st ?_| (first| refine b1 ?_ ?_| refine b2 ?_ ?_| refine Br.mk ?_ ?_) <;>intro hc| exact rfl) <;>conv=>whnf)
     exact hN _ _ (by(refine⟨?_,?_⟩ <;>repeat' (first| exact True.intro| refine ai ?_| refine And.intro ?_ ?_)))
 · have hR:=fun T' O'=>hR T' O' rfl
   clear hN
   (conv=>whnf);repeat' ((first| intro g| refine aL.mk _ (hL) ?_| refine ag.mk _ (h) ?_| refine ag.mk _ (h1) ?_| refine ag.mk _ (h2) ?_| refine st ?_| (first| refine b1 ?_ ?_| refine b2 ?_ ?_| refine Br.mk ?_ ?_) <;>intro hc| exact rfl) <;>conv=>whnf)
   exact hR _ _ rfl
end
theorem Cw (a b c d e:Pt):Ev E 553 [a.v,b.v,c.v,d.v,e.v] ⟨.bool (eL a b c d e),[]⟩:=by
 have hr:Ev E 181 [.lit 2 [a.v,b.v,c.v,d.v,e.v]] ⟨.bool (du [a,b,c,d,e]),[]⟩:=vJ (l:=[a,b,c,d,e]) (by simp)
 cases hf:du [a,b,c,d,e] with
 | false=>
   have hz:eL a b c d e=false:=by unfold eL;rw[hf];rfl
   rw[hz]
   rw[hf] at hr
   refine Ev.aG LQ (LR _) rfl ?_
   (conv=>whnf);repeat' ((first| intro g| refine ag.mk _ (hr) ?_| refine st ?_| (first| refine b1 ?_ ?_| refine b2 ?_ ?_| refine Br.mk ?_ ?_) <;>intro hc| exact rfl) <;>conv=>whnf)
 | true=>
   have hk: ∀x ∈ [a,b,c,d,e],eb x:=by simpa [du] using hf
   have ha:=hk a (by simp);have hb:=hk b (by simp);have hc:=hk c (by simp);have hd:=hk d (by simp);have he:=hk e (by simp)
   rw[hf] at hr
   have hz:eL a b c d e=(wD a b c d || (wD a b c e || (AQ a b d e a c || (AQ b c d e a c || AQ c a d e a c)))):=by unfold eL;rw[hf];rfl
   generalize eL a b c d e=Z at*
   refine Ev.aG LQ (LR _) rfl ?_
   have pR:Z=true→ ∀T' O',lk T' 10=some (V.bool true)→v9 JI.results [a.v,b.v,c.v,d.v,e.v] (fun res=>res=⟨.bool Z,[]⟩) .ret ⟨T',O'⟩:=by
     intro hZ T' O' h
     show kH [.tmp 10] [a.v,b.v,c.v,d.v,e.v] ⟨T',O'⟩ (fun res=>res=⟨.bool Z,[]⟩)
     unfold kH
     simp only[xP,h]
     rw[hZ]
     (conv=>whnf);repeat' ((first| intro g| refine st ?_| (first| refine b1 ?_ ?_| refine b2 ?_ ?_| refine Br.mk ?_ ?_) <;>intro hc| exact rfl) <;>conv=>whnf)
   (conv=>whnf);repeat' ((first| intro g| refine ag.mk _ (hr) ?_| refine st ?_| (first| refine b1 ?_ ?_| refine b2 ?_ ?_| refine Br.mk ?_ ?_) <;>intro hc| exact rfl) <;>conv=>whnf)
   rename_i ig pQ nS fp iB ac7
   clear hr hk hf
   refine aV.by (fun (i:Nat)=> ⟨[(5,.ptr 96 ig 0 0),(6,.ptr 112 pQ 0 0),(7,.ptr 128 nS 0 0),(8,.ptr 144 fp 0 0),(9,.ptr 160 iB 0 0),(28,.sl 464 g 0 2),(29,aD 2),(30,aD i)],
     [(96,⟨ig,2,false,false,some [a.v]⟩),(112,⟨pQ,2,false,false,some [b.v]⟩),(128,⟨nS,2,false,false,some [c.v]⟩),(144,⟨fp,2,false,false,some [d.v]⟩),(160,⟨iB,2,false,false,some [e.v]⟩),(464,⟨g,2,true,false,some [d.v,e.v]⟩)]⟩)
     (fun i=>i≤2∧(0 <i→wD a b c d=false)∧(1 <i→wD a b c e=false)) (fun i=>2 - i) 0 (by(refine⟨?_,?_⟩ <;>repeat' (first| exact True.intro| refine ai ?_| refine And.intro ?_ ?_))) ⟨by simp,by simp,by simp⟩ ?_
   rintro i ⟨hi,i1,i2⟩
   rcases(by omega:i=0∨i=1∨i=2) with rfl| rfl| rfl
   · exact tl0 (d:=d) (e:=e) ha hb hc hd rfl (by omega) (fun T' O' hh h=>pR (by rw[hz,hh];rfl) T' O' h) fun T' O' hh hs=>a9.mk 1 (by first| omega| (dsimp only;omega)) ⟨by simp,fun _=>hh,by simp⟩ hs
   · exact tl0 (d:=d) (e:=e) ha hb hc he rfl (by omega) (fun T' O' hh h=>pR (by rw[hz,hh];simp) T' O' h) fun T' O' hh hs=>a9.mk 2 (by first| omega| (dsimp only;omega)) ⟨by simp,fun _=>i1 (by omega),fun _=>hh⟩ hs
   have i1:=i1 (by omega)
   have i2:=i2 (by omega)
   rw[i1,i2,Bool.false_or,Bool.false_or] at hz
   clear hi i1 i2
   (conv=>whnf);repeat' ((first| intro g| refine st ?_| (first| refine b1 ?_ ?_| refine b2 ?_ ?_| refine Br.mk ?_ ?_) <;>intro hc| exact rfl) <;>conv=>whnf)
   rename_i ac8 Cv
   refine aV.by (fun (i:Nat)=> ⟨[(5,.ptr 96 ig 0 0),(7,.ptr 128 nS 0 0),(13,.ptr 224 Cv 0 0),(62,.sl 1008 g 0 3),(63,aD 3),(64,aD i)],
     [(96,⟨ig,2,false,false,some [a.v]⟩),(128,⟨nS,2,false,false,some [c.v]⟩),(224,⟨Cv,4,false,false,some [.agg [vi d.x,vi d.y,vi e.x,vi e.y]]⟩),(1008,⟨g,4,true,false,some [.agg [vi a.x,vi a.y,vi b.x,vi b.y],.agg [vi b.x,vi b.y,vi c.x,vi c.y],.agg [vi c.x,vi c.y,vi a.x,vi a.y]]⟩)]⟩)
     (fun i=>i≤3∧(0 <i→AQ a b d e a c=false)∧(1 <i→AQ b c d e a c=false)∧(2 <i→AQ c a d e a c=false)) (fun i=>3 - i) 0 (by(refine⟨?_,?_⟩ <;>repeat' (first| exact True.intro| refine ai ?_| refine And.intro ?_ ?_))) ⟨by simp,by simp,by simp,by simp⟩ ?_
   rintro i ⟨hi,i1,i2,i3⟩
   rcases(by omega:i=0∨i=1∨i=2∨i=3) with rfl| rfl| rfl| rfl
   · exact tl1 (x:=a) (y:=b) ha hc hd he ha hb rfl (by omega) (fun T' O' hh h=>pR (by rw[hz,hh];rfl) T' O' h) fun T' O' hh hs=>a9.mk 1 (by first| omega| (dsimp only;omega)) ⟨by simp,fun _=>hh,by simp,by simp⟩ hs
   · exact tl1 (x:=b) (y:=c) ha hc hd he hb hc rfl (by omega) (fun T' O' hh h=>pR (by rw[hz,hh];simp) T' O' h) fun T' O' hh hs=>a9.mk 2 (by first| omega| (dsimp only;omega)) ⟨by simp,fun _=>i1 (by omega),fun _=>hh,by simp⟩ hs
   · exact tl1 (x:=c) (y:=a) ha hc hd he hc ha rfl (by omega) (fun T' O' hh h=>pR (by rw[hz,hh];simp) T' O' h) fun T' O' hh hs=>a9.mk 3 (by first| omega| (dsimp only;omega)) ⟨by simp,fun _=>i1 (by omega),fun _=>i2 (by omega),fun _=>hh⟩ hs
   · have hZ:Z=false:=by rw[hz,i1 (by omega),i2 (by omega),i3 (by omega)];rfl
     rw[hZ]
     (conv=>whnf);repeat' ((first| intro g| refine st ?_| (first| refine b1 ?_ ?_| refine b2 ?_ ?_| refine Br.mk ?_ ?_) <;>intro hc| exact rfl) <;>conv=>whnf)
end Go.AM
set_option maxRecDepth 20000
set_option maxHeartbeats 4000000
namespace Go.AM
def pz:Pt:=⟨0,0⟩
def mz (l:List Pt):Bool:=decide (3 <l.length) &&qp (l.getD 0 pz) (l.getD (l.length - 1) pz)
def AS (l:List Pt) (i k:Nat):Bool:=decide (i=k+1) || (decide (k=0) && (decide (i=l.length - 2) &&mz l))
def lF (l:List Pt) (i k:Nat):Bool:=decide (eC (l.getD i pz) (l.getD (i+1) pz) (l.getD k pz) (l.getD (k+1) pz)≠if AS l i k=true then 1 else 0)
def Sy (l:List Pt):Prop:= ∃i,i+1 <l.length∧(qp (l.getD i pz) (l.getD (i+1) pz)=true∨ ∃k,k<i∧lF l i k=true)
open Classical in
noncomputable def pS (l:List Pt):Int:=if l.length< 2∨40 <l.length then 2 else if du l=false then 10 else if Sy l then 11 else 0
theorem tN {l:List Pt} {k:Nat} {x:Pt} (h:l[k]? =some x):l.getD k pz=x:=by simp[List.getD_eq_getElem?_getD,h]
theorem Fk {l:List Pt} (hl:l.length< 1000000):Ev E 183 [.lit 2 (l.map Pt.v)] ⟨.bool (mz l),[]⟩:=by
 unfold mz
 by_cases h3:3 <l.length
 · obtain⟨x,hx⟩: ∃x,l[0]? =some x:=⟨_,aE (by omega)⟩
   obtain⟨y,hy⟩: ∃y,l[l.length - 1]? =some y:=⟨_,aE (by omega)⟩
   have hw:IntKind.i64.wrap (((l.map Pt.v).length:Int) - 1)=((l.length - 1:Nat):Int):=by
    rw[List.length_map];exact(wrap64 (by omega) (by omega)).trans (by omega)
   rw[tN hx,tN hy,decide_eq_true h3]
   unfold qp
   refine Ev.aG LO (LP _) rfl ?_
   (conv=>whnf);repeat' ((first| intro g| refine aL.mk _ (aq hx rfl) ?_| refine aL.mk _ (aq hy hw) ?_| refine st ?_| (first| refine b1 ?_ ?_| refine b2 ?_ ?_| refine Br.mk ?_ ?_) <;>intro hc| exact rfl) <;>conv=>whnf)
   simp only[Bool.bne_false,Bool.true_and]
 · rw[decide_eq_false h3]
   refine Ev.aG LO (LP _) rfl ?_
   (conv=>whnf);repeat' ((first| intro g| refine st ?_| (first| refine b1 ?_ ?_| refine b2 ?_ ?_| refine Br.mk ?_ ?_) <;>intro hc| exact rfl) <;>conv=>whnf)
theorem Cx {l:List Pt} (hl:l.length< 1000000):Ev E 560 [.lit 2 (l.map Pt.v)] ⟨.bool (mz l),[]⟩:=by
 unfold mz
 by_cases h3:3 <l.length
 · obtain⟨x,hx⟩: ∃x,l[0]? =some x:=⟨_,aE (by omega)⟩
   obtain⟨y,hy⟩: ∃y,l[l.length - 1]? =some y:=⟨_,aE (by omega)⟩
   have hw:IntKind.i64.wrap (((l.map Pt.v).length:Int) - 1)=((l.length - 1:Nat):Int):=by
    rw[List.length_map];exact(wrap64 (by omega) (by omega)).trans (by omega)
   rw[tN hx,tN hy,decide_eq_true h3]
   unfold qp
   refine Ev.aG LV (LW _) rfl ?_
   (conv=>whnf);repeat' ((first| intro g| refine aL.mk _ (aq hx rfl) ?_| refine aL.mk _ (aq hy hw) ?_| refine st ?_| (first| refine b1 ?_ ?_| refine b2 ?_ ?_| refine Br.mk ?_ ?_) <;>intro hc| exact rfl) <;>conv=>whnf)
   simp only[Bool.bne_false,Bool.true_and]
 · rw[decide_eq_false h3]
   refine Ev.aG LV (LW _) rfl ?_
   (conv=>whnf);repeat' ((first| intro g| refine st ?_| (first| refine b1 ?_ ?_| refine b2 ?_ ?_| refine Br.mk ?_ ?_) <;>intro hc| exact rfl) <;>conv=>whnf)
end Go.AM
set_option maxRecDepth 20000
set_option maxHeartbeats 4000000
namespace Go.AM
theorem j7: ∀ (ps:List Pt) (i k:Nat),(jn i (ps.map Pt.v))[k]? =match ps[k]?,ps[k+1]? with
   | some p,some q=>some [.int .i64 ((i+k:Nat):Int),.agg [vi p.x,vi p.y,vi q.x,vi q.y]]
   | _,_=>none
 | [],i,k=>by simp[jn]
 | [p],i,k=>by cases k<;>simp[jn]
 | p::q::r,i,0=>by simp[jn,Pt.v,V.cells]
 | p::q::r,i,k+1=>by
   have ih:=j7 (q::r) (i+1) k
   simp only[List.map_cons,jn,List.getElem?_cons_succ] at ih ⊢
   rw[ih]
   have:i+1+k=i+(k+1):=by omega
   rw[this]
theorem vM: ∀ (ps:List V) (i:Nat),∀x ∈ jn i ps,x.length=2
 | [],i,x,h=>by simp[jn] at h
 | [p],i,x,h=>by simp[jn] at h
 | p::q::r,i,x,h=>by
   rw[jn] at h
   rcases List.mem_cons.1 h with rfl| h
   · rfl
   · exact vM (q::r) (i+1) x h
theorem tD (l:List Pt):Ev E 182 [dJ l] ⟨.fn 221 [.eptr (dJ l) 0],[]⟩:=by
 refine Ev.aG UT (UU _) rfl ?_
 (conv=>whnf);repeat' ((first| intro g| refine st ?_| (first| refine b1 ?_ ?_| refine b2 ?_ ?_| refine Br.mk ?_ ?_) <;>intro hc| exact rfl) <;>conv=>whnf)
theorem AT {l:List Pt} (hl:l.length< 1000000):E.iter 221 [(dJ l).eptr 0]=some (jn 0 (l.map Pt.v)):=by
 show (if (l.map Pt.v).length< 4611686018427387904 then some (jn 0 (l.map Pt.v)) else none)=_
 rw[if_pos (by simp;omega)]
theorem DH {l:List Pt} {i:Nat} (h:i+1 <l.length):i< (jn 0 (l.map Pt.v)).length:=by
 have:=j7 l 0 i
 rw[aE (show i<l.length by omega),aE h] at this
 exact(List.getElem?_eq_some_iff.1 this).1
structure Two (p q:Prop):Prop where
 a:p
 b:q
def DI (l:List Pt) (i:Nat):Prop:=qp (l.getD i pz) (l.getD (i+1) pz)=false∧ ∀k,k<i→lF l i k=false
theorem Is (l:List Pt) (hl:l.length< 1000000):Ev E 144 [dJ l] ⟨vi (pS l),[]⟩:=by
 classical
 have hr:Ev E 181 [dJ l] ⟨.bool (du l),[]⟩:=vJ (by omega)
 have It:=tD l
 have qT:=Fk hl
 unfold pS
 by_cases hlen:l.length< 2∨40 <l.length
 · rw[if_pos hlen]
   refine Ev.aG Gz (GA _) rfl ?_
   (conv=>whnf);repeat' ((first| intro g| refine ag.mk _ (hr) ?_| refine ag.mk _ (It) ?_| refine st ?_| (first| refine b1 ?_ ?_| refine b2 ?_ ?_| refine Br.mk ?_ ?_) <;>intro hc| exact rfl) <;>conv=>whnf)
   all_goals (exfalso;simp only[List.length_map] at*;omega)
 rw[if_neg hlen]
 have MT:2≤l.length∧l.length≤40:=by omega
 clear hlen
 cases hf:du l with
 | false=>
   rw[hf] at hr
   rw[if_pos rfl]
   refine Ev.aG Gz (GA _) rfl ?_
   (conv=>whnf);repeat' ((first| intro g| refine ag.mk _ (hr) ?_| refine ag.mk _ (It) ?_| refine st ?_| (first| refine b1 ?_ ?_| refine b2 ?_ ?_| refine Br.mk ?_ ?_) <;>intro hc| exact rfl) <;>conv=>whnf)
 | true=>
 rw[hf] at hr
 rw[if_neg (by simp)]
 have hk: ∀p ∈ l,eb p:=by simpa [du] using hf
 obtain⟨Z,hZ⟩: ∃Z:Int,Z=if Sy l then 11 else 0:=⟨_,rfl⟩
 have zb:Sy l→Z=11:=fun h=>by rw[hZ,if_pos h]
 have zg: ¬Sy l→Z=0:=fun h=>by rw[hZ,if_neg h]
 rw[←hZ]
 clear hZ hf
 refine Ev.aG Gz (GA _) rfl ?_
 (conv=>whnf);repeat' ((first| intro g| refine ag.mk _ (hr) ?_| refine ag.mk _ (It) ?_| refine st ?_| (first| refine b1 ?_ ?_| refine b2 ?_ ?_| refine Br.mk ?_ ?_) <;>intro hc| exact rfl) <;>conv=>whnf)
 rename_i yf mC
 have hz:IntKind.i64.wrap (((l.map Pt.v).length:Int) - 2)=((l.length - 2:Nat):Int):=by
   rw[List.length_map];exact(wrap64 (by omega) (by omega)).trans (by omega)
 rw[hz]
 clear hz
 refine rT.by (jn 0 (l.map Pt.v)) rfl (AT hl) (fun x hx=>vM _ _ x hx) (fun (_:Unit)=> [(32,⟨yf,1,false,false,some [dJ l]⟩),(64,⟨mC,1,false,false,some [vi 0]⟩),(80,⟨g,1,false,false,some [aD (l.length - 2)]⟩)]) (fun k a=> ∀i,i<k→DI l i) () (by(repeat' (first| exact True.intro| refine ai ?_| refine And.intro ?_ ?_))) (by intro i hi;omega) ?_ ?_
 · rintro k x u hx hP
   rw[j7] at hx
   cases hp:l[k]? with
   | none=>rw[hp] at hx;cases hx
   | some p=>
   cases hq:l[k+1]? with
   | none=>rw[hp,hq] at hx;cases hx
   | some q=>
   rw[hp,hq] at hx
   injection hx with hx;subst hx
   have Ls:=(List.getElem?_eq_some_iff.1 hq).1
   have okp:=hk p (List.mem_of_getElem? hp)
   have okq:=hk q (List.mem_of_getElem? hq)
   have hw:IntKind.i64.wrap (((0+k:Nat):Int)+1)=((k+1:Nat):Int):=(wrap64 (by omega) (by omega)).trans (by omega)
   have Iu:Ev E 182 [V.lit 2 (aN (l.map Pt.v) 0 ((IntKind.i64.wrap (((0+k:Nat):Int)+1)).toNat - 0))] ⟨.fn 221 [.eptr (dJ (l.take (k+1))) 0],[]⟩:=by
     rw[hw]
     have e:aN (l.map Pt.v) 0 (((k+1:Nat):Int).toNat - 0)=(l.take (k+1)).map Pt.v:=by
       simp[aN,List.map_take]
     rw[e];exact tD _
   have I2: (l.take (k+1)).length< 1000000:=by simp;omega
   have gp:=tN hp
   have gq:=tN hq
   cases e1:qp p q with
   | true=>
     have hb:=zb ⟨k,Ls,.inl (by rw[gp,gq];exact e1)⟩
     unfold qp at e1
     clear hP zg zb Iu I2 hr It
     rw[hb]
     (conv=>whnf);repeat' ((first| intro g| refine st ?_| (first| refine b1 ?_ ?_| refine b2 ?_ ?_| refine Br.mk ?_ ?_) <;>intro hc| exact rfl) <;>conv=>whnf)
     rw[e1] at hc;cases hc
   | false=>
   have cP: ∀ (h: ∀j,j<k→lF l k j=false),∀i,i<k+1→DI l i:=fun h i hi=>by
     by_cases e:i=k
     · subst e;exact⟨by rw[gp,gq];exact e1,h⟩
     · exact hP i (by omega)
   unfold qp at e1
   clear It hr
   (conv=>whnf);repeat' ((first| intro g| refine ag.mk _ (Iu) ?_| refine st ?_| (first| refine b1 ?_ ?_| refine b2 ?_ ?_| refine Br.mk ?_ ?_) <;>intro hc| exact rfl) <;>conv=>whnf)
   rename_i D6 ig
   refine rT.by (jn 0 ((l.take (k+1)).map Pt.v)) rfl (AT I2) (fun x hx=>vM _ _ x hx) (fun (_:Unit)=> [(32,⟨yf,1,false,false,some [dJ l]⟩),(64,⟨mC,1,false,false,some [vi 0]⟩),(80,⟨D6,1,false,false,some [aD (l.length - 2)]⟩),
     (96,⟨ig,1,false,false,some [vi ((0+k:Nat):Int)]⟩),(112,⟨g,4,false,false,some [.agg [vi p.x,vi p.y,vi q.x,vi q.y]]⟩)]) (fun k2 a=> ∀j,j<k2→lF l k j=false) () (by(repeat' (first| exact True.intro| refine ai ?_| refine And.intro ?_ ?_))) (by intro i hi;omega) ?_ ?_
   · rintro k2 x2 u2 Fl Fm
     rw[j7] at Fl
     cases uM: (l.take (k+1))[k2]? with
     | none=>rw[uM] at Fl;cases Fl
     | some p2=>
     cases w6: (l.take (k+1))[k2+1]? with
     | none=>rw[uM,w6] at Fl;cases Fl
     | some q2=>
     rw[uM,w6] at Fl
     injection Fl with Fl;subst Fl
     have Em:k2<k:=by have:=(List.getElem?_eq_some_iff.1 w6).1;simp at this;omega
     rw[List.getElem?_take_of_lt (by omega)] at uM w6
     have hm:=vK okp okq (hk p2 (List.mem_of_getElem? uM)) (hk q2 (List.mem_of_getElem? w6))
     have zn:IntKind.i64.wrap (((0+k2:Nat):Int)+1)=((k2+1:Nat):Int):=(wrap64 (by omega) (by omega)).trans (by omega)
     have Fo:lF l k k2=decide (eC p q p2 q2≠if AS l k k2=true then 1 else 0):=by unfold lF;rw[gp,gq,tN uM,tN w6]
     have DJ:lF l k k2=false→ ∀j,j<k2+1→lF l k j=false:=fun h j hj=>by
       by_cases e:j=k2
       · subst e;exact h
       · exact Fm j (by omega)
     have DK:lF l k k2=true→Z=11:=fun h=>zb ⟨k,Ls,.inr ⟨k2,Em,h⟩⟩
     rw[Fo] at DJ DK
     clear Fo Fm cP Iu hP I2 zb zg uM w6 e1 hp hq gp gq hw okp okq
     unfold AS at DJ DK
     generalize eC p q p2 q2=n at*
     generalize mz l=C at*
     have tw:=Two.mk DJ DK
     clear DJ DK hk MT Ls Em
     dsimp only[wH,SS.put]
     (conv=>whnf);repeat' ((first| intro g| refine ag.mk _ (qT) ?_| refine ag.mk _ (hm) ?_| refine st ?_| (first| refine b1 ?_ ?_| refine b2 ?_ ?_| refine Br.mk ?_ ?_) <;>intro hc| exact rfl) <;>conv=>whnf)
     · rw[tw.b (by rw[decide_eq_true (show k=k2+1 by omega)];simp[hc])]
     · exact zc.mk () (tw.a (by rw[decide_eq_true (show k=k2+1 by omega)];simp[hc])) (by(repeat' (first| exact True.intro| refine ai ?_| refine And.intro ?_ ?_)))
     · rename_i q1 q2 q3 q4
       rw[tw.b (by rw[decide_eq_false (show ¬k=k2+1 by omega),decide_eq_true (show k2=0 by omega),decide_eq_true (show k=l.length - 2 by omega),q4];simp[hc])]
     · rename_i q1 q2 q3 q4
       exact zc.mk () (tw.a (by rw[decide_eq_false (show ¬k=k2+1 by omega),decide_eq_true (show k2=0 by omega),decide_eq_true (show k=l.length - 2 by omega),q4];simp[hc])) (by(repeat' (first| exact True.intro| refine ai ?_| refine And.intro ?_ ?_)))
     · rename_i q1 q2 q3 q4
       rw[tw.b (by rw[decide_eq_false (show ¬k=k2+1 by omega),decide_eq_true (show k2=0 by omega),decide_eq_true (show k=l.length - 2 by omega),q4];simp[hc])]
     · rename_i q1 q2 q3 q4
       exact zc.mk () (tw.a (by rw[decide_eq_false (show ¬k=k2+1 by omega),decide_eq_true (show k2=0 by omega),decide_eq_true (show k=l.length - 2 by omega),q4];simp[hc])) (by(repeat' (first| exact True.intro| refine ai ?_| refine And.intro ?_ ?_)))
     · rw[tw.b (by rw[decide_eq_false (show ¬k=k2+1 by omega),decide_eq_true (show k2=0 by omega),decide_eq_false (show ¬k=l.length - 2 by omega)];simp[hc])]
     · exact zc.mk () (tw.a (by rw[decide_eq_false (show ¬k=k2+1 by omega),decide_eq_true (show k2=0 by omega),decide_eq_false (show ¬k=l.length - 2 by omega)];simp[hc])) (by(repeat' (first| exact True.intro| refine ai ?_| refine And.intro ?_ ?_)))
     · rw[tw.b (by rw[decide_eq_false (show ¬k=k2+1 by omega),decide_eq_false (show ¬k2=0 by omega)];simp[hc])]
     · exact zc.mk () (tw.a (by rw[decide_eq_false (show ¬k=k2+1 by omega),decide_eq_false (show ¬k2=0 by omega)];simp[hc])) (by(repeat' (first| exact True.intro| refine ai ?_| refine And.intro ?_ ?_)))
   · rintro _ Fm
     (conv=>whnf);repeat' ((first| intro g| refine st ?_| (first| refine b1 ?_ ?_| refine b2 ?_ ?_| refine Br.mk ?_ ?_) <;>intro hc| exact rfl) <;>conv=>whnf)
     exact zc.mk () (cP fun j hj=>Fm j (DH (by simp;omega))) (by(repeat' (first| exact True.intro| refine ai ?_| refine And.intro ?_ ?_)))
 · rintro _ hP
   have hb:=zg fun ⟨i,hi,h⟩=>by
     have cP:=hP i (DH hi)
     rcases h with h| ⟨j,hj,h⟩
     · rw[cP.1] at h;cases h
     · rw[cP.2 j hj] at h;cases h
   rw[hb]
   (conv=>whnf);repeat' ((first| intro g| refine st ?_| (first| refine b1 ?_ ?_| refine b2 ?_ ?_| refine Br.mk ?_ ?_) <;>intro hc| exact rfl) <;>conv=>whnf)
end Go.AM
