/-
  Texts of the proof, joined by program: DcR, DcS1, DcS2, DcS3, DcS4. Own work.
-/
import Derived.Test.YtkdfnbahehdhmaaGreatXa
set_option linter.unusedSimpArgs false
set_option linter.unusedVariables false
set_option maxRecDepth 20000
set_option maxHeartbeats 4000000
namespace Go.AM
theorem Fq (p:Pt):Ev E 575 [p.v] ⟨.bool (decide (eb p)),[]⟩:=by
 have h1:=gl p.x (-16384) 16384
 have h2:=gl p.y (-16384) 16384
 unfold eb
 by_cases h: -16384≤p.x∧p.x≤16384
 · rw[decide_eq_true h] at h1
   refine Ev.aG LX (LY _) rfl ?_
   simp only[h,true_and,and_self]
   (conv=>whnf);repeat' ((first| intro g| refine ag.mk _ (h1) ?_| refine ag.mk _ (h2) ?_| refine st ?_| (first| refine b1 ?_ ?_| refine b2 ?_ ?_| refine Br.mk ?_ ?_) <;>intro hc| exact rfl) <;>conv=>whnf)
 · rw[decide_eq_false h] at h1
   refine Ev.aG LX (LY _) rfl ?_
   simp only[h,false_and]
   (conv=>whnf);repeat' ((first| intro g| refine ag.mk _ (h1) ?_| refine ag.mk _ (h2) ?_| refine st ?_| (first| refine b1 ?_ ?_| refine b2 ?_ ?_| refine Br.mk ?_ ?_) <;>intro hc| exact rfl) <;>conv=>whnf)
theorem bF {p:Pt} (hp:eb p):Ev E 576 [p.v] ⟨.bool true,[]⟩:=by
 have h1:=gl p.x (-1152921504606846976) 1152921504606846976
 have h2:=gl p.y (-1152921504606846976) 1152921504606846976
 unfold eb at hp
 rw[decide_eq_true (by omega)] at h1 h2
 refine Ev.aG VO (VP _) rfl ?_
 (conv=>whnf);repeat' ((first| intro g| refine ag.mk _ (h1) ?_| refine ag.mk _ (h2) ?_| refine st ?_| (first| refine b1 ?_ ?_| refine b2 ?_ ?_| refine Br.mk ?_ ?_) <;>intro hc| exact rfl) <;>conv=>whnf)
theorem yR (a b:Pt):Ev E 161 [a.v,b.v] ⟨(Pt.mk (wb (a.x - b.x)) (wb (a.y - b.y))).v,[]⟩:=by
 refine Ev.aG LI (LJ _) rfl ?_
 (conv=>whnf);repeat' ((first| intro g| refine st ?_| (first| refine b1 ?_ ?_| refine b2 ?_ ?_| refine Br.mk ?_ ?_) <;>intro hc| exact rfl) <;>conv=>whnf)
theorem rz (a b:Pt):Ev E 580 [a.v,b.v] ⟨.bool (decide (lx a b)),[]⟩:=by
 unfold lx
 refine Ev.aG VS (VT _) rfl ?_
 (conv=>whnf);repeat' ((first| intro g| refine st ?_| (first| refine b1 ?_ ?_| refine b2 ?_ ?_| refine Br.mk ?_ ?_) <;>intro hc| exact rfl) <;>conv=>whnf)
 all_goals simp[*]
theorem tE (a b:Pt):Ev E 579 [a.v,b.v] ⟨.tuple [(pg a b).v,(mR a b).v],[]⟩:=by
 have h:=rz b a
 unfold pg mR
 by_cases hl:lx b a
 · rw[decide_eq_true hl] at h
   rw[if_pos hl,if_pos hl]
   refine Ev.aG LZ (L0 _) rfl ?_
   (conv=>whnf);repeat' ((first| intro g| refine ag.mk _ (h) ?_| refine st ?_| (first| refine b1 ?_ ?_| refine b2 ?_ ?_| refine Br.mk ?_ ?_) <;>intro hc| exact rfl) <;>conv=>whnf)
 · rw[decide_eq_false hl] at h
   rw[if_neg hl,if_neg hl]
   refine Ev.aG LZ (L0 _) rfl ?_
   (conv=>whnf);repeat' ((first| intro g| refine ag.mk _ (h) ?_| refine st ?_| (first| refine b1 ?_ ?_| refine b2 ?_ ?_| refine Br.mk ?_ ?_) <;>intro hc| exact rfl) <;>conv=>whnf)
section
variable {a b c d p:Pt} (ha:eb a) (hb:eb b) (hc:eb c) (hd:eb d) (hp:eb p)
include ha hb in
theorem AU:Ev E 161 [a.v,b.v] ⟨(Pt.mk (a.x - b.x) (a.y - b.y)).v,[]⟩:=by
 have h:=yR a b
 unfold eb at ha hb
 rwa [uD (by omega) (by omega),uD (by omega) (by omega)] at h
include ha hb hp in
theorem cF:Ev E 577 [a.v,b.v,p.v] ⟨vi (dL a b p),[]⟩:=by
 have b1:=bF ha
 have b2:=bF hb
 have b3:=bF hp
 have s1:=AU hb ha
 have s2:=AU hp ha
 unfold eb at ha hb hp
 have hs:=Fh (a:=b.x - a.x) (b:=p.y - a.y) (c:=b.y - a.y) (d:=p.x - a.x) (by omega) (by omega) (by omega) (by omega) (by omega) (by omega) (by omega) (by omega)
 refine Ev.aG VQ (VR _) rfl ?_
 (conv=>whnf);repeat' ((first| intro g| refine ag.mk _ (b1) ?_| refine ag.mk _ (b2) ?_| refine ag.mk _ (b3) ?_| refine ag.mk _ (s1) ?_| refine ag.mk _ (s2) ?_| refine ag.mk _ (hs) ?_| refine st ?_| (first| refine b1 ?_ ?_| refine b2 ?_ ?_| refine Br.mk ?_ ?_) <;>intro hc| exact rfl) <;>conv=>whnf)
include ha hb hp in
theorem pT:Ev E 578 [a.v,b.v,p.v] ⟨.bool (vG a b p),[]⟩:=by
 have b1:=bF ha
 have b2:=bF hb
 have b3:=bF hp
 have s:=cF ha hb hp
 have h1:=gl p.x (if b.x<a.x then b.x else a.x) (if a.x<b.x then b.x else a.x)
 have h2:=gl p.y (if b.y<a.y then b.y else a.y) (if a.y<b.y then b.y else a.y)
 unfold vG
 by_cases k1: (if b.x<a.x then b.x else a.x)≤p.x∧p.x≤(if a.x<b.x then b.x else a.x)
 · rw[decide_eq_true k1] at h1
   by_cases k2: (if b.y<a.y then b.y else a.y)≤p.y∧p.y≤(if a.y<b.y then b.y else a.y)
   · rw[decide_eq_true k2] at h2
     have hx:pP a b p:=by unfold pP;omega
     simp only[hx,true_and]
     refine Ev.aG GG (GH _) rfl ?_
     (conv=>whnf);repeat' ((first| intro g| refine ag.mk _ (b1) ?_| refine ag.mk _ (b2) ?_| refine ag.mk _ (b3) ?_| refine ag.mk _ (s) ?_| refine ag.mk _ (h1) ?_| refine ag.mk _ (h2) ?_| refine st ?_| (first| refine b1 ?_ ?_| refine b2 ?_ ?_| refine Br.mk ?_ ?_) <;>intro hc| exact rfl) <;>conv=>whnf)
   · rw[decide_eq_false k2] at h2
     have hx: ¬pP a b p:=by unfold pP;omega
     simp only[hx,false_and]
     refine Ev.aG GG (GH _) rfl ?_
     (conv=>whnf);repeat' ((first| intro g| refine ag.mk _ (b1) ?_| refine ag.mk _ (b2) ?_| refine ag.mk _ (b3) ?_| refine ag.mk _ (s) ?_| refine ag.mk _ (h1) ?_| refine ag.mk _ (h2) ?_| refine st ?_| (first| refine b1 ?_ ?_| refine b2 ?_ ?_| refine Br.mk ?_ ?_) <;>intro hc| exact rfl) <;>conv=>whnf)
 · rw[decide_eq_false k1] at h1
   have hx: ¬pP a b p:=by unfold pP;omega
   simp only[hx,false_and]
   refine Ev.aG GG (GH _) rfl ?_
   (conv=>whnf);repeat' ((first| intro g| refine ag.mk _ (b1) ?_| refine ag.mk _ (b2) ?_| refine ag.mk _ (b3) ?_| refine ag.mk _ (s) ?_| refine ag.mk _ (h1) ?_| refine ag.mk _ (h2) ?_| refine st ?_| (first| refine b1 ?_ ?_| refine b2 ?_ ?_| refine Br.mk ?_ ?_) <;>intro hc| exact rfl) <;>conv=>whnf)
end
end Go.AM
set_option maxRecDepth 20000
set_option maxHeartbeats 4000000
namespace Go.AM
section
variable {T F:Pt}
theorem acK (h:decide (lx T F)=true): (⟨.int .i64 0,[]⟩:fL)=⟨vi (if lx T F then 0 else if T=F then 1 else 2),[]⟩:=by rw[if_pos (of_decide_eq_true h)]
theorem acL (h:decide (lx T F)=false) (k: ((T.x==F.x && (T.y==F.y &&true)) !=false)=true): (⟨.int .i64 1,[]⟩:fL)=⟨vi (if lx T F then 0 else if T=F then 1 else 2),[]⟩:=by
 simp only[Bool.bne_false,Bool.and_true,Bool.and_eq_true,beq_iff_eq] at k
 rw[if_neg (of_decide_eq_false h),if_pos (yP k.1 k.2)]
theorem acM (h:decide (lx T F)=false) (k: ((T.x==F.x && (T.y==F.y &&true)) !=false)=false): (⟨.int .i64 2,[]⟩:fL)=⟨vi (if lx T F then 0 else if T=F then 1 else 2),[]⟩:=by
 rw[if_neg (of_decide_eq_false h),if_neg fun e=>by rw[e] at k;simp at k]
end
section
variable {a b c d p:Pt} (ha:eb a) (hb:eb b) (hc:eb c) (hd:eb d) (hp:eb p)
include ha hb hc hd in
theorem Cy (hf:jm a b c d):Ev E 561 [a.v,b.v,c.v,d.v] ⟨vi (if lx (toP a b c d) (iW a b c d) then 0 else if toP a b c d=iW a b c d then 1 else 2),[]⟩:=by
 have b1:=bF ha
 have b2:=bF hb
 have b3:=bF hc
 have b4:=bF hd
 have s1:=cF ha hb hc
 have s2:=cF ha hb hd
 have s3:=cF hc hd ha
 have s4:=cF hc hd hb
 obtain⟨f1,f2,f3,f4⟩:=hf
 rw[f1] at s1;rw[f2] at s2;rw[f3] at s3;rw[f4] at s4
 have o1:=tE a b
 have o2:=tE c d
 have l1:=rz (pg a b) (pg c d)
 have l2:=rz (mR c d) (mR a b)
 have l3:=rz (toP a b c d) (iW a b c d)
 clear ha hb hc hd f1 f2 f3 f4
 unfold toP iW at*
 generalize pg a b=A at*
 generalize pg c d=B at*
 generalize mR a b=C at*
 generalize mR c d=D at*
 by_cases k1:lx A B<;>by_cases k2:lx D C
 all_goals
  simp only[k1,k2,if_true,if_false,decide_true,decide_false] at l1 l2 l3 ⊢
  clear k1 k2
  refine Ev.aG CX (CY _) rfl ?_
  (conv=>whnf);repeat' ((first| intro g| refine ag.mk _ (b1) ?_| refine ag.mk _ (b2) ?_| refine ag.mk _ (b3) ?_| refine ag.mk _ (b4) ?_| refine ag.mk _ (s1) ?_| refine ag.mk _ (s2) ?_| refine ag.mk _ (s3) ?_| refine ag.mk _ (s4) ?_| refine ag.mk _ (o1) ?_| refine ag.mk _ (o2) ?_| refine ag.mk _ (l1) ?_| refine ag.mk _ (l2) ?_| refine ag.mk _ (l3) ?_| refine st ?_| (first| refine b1 ?_ ?_| refine b2 ?_ ?_| refine Br.mk ?_ ?_) <;>intro hc| exact rfl) <;>conv=>whnf)
  · exact acK hc
  · rename_i q;exact acL q hc
  · rename_i q;exact acM q hc
end
end Go.AM
set_option maxRecDepth 20000
set_option maxHeartbeats 4000000
namespace Go.AM
section
variable {a b c d p:Pt} (ha:eb a) (hb:eb b) (hc:eb c) (hd:eb d) (hp:eb p)
include ha hb hc hd in
theorem Lc (hf: ¬jm a b c d) (h1:0 <IntKind.i64.wrap (dL a b c*dL a b d)):Ev E 561 [a.v,b.v,c.v,d.v] ⟨vi 0,[]⟩:=by
 have b1:=bF ha
 have b2:=bF hb
 have b3:=bF hc
 have b4:=bF hd
 have s1:=cF ha hb hc
 have s2:=cF ha hb hd
 have s3:=cF hc hd ha
 have s4:=cF hc hd hb
 clear ha hb hc hd
 refine Ev.aG CX (CY _) rfl ?_
 (conv=>whnf);repeat' ((first| intro g| refine ag.mk _ (b1) ?_| refine ag.mk _ (b2) ?_| refine ag.mk _ (b3) ?_| refine ag.mk _ (b4) ?_| refine ag.mk _ (s1) ?_| refine ag.mk _ (s2) ?_| refine ag.mk _ (s3) ?_| refine ag.mk _ (s4) ?_| refine st ?_| (first| refine b1 ?_ ?_| refine b2 ?_ ?_| refine Br.mk ?_ ?_) <;>intro hc| exact rfl) <;>conv=>whnf)
 clear b1 b2 b3 b4 s1 s2 s3 s4
 exfalso
 simp only[decide_eq_true_eq,Bool.not_eq_false'] at*
 exact hf ⟨by assumption,by assumption,by assumption,by assumption⟩
include ha hb hc hd in
theorem Ld (hf: ¬jm a b c d) (h1: ¬0 <IntKind.i64.wrap (dL a b c*dL a b d)) (h2:0 <IntKind.i64.wrap (dL c d a*dL c d b)):Ev E 561 [a.v,b.v,c.v,d.v] ⟨vi 0,[]⟩:=by
 have b1:=bF ha
 have b2:=bF hb
 have b3:=bF hc
 have b4:=bF hd
 have s1:=cF ha hb hc
 have s2:=cF ha hb hd
 have s3:=cF hc hd ha
 have s4:=cF hc hd hb
 clear ha hb hc hd
 refine Ev.aG CX (CY _) rfl ?_
 (conv=>whnf);repeat' ((first| intro g| refine ag.mk _ (b1) ?_| refine ag.mk _ (b2) ?_| refine ag.mk _ (b3) ?_| refine ag.mk _ (b4) ?_| refine ag.mk _ (s1) ?_| refine ag.mk _ (s2) ?_| refine ag.mk _ (s3) ?_| refine ag.mk _ (s4) ?_| refine st ?_| (first| refine b1 ?_ ?_| refine b2 ?_ ?_| refine Br.mk ?_ ?_) <;>intro hc| exact rfl) <;>conv=>whnf)
 clear b1 b2 b3 b4 s1 s2 s3 s4
 exfalso
 simp only[decide_eq_true_eq,Bool.not_eq_false'] at*
 exact hf ⟨by assumption,by assumption,by assumption,by assumption⟩
end
end Go.AM
set_option maxRecDepth 20000
set_option maxHeartbeats 4000000
namespace Go.AM
section
variable {a b c d p:Pt} (ha:eb a) (hb:eb b) (hc:eb c) (hd:eb d) (hp:eb p)
include ha hb hc hd in
theorem Lf (hf: ¬jm a b c d) (h1: ¬0 <IntKind.i64.wrap (dL a b c*dL a b d)) (h2: ¬0 <IntKind.i64.wrap (dL c d a*dL c d b)) (n1: (a.x==b.x && (a.y==b.y &&true))=false) (n2: (c.x==d.x && (c.y==d.y &&true))=false):Ev E 561 [a.v,b.v,c.v,d.v] ⟨vi 1,[]⟩:=by
 have b1:=bF ha
 have b2:=bF hb
 have b3:=bF hc
 have b4:=bF hd
 have s1:=cF ha hb hc
 have s2:=cF ha hb hd
 have s3:=cF hc hd ha
 have s4:=cF hc hd hb
 clear ha hb hc hd
 refine Ev.aG CX (CY _) rfl ?_
 (conv=>whnf);repeat' ((first| intro g| refine ag.mk _ (b1) ?_| refine ag.mk _ (b2) ?_| refine ag.mk _ (b3) ?_| refine ag.mk _ (b4) ?_| refine ag.mk _ (s1) ?_| refine ag.mk _ (s2) ?_| refine ag.mk _ (s3) ?_| refine ag.mk _ (s4) ?_| refine st ?_| (first| refine b1 ?_ ?_| refine b2 ?_ ?_| refine Br.mk ?_ ?_) <;>intro hc| exact rfl) <;>conv=>whnf)
 clear b1 b2 b3 b4 s1 s2 s3 s4
 exfalso
 simp only[decide_eq_true_eq,Bool.not_eq_false'] at*
 exact hf ⟨by assumption,by assumption,by assumption,by assumption⟩
end
end Go.AM
set_option maxRecDepth 20000
set_option maxHeartbeats 4000000
namespace Go.AM
theorem Iv {a b p:Pt} (h:dL a b p≠0):0 <dL a b p*dL a b p:=by
 have:=cV (yO a b p)
 unfold dL at*
 rcases this with⟨e,_⟩ | ⟨e,_⟩ | ⟨e,_⟩
 · rw[e];decide
 · exact absurd e h
 · rw[e];decide
theorem Sz {a b c d:Pt} (hf: ¬jm a b c d) (h1: ¬0 <dL a b c*dL a b d) (h2: ¬0 <dL c d a*dL c d b):a≠b∧c≠d:=by
 constructor
 · rintro rfl
   by_cases h:dL c d a=0
   · exact hf ⟨sq _ _,sq _ _,h,h⟩
   · exact h2 (Iv h)
 · rintro rfl
   by_cases h:dL a b c=0
   · exact hf ⟨h,h,sq _ _,sq _ _⟩
   · exact h1 (Iv h)
theorem Iw {a b:Pt} (h:a≠b): (a.x==b.x && (a.y==b.y &&true))=false:=by
 rw[Bool.eq_false_iff]
 intro k
 simp only[Bool.and_true,Bool.and_eq_true,beq_iff_eq] at k
 exact h (yP k.1 k.2)
section
variable {a b c d p:Pt} (ha:eb a) (hb:eb b) (hc:eb c) (hd:eb d) (hp:eb p)
include ha hb hc hd in
theorem AV:Ev E 561 [a.v,b.v,c.v,d.v] ⟨vi (eC a b c d),[]⟩:=by
 have w1:IntKind.i64.wrap (dL a b c*dL a b d)=dL a b c*dL a b d:=by unfold dL;rw[tB,rq]
 have w2:IntKind.i64.wrap (dL c d a*dL c d b)=dL c d a*dL c d b:=by unfold dL;rw[tB,rq]
 unfold eC
 by_cases hf:jm a b c d
 · rw[if_pos hf]
   exact Cy ha hb hc hd hf
 · rw[ if_neg hf]
   by_cases h1:0 <dL a b c*dL a b d
   · rw[if_pos (.inl h1)]
     exact Lc ha hb hc hd hf (by rw[w1];exact h1)
   · by_cases h2:0 <dL c d a*dL c d b
     · rw[if_pos (.inr h2)]
       exact Ld ha hb hc hd hf (by rw[w1];exact h1) (by rw[w2];exact h2)
     · obtain⟨n1,n2⟩:=Sz hf h1 h2
       rw[if_neg (by omega)]
       exact Lf ha hb hc hd hf (by rw[w1];exact h1) (by rw[w2];exact h2) (Iw n1) (Iw n2)
end
end Go.AM
