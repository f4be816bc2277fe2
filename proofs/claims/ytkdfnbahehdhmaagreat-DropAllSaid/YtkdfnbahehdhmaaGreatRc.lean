/-
  Texts of the proof, joined by program: SortF. Own work.
-/
import Derived.Test.YtkdfnbahehdhmaaGreatRa
set_option linter.unusedSimpArgs false
set_option linter.unusedVariables false
set_option maxRecDepth 20000
namespace Go.AM
structure afm (c:Event→Event→Int) (L:List Event) (a b i j:Nat):Prop where
 ai:a+1≤i
 afn:i≤j+1
 afo:j+1≤b
 lo: ∀p,a<p→p<i→c (at0 L p) (at0 L a) < 0
 hi: ∀q,j<q→q<b→ ¬c (at0 L q) (at0 L a) < 0
section
variable {c:Event→Event→Int} {g:Nat} {L:List Event} {a b i j:Nat}
theorem afm.aiw (h:afm c L a b i j) (hij:i≤j) (hc:c (at0 L i) (at0 L a) < 0):afm c L a b (i+1) j:=
 ⟨by have:=h.ai;omega,by omega,h.afo,fun p h1 h2=>by
   by_cases e:p=i
   · subst e;exact hc
   · exact h.lo p h1 (by omega),h.hi⟩
theorem afm.aix (h:afm c L a b i j) (hij:i≤j) (hc: ¬c (at0 L j) (at0 L a) < 0):afm c L a b i (j - 1):=
 ⟨h.ai,by omega,by have:=h.afo;omega,h.lo,fun q h1 h2=>by
   have:=h.ai
   by_cases e:q=j
   · subst e;exact hc
   · exact h.hi q (by omega) h2⟩
theorem afm.swap (h:afm c L a b i j) (hb:b≤L.length) (hij:i≤j) (h1: ¬c (at0 L i) (at0 L a) < 0) (h2:c (at0 L j) (at0 L a) < 0):i<j∧afm c (swp L i j) a b (i+1) (j - 1):=by
 have c7:i<j:=by
   by_cases e:i=j
   · subst e;exact absurd h2 h1
   · omega
 have:=h.ai;have:=h.afo
 have e:=fun k=>afM (L:=L) (i:=i) (j:=j) (k:=k) (by omega) (by omega)
 have ea:at0 (swp L i j) a=at0 L a:=by rw[e,if_neg (by omega),if_neg (by omega)]
 refine⟨c7,by omega,by omega,by omega,fun p p1 p2=> ?_,fun q q1 q2=> ?_⟩
 · rw[ea,e,if_neg (by omega)]
   by_cases e':p=i
   · rw[if_pos e'];exact h2
   · rw[if_neg e'];exact h.lo p p1 (by omega)
 · rw[ea,e]
   by_cases e':q=j
   · rw[if_pos e'];exact h1
   · rw[if_neg e',if_neg (by omega)];exact h.hi q (by omega) q2
theorem afm.done (h:afm c L a b i j) (hb:b≤L.length) (hij:j<i):Part c (swp L j a) a j b:=by
 have:=h.ai;have:=h.afo;have:=h.afn
 have e:=fun k=>afM (L:=L) (i:=j) (j:=a) (k:=k) (by omega) (by omega)
 have afj:at0 (swp L j a) j=at0 L a:=by
   rw[e]
   by_cases e':j=a
   · rw[if_pos e',e']
   · rw[if_neg e',if_pos rfl]
 refine⟨fun p p1 p2=> ?_,fun q q1 q2=> ?_⟩
 · rw[afj,e]
   by_cases e':p=a
   · rw[if_pos e'];exact h.lo j (by omega) (by omega)
   · rw[if_neg e',if_neg (by omega)];exact h.lo p (by omega) (by omega)
 · rw[afj,e,if_neg (by omega),if_neg (by omega)]
   exact h.hi q q1 q2
theorem age (hm:df E g=[]) (acJ: ∀a b:Event,Ev E g [a.v,b.v] ⟨vi (c a b),[]⟩) {n:Nat} {Q:bd→SS→Prop} (hx:i≤j→ ¬c (at0 L i) (at0 L a) < 0) (hl:L.length=n) (hj:j<n) (ha:a<n) (hn:n< 1000000) (hij:i≤j+1)
   (hQ: ∀T' O',SS.Sub ⟨[(0,.sl 0 0 0 n),(1,aD a),(4,.fn g []),(12,aD i),(13,aD j)],[(0,⟨0,5,true,false,some (L.map Event.v)⟩)]⟩ ⟨T',O'⟩→Q (.exit 0) ⟨T',O'⟩):
   oN E agP ⟨[(0,.sl 0 0 0 n),(1,aD a),(4,.fn g []),(12,aD i),(13,aD j)],[(0,⟨0,5,true,false,some (L.map Event.v)⟩)]⟩ Q:=by
 by_cases hc:i≤j
 · have h1:=hx hc
   (conv=>whnf);repeat' ((first| ((exfalso;omega)) | intro g| refine aL.mk _ (afF (by omega) rfl) ?_| refine aL.mk _ (afF (by omega) rfl) ?_| refine gG (by assumption) (by first| assumption| rfl| (simp only[V.an,V.aC,Bool.and_self,Bool.true_and,Bool.and_true, *])) (acJ _ _) rfl ?_| refine st ?_| (first| refine b1 ?_ ?_| refine b2 ?_ ?_| refine Br.mk ?_ ?_) <;>intro hc| exact rfl) <;>conv=>whnf)
   exact hQ _ _ (by(refine⟨?_,?_⟩ <;>repeat' (first| exact True.intro| refine ai ?_| refine And.intro ?_ ?_)))
 · (conv=>whnf);repeat' ((first| ((exfalso;omega)) | intro g| refine st ?_| (first| refine b1 ?_ ?_| refine b2 ?_ ?_| refine Br.mk ?_ ?_) <;>intro hc| exact rfl) <;>conv=>whnf)
   exact hQ _ _ (by(refine⟨?_,?_⟩ <;>repeat' (first| exact True.intro| refine ai ?_| refine And.intro ?_ ?_)))
theorem agf (hm:df E g=[]) (acJ: ∀a b:Event,Ev E g [a.v,b.v] ⟨vi (c a b),[]⟩) {n:Nat} {Q:bd→SS→Prop} (hx:i≤j→ ¬c (at0 L i) (at0 L a) < 0) (hl:L.length=n) (hj:j<n) (ha:a<n) (hn:n< 1000000) (hij:i≤j+1)
   (hQ: ∀T' O',SS.Sub ⟨[(0,.sl 0 0 0 n),(1,aD a),(4,.fn g []),(12,aD i),(13,aD j)],[(0,⟨0,5,true,false,some (L.map Event.v)⟩)]⟩ ⟨T',O'⟩→Q (.exit 6) ⟨T',O'⟩):
   oN E agQ ⟨[(0,.sl 0 0 0 n),(1,aD a),(4,.fn g []),(12,aD i),(13,aD j)],[(0,⟨0,5,true,false,some (L.map Event.v)⟩)]⟩ Q:=by
 by_cases hc:i≤j
 · have h1:=hx hc
   (conv=>whnf);repeat' ((first| ((exfalso;omega)) | intro g| refine aL.mk _ (afF (by omega) rfl) ?_| refine aL.mk _ (afF (by omega) rfl) ?_| refine gG (by assumption) (by first| assumption| rfl| (simp only[V.an,V.aC,Bool.and_self,Bool.true_and,Bool.and_true, *])) (acJ _ _) rfl ?_| refine st ?_| (first| refine b1 ?_ ?_| refine b2 ?_ ?_| refine Br.mk ?_ ?_) <;>intro hc| exact rfl) <;>conv=>whnf)
   exact hQ _ _ (by(refine⟨?_,?_⟩ <;>repeat' (first| exact True.intro| refine ai ?_| refine And.intro ?_ ?_)))
 · (conv=>whnf);repeat' ((first| ((exfalso;omega)) | intro g| refine st ?_| (first| refine b1 ?_ ?_| refine b2 ?_ ?_| refine Br.mk ?_ ?_) <;>intro hc| exact rfl) <;>conv=>whnf)
   exact hQ _ _ (by(refine⟨?_,?_⟩ <;>repeat' (first| exact True.intro| refine ai ?_| refine And.intro ?_ ?_)))
set_option maxHeartbeats 4000000 in
theorem agU (hm:df E g=[]) (acJ: ∀a b:Event,Ev E g [a.v,b.v] ⟨vi (c a b),[]⟩) {L0:List Event} {a b p:Nat} (hp:a≤p) (uM:p<b) (hb:b≤L0.length) (hlen:L0.length< 1000000):
   ∃ (L':List Event) (m:Nat) (w:Bool),afG a b L0 L'∧a≤m∧m<b∧Part c L' a m b∧Ev E 574 [.msl 5 (L0.map Event.v) 0 L0.length,aD a,aD b,aD p,.fn g []] ⟨.tuple [aD m,.bool w],[(0,L'.map Event.v)]⟩:=by
 have key:=Ev.cO (R:=fun r=> ∃ (L':List Event) (m:Nat) (w:Bool),afG a b L0 L'∧a≤m∧m<b∧Part c L' a m b∧r=⟨.tuple [aD m,.bool w],[(0,L'.map Event.v)]⟩) aio (aip [.msl 5 (L0.map Event.v) 0 L0.length,aD a,aD b,aD p,.fn g []]) rfl ?_
 · obtain⟨res,h1,l',m,w,h2,h3,h4,h5,rfl⟩:=key
   exact⟨l',m,w,h2,h3,h4,h5,h1⟩
 have w0:IntKind.i64.wrap ((b:Int) - 1)=((b - 1:Nat):Int):=(wrap64 (by omega) (by omega)).trans (by omega)
 have wd: ∀j:Nat,1≤j→j< 1000000→V.int .i64 (IntKind.i64.wrap ((j:Int) - 1))=aD (j - 1):=fun j h1 h2=>by
   rw[show IntKind.i64.wrap ((j:Int) - 1)=((j - 1:Nat):Int) from(wrap64 (by omega) (by omega)).trans (by omega)]
 have afp:=wd b (by omega) (by omega)
 (conv=>whnf);repeat' ((first| intro g| refine aL.mk _ (afF (by omega) rfl) ?_| refine aL.mk _ (afF (by omega) rfl) ?_| refine aL.mk _ (afK rfl rfl (by omega)) ?_| refine st ?_| (first| refine b1 ?_ ?_| refine b2 ?_ ?_| refine Br.mk ?_ ?_) <;>intro hc| exact rfl) <;>conv=>whnf)
 have e2:=afX (g:=0) (sz:=5) (afI (f:=Event.v) (L:=L0) (i:=a) (j:=p) rfl rfl)
 have hpm:afG a b L0 (swp L0 a p):= .swap (by omega) (by omega) hp uM hb
 refine aV.by (fun (i:Nat)=> ⟨[(0,.sl 0 0 0 L0.length),(1,aD a),(4,.fn g []),(12,aD i),(13,aD (b - 1))],[(0,⟨0,5,true,false,some ((swp L0 a p).map Event.v)⟩)]⟩)
   (fun i=>afm c (swp L0 a p) a b i (b - 1)) (fun i=>b - i) (a+1) (by(refine⟨?_,?_⟩ <;>repeat' (first| exact True.intro| refine And.intro (afp) ?_| refine And.intro (e2) ?_| refine ai ?_| refine And.intro ?_ ?_))) ⟨Nat.le_refl _,by omega,by omega,fun p h1 h2=>by omega,fun q h1 h2=>by omega⟩ ?_
 clear e2 afp
 generalize swp L0 a p=L at*
 have hl:=hpm.len
 rintro i h
 have hai:=h.ai
 have hij:=h.afn
 by_cases hc:i≤b - 1∧c (at0 L i) (at0 L a) < 0
 · obtain⟨c1,c2⟩:=hc
   (conv=>whnf);repeat' ((first| ((exfalso;omega)) | intro g| refine aL.mk _ (afF (by omega) rfl) ?_| refine aL.mk _ (afF (by omega) rfl) ?_| refine gG (by assumption) (by first| assumption| rfl| (simp only[V.an,V.aC,Bool.and_self,Bool.true_and,Bool.and_true, *])) (acJ _ _) rfl ?_| refine st ?_| (first| refine b1 ?_ ?_| refine b2 ?_ ?_| refine Br.mk ?_ ?_) <;>intro hc| exact rfl) <;>conv=>whnf)
   exact a9.mk (i+1) (by omega) (h.aiw c1 c2) (by(refine⟨?_,?_⟩ <;>repeat' (first| exact True.intro| refine ai ?_| refine And.intro ?_ ?_)))
 have hx:i≤b - 1→ ¬c (at0 L i) (at0 L a) < 0:=fun h1 h2=>hc ⟨h1,h2⟩
 have hjb:=h.afo
 refine age hm acJ hx hl (by omega) (by omega) hlen hij ?_
 intro T' O' hs
 (conv=>whnf);repeat' ((first| intro g| refine st ?_| (first| refine b1 ?_ ?_| refine b2 ?_ ?_| refine Br.mk ?_ ?_) <;>intro hc| exact rfl) <;>conv=>whnf)
 have wdj:=fun j (h1:1≤j) (h2:j< 1000000)=>wd j h1 h2
 refine aV.by (fun (j:Nat)=> ⟨[(0,.sl 0 0 0 L0.length),(1,aD a),(4,.fn g []),(12,aD i),(13,aD j)],[(0,⟨0,5,true,false,some (L.map Event.v)⟩)]⟩)
   (fun j=>afm c L a b i j∧(i≤j→ ¬c (at0 L i) (at0 L a) < 0)) (fun j=>j) (b - 1) hs ⟨h,hx⟩ ?_
 clear h hx hc hij hjb hs T' O'
 rintro j ⟨h,hx⟩
 have hij:=h.afn
 have hjb:=h.afo
 by_cases hc:i≤j∧ ¬c (at0 L j) (at0 L a) < 0
 · obtain⟨c1,c2⟩:=hc
   have afq:=wd j (by omega) (by omega)
   (conv=>whnf);repeat' ((first| ((exfalso;omega)) | intro g| refine aL.mk _ (afF (by omega) rfl) ?_| refine aL.mk _ (afF (by omega) rfl) ?_| refine gG (by assumption) (by first| assumption| rfl| (simp only[V.an,V.aC,Bool.and_self,Bool.true_and,Bool.and_true, *])) (acJ _ _) rfl ?_| refine st ?_| (first| refine b1 ?_ ?_| refine b2 ?_ ?_| refine Br.mk ?_ ?_) <;>intro hc| exact rfl) <;>conv=>whnf)
   exact a9.mk (j - 1) (by omega) ⟨h.aix c1 c2,fun h'=>hx (by omega)⟩ (by(refine⟨?_,?_⟩ <;>repeat' (first| exact True.intro| refine And.intro (afq) ?_| refine ai ?_| refine And.intro ?_ ?_)))
 by_cases hle:i≤j
 case neg=>
   have eq:afG a b L0 (swp L j a):=hpm.trans (.swap (by omega) (by omega) (by omega) (by omega) (by omega))
   have abv:=h.done (by omega) (by omega)
   have e2:=afI (f:=Event.v) (L:=L) (i:=j) (j:=a) rfl rfl
   have mh:V.an (((L.map Event.v).set (j:Int).toNat (at0 L a).v).set (a:Int).toNat (at0 L j).v)=true:=by rw[e2];exact Event.bZ _
   (conv=>whnf);repeat' ((first| ((exfalso;omega)) | intro g| refine dI.mk (⟨rfl,rfl,mh⟩) ?_| refine aL.mk _ (afF (by omega) rfl) ?_| refine aL.mk _ (afF (by omega) rfl) ?_| refine aL.mk _ (afK rfl rfl (by omega)) ?_| refine st ?_| (first| refine b1 ?_ ?_| refine b2 ?_ ?_| refine Br.mk ?_ ?_) <;>intro hc| exact rfl) <;>conv=>whnf)
   exact⟨_,j,true,eq,by omega,by omega,abv,by rw[e2]⟩
 have afq:=wd j (by omega) (by omega)
 have c1:=hx hle
 have c2:c (at0 L j) (at0 L a) < 0:=Classical.byContradiction fun h'=>hc ⟨hle,h'⟩
 obtain⟨bl,hsw⟩:=h.swap (by omega) hle c1 c2
 have vW:afG a b L0 (swp L i j):=hpm.trans (.swap (by omega) (by omega) (by omega) (by omega) (by omega))
 have e2:=afX (g:=0) (sz:=5) (afI (f:=Event.v) (L:=L) (i:=i) (j:=j) rfl rfl)
 (conv=>whnf);repeat' ((first| ((exfalso;omega)) | intro g| refine aL.mk _ (afF (by omega) rfl) ?_| refine aL.mk _ (afF (by omega) rfl) ?_| refine aL.mk _ (afK rfl rfl (by omega)) ?_| refine gG (by assumption) (by first| assumption| rfl| (simp only[V.an,V.aC,Bool.and_self,Bool.true_and,Bool.and_true, *])) (acJ _ _) rfl ?_| refine st ?_| (first| refine b1 ?_ ?_| refine b2 ?_ ?_| refine Br.mk ?_ ?_) <;>intro hc| exact rfl) <;>conv=>whnf)
 refine aV.by (fun ((i,j,L):Nat×Nat×List Event)=> ⟨[(0,.sl 0 0 0 L0.length),(1,aD a),(4,.fn g []),(12,aD i),(13,aD j)],[(0,⟨0,5,true,false,some (L.map Event.v)⟩)]⟩)
   (fun p=>afm c p.2.2 a b p.1 p.2.1∧afG a b L0 p.2.2) (fun p=>p.2.1+1 - p.1) (i+1,j - 1,swp L i j) (by(refine⟨?_,?_⟩ <;>repeat' (first| exact True.intro| refine And.intro (afq) ?_| refine And.intro (e2) ?_| refine ai ?_| refine And.intro ?_ ?_))) ⟨hsw,vW⟩ ?_
 clear e2 afq vW hsw bl c1 c2 hle hc hij hjb h hx hpm hl hai
 clear L i j
 rintro⟨i,j,L⟩ ⟨h,hpm⟩
 dsimp only at h hpm
 have hl:=hpm.len
 (conv=>whnf);repeat' ((first| intro g| refine st ?_| (first| refine b1 ?_ ?_| refine b2 ?_ ?_| refine Br.mk ?_ ?_) <;>intro hc| exact rfl) <;>conv=>whnf)
 refine aV.by (fun (i:Nat)=> ⟨[(0,.sl 0 0 0 L0.length),(1,aD a),(4,.fn g []),(12,aD i),(13,aD j)],[(0,⟨0,5,true,false,some (L.map Event.v)⟩)]⟩)
   (fun k=>afm c L a b k j∧i≤k) (fun i=>b - i) i (by(refine⟨?_,?_⟩ <;>repeat' (first| exact True.intro| refine ai ?_| refine And.intro ?_ ?_))) ⟨h,Nat.le_refl _⟩ ?_
 clear h
 generalize i=i0 at*
 rintro i ⟨h,hi0⟩
 have hai:=h.ai
 have hij:=h.afn
 have hjb:=h.afo
 by_cases hc:i≤j∧c (at0 L i) (at0 L a) < 0
 · obtain⟨c1,c2⟩:=hc
   (conv=>whnf);repeat' ((first| ((exfalso;omega)) | intro g| refine aL.mk _ (afF (by omega) rfl) ?_| refine aL.mk _ (afF (by omega) rfl) ?_| refine gG (by assumption) (by first| assumption| rfl| (simp only[V.an,V.aC,Bool.and_self,Bool.true_and,Bool.and_true, *])) (acJ _ _) rfl ?_| refine st ?_| (first| refine b1 ?_ ?_| refine b2 ?_ ?_| refine Br.mk ?_ ?_) <;>intro hc| exact rfl) <;>conv=>whnf)
   exact a9.mk (i+1) (by omega) ⟨h.aiw c1 c2,by omega⟩ (by(refine⟨?_,?_⟩ <;>repeat' (first| exact True.intro| refine ai ?_| refine And.intro ?_ ?_)))
 have hx:i≤j→ ¬c (at0 L i) (at0 L a) < 0:=fun h1 h2=>hc ⟨h1,h2⟩
 refine agf hm acJ hx hl (by omega) (by omega) hlen hij ?_
 intro T' O' hs
 (conv=>whnf);repeat' ((first| intro g| refine st ?_| (first| refine b1 ?_ ?_| refine b2 ?_ ?_| refine Br.mk ?_ ?_) <;>intro hc| exact rfl) <;>conv=>whnf)
 refine aV.by (fun (j:Nat)=> ⟨[(0,.sl 0 0 0 L0.length),(1,aD a),(4,.fn g []),(12,aD i),(13,aD j)],[(0,⟨0,5,true,false,some (L.map Event.v)⟩)]⟩)
   (fun k=>afm c L a b i k∧(i≤k→ ¬c (at0 L i) (at0 L a) < 0)∧k≤j) (fun j=>j) j hs ⟨h,hx,Nat.le_refl _⟩ ?_
 clear h hx hc hij hjb hs T' O'
 generalize j=afr at*
 rintro j ⟨h,hx,hj0⟩
 have hij:=h.afn
 have hjb:=h.afo
 by_cases hc:i≤j∧ ¬c (at0 L j) (at0 L a) < 0
 · obtain⟨c1,c2⟩:=hc
   have afq:=wd j (by omega) (by omega)
   (conv=>whnf);repeat' ((first| ((exfalso;omega)) | intro g| refine aL.mk _ (afF (by omega) rfl) ?_| refine aL.mk _ (afF (by omega) rfl) ?_| refine gG (by assumption) (by first| assumption| rfl| (simp only[V.an,V.aC,Bool.and_self,Bool.true_and,Bool.and_true, *])) (acJ _ _) rfl ?_| refine st ?_| (first| refine b1 ?_ ?_| refine b2 ?_ ?_| refine Br.mk ?_ ?_) <;>intro hc| exact rfl) <;>conv=>whnf)
   exact a9.mk (j - 1) (by omega) ⟨h.aix c1 c2,fun h'=>hx (by omega),by omega⟩ (by(refine⟨?_,?_⟩ <;>repeat' (first| exact True.intro| refine And.intro (afq) ?_| refine ai ?_| refine And.intro ?_ ?_)))
 by_cases hle:i≤j
 case neg=>
   have eq:afG a b L0 (swp L j a):=hpm.trans (.swap (by omega) (by omega) (by omega) (by omega) (by omega))
   have abv:=h.done (by omega) (by omega)
   have e2:=afI (f:=Event.v) (L:=L) (i:=j) (j:=a) rfl rfl
   have mh:V.an (((L.map Event.v).set (j:Int).toNat (at0 L a).v).set (a:Int).toNat (at0 L j).v)=true:=by rw[e2];exact Event.bZ _
   (conv=>whnf);repeat' ((first| ((exfalso;omega)) | intro g| refine dI.mk (⟨rfl,rfl,mh⟩) ?_| refine aL.mk _ (afF (by omega) rfl) ?_| refine aL.mk _ (afF (by omega) rfl) ?_| refine aL.mk _ (afK rfl rfl (by omega)) ?_| refine st ?_| (first| refine b1 ?_ ?_| refine b2 ?_ ?_| refine Br.mk ?_ ?_) <;>intro hc| exact rfl) <;>conv=>whnf)
   exact⟨_,j,false,eq,by omega,by omega,abv,by rw[e2]⟩
 have afq:=wd j (by omega) (by omega)
 have c1:=hx hle
 have c2:c (at0 L j) (at0 L a) < 0:=Classical.byContradiction fun h'=>hc ⟨hle,h'⟩
 obtain⟨bl,hsw⟩:=h.swap (by omega) hle c1 c2
 have vW:afG a b L0 (swp L i j):=hpm.trans (.swap (by omega) (by omega) (by omega) (by omega) (by omega))
 have e2:=afX (g:=0) (sz:=5) (afI (f:=Event.v) (L:=L) (i:=i) (j:=j) rfl rfl)
 (conv=>whnf);repeat' ((first| ((exfalso;omega)) | intro g| refine aL.mk _ (afF (by omega) rfl) ?_| refine aL.mk _ (afF (by omega) rfl) ?_| refine aL.mk _ (afK rfl rfl (by omega)) ?_| refine gG (by assumption) (by first| assumption| rfl| (simp only[V.an,V.aC,Bool.and_self,Bool.true_and,Bool.and_true, *])) (acJ _ _) rfl ?_| refine st ?_| (first| refine b1 ?_ ?_| refine b2 ?_ ?_| refine Br.mk ?_ ?_) <;>intro hc| exact rfl) <;>conv=>whnf)
 exact a9.mk (i+1,j - 1,swp L i j) (by dsimp only;omega) ⟨hsw,vW⟩ (by(refine⟨?_,?_⟩ <;>repeat' (first| exact True.intro| refine And.intro (afq) ?_| refine And.intro (e2) ?_| refine ai ?_| refine And.intro ?_ ?_)))
end
end Go.AM
