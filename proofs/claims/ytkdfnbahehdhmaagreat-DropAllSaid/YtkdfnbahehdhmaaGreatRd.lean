/-
  Texts of the proof, joined by program: SortG. Own work.
-/
import Derived.Test.YtkdfnbahehdhmaaGreatRa
set_option linter.unusedSimpArgs false
set_option linter.unusedVariables false
set_option maxRecDepth 20000
namespace Go.AM
theorem ahe {g:Nat} {L0:List Event} {a b:Nat} (hab:a<b) (hb:b≤L0.length) (hlen:L0.length< 1000000):
   ∃L',afG a b L0 L'∧Ev E 571 [.msl 5 (L0.map Event.v) 0 L0.length,aD a,aD b,.fn g []] ⟨.tuple [],[(0,L'.map Event.v)]⟩:=by
 have key:=Ev.cO (R:=fun r=> ∃L':List Event,afG a b L0 L'∧r=⟨.tuple [],[(0,L'.map Event.v)]⟩) aik (ail [.msl 5 (L0.map Event.v) 0 L0.length,aD a,aD b,.fn g []]) rfl ?_
 · obtain⟨res,h1,l',h2,rfl⟩:=key
   exact⟨l',h2,h1⟩
 have wd: ∀j:Nat,1≤j→j< 1000000→V.int .i64 (IntKind.i64.wrap ((j:Int) - 1))=aD (j - 1):=fun j h1 h2=>by
   rw[show IntKind.i64.wrap ((j:Int) - 1)=((j - 1:Nat):Int) from(wrap64 (by omega) (by omega)).trans (by omega)]
 have afp:=wd b (by omega) (by omega)
 (conv=>whnf);repeat' ((first| intro g| refine st ?_| (first| refine b1 ?_ ?_| refine b2 ?_ ?_| refine Br.mk ?_ ?_) <;>intro hc| exact rfl) <;>conv=>whnf)
 refine aV.by (fun ((i,j,L):Nat×Nat×List Event)=> ⟨[(0,.sl 0 0 0 L0.length),(8,aD i),(9,aD j)],[(0,⟨0,5,true,false,some (L.map Event.v)⟩)]⟩)
   (fun p=>a≤p.1∧p.2.1 <b∧afG a b L0 p.2.2) (fun p=>p.2.1 - p.1) (a,b - 1,L0) (by(refine⟨?_,?_⟩ <;>repeat' (first| exact True.intro| refine And.intro (afp) ?_| refine ai ?_| refine And.intro ?_ ?_))) ⟨Nat.le_refl _,by dsimp only;omega,.refl⟩ ?_
 clear afp
 rintro⟨i,j,L⟩ ⟨h1,h2,h3⟩
 dsimp only at h1 h2 h3
 have hl:=h3.len
 by_cases hij:i<j
 · have afq:=wd j (by omega) (by omega)
   have e2:=afX (g:=0) (sz:=5) (afI (f:=Event.v) (L:=L) (i:=i) (j:=j) rfl rfl)
   (conv=>whnf);repeat' ((first| ((exfalso;omega)) | intro g| refine aL.mk _ (afF (by omega) rfl) ?_| refine aL.mk _ (afF (by omega) rfl) ?_| refine aL.mk _ (afK rfl rfl (by omega)) ?_| refine st ?_| (first| refine b1 ?_ ?_| refine b2 ?_ ?_| refine Br.mk ?_ ?_) <;>intro hc| exact rfl) <;>conv=>whnf)
   exact a9.mk (i+1,j - 1,swp L i j) (by dsimp only;omega) ⟨by dsimp only;omega,by dsimp only;omega,h3.trans (.swap (by omega) (by omega) (by omega) (by omega) (by omega))⟩ (by(refine⟨?_,?_⟩ <;>repeat' (first| exact True.intro| refine And.intro (afq) ?_| refine And.intro (e2) ?_| refine ai ?_| refine And.intro ?_ ?_)))
 · (conv=>whnf);repeat' ((first| ((exfalso;omega)) | intro g| refine dI.mk (⟨rfl,rfl,Event.bZ _⟩) ?_| refine st ?_| (first| refine b1 ?_ ?_| refine b2 ?_ ?_| refine Br.mk ?_ ?_) <;>intro hc| exact rfl) <;>conv=>whnf)
   exact⟨L,h3,rfl⟩
section
variable {c:Event→Event→Int} {g:Nat}
set_option maxHeartbeats 4000000 in
theorem agV (ho:Ij c) (hm:df E g=[]) (acJ: ∀a b:Event,Ev E g [a.v,b.v] ⟨vi (c a b),[]⟩) {L0:List Event} {a b:Nat} (hab:a<b) (hb:b≤L0.length) (hlen:L0.length< 1000000) (afk:afU c L0 a b):
   ∃ (L':List Event) (w:Bool),afG a b L0 L'∧(w=true→afH c L' a b)∧Ev E 572 [.msl 5 (L0.map Event.v) 0 L0.length,aD a,aD b,.fn g []] ⟨.bool w,[(0,L'.map Event.v)]⟩:=by
 have key:=Ev.cO (R:=fun r=> ∃ (L':List Event) (w:Bool),afG a b L0 L'∧(w=true→afH c L' a b)∧r=⟨.bool w,[(0,L'.map Event.v)]⟩) aim (ain [.msl 5 (L0.map Event.v) 0 L0.length,aD a,aD b,.fn g []]) rfl ?_
 · obtain⟨res,h1,l',w,h2,h3,rfl⟩:=key
   exact⟨l',w,h2,h3,h1⟩
 have wn: ∀j:Nat,1≤j→j< 1000000→IntKind.i64.wrap ((j:Int) - 1)=((j - 1:Nat):Int):=fun j h1 h2=> (wrap64 (by omega) (by omega)).trans (by omega)
 have wd: ∀j:Nat,1≤j→j< 1000000→V.int .i64 (IntKind.i64.wrap ((j:Int) - 1))=aD (j - 1):=fun j h1 h2=>by rw[wn j h1 h2]
 have ws: ∀x y:Nat,y≤x→x< 1000000→IntKind.i64.wrap ((x:Int) - y)=((x - y:Nat):Int):=fun x y h1 h2=> (wrap64 (by omega) (by omega)).trans (by omega)
 have wba:=ws b a (by omega) (by omega)
 (conv=>whnf);repeat' ((first| intro g| refine st ?_| (first| refine b1 ?_ ?_| refine b2 ?_ ?_| refine Br.mk ?_ ?_) <;>intro hc| exact rfl) <;>conv=>whnf)
 refine aV.by (fun ((k,i,L):Nat×Nat×List Event)=> ⟨[(0,.sl 0 0 0 L0.length),(1,aD a),(2,aD b),(3,.fn g []),(9,aD i),(10,aD k)],[(0,⟨0,5,true,false,some (L.map Event.v)⟩)]⟩)
   (fun p=>p.1≤5∧a+1≤p.2.1∧p.2.1≤b∧afH c p.2.2 a p.2.1∧afG a b L0 p.2.2) (fun p=>5 - p.1) (0,a+1,L0) (by(refine⟨?_,?_⟩ <;>repeat' (first| exact True.intro| refine ai ?_| refine And.intro ?_ ?_))) ⟨by dsimp only;omega,Nat.le_refl _,by dsimp only;omega,fun p q h1 h2 h3=>by dsimp only at h3;omega,.refl⟩ ?_
 rintro⟨k,i,L⟩ ⟨h0,h1,h2,h3,h4⟩
 dsimp only at h0 h1 h2 h3 h4
 have hl:=h4.len
 by_cases hk:k< 5
 case neg=>
   (conv=>whnf);repeat' ((first| ((exfalso;omega)) | intro g| refine dI.mk (⟨rfl,rfl,Event.bZ _⟩) ?_| refine st ?_| (first| refine b1 ?_ ?_| refine b2 ?_ ?_| refine Br.mk ?_ ?_) <;>intro hc| exact rfl) <;>conv=>whnf)
   exact⟨L,false,h4,by simp,rfl⟩
 (conv=>whnf);repeat' ((first| ((exfalso;omega)) | intro g| refine st ?_| (first| refine b1 ?_ ?_| refine b2 ?_ ?_| refine Br.mk ?_ ?_) <;>intro hc| exact rfl) <;>conv=>whnf)
 refine aV.by (fun (i:Nat)=> ⟨[(0,.sl 0 0 0 L0.length),(1,aD a),(2,aD b),(3,.fn g []),(9,aD i),(10,aD k)],[(0,⟨0,5,true,false,some (L.map Event.v)⟩)]⟩)
   (fun i=>a+1≤i∧i≤b∧afH c L a i) (fun i=>b - i) i (by(refine⟨?_,?_⟩ <;>repeat' (first| exact True.intro| refine ai ?_| refine And.intro ?_ ?_))) ⟨h1,h2,h3⟩ ?_
 clear h1 h2 h3
 rintro i ⟨h1,h2,h3⟩
 by_cases hib:i=b
 · subst hib
   (conv=>whnf);repeat' ((first| ((exfalso;omega)) | intro g| refine dI.mk (⟨rfl,rfl,Event.bZ _⟩) ?_| refine st ?_| (first| refine b1 ?_ ?_| refine b2 ?_ ?_| refine Br.mk ?_ ?_) <;>intro hc| exact rfl) <;>conv=>whnf)
   exact⟨L,true,h4,fun _=>h3,rfl⟩
 have wi:=wn i (by omega) (by omega)
 by_cases hc:c (at0 L i) (at0 L (i - 1)) < 0
 case neg=>
   (conv=>whnf);repeat' ((first| ((exfalso;omega)) | intro g| refine aL.mk _ (afF (by omega) rfl) ?_| refine aL.mk _ (afF (by omega) wi) ?_| refine gG (by assumption) (by first| assumption| rfl| (simp only[V.an,V.aC,Bool.and_self,Bool.true_and,Bool.and_true, *])) (acJ _ _) rfl ?_| refine st ?_| (first| refine b1 ?_ ?_| refine b2 ?_ ?_| refine Br.mk ?_ ?_) <;>intro hc| exact rfl) <;>conv=>whnf)
   exact a9.mk (i+1) (by omega) ⟨by omega,by omega,h3.snoc ho fun _=>hc⟩ (by(refine⟨?_,?_⟩ <;>repeat' (first| exact True.intro| refine ai ?_| refine And.intro ?_ ?_)))
 by_cases h50:b - a< 50
 · (conv=>whnf);repeat' ((first| ((exfalso;omega)) | intro g| refine dI.mk (⟨rfl,rfl,Event.bZ _⟩) ?_| refine aL.mk _ (afF (by omega) rfl) ?_| refine aL.mk _ (afF (by omega) wi) ?_| refine gG (by assumption) (by first| assumption| rfl| (simp only[V.an,V.aC,Bool.and_self,Bool.true_and,Bool.and_true, *])) (acJ _ _) rfl ?_| refine st ?_| (first| refine b1 ?_ ?_| refine b2 ?_ ?_| refine Br.mk ?_ ?_) <;>intro hc| exact rfl) <;>conv=>whnf)
   exact⟨L,false,h4,by simp,rfl⟩
 obtain⟨afg,hL1⟩: ∃afg,afg=swp L i (i - 1):=⟨_,rfl⟩
 have e1:=afX (g:=0) (sz:=5) ((afI (f:=Event.v) (L:=L) (i:=i) (j:=i - 1) rfl wi).trans (by rw[←hL1]))
 have p1:afG a b L0 afg:=by rw[hL1];exact h4.trans (.swap (by omega) (by omega) (by omega) (by omega) (by omega))
 have s1:afH c afg a (i - 1):=afH.eq (L:=L) (fun p q x y z=>h3 p q x y (by omega)) fun k k1 k2=>by
   rw[hL1,afM (by omega) (by omega),if_neg (by omega),if_neg (by omega)]
 have hl1:=p1.len
 have wia:=ws i a (by omega) (by omega)
 have wbi:=ws b i (by omega) (by omega)
 have afi:=wd i (by omega) (by omega)
 clear hL1
 by_cases hA:2≤i - a
 case neg=>
   have s2:afH c afg a i:=fun p q x y z=>by omega
   by_cases hB:2≤b - i
   · (conv=>whnf);repeat' ((first| ((exfalso;omega)) | intro g| refine aL.mk _ (afF (by omega) rfl) ?_| refine aL.mk _ (afF (by omega) wi) ?_| refine aL.mk _ (afK rfl wi (by omega)) ?_| refine gG (by assumption) (by first| assumption| rfl| (simp only[V.an,V.aC,Bool.and_self,Bool.true_and,Bool.and_true, *])) (acJ _ _) rfl ?_| refine st ?_| (first| refine b1 ?_ ?_| refine b2 ?_ ?_| refine Br.mk ?_ ?_) <;>intro hc| exact rfl) <;>conv=>whnf)
     refine aV.by (fun ((j,afh):Nat×List Event)=> ⟨[(0,.sl 0 0 0 L0.length),(1,aD a),(2,aD b),(3,.fn g []),(9,aD i),(10,aD k),(12,aD j)],[(0,⟨0,5,true,false,some (afh.map Event.v)⟩)]⟩)
       (fun p=>i+1≤p.1∧p.1≤b∧afH c p.2 a i∧afG a b L0 p.2) (fun p=>b - p.1) (i+1,afg) (by(refine⟨?_,?_⟩ <;>repeat' (first| exact True.intro| refine And.intro (e1) ?_| refine ai ?_| refine And.intro ?_ ?_))) ⟨Nat.le_refl _,by dsimp only;omega,s2,p1⟩ ?_
     rintro⟨j,afh⟩ ⟨q1,q2,q3,q4⟩
     dsimp only at q1 q2 q3 q4
     have CZ:=q4.len
     by_cases hjb:j=b
     · (conv=>whnf);repeat' ((first| ((exfalso;omega)) | intro g| refine st ?_| (first| refine b1 ?_ ?_| refine b2 ?_ ?_| refine Br.mk ?_ ?_) <;>intro hc| exact rfl) <;>conv=>whnf)
       exact a9.mk (k+1,i,afh) (by dsimp only;omega) ⟨by dsimp only;omega,h1,h2,q3,q4⟩ (by(refine⟨?_,?_⟩ <;>repeat' (first| exact True.intro| refine ai ?_| refine And.intro ?_ ?_)))
     have afs:=wn j (by omega) (by omega)
     by_cases hcj:c (at0 afh j) (at0 afh (j - 1)) < 0
     · have e3:=afX (g:=0) (sz:=5) (afI (f:=Event.v) (L:=afh) (i:=j) (j:=j - 1) rfl afs)
       (conv=>whnf);repeat' ((first| ((exfalso;omega)) | intro g| refine aL.mk _ (afF (by omega) rfl) ?_| refine aL.mk _ (afF (by omega) afs) ?_| refine aL.mk _ (afK rfl afs (by omega)) ?_| refine gG (by assumption) (by first| assumption| rfl| (simp only[V.an,V.aC,Bool.and_self,Bool.true_and,Bool.and_true, *])) (acJ _ _) rfl ?_| refine st ?_| (first| refine b1 ?_ ?_| refine b2 ?_ ?_| refine Br.mk ?_ ?_) <;>intro hc| exact rfl) <;>conv=>whnf)
       refine a9.mk (j+1,swp afh j (j - 1)) (by dsimp only;omega) ⟨by dsimp only;omega,by dsimp only;omega,q3.eq fun k k1 k2=> ?_,q4.trans (.swap (by omega) (by omega) (by omega) (by omega) (by omega))⟩ (by(refine⟨?_,?_⟩ <;>repeat' (first| exact True.intro| refine And.intro (e3) ?_| refine ai ?_| refine And.intro ?_ ?_)))
       rw[afM (by omega) (by omega),if_neg (by omega),if_neg (by omega)]
     · (conv=>whnf);repeat' ((first| ((exfalso;omega)) | intro g| refine aL.mk _ (afF (by omega) rfl) ?_| refine aL.mk _ (afF (by omega) afs) ?_| refine gG (by assumption) (by first| assumption| rfl| (simp only[V.an,V.aC,Bool.and_self,Bool.true_and,Bool.and_true, *])) (acJ _ _) rfl ?_| refine st ?_| (first| refine b1 ?_ ?_| refine b2 ?_ ?_| refine Br.mk ?_ ?_) <;>intro hc| exact rfl) <;>conv=>whnf)
       exact a9.mk (k+1,i,afh) (by dsimp only;omega) ⟨by dsimp only;omega,h1,h2,q3,q4⟩ (by(refine⟨?_,?_⟩ <;>repeat' (first| exact True.intro| refine ai ?_| refine And.intro ?_ ?_)))
   · omega
 (conv=>whnf);repeat' ((first| ((exfalso;omega)) | intro g| refine aL.mk _ (afF (by omega) rfl) ?_| refine aL.mk _ (afF (by omega) wi) ?_| refine aL.mk _ (afK rfl wi (by omega)) ?_| refine gG (by assumption) (by first| assumption| rfl| (simp only[V.an,V.aC,Bool.and_self,Bool.true_and,Bool.and_true, *])) (acJ _ _) rfl ?_| refine st ?_| (first| refine b1 ?_ ?_| refine b2 ?_ ?_| refine Br.mk ?_ ?_) <;>intro hc| exact rfl) <;>conv=>whnf)
 refine aV.by (fun ((j,afg):Nat×List Event)=> ⟨[(0,.sl 0 0 0 L0.length),(1,aD a),(2,aD b),(3,.fn g []),(9,aD i),(10,aD k),(11,aD j)],[(0,⟨0,5,true,false,some (afg.map Event.v)⟩)]⟩)
   (fun p=>a≤p.1∧p.1≤i - 1∧afG a b L0 p.2∧af4 c p.2 a (i - 1) p.1) (fun p=>p.1) (i - 1,afg) (by(refine⟨?_,?_⟩ <;>repeat' (first| exact True.intro| refine And.intro (e1) ?_| refine And.intro (afi) ?_| refine ai ?_| refine And.intro ?_ ?_))) ⟨by dsimp only;omega,Nat.le_refl _,p1,af4.start s1⟩ ?_
 clear e1 p1 s1 hl1 afg
 rintro⟨j,afg⟩ ⟨r1,r2,p1,r4⟩
 dsimp only at r1 r2 p1 r4
 have hl1:=p1.len
 have stp:=r4.stop ho r1 r2
 rw[show i - 1+1=i by omega] at stp
 by_cases hj0:j=0
 · subst hj0
   have s2:=stp (by omega)
   by_cases hB:2≤b - i
   · (conv=>whnf);repeat' ((first| ((exfalso;omega)) | intro g| refine st ?_| (first| refine b1 ?_ ?_| refine b2 ?_ ?_| refine Br.mk ?_ ?_) <;>intro hc| exact rfl) <;>conv=>whnf)
     refine aV.by (fun ((j,afh):Nat×List Event)=> ⟨[(0,.sl 0 0 0 L0.length),(1,aD a),(2,aD b),(3,.fn g []),(9,aD i),(10,aD k),(12,aD j)],[(0,⟨0,5,true,false,some (afh.map Event.v)⟩)]⟩)
       (fun p=>i+1≤p.1∧p.1≤b∧afH c p.2 a i∧afG a b L0 p.2) (fun p=>b - p.1) (i+1,afg) (by(refine⟨?_,?_⟩ <;>repeat' (first| exact True.intro| refine ai ?_| refine And.intro ?_ ?_))) ⟨Nat.le_refl _,by dsimp only;omega,s2,p1⟩ ?_
     rintro⟨j,afh⟩ ⟨q1,q2,q3,q4⟩
     dsimp only at q1 q2 q3 q4
     have CZ:=q4.len
     by_cases hjb:j=b
     · (conv=>whnf);repeat' ((first| ((exfalso;omega)) | intro g| refine st ?_| (first| refine b1 ?_ ?_| refine b2 ?_ ?_| refine Br.mk ?_ ?_) <;>intro hc| exact rfl) <;>conv=>whnf)
       exact a9.mk (k+1,i,afh) (by dsimp only;omega) ⟨by dsimp only;omega,h1,h2,q3,q4⟩ (by(refine⟨?_,?_⟩ <;>repeat' (first| exact True.intro| refine ai ?_| refine And.intro ?_ ?_)))
     have afs:=wn j (by omega) (by omega)
     by_cases hcj:c (at0 afh j) (at0 afh (j - 1)) < 0
     · have e3:=afX (g:=0) (sz:=5) (afI (f:=Event.v) (L:=afh) (i:=j) (j:=j - 1) rfl afs)
       (conv=>whnf);repeat' ((first| ((exfalso;omega)) | intro g| refine aL.mk _ (afF (by omega) rfl) ?_| refine aL.mk _ (afF (by omega) afs) ?_| refine aL.mk _ (afK rfl afs (by omega)) ?_| refine gG (by assumption) (by first| assumption| rfl| (simp only[V.an,V.aC,Bool.and_self,Bool.true_and,Bool.and_true, *])) (acJ _ _) rfl ?_| refine st ?_| (first| refine b1 ?_ ?_| refine b2 ?_ ?_| refine Br.mk ?_ ?_) <;>intro hc| exact rfl) <;>conv=>whnf)
       refine a9.mk (j+1,swp afh j (j - 1)) (by dsimp only;omega) ⟨by dsimp only;omega,by dsimp only;omega,q3.eq fun k k1 k2=> ?_,q4.trans (.swap (by omega) (by omega) (by omega) (by omega) (by omega))⟩ (by(refine⟨?_,?_⟩ <;>repeat' (first| exact True.intro| refine And.intro (e3) ?_| refine ai ?_| refine And.intro ?_ ?_)))
       rw[afM (by omega) (by omega),if_neg (by omega),if_neg (by omega)]
     · (conv=>whnf);repeat' ((first| ((exfalso;omega)) | intro g| refine aL.mk _ (afF (by omega) rfl) ?_| refine aL.mk _ (afF (by omega) afs) ?_| refine gG (by assumption) (by first| assumption| rfl| (simp only[V.an,V.aC,Bool.and_self,Bool.true_and,Bool.and_true, *])) (acJ _ _) rfl ?_| refine st ?_| (first| refine b1 ?_ ?_| refine b2 ?_ ?_| refine Br.mk ?_ ?_) <;>intro hc| exact rfl) <;>conv=>whnf)
       exact a9.mk (k+1,i,afh) (by dsimp only;omega) ⟨by dsimp only;omega,h1,h2,q3,q4⟩ (by(refine⟨?_,?_⟩ <;>repeat' (first| exact True.intro| refine ai ?_| refine And.intro ?_ ?_)))
   · (conv=>whnf);repeat' ((first| ((exfalso;omega)) | intro g| refine st ?_| (first| refine b1 ?_ ?_| refine b2 ?_ ?_| refine Br.mk ?_ ?_) <;>intro hc| exact rfl) <;>conv=>whnf)
     exact a9.mk (k+1,i,afg) (by dsimp only;omega) ⟨by dsimp only;omega,h1,h2,s2,p1⟩ (by(refine⟨?_,?_⟩ <;>repeat' (first| exact True.intro| refine ai ?_| refine And.intro ?_ ?_)))
 have wj0:=wn j (by omega) (by omega)
 by_cases ahf:c (at0 afg j) (at0 afg (j - 1)) < 0
 case neg=>
   have s2:=stp fun _=>ahf
   by_cases hB:2≤b - i
   · (conv=>whnf);repeat' ((first| ((exfalso;omega)) | intro g| refine aL.mk _ (afF (by omega) rfl) ?_| refine aL.mk _ (afF (by omega) wj0) ?_| refine gG (by assumption) (by first| assumption| rfl| (simp only[V.an,V.aC,Bool.and_self,Bool.true_and,Bool.and_true, *])) (acJ _ _) rfl ?_| refine st ?_| (first| refine b1 ?_ ?_| refine b2 ?_ ?_| refine Br.mk ?_ ?_) <;>intro hc| exact rfl) <;>conv=>whnf)
     refine aV.by (fun ((j,afh):Nat×List Event)=> ⟨[(0,.sl 0 0 0 L0.length),(1,aD a),(2,aD b),(3,.fn g []),(9,aD i),(10,aD k),(12,aD j)],[(0,⟨0,5,true,false,some (afh.map Event.v)⟩)]⟩)
       (fun p=>i+1≤p.1∧p.1≤b∧afH c p.2 a i∧afG a b L0 p.2) (fun p=>b - p.1) (i+1,afg) (by(refine⟨?_,?_⟩ <;>repeat' (first| exact True.intro| refine ai ?_| refine And.intro ?_ ?_))) ⟨Nat.le_refl _,by dsimp only;omega,s2,p1⟩ ?_
     rintro⟨j,afh⟩ ⟨q1,q2,q3,q4⟩
     dsimp only at q1 q2 q3 q4
     have CZ:=q4.len
     by_cases hjb:j=b
     · (conv=>whnf);repeat' ((first| ((exfalso;omega)) | intro g| refine st ?_| (first| refine b1 ?_ ?_| refine b2 ?_ ?_| refine Br.mk ?_ ?_) <;>intro hc| exact rfl) <;>conv=>whnf)
       exact a9.mk (k+1,i,afh) (by dsimp only;omega) ⟨by dsimp only;omega,h1,h2,q3,q4⟩ (by(refine⟨?_,?_⟩ <;>repeat' (first| exact True.intro| refine ai ?_| refine And.intro ?_ ?_)))
     have afs:=wn j (by omega) (by omega)
     by_cases hcj:c (at0 afh j) (at0 afh (j - 1)) < 0
     · have e3:=afX (g:=0) (sz:=5) (afI (f:=Event.v) (L:=afh) (i:=j) (j:=j - 1) rfl afs)
       (conv=>whnf);repeat' ((first| ((exfalso;omega)) | intro g| refine aL.mk _ (afF (by omega) rfl) ?_| refine aL.mk _ (afF (by omega) afs) ?_| refine aL.mk _ (afK rfl afs (by omega)) ?_| refine gG (by assumption) (by first| assumption| rfl| (simp only[V.an,V.aC,Bool.and_self,Bool.true_and,Bool.and_true, *])) (acJ _ _) rfl ?_| refine st ?_| (first| refine b1 ?_ ?_| refine b2 ?_ ?_| refine Br.mk ?_ ?_) <;>intro hc| exact rfl) <;>conv=>whnf)
       refine a9.mk (j+1,swp afh j (j - 1)) (by dsimp only;omega) ⟨by dsimp only;omega,by dsimp only;omega,q3.eq fun k k1 k2=> ?_,q4.trans (.swap (by omega) (by omega) (by omega) (by omega) (by omega))⟩ (by(refine⟨?_,?_⟩ <;>repeat' (first| exact True.intro| refine And.intro (e3) ?_| refine ai ?_| refine And.intro ?_ ?_)))
       rw[afM (by omega) (by omega),if_neg (by omega),if_neg (by omega)]
     · (conv=>whnf);repeat' ((first| ((exfalso;omega)) | intro g| refine aL.mk _ (afF (by omega) rfl) ?_| refine aL.mk _ (afF (by omega) afs) ?_| refine gG (by assumption) (by first| assumption| rfl| (simp only[V.an,V.aC,Bool.and_self,Bool.true_and,Bool.and_true, *])) (acJ _ _) rfl ?_| refine st ?_| (first| refine b1 ?_ ?_| refine b2 ?_ ?_| refine Br.mk ?_ ?_) <;>intro hc| exact rfl) <;>conv=>whnf)
       exact a9.mk (k+1,i,afh) (by dsimp only;omega) ⟨by dsimp only;omega,h1,h2,q3,q4⟩ (by(refine⟨?_,?_⟩ <;>repeat' (first| exact True.intro| refine ai ?_| refine And.intro ?_ ?_)))
   · (conv=>whnf);repeat' ((first| ((exfalso;omega)) | intro g| refine aL.mk _ (afF (by omega) rfl) ?_| refine aL.mk _ (afF (by omega) wj0) ?_| refine gG (by assumption) (by first| assumption| rfl| (simp only[V.an,V.aC,Bool.and_self,Bool.true_and,Bool.and_true, *])) (acJ _ _) rfl ?_| refine st ?_| (first| refine b1 ?_ ?_| refine b2 ?_ ?_| refine Br.mk ?_ ?_) <;>intro hc| exact rfl) <;>conv=>whnf)
     exact a9.mk (k+1,i,afg) (by dsimp only;omega) ⟨by dsimp only;omega,h1,h2,s2,p1⟩ (by(refine⟨?_,?_⟩ <;>repeat' (first| exact True.intro| refine ai ?_| refine And.intro ?_ ?_)))
 have hja:a<j:=by
   rcases Nat.lt_or_ge a j with h| h
   · exact h
   · obtain rfl:j=a:=by omega
     exact absurd ahf (ho.as0 _ _ ((afk.perm p1) (by omega) j (Nat.le_refl _) (by omega)))
 obtain⟨j,rfl⟩: ∃j',j=j'+1:=⟨j - 1,by omega⟩
 have wj1:IntKind.i64.wrap (((j+1:Nat):Int) - 1)=(j:Int):=wj0
 have afq:=wd (j+1) (by omega) (by omega)
 have e3:=afX (g:=0) (sz:=5) (afI (f:=Event.v) (L:=afg) (i:=j+1) (j:=j) rfl wj1)
 (conv=>whnf);repeat' ((first| ((exfalso;omega)) | intro g| refine aL.mk _ (afF (by omega) rfl) ?_| refine aL.mk _ (afF (by omega) wj1) ?_| refine aL.mk _ (afK rfl wj1 (by omega)) ?_| refine gG (by assumption) (by first| assumption| rfl| (simp only[V.an,V.aC,Bool.and_self,Bool.true_and,Bool.and_true, *])) (acJ _ _) rfl ?_| refine st ?_| (first| refine b1 ?_ ?_| refine b2 ?_ ?_| refine Br.mk ?_ ?_) <;>intro hc| exact rfl) <;>conv=>whnf)
 exact a9.mk (j,swp afg (j+1) j) (by dsimp only;omega) ⟨by dsimp only;omega,by dsimp only;omega,p1.trans (.swap (by omega) (by omega) (by omega) (by omega) (by omega)),r4.step (by omega) (by omega) (by omega) ahf⟩ (by(refine⟨?_,?_⟩ <;>repeat' (first| exact True.intro| refine And.intro (afq) ?_| refine And.intro (e3) ?_| refine ai ?_| refine And.intro ?_ ?_)))
end
end Go.AM
