/-
  Texts of the proof, joined by program: SortP, SortA, SortB, SortC. Own work.
-/
import Derived.Test.YtkdfnbahehdhmaaGreatXa
set_option linter.unusedSimpArgs false
set_option linter.unusedVariables false
namespace Go.AM
section
variable {α:Type} [Inhabited α]
def at0 (L:List α) (i:Nat):α:=L[i]?.getD default
theorem agc {L:List α} {i:Nat} (h:i<L.length):L[i]? =some (at0 L i):=by
 simp[at0,List.getElem?_eq_getElem h]
def swp (L:List α) (i j:Nat):List α:=(L.set i (at0 L j)).set j (at0 L i)
theorem agR {L:List α} {i j:Nat}: (swp L i j).length=L.length:=by simp[swp]
theorem agm {L:List α} {i k:Nat} {x:α} (hi:i<L.length):at0 (L.set i x) k=if k=i then x else at0 L k:=by
 unfold at0
 rw[List.getElem?_set]
 by_cases h:k=i
 · subst h;simp[hi]
 · rw[if_neg (fun e=>h e.symm),if_neg h]
theorem afM {L:List α} {i j k:Nat} (hi:i<L.length) (hj:j<L.length):at0 (swp L i j) k=if k=j then at0 L i else if k=i then at0 L j else at0 L k:=by
 unfold swp
 rw[agm (by simpa using hj),agm hi]
theorem agx {L:List α} {i j:Nat} (hi:i<L.length) (hj:j<L.length): (swp L i j).Perm L:=by
 unfold swp
 have h1:at0 L j=L[j]:=by simp[at0,List.getElem?_eq_getElem hj]
 have h2:at0 L i=L[i]:=by simp[at0,List.getElem?_eq_getElem hi]
 rw[h1,h2]
 exact List.set_set_perm hi hj
structure afG (a b:Nat) (L L':List α):Prop where
 perm:L'.Perm L
 out: ∀k,k<a∨b≤k→at0 L' k=at0 L k
 mem: ∀k,a≤k→k<b→ ∃j,a≤j∧j<b∧at0 L' k=at0 L j
variable {a b:Nat} {L afg afh:List α}
theorem afG.refl:afG a b L L:=⟨.refl _,fun _ _=>rfl,fun k h1 h2=> ⟨k,h1,h2,rfl⟩⟩
theorem afG.trans (h:afG a b L afg) (k:afG a b afg afh):afG a b L afh:=
 ⟨k.perm.trans h.perm,fun i hi=> (k.out i hi).trans (h.out i hi),fun i h1 h2=>by
   obtain⟨j,j1,j2,e⟩:=k.mem i h1 h2
   obtain⟨m,m1,m2,e'⟩:=h.mem j j1 j2
   exact⟨m,m1,m2,e.trans e'⟩⟩
theorem afG.len (h:afG a b L afg):afg.length=L.length:=h.perm.length_eq
theorem afG.wide {a' b':Nat} (h:afG a b L afg) (ha:a'≤a) (hb:b≤b'):afG a' b' L afg:=
 ⟨h.perm,fun k hk=>h.out k (by omega),fun k h1 h2=>by
   by_cases hk:a≤k∧k<b
   · obtain⟨j,j1,j2,e⟩:=h.mem k hk.1 hk.2
     exact⟨j,by omega,by omega,e⟩
   · exact⟨k,h1,h2,h.out k (by omega)⟩⟩
theorem afG.swap {i j:Nat} (hi:a≤i) (BG:i<b) (hj:a≤j) (hj2:j<b) (hb:b≤L.length):afG a b L (swp L i j):=by
 have e:=fun k=>afM (L:=L) (i:=i) (j:=j) (k:=k) (by omega) (by omega)
 refine⟨agx (by omega) (by omega),fun k hk=> ?_,fun k h1 h2=> ?_⟩
 · rw[e,if_neg (by omega),if_neg (by omega)]
 · by_cases h:k=j
   · exact⟨i,hi,BG,by rw[e,if_pos h]⟩
   · by_cases h':k=i
     · exact⟨j,hj,hj2,by rw[e,if_neg h,if_pos h']⟩
     · exact⟨k,h1,h2,by rw[e,if_neg h,if_neg h']⟩
variable {c:α→α→Int}
def afH (c:α→α→Int) (L:List α) (a b:Nat):Prop:= ∀i j,a≤i→i<j→j<b→ ¬c (at0 L j) (at0 L i) < 0
theorem afH.all (h:afH c L 0 L.length):L.Pairwise (gS c):=by
 rw[List.pairwise_iff_getElem]
 intro i j hi hj hij
 have:=h i j (by omega) hij hj
 simpa [at0,hi,hj,gS] using this
theorem afH.eq (h:afH c L a b) (he: ∀k,a≤k→k<b→at0 afg k=at0 L k):afH c afg a b:=fun i j hi hij hj=>by
 rw[he i (by omega) (by omega),he j (by omega) (by omega)]
 exact h i j hi hij hj
theorem afH.snoc (ho:Ij c) {i:Nat} (h:afH c L a i) (hx:a<i→ ¬c (at0 L i) (at0 L (i - 1)) < 0):afH c L a (i+1):=fun p q hp Rx hq=>by
 by_cases e:q=i
 · subst e
   have h1:=hx (by omega)
   by_cases e2:p=q - 1
   · subst e2;exact h1
   · exact ho.tr _ _ _ (h p (q - 1) hp (by omega) (by omega)) h1
 · exact h p q hp Rx (by omega)
structure af4 (c:α→α→Int) (L:List α) (a i j:Nat):Prop where
 o: ∀p q,a≤p→p<q→q≤i→p≠j→q≠j→ ¬c (at0 L q) (at0 L p) < 0
 u: ∀q,j<q→q≤i→c (at0 L j) (at0 L q) < 0
theorem af4.start {i:Nat} (h:afH c L a i):af4 c L a i i:=
 ⟨fun p q hp Rx hq h1 h2=>h p q hp Rx (by omega),fun q h1 h2=>by omega⟩
theorem af4.step {i j:Nat} (h:af4 c L a i (j+1)) (hj:a≤j) (hji:j+1≤i) (hl:i<L.length) (hc:c (at0 L (j+1)) (at0 L j) < 0):af4 c (swp L (j+1) j) a i j:=by
 have e:=fun k=>afM (L:=L) (i:=j+1) (j:=j) (k:=k) (by omega) (by omega)
 refine⟨fun p q hp Rx hq h1 h2=> ?_,fun q h1 h2=> ?_⟩
 · rw[e,e,if_neg h2,if_neg h1]
   by_cases q1:q=j+1
   · rw[if_pos q1,if_neg (by omega)];exact h.o p j hp (by omega) (by omega) (by omega) (by omega)
   · rw[if_neg q1]
     by_cases p1:p=j+1
     · rw[if_pos p1];exact h.o j q hj (by omega) hq (by omega) q1
     · rw[if_neg p1];exact h.o p q hp Rx hq p1 q1
 · rw[e,e,if_pos rfl,if_neg (by omega)]
   by_cases q1:q=j+1
   · rw[if_pos q1];exact hc
   · rw[if_neg q1];exact h.u q (by omega) h2
theorem af4.stop (ho:Ij c) {i j:Nat} (h:af4 c L a i j) (hj:a≤j) (hji:j≤i) (hx:a<j→ ¬c (at0 L j) (at0 L (j - 1)) < 0):afH c L a (i+1):=fun p q hp Rx hq=>by
 by_cases q1:q=j
 · subst q1
   have h1:=hx (by omega)
   by_cases p1:p=q - 1
   · subst p1;exact h1
   · exact ho.tr _ _ _ (h.o p (q - 1) hp (by omega) (by omega) (by omega) (by omega)) h1
 · by_cases p1:p=j
   · subst p1;exact ho.as0 _ _ (h.u q Rx (by omega))
   · exact h.o p q hp Rx (by omega) p1 q1
def afN (p k:Nat):Prop:=k=2*p+1∨k=2*p+2
def af6 (c:α→α→Int) (L:List α) (f lo hi:Nat):Prop:= ∀i k,lo≤i→afN i k→k<hi→ ¬c (at0 L (f+i)) (at0 L (f+k)) < 0
structure af5 (c:α→α→Int) (L:List α) (f lo hi r:Nat):Prop where
 o: ∀i k,lo≤i→i≠r→afN i k→k<hi→ ¬c (at0 L (f+i)) (at0 L (f+k)) < 0
 u: ∀p k,lo≤p→afN p r→afN r k→k<hi→ ¬c (at0 L (f+p)) (at0 L (f+k)) < 0
theorem af5.start {f lo hi:Nat} (h:af6 c L f (lo+1) hi):af5 c L f lo hi lo:=
 ⟨fun i k h1 h2 h3 h4=>h i k (by omega) h3 h4,fun p k h1 h2 h3 h4=>by unfold afN at h2;omega⟩
theorem af5.step {f lo hi r d:Nat} (h:af5 c L f lo hi r) (ho:Ij c) (hr:lo≤r) (hd:afN r d) (hdh:d<hi) (af0: ∀k,afN r k→k<hi→ ¬c (at0 L (f+d)) (at0 L (f+k)) < 0) (hc:c (at0 L (f+r)) (at0 L (f+d)) < 0) (hl:f+hi≤L.length):af5 c (swp L (f+r) (f+d)) f lo hi d:=by
 have hrd:r<d:=by unfold afN at hd;omega
 have e:=fun k=>afM (L:=L) (i:=f+r) (j:=f+d) (k:=k) (by omega) (by omega)
 refine⟨fun i k h1 h2 h3 h4=> ?_,fun p k h1 h2 h3 h4=> ?_⟩
 · rw[ e (f+i),if_neg (by omega)]
   by_cases i1:i=r
   · subst i1
     rw[if_pos rfl,e]
     by_cases k1:k=d
     · rw[if_pos (by omega)];exact ho.as0 _ _ hc
     · rw[if_neg (by omega),if_neg (by unfold afN at h3;omega)];exact af0 k h3 h4
   · rw[if_neg (by omega),e]
     by_cases k1:k=d
     · unfold afN at h3 hd;omega
     · rw[if_neg (by omega)]
       by_cases k2:k=r
       · subst k2;rw[if_pos rfl];exact h.u i d h1 h3 hd hdh
       · rw[if_neg (by omega)];exact h.o i k h1 i1 h3 h4
 · have hp:p=r:=by unfold afN at hd h2;omega
   subst hp
   have hk:d<k:=by unfold afN at h3;omega
   rw[e,e,if_neg (by omega),if_pos rfl,if_neg (by omega),if_neg (by omega)]
   exact h.o d k (by omega) (by omega) h3 h4
theorem af5.stop {f lo hi r:Nat} (h:af5 c L f lo hi r) (hr: ∀k,afN r k→k<hi→ ¬c (at0 L (f+r)) (at0 L (f+k)) < 0):af6 c L f lo hi:=fun i k h1 h2 h3=>by
 by_cases e:i=r
 · subst e;exact hr k h2 h3
 · exact h.o i k h1 e h2 h3
theorem af6.max (ho:Ij c) {f n:Nat} (h:af6 c L f 0 n) (agy: ∀x,¬c x x< 0): ∀k,k<n→ ¬c (at0 L f) (at0 L (f+k)) < 0:=by
 intro k
 induction k using Nat.strongRecOn with
 | ind k ih=>
   intro hk
   by_cases h0:k=0
   · subst h0;exact agy _
   · have h1:=ih ((k - 1) / 2) (by omega) (by omega)
     have h2:=h ((k - 1) / 2) k (by omega) (by unfold afN;omega) hk
     exact ho.tr _ _ _ h2 h1
structure Pop (c:α→α→Int) (L:List α) (f n hi:Nat):Prop where
 heap:af6 c L f 0 n
 suf: ∀p q,n≤q→q<hi→p<q→ ¬c (at0 L (f+q)) (at0 L (f+p)) < 0
theorem Pop.swap {f n hi:Nat} (h:Pop c L f (n+1) hi) (hn:n+1≤hi) (hl:f+hi≤L.length):af5 c (swp L f (f+n)) f 0 n 0:=by
 have e:=fun k=>afM (L:=L) (i:=f) (j:=f+n) (k:=k) (by omega) (by omega)
 refine⟨fun i k h1 h2 h3 h4=> ?_,fun p k h1 h2 h3 h4=>by unfold afN at h2;omega⟩
 have:i<k:=by unfold afN at h3;omega
 rw[e,e,if_neg (by omega),if_neg (by omega),if_neg (by omega),if_neg (by omega)]
 exact h.heap i k h1 h3 (by omega)
theorem Pop.next (ho:Ij c) (agy: ∀x,¬c x x< 0) {f n hi:Nat} (h:Pop c L f (n+1) hi) (hn:n+1≤hi) (hl:f+hi≤L.length) (hp:afG f (f+n) (swp L f (f+n)) afg) (hh:af6 c afg f 0 n):Pop c afg f n hi:=by
 have e:=fun k=>afM (L:=L) (i:=f) (j:=f+n) (k:=k) (by omega) (by omega)
 have af0:=h.heap.max ho agy
 have hold: ∀p,p≤n→ ∃p',p'≤n∧at0 afg (f+p)=at0 L (f+p'):=fun p A7=>by
   have hs: ∀k,k≤n→ ∃p',p'≤n∧at0 (swp L f (f+n)) (f+k)=at0 L (f+p'):=fun k hk=>by
     rw[e]
     by_cases k1:k=n
     · exact⟨0,by omega,by rw[if_pos (by omega)];rfl⟩
     · by_cases k2:k=0
       · exact⟨n,by omega,by rw[if_neg (by omega),if_pos (by omega)]⟩
       · exact⟨k,hk,by rw[if_neg (by omega),if_neg (by omega)]⟩
   by_cases p1:p=n
   · rw[hp.out (f+p) (by omega)];exact hs p A7
   · obtain⟨j,j1,j2,e'⟩:=hp.mem (f+p) (by omega) (by omega)
     obtain⟨p',h1,h2⟩:=hs (j - f) (by omega)
     refine⟨p',h1,e'.trans ?_⟩
     rw[←h2];congr 1;omega
 refine⟨hh,fun p q h1 h2 h3=> ?_⟩
 have hq:at0 afg (f+q)=if q=n then at0 L f else at0 L (f+q):=by
   rw[hp.out (f+q) (by omega),e]
   by_cases q1:q=n
   · rw[if_pos (by omega),if_pos q1]
   · rw[if_neg (by omega),if_neg (by omega),if_neg q1]
 by_cases q1:q=n
 · subst q1
   obtain⟨p',A7,e'⟩:=hold p (by omega)
   rw[hq,if_pos rfl,e']
   exact af0 p' (by omega)
 · rw[ hq,if_neg q1]
   by_cases p1:p≤n
   · obtain⟨p',A7,e'⟩:=hold p p1
     rw[e']
     exact h.suf p' q (by omega) h2 (by omega)
   · have:at0 afg (f+p)=at0 L (f+p):=by
       rw[hp.out (f+p) (by omega),e,if_neg (by omega),if_neg (by omega)]
     rw[this]
     exact h.suf p q (by omega) h2 h3
theorem Pop.done {f hi:Nat} (h:Pop c L f 0 hi):afH c L f (f+hi):=fun i j h1 h2 h3=>by
 have:=h.suf (i - f) (j - f) (by omega) (by omega) (by omega)
 rwa [show f+(j - f)=j by omega,show f+(i - f)=i by omega] at this
structure Part (c:α→α→Int) (L:List α) (a m b:Nat):Prop where
 lo: ∀p,a≤p→p<m→c (at0 L p) (at0 L m) < 0
 hi: ∀q,m<q→q<b→ ¬c (at0 L q) (at0 L m) < 0
theorem Part.left {m:Nat} (h:Part c L a m b) (hp:afG a m L afg):Part c afg a m b:=
 ⟨fun p h1 h2=>by
   obtain⟨j,j1,j2,e⟩:=hp.mem p h1 h2
   rw[e,hp.out m (by omega)];exact h.lo j j1 j2,
 fun q h1 h2=>by rw[hp.out q (by omega),hp.out m (by omega)];exact h.hi q h1 h2⟩
theorem Part.right {m:Nat} (h:Part c L a m b) (hp:afG (m+1) b L afg):Part c afg a m b:=
 ⟨fun p h1 h2=>by rw[hp.out p (by omega),hp.out m (by omega)];exact h.lo p h1 h2,
 fun q h1 h2=>by
  obtain⟨j,j1,j2,e⟩:=hp.mem q (by omega) h2
  rw[e,hp.out m (by omega)];exact h.hi j (by omega) j2⟩
theorem Part.glue (ho:Ij c) {m:Nat} (h:Part c L a m b) (h1:afH c L a m) (h2:afH c L (m+1) b):afH c L a b:=fun p q hp Rx hq=>by
 by_cases q1:q<m
 · exact h1 p q hp Rx q1
 · by_cases q2:q=m
   · subst q2;exact ho.as0 _ _ (h.lo p hp Rx)
   · by_cases p1:p<m
     · exact ho.tr _ _ _ (ho.as0 _ _ (h.lo p hp p1)) (h.hi q (by omega) hq)
     · by_cases p2:p=m
       · subst p2;exact h.hi q Rx hq
       · exact h2 p q (by omega) Rx hq
def Dst (c:α→α→Int) (L:List α):Prop:=L.Pairwise fun a b=>c a b< 0∨c b a< 0
omit [Inhabited α] in theorem Dst.perm (h:Dst c L) (hp:afg.Perm L):Dst c afg:=(hp.pairwise_iff (fun {a b} h=>h.symm)).2 h
theorem Dst.ne (h:Dst c L) {i j:Nat} (hi:i<L.length) (hj:j<L.length) (hij:i≠j) (hn: ¬c (at0 L j) (at0 L i) < 0):c (at0 L i) (at0 L j) < 0:=by
 have key:=List.pairwise_iff_getElem.1 h
 have afi:at0 L i=L[i]:=by simp[at0,hi]
 have afj:at0 L j=L[j]:=by simp[at0,hj]
 rw[afi,afj] at hn ⊢
 rcases Nat.lt_or_gt_of_ne hij with h'| h'
 · exact(key i j hi hj h').resolve_right hn
 · exact(key j i hj hi h').resolve_left hn
def afU (c:α→α→Int) (L:List α) (a b:Nat):Prop:=0 <a→ ∀k,a≤k→k<b→c (at0 L (a - 1)) (at0 L k) < 0
theorem afU.perm (h:afU c L a b) (hp:afG a b L afg):afU c afg a b:=fun h0 k h1 h2=>by
 obtain⟨j,j1,j2,e⟩:=hp.mem k h1 h2
 rw[e,hp.out (a - 1) (by omega)];exact h h0 j j1 j2
theorem Part.ahead {m:Nat} (h:Part c L a m b) (hd:Dst c L) (hb:b≤L.length):afU c L (m+1) b:=fun _ k h1 h2=>
 hd.ne (by omega) (by omega) (by omega) (h.hi k (by omega) h2)
structure afO (c:α→α→Int) (a0 b0:Nat) (L0:List α) (a b:Nat) (L:List α):Prop where
 p:afG a0 b0 L0 L
 h1:a0≤a
 h2:a≤b
 h3:b≤b0
 afk:afU c L a b
 fin: ∀L',afG a b L L'→afH c L' a b→afH c L' a0 b0
theorem afO.start {a b:Nat} (hab:a≤b) (ha:afU c L a b):afO c a b L a b L:=⟨.refl,Nat.le_refl _,hab,Nat.le_refl _,ha,fun _ _ h=>h⟩
variable {a0 b0:Nat} {L0:List α}
theorem afO.perm (h:afO c a0 b0 L0 a b L) (hp:afG a b L afg):afO c a0 b0 L0 a b afg:=
 ⟨h.p.trans (hp.wide h.h1 h.h3),h.h1,h.h2,h.h3,h.afk.perm hp,fun L' h'=>h.fin L' (hp.trans h')⟩
theorem afO.done (h:afO c a0 b0 L0 a b L) (hp:afG a b L afg) (hs:afH c afg a b):afG a0 b0 L0 afg∧afH c afg a0 b0:=
 ⟨h.p.trans (hp.wide h.h1 h.h3),h.fin afg hp hs⟩
theorem afO.left (ho:Ij c) {m:Nat} (h:afO c a0 b0 L0 a b L) (hd:Dst c L0) (hb:b0≤L0.length) (hm:a≤m) (KL:m<b) (Xi:Part c L a m b) (hp:afG a m L afg) (hs:afH c afg a m):afO c a0 b0 L0 (m+1) b afg:=by
 have hl:=hp.len
 have zM:=h.p.len
 have agS:=Xi.left hp
 have:=h.h1;have:=h.h2;have:=h.h3
 refine⟨h.p.trans (hp.wide (by omega) (by omega)),by omega,by omega,h.h3,agS.ahead ((hd.perm h.p.perm).perm hp.perm) (by omega),fun L' h' kQ=> ?_⟩
 refine h.fin L' ((hp.wide (Nat.le_refl _) (by omega)).trans (h'.wide (by omega) (Nat.le_refl _))) ((agS.right h').glue ho (hs.eq fun k h1 h2=>h'.out k (by omega)) kQ)
theorem afO.right (ho:Ij c) {m:Nat} (h:afO c a0 b0 L0 a b L) (hm:a≤m) (KL:m<b) (Xi:Part c L a m b) (hp:afG (m+1) b L afg) (hs:afH c afg (m+1) b):afO c a0 b0 L0 a m afg:=by
 have agS:=Xi.right hp
 have:=h.h1;have:=h.h2;have:=h.h3
 refine⟨h.p.trans (hp.wide (by omega) (by omega)),h.h1,hm,by omega,fun h0 k h1 h2=> ?_,fun L' h' kQ=> ?_⟩
 · rw[hp.out (a - 1) (by omega),hp.out k (by omega)];exact h.afk h0 k h1 (by omega)
 · refine h.fin L' ((hp.wide (by omega) (Nat.le_refl _)).trans (h'.wide (Nat.le_refl _) (by omega))) ((agS.left h').glue ho kQ (hs.eq fun k h1 h2=>h'.out k (by omega)))
end
end Go.AM
set_option maxRecDepth 20000
namespace Go.AM
instance:Inhabited Event:=⟨⟨0,0,0,0,0⟩⟩
theorem afI {α:Type} [Inhabited α] {f:α→V} {L:List α} {i j:Nat} {a b:Int} (ha:a=i) (hb:b=j): ((L.map f).set a.toNat (f (at0 L j))).set b.toNat (f (at0 L i))=(swp L i j).map f:=by
 subst ha;subst hb
 simp[swp,List.map_set]
theorem afK {α:Type} [Inhabited α] {f:α→V} {L:List α} {i j:Nat} {a b:Int} {y:α} (ha:a=i) (hb:b=j) (hj:j<L.length): ((L.map f).set a.toNat (f y))[b.toNat]? =some (f (at0 (L.set i y) j)):=by
 subst ha;subst hb
 have h:=agc (L:=L.set i y) (i:=j) (by simpa using hj)
 simp only[Int.toNat_natCast,←List.map_set,List.getElem?_map,h,Option.map_some]
theorem afF {α:Type} [Inhabited α] {f:α→V} {l:List α} {i:Nat} {n:Int} (h:i<l.length) (hn:n=(i:Int)): (l.map f)[n.toNat]? =some (f (at0 l i)):=aq (agc h) hn
theorem afX {g sz:Nat} {l l':List V} (h:l=l'): (⟨g,sz,true,false,some l⟩:Obj)=⟨g,sz,true,false,some l'⟩:=by rw[h]
section
variable {c:Event→Event→Int} {g:Nat}
set_option maxHeartbeats 4000000 in
theorem ahb (ho:Ij c) (hm:df E g=[]) (acJ: ∀a b:Event,Ev E g [a.v,b.v] ⟨vi (c a b),[]⟩) {L0:List Event} {a b:Nat} (hab:a≤b) (hb:b≤L0.length) (hlen:L0.length< 1000000):
   ∃L',afG a b L0 L'∧afH c L' a b∧Ev E 567 [.msl 5 (L0.map Event.v) 0 L0.length,aD a,aD b,.fn g []] ⟨.tuple [],[(0,L'.map Event.v)]⟩:=by
 have key:=Ev.cO (R:=fun r=> ∃L':List Event,afG a b L0 L'∧afH c L' a b∧r=⟨.tuple [],[(0,L'.map Event.v)]⟩) aib (aic [.msl 5 (L0.map Event.v) 0 L0.length,aD a,aD b,.fn g []]) rfl ?_
 · obtain⟨res,h1,l',h2,h3,rfl⟩:=key
   exact⟨l',h2,h3,h1⟩
 (conv=>whnf);repeat' ((first| intro g| refine st ?_| (first| refine b1 ?_ ?_| refine b2 ?_ ?_| refine Br.mk ?_ ?_) <;>intro hc| exact rfl) <;>conv=>whnf)
 refine aV.by (fun ((i,L):Nat×List Event)=> ⟨[(0,.sl 0 0 0 L0.length),(1,aD a),(2,aD b),(3,.fn g []),(8,aD i)],[(0,⟨0,5,true,false,some (L.map Event.v)⟩)]⟩)
   (fun p=>a+1≤p.1∧(p.1≤b∨p.1=a+1)∧afG a b L0 p.2∧afH c p.2 a p.1) (fun p=>b - p.1) (a+1,L0) (by(refine⟨?_,?_⟩ <;>repeat' (first| exact True.intro| refine ai ?_| refine And.intro ?_ ?_))) ?_ ?_
 · exact⟨Nat.le_refl _,.inr rfl,.refl,fun i j h1 h2 h3=>by omega⟩
 rintro⟨i,L⟩ ⟨h1,h2,h3,h4⟩
 dsimp only at h1 h2 h3 h4
 have hl:=h3.len
 by_cases hi:i<b
 · (conv=>whnf);repeat' ((first| intro g| refine st ?_| (first| refine b1 ?_ ?_| refine b2 ?_ ?_| refine Br.mk ?_ ?_) <;>intro hc| exact rfl) <;>conv=>whnf)
   refine aV.by (fun ((j,L):Nat×List Event)=> ⟨[(0,.sl 0 0 0 L0.length),(1,aD a),(2,aD b),(3,.fn g []),(8,aD i),(9,aD j)],[(0,⟨0,5,true,false,some (L.map Event.v)⟩)]⟩)
     (fun p=>a≤p.1∧p.1≤i∧afG a b L0 p.2∧af4 c p.2 a i p.1) (fun p=>p.1) (i,L) (by(refine⟨?_,?_⟩ <;>repeat' (first| exact True.intro| refine ai ?_| refine And.intro ?_ ?_))) ⟨by dsimp only;omega,Nat.le_refl _,h3,af4.start h4⟩ ?_
   rintro⟨j,afg⟩ ⟨k1,k2,k3,k4⟩
   dsimp only at k1 k2 k3 k4
   have hl1:=k3.len
   by_cases hja:j=a
   · subst hja
     (conv=>whnf);repeat' ((first| intro g| refine st ?_| (first| refine b1 ?_ ?_| refine b2 ?_ ?_| refine Br.mk ?_ ?_) <;>intro hc| exact rfl) <;>conv=>whnf)
     refine a9.mk (i+1,afg) (by dsimp only;omega) ⟨by dsimp only;omega,by dsimp only;omega,k3,k4.stop ho k1 k2 (by omega)⟩ (by(refine⟨?_,?_⟩ <;>repeat' (first| exact True.intro| refine ai ?_| refine And.intro ?_ ?_)))
   obtain⟨k,rfl⟩: ∃k,j=k+1:=⟨j - 1,by omega⟩
   have w1:IntKind.i64.wrap (((k+1:Nat):Int) - 1)=(k:Int):=(wrap64 (by omega) (by omega)).trans (by omega)
   by_cases hc:c (at0 afg (k+1)) (at0 afg k) < 0
   · (conv=>whnf);repeat' ((first| intro g| refine aL.mk _ (afF (by omega) rfl) ?_| refine aL.mk _ (afF (by omega) w1) ?_| refine aL.mk _ (afK rfl w1 (by omega)) ?_| refine gG (by assumption) (by first| assumption| rfl| (simp only[V.an,V.aC,Bool.and_self,Bool.true_and,Bool.and_true, *])) (acJ _ _) rfl ?_| refine st ?_| (first| refine b1 ?_ ?_| refine b2 ?_ ?_| refine Br.mk ?_ ?_) <;>intro hc| exact rfl) <;>conv=>whnf)
     refine a9.mk (k,swp afg (k+1) k) (by dsimp only;omega) ⟨by dsimp only;omega,by dsimp only;omega,k3.trans (.swap (by omega) (by omega) (by omega) (by omega) (by omega)),k4.step (by omega) (by omega) (by omega) hc⟩ ?_
     have e1:V.int .i64 (IntKind.i64.wrap (((k+1:Nat):Int) - 1))=aD k:=by rw[w1]
     have e2:=afX (g:=0) (sz:=5) (afI (f:=Event.v) (L:=afg) (i:=k+1) (j:=k) rfl w1)
     (refine⟨?_,?_⟩ <;>repeat' (first| exact True.intro| refine And.intro (e1) ?_| refine And.intro (e2) ?_| refine ai ?_| refine And.intro ?_ ?_))
   · (conv=>whnf);repeat' ((first| intro g| refine aL.mk _ (afF (by omega) rfl) ?_| refine aL.mk _ (afF (by omega) w1) ?_| refine gG (by assumption) (by first| assumption| rfl| (simp only[V.an,V.aC,Bool.and_self,Bool.true_and,Bool.and_true, *])) (acJ _ _) rfl ?_| refine st ?_| (first| refine b1 ?_ ?_| refine b2 ?_ ?_| refine Br.mk ?_ ?_) <;>intro hc| exact rfl) <;>conv=>whnf)
     refine a9.mk (i+1,afg) (by dsimp only;omega) ⟨by dsimp only;omega,by dsimp only;omega,k3,k4.stop ho k1 k2 fun _=>hc⟩ (by(refine⟨?_,?_⟩ <;>repeat' (first| exact True.intro| refine ai ?_| refine And.intro ?_ ?_)))
 · (conv=>whnf);repeat' ((first| intro g| refine dI.mk (⟨rfl,rfl,Event.bZ _⟩) ?_| refine st ?_| (first| refine b1 ?_ ?_| refine b2 ?_ ?_| refine Br.mk ?_ ?_) <;>intro hc| exact rfl) <;>conv=>whnf)
   exact⟨L,h3,fun p q hp Rx hq=>h4 p q hp Rx (by omega),rfl⟩
end
end Go.AM
set_option maxRecDepth 20000
namespace Go.AM
section
variable {c:Event→Event→Int} {g:Nat}
set_option maxHeartbeats 4000000 in
theorem agn (ho:Ij c) (hm:df E g=[]) (acJ: ∀a b:Event,Ev E g [a.v,b.v] ⟨vi (c a b),[]⟩) {L0:List Event} {lo hi f:Nat} (hs:af5 c L0 f lo hi lo) (hb:f+hi≤L0.length) (hlo:lo≤L0.length) (hlen:L0.length< 1000000):
   ∃L',afG f (f+hi) L0 L'∧af6 c L' f lo hi∧Ev E 582 [.msl 5 (L0.map Event.v) 0 L0.length,aD lo,aD hi,aD f,.fn g []] ⟨.tuple [],[(0,L'.map Event.v)]⟩:=by
 have key:=Ev.cO (R:=fun r=> ∃L':List Event,afG f (f+hi) L0 L'∧af6 c L' f lo hi∧r=⟨.tuple [],[(0,L'.map Event.v)]⟩) aiq (air [.msl 5 (L0.map Event.v) 0 L0.length,aD lo,aD hi,aD f,.fn g []]) rfl ?_
 · obtain⟨res,h1,l',h2,h3,rfl⟩:=key
   exact⟨l',h2,h3,h1⟩
 (conv=>whnf);repeat' ((first| intro g| refine st ?_| (first| refine b1 ?_ ?_| refine b2 ?_ ?_| refine Br.mk ?_ ?_) <;>intro hc| exact rfl) <;>conv=>whnf)
 refine aV.by (fun ((r,L):Nat×List Event)=> ⟨[(0,.sl 0 0 0 L0.length),(2,aD hi),(3,aD f),(4,.fn g []),(10,aD r)],[(0,⟨0,5,true,false,some (L.map Event.v)⟩)]⟩)
   (fun p=>lo≤p.1∧p.1≤L0.length∧afG f (f+hi) L0 p.2∧af5 c p.2 f lo hi p.1) (fun p=>L0.length+1 - p.1) (lo,L0) (by(refine⟨?_,?_⟩ <;>repeat' (first| exact True.intro| refine ai ?_| refine And.intro ?_ ?_))) ⟨Nat.le_refl _,hlo,.refl,hs⟩ ?_
 rintro⟨r,L⟩ ⟨h1,h2,h3,h4⟩
 dsimp only at h1 h2 h3 h4
 have hl:=h3.len
 have w1:IntKind.i64.wrap (IntKind.i64.wrap (2*(r:Int))+1)=((2*r+1:Nat):Int):=by
   rw[wrap64 (n:=2*(r:Int)) (by omega) (by omega)];exact(wrap64 (by omega) (by omega)).trans (by omega)
 by_cases k1:hi≤2*r+1
 · (conv=>whnf);repeat' ((first| ((exfalso;omega)) | intro g| refine dI.mk (⟨rfl,rfl,Event.bZ _⟩) ?_| refine st ?_| (first| refine b1 ?_ ?_| refine b2 ?_ ?_| refine Br.mk ?_ ?_) <;>intro hc| exact rfl) <;>conv=>whnf)
   exact⟨L,h3,h4.stop fun k hk Em=>by unfold afN at hk;omega,rfl⟩
 have w2:IntKind.i64.wrap (IntKind.i64.wrap (IntKind.i64.wrap (2*(r:Int))+1)+1)=((2*r+2:Nat):Int):=by
   rw[w1];exact(wrap64 (by omega) (by omega)).trans (by omega)
 have v0:IntKind.i64.wrap ((f:Int)+r)=((f+r:Nat):Int):=(wrap64 (by omega) (by omega)).trans (by omega)
 have v1:IntKind.i64.wrap ((f:Int)+IntKind.i64.wrap (IntKind.i64.wrap (2*(r:Int))+1))=((f+(2*r+1):Nat):Int):=by
   rw[w1];exact(wrap64 (by omega) (by omega)).trans (by omega)
 have v2:IntKind.i64.wrap (IntKind.i64.wrap ((f:Int)+IntKind.i64.wrap (IntKind.i64.wrap (2*(r:Int))+1))+1)=((f+(2*r+2):Nat):Int):=by
   rw[v1];exact(wrap64 (by omega) (by omega)).trans (by omega)
 have afl:IntKind.i64.wrap ((f:Int)+IntKind.i64.wrap (IntKind.i64.wrap (IntKind.i64.wrap (2*(r:Int))+1)+1))=((f+(2*r+2):Nat):Int):=by
   rw[w2];exact(wrap64 (by omega) (by omega)).trans (by omega)
 have d1:afN r (2*r+1):= .inl rfl
 have d2:afN r (2*r+2):= .inr rfl
 have fin: ∀ {d:Nat},afN r d→d<hi→(∀k,afN r k→k<hi→ ¬c (at0 L (f+d)) (at0 L (f+k)) < 0)→ ¬c (at0 L (f+r)) (at0 L (f+d)) < 0→af6 c L f lo hi:=fun hd hdh af0 hn=>
   h4.stop fun k hk Em=>ho.tr _ _ _ (af0 k hk Em) hn
 by_cases k2:2*r+2 <hi
 · by_cases k3:c (at0 L (f+(2*r+1))) (at0 L (f+(2*r+2))) < 0
   · have af0: ∀k,afN r k→k<hi→ ¬c (at0 L (f+(2*r+2))) (at0 L (f+k)) < 0:=fun k hk Em=>by
       rcases hk with rfl| rfl
       · exact ho.as0 _ _ k3
       · exact fun h=>ho.as0 _ _ h h
     by_cases k4:c (at0 L (f+r)) (at0 L (f+(2*r+2))) < 0
     · (conv=>whnf);repeat' ((first| ((exfalso;omega)) | intro g| refine aL.mk _ (afF (by omega) v0) ?_| refine aL.mk _ (afF (by omega) v1) ?_| refine aL.mk _ (afF (by omega) v2) ?_| refine aL.mk _ (afF (by omega) afl) ?_| refine aL.mk _ (afK v0 afl (by omega)) ?_| refine gG (by assumption) (by first| assumption| rfl| (simp only[V.an,V.aC,Bool.and_self,Bool.true_and,Bool.and_true, *])) (acJ _ _) rfl ?_| refine st ?_| (first| refine b1 ?_ ?_| refine b2 ?_ ?_| refine Br.mk ?_ ?_) <;>intro hc| exact rfl) <;>conv=>whnf)
       refine a9.mk (2*r+2,swp L (f+r) (f+(2*r+2))) (by dsimp only;omega) ⟨by dsimp only;omega,by dsimp only;omega,h3.trans (.swap (by omega) (by omega) (by omega) (by omega) (by omega)),h4.step ho h1 d2 k2 af0 k4 (by omega)⟩ ?_
       have e1:V.int .i64 (IntKind.i64.wrap (IntKind.i64.wrap (IntKind.i64.wrap (2*(r:Int))+1)+1))=aD (2*r+2):=by rw[w2]
       have e2:=afX (g:=0) (sz:=5) (afI (f:=Event.v) (L:=L) v0 afl)
       (refine⟨?_,?_⟩ <;>repeat' (first| exact True.intro| refine And.intro (e1) ?_| refine And.intro (e2) ?_| refine ai ?_| refine And.intro ?_ ?_))
     · (conv=>whnf);repeat' ((first| ((exfalso;omega)) | intro g| refine dI.mk (⟨rfl,rfl,Event.bZ _⟩) ?_| refine aL.mk _ (afF (by omega) v0) ?_| refine aL.mk _ (afF (by omega) v1) ?_| refine aL.mk _ (afF (by omega) v2) ?_| refine aL.mk _ (afF (by omega) afl) ?_| refine gG (by assumption) (by first| assumption| rfl| (simp only[V.an,V.aC,Bool.and_self,Bool.true_and,Bool.and_true, *])) (acJ _ _) rfl ?_| refine st ?_| (first| refine b1 ?_ ?_| refine b2 ?_ ?_| refine Br.mk ?_ ?_) <;>intro hc| exact rfl) <;>conv=>whnf)
       exact⟨L,h3,fin d2 k2 af0 k4,rfl⟩
   · have af0: ∀k,afN r k→k<hi→ ¬c (at0 L (f+(2*r+1))) (at0 L (f+k)) < 0:=fun k hk Em=>by
       rcases hk with rfl| rfl
       · exact fun h=>ho.as0 _ _ h h
       · exact k3
     by_cases k4:c (at0 L (f+r)) (at0 L (f+(2*r+1))) < 0
     · (conv=>whnf);repeat' ((first| ((exfalso;omega)) | intro g| refine aL.mk _ (afF (by omega) v0) ?_| refine aL.mk _ (afF (by omega) v1) ?_| refine aL.mk _ (afF (by omega) v2) ?_| refine aL.mk _ (afK v0 v1 (by omega)) ?_| refine gG (by assumption) (by first| assumption| rfl| (simp only[V.an,V.aC,Bool.and_self,Bool.true_and,Bool.and_true, *])) (acJ _ _) rfl ?_| refine st ?_| (first| refine b1 ?_ ?_| refine b2 ?_ ?_| refine Br.mk ?_ ?_) <;>intro hc| exact rfl) <;>conv=>whnf)
       refine a9.mk (2*r+1,swp L (f+r) (f+(2*r+1))) (by dsimp only;omega) ⟨by dsimp only;omega,by dsimp only;omega,h3.trans (.swap (by omega) (by omega) (by omega) (by omega) (by omega)),h4.step ho h1 d1 (by omega) af0 k4 (by omega)⟩ ?_
       have e1:V.int .i64 (IntKind.i64.wrap (IntKind.i64.wrap (2*(r:Int))+1))=aD (2*r+1):=by rw[w1]
       have e2:=afX (g:=0) (sz:=5) (afI (f:=Event.v) (L:=L) v0 v1)
       (refine⟨?_,?_⟩ <;>repeat' (first| exact True.intro| refine And.intro (e1) ?_| refine And.intro (e2) ?_| refine ai ?_| refine And.intro ?_ ?_))
     · (conv=>whnf);repeat' ((first| ((exfalso;omega)) | intro g| refine dI.mk (⟨rfl,rfl,Event.bZ _⟩) ?_| refine aL.mk _ (afF (by omega) v0) ?_| refine aL.mk _ (afF (by omega) v1) ?_| refine aL.mk _ (afF (by omega) v2) ?_| refine gG (by assumption) (by first| assumption| rfl| (simp only[V.an,V.aC,Bool.and_self,Bool.true_and,Bool.and_true, *])) (acJ _ _) rfl ?_| refine st ?_| (first| refine b1 ?_ ?_| refine b2 ?_ ?_| refine Br.mk ?_ ?_) <;>intro hc| exact rfl) <;>conv=>whnf)
       exact⟨L,h3,fin d1 (by omega) af0 k4,rfl⟩
 · have af0: ∀k,afN r k→k<hi→ ¬c (at0 L (f+(2*r+1))) (at0 L (f+k)) < 0:=fun k hk Em=>by
     rcases hk with rfl| rfl
     · exact fun h=>ho.as0 _ _ h h
     · omega
   by_cases k4:c (at0 L (f+r)) (at0 L (f+(2*r+1))) < 0
   · (conv=>whnf);repeat' ((first| ((exfalso;omega)) | intro g| refine aL.mk _ (afF (by omega) v0) ?_| refine aL.mk _ (afF (by omega) v1) ?_| refine aL.mk _ (afK v0 v1 (by omega)) ?_| refine gG (by assumption) (by first| assumption| rfl| (simp only[V.an,V.aC,Bool.and_self,Bool.true_and,Bool.and_true, *])) (acJ _ _) rfl ?_| refine st ?_| (first| refine b1 ?_ ?_| refine b2 ?_ ?_| refine Br.mk ?_ ?_) <;>intro hc| exact rfl) <;>conv=>whnf)
     refine a9.mk (2*r+1,swp L (f+r) (f+(2*r+1))) (by dsimp only;omega) ⟨by dsimp only;omega,by dsimp only;omega,h3.trans (.swap (by omega) (by omega) (by omega) (by omega) (by omega)),h4.step ho h1 d1 (by omega) af0 k4 (by omega)⟩ ?_
     have e1:V.int .i64 (IntKind.i64.wrap (IntKind.i64.wrap (2*(r:Int))+1))=aD (2*r+1):=by rw[w1]
     have e2:=afX (g:=0) (sz:=5) (afI (f:=Event.v) (L:=L) v0 v1)
     (refine⟨?_,?_⟩ <;>repeat' (first| exact True.intro| refine And.intro (e1) ?_| refine And.intro (e2) ?_| refine ai ?_| refine And.intro ?_ ?_))
   · (conv=>whnf);repeat' ((first| ((exfalso;omega)) | intro g| refine dI.mk (⟨rfl,rfl,Event.bZ _⟩) ?_| refine aL.mk _ (afF (by omega) v0) ?_| refine aL.mk _ (afF (by omega) v1) ?_| refine gG (by assumption) (by first| assumption| rfl| (simp only[V.an,V.aC,Bool.and_self,Bool.true_and,Bool.and_true, *])) (acJ _ _) rfl ?_| refine st ?_| (first| refine b1 ?_ ?_| refine b2 ?_ ?_| refine Br.mk ?_ ?_) <;>intro hc| exact rfl) <;>conv=>whnf)
     exact⟨L,h3,fin d1 (by omega) af0 k4,rfl⟩
end
end Go.AM
set_option maxRecDepth 20000
namespace Go.AM
section
variable {c:Event→Event→Int} {g:Nat}
set_option maxHeartbeats 4000000 in
theorem agT (ho:Ij c) (hm:df E g=[]) (acJ: ∀a b:Event,Ev E g [a.v,b.v] ⟨vi (c a b),[]⟩) {L0:List Event} {a b:Nat} (hab:a<b) (hb:b≤L0.length) (hlen:L0.length< 1000000):
   ∃L',afG a b L0 L'∧afH c L' a b∧Ev E 568 [.msl 5 (L0.map Event.v) 0 L0.length,aD a,aD b,.fn g []] ⟨.tuple [],[(0,L'.map Event.v)]⟩:=by
 have key:=Ev.cO (R:=fun r=> ∃L':List Event,afG a b L0 L'∧afH c L' a b∧r=⟨.tuple [],[(0,L'.map Event.v)]⟩) aid (aie [.msl 5 (L0.map Event.v) 0 L0.length,aD a,aD b,.fn g []]) rfl ?_
 · obtain⟨res,h1,l',h2,h3,rfl⟩:=key
   exact⟨l',h2,h3,h1⟩
 obtain⟨hi,hhi⟩: ∃hi,hi=b - a:=⟨_,rfl⟩
 have hbe:b=a+hi:=by omega
 have w0:IntKind.i64.wrap ((b:Int) - a)=(hi:Int):=(wrap64 (by omega) (by omega)).trans (by omega)
 have w1:IntKind.i64.wrap ((IntKind.i64.wrap (IntKind.i64.wrap ((b:Int) - a) - 1)).tdiv 2)=(((hi - 1) / 2:Nat):Int):=by
   rw[w0,show IntKind.i64.wrap ((hi:Int) - 1)=((hi - 1:Nat):Int) from(wrap64 (by omega) (by omega)).trans (by omega)]
   have: ((hi - 1:Nat):Int).tdiv 2=(((hi - 1) / 2:Nat):Int):=rfl
   rw[this];exact wrap64 (by omega) (by omega)
 have agy: ∀x,¬c x x< 0:=fun x h=>ho.as0 x x h h
 (conv=>whnf);repeat' ((first| intro g| refine st ?_| (first| refine b1 ?_ ?_| refine b2 ?_ ?_| refine Br.mk ?_ ?_) <;>intro hc| exact rfl) <;>conv=>whnf)
 have e1:V.int .i64 (IntKind.i64.wrap ((b:Int) - a))=aD hi:=by rw[w0]
 have e2:V.int .i64 (IntKind.i64.wrap ((IntKind.i64.wrap (IntKind.i64.wrap ((b:Int) - a) - 1)).tdiv 2))=aD ((hi - 1) / 2):=by rw[w1]
 refine aV.by (fun ((x,k,L):Int×Nat×List Event)=> ⟨[(0,.sl 0 0 0 L0.length),(3,.fn g []),(8,aD a),(9,aD 0),(10,aD hi),(11,vi x)],[(0,⟨0,5,true,false,some (L.map Event.v)⟩)]⟩)
   (fun p=>p.1+1=(p.2.1:Int)∧p.2.1≤hi∧afG a b L0 p.2.2∧af6 c p.2.2 a p.2.1 hi) (fun p=>p.2.1) ((((hi - 1) / 2:Nat):Int),(hi - 1) / 2+1,L0) (by(refine⟨?_,?_⟩ <;>repeat' (first| exact True.intro| refine And.intro (e1) ?_| refine And.intro (e2) ?_| refine ai ?_| refine And.intro ?_ ?_))) ⟨by dsimp only;omega,by dsimp only;omega,.refl,fun i k h1 h2 h3=>by dsimp only at h1;unfold afN at h2;omega⟩ ?_
 rintro⟨x,k,L⟩ ⟨h1,h2,h3,h4⟩
 dsimp only at h1 h2 h3 h4
 have hl:=h3.len
 cases k with
 | succ i=>
   obtain rfl:x=(i:Int):=by omega
   obtain⟨L',p1,p2,SR⟩:=agn ho hm acJ (af5.start h4) (by omega) (by omega) (by omega)
   rw[hl] at SR
   (conv=>whnf);repeat' ((first| ((exfalso;omega)) | intro g| refine dI.mk (⟨rfl,rfl,rfl,by simp;omega,Event.bZ _⟩) ?_| refine dI.mk (⟨rfl,rfl,Event.bZ _⟩) ?_| refine ag.mk _ (SR) ?_| refine st ?_| (first| refine b1 ?_ ?_| refine b2 ?_ ?_| refine Br.mk ?_ ?_) <;>intro hc| exact rfl) <;>conv=>whnf)
   refine a9.mk ((i:Int) - 1,i,L') (by dsimp only;omega) ⟨by dsimp only;omega,by dsimp only;omega,h3.trans (p1.wide (by omega) (by omega)),p2⟩ (by(refine⟨?_,?_⟩ <;>repeat' (first| exact True.intro| refine ai ?_| refine And.intro ?_ ?_)))
 | zero=>
   have h1:x+1=0:=h1
   obtain rfl:x= -1:=by omega
   have w2:IntKind.i64.wrap ((hi:Int) - 1)=(hi:Int) - 1:=wrap64 (by omega) (by omega)
   (conv=>whnf);repeat' ((first| intro g| refine st ?_| (first| refine b1 ?_ ?_| refine b2 ?_ ?_| refine Br.mk ?_ ?_) <;>intro hc| exact rfl) <;>conv=>whnf)
   refine aV.by (fun ((x,k,L):Int×Nat×List Event)=> ⟨[(0,.sl 0 0 0 L0.length),(3,.fn g []),(8,aD a),(9,aD 0),(10,aD hi),(12,vi x)],[(0,⟨0,5,true,false,some (L.map Event.v)⟩)]⟩)
     (fun p=>p.1+1=(p.2.1:Int)∧p.2.1≤hi∧afG a b L0 p.2.2∧Pop c p.2.2 a p.2.1 hi) (fun p=>p.2.1) ((hi:Int) - 1,hi,L) (by(refine⟨?_,?_⟩ <;>repeat' (first| exact True.intro| refine ai ?_| refine And.intro ?_ ?_))) ⟨by dsimp only;omega,Nat.le_refl _,h3,h4,fun p q h1 h2 h3=>by dsimp only at h1;omega⟩ ?_
   clear h1 h2 h3 h4 hl
   rintro⟨x,k,L⟩ ⟨h1,h2,h3,h4⟩
   dsimp only at h1 h2 h3 h4
   have hl:=h3.len
   cases k with
   | succ n=>
     obtain rfl:x=(n:Int):=by omega
     have Yk:=h4.swap h2 (by omega)
     have hsl:=agR (L:=L) (i:=a) (j:=a+n)
     obtain⟨L',p1,p2,SR⟩:=agn ho hm acJ Yk (by omega) (by omega) (by omega)
     rw[hsl,hl] at SR
     have v1:IntKind.i64.wrap ((a:Int)+n)=((a+n:Nat):Int):=(wrap64 (by omega) (by omega)).trans (by omega)
     have hss:=afI (f:=Event.v) (L:=L) (i:=a) (j:=a+n) (a:=a) rfl v1
     have aiT:=hss ▸ SR
     have hpl: (((L.map Event.v).set (a:Int).toNat (at0 L (a+n)).v).set (IntKind.i64.wrap ((a:Int)+n)).toNat (at0 L a).v).length=L0.length:=by simp[hl]
     have hpp:V.an (((L.map Event.v).set (a:Int).toNat (at0 L (a+n)).v).set (IntKind.i64.wrap ((a:Int)+n)).toNat (at0 L a).v)=true:=by rw[hss];exact Event.bZ _
     (conv=>whnf);repeat' ((first| ((exfalso;omega)) | intro g| refine dI.mk (⟨rfl,rfl,rfl,by omega,hpp⟩) ?_| refine dI.mk (⟨rfl,rfl,rfl,by simp;omega,hpp⟩) ?_| refine dI.mk (⟨rfl,rfl,Event.bZ _⟩) ?_| refine aL.mk _ (afF (by omega) rfl) ?_| refine aL.mk _ (afF (by omega) v1) ?_| refine aL.mk _ (afK rfl v1 (by omega)) ?_| refine ag.mk _ (aiT) ?_| refine st ?_| (first| refine b1 ?_ ?_| refine b2 ?_ ?_| refine Br.mk ?_ ?_) <;>intro hc| exact rfl) <;>conv=>whnf)
     refine a9.mk ((n:Int) - 1,n,L') (by dsimp only;omega) ⟨by dsimp only;omega,by dsimp only;omega,(h3.trans (.swap (by omega) (by omega) (by omega) (by omega) (by omega))).trans (p1.wide (by omega) (by omega)),h4.next ho agy h2 (by omega) p1 p2⟩ (by(refine⟨?_,?_⟩ <;>repeat' (first| exact True.intro| refine ai ?_| refine And.intro ?_ ?_)))
   | zero=>
     have h1:x+1=0:=h1
     obtain rfl:x= -1:=by omega
     (conv=>whnf);repeat' ((first| intro g| refine dI.mk (⟨rfl,rfl,Event.bZ _⟩) ?_| refine st ?_| (first| refine b1 ?_ ?_| refine b2 ?_ ?_| refine Br.mk ?_ ?_) <;>intro hc| exact rfl) <;>conv=>whnf)
     have:=h4.done
     rw[←hbe] at this
     exact⟨L,h3,this,rfl⟩
end
end Go.AM
