/-
  Texts of the proof, joined by program: FmPut. Own work.
-/
import Derived.Test.YtinmckmdbepjcaaData
set_option linter.unusedSimpArgs false
set_option linter.unusedVariables false
set_option maxRecDepth 20000
namespace Go.AM
theorem iG (l:List Int):V.aq (l.map vi)=true:=AM.cN (fun _=>rfl) l
def kh (l:List Int) (n:Int):Nat→Nat
 | 0=>0
 | k+1=>if n≤l.getD k 0 then kh l n k else k+1
theorem uk (l:List Int) (n:Int): ∀k,kh l n k≤k
 | 0=>Nat.le_refl _
 | k+1=>by unfold kh;split;exact Nat.le_succ_of_le (uk l n k);exact Nat.le_refl _
def C2 (l:List Int) (n:Int):Bool:=decide (l[kh l n l.length]? =some n)
def C3 (l:List Int) (n:Int):List Int:=l.take (kh l n l.length)++[n]++l.drop (kh l n l.length)
def Az (l:List Int) (n:Int):List Int:=if C2 l n then l else C3 l n
set_option maxHeartbeats 2000000 in
theorem Hz {l:List Int} (hl:l.length< 1000000) (n:Int):Ev E 162 [.lit 1 (l.map vi),vi n] ⟨if C2 l n then .lit 1 (l.map vi) else .own 1 ((C3 l n).map vi),[]⟩:=by
 have hle:=uk l n l.length
 refine Ev.bU IC (ID _) rfl ?_
 (conv=>whnf);repeat' ((first| intro g| refine st ?_| (first| refine b1 ?_ ?_| refine b2 ?_ ?_| refine Br.mk ?_ ?_) <;>intro hc| exact rfl) <;>conv=>whnf)
 refine ba.by (fun (k:Nat)=> ⟨[(0,.lit 1 (l.map vi)),(1,vi n),(5,aF k)],[]⟩) (fun k=>k≤l.length∧kh l n l.length=kh l n k) (fun k=>k) l.length (by(refine⟨?_,?_⟩ <;>repeat' (first| exact True.intro| refine ai ?_| refine And.intro ?_ ?_))) ⟨Nat.le_refl _,rfl⟩ ?_
 rintro k ⟨hk,hd⟩
 try dsimp only at hk hd
 have HA: ∀k:Nat,kh l n l.length=k→C2 l n=decide (l[k]? =some n)∧C3 l n=l.take k++[n]++l.drop k:=fun k h=>by
   unfold C2 C3;rw[h];exact⟨rfl,rfl⟩
 have w1: ∀k a:Nat,k≤l.length→a=k→aO (l.map vi) 0 a=(l.take k).map vi:=fun k a h1 h2=>by
   subst h2;rw[gX];simp
 have w2: ∀k a b:Nat,k≤l.length→a=k→b=l.length - k→aO (l.map vi) a b=(l.drop k).map vi:=fun k a b h1 h2 h3=>by
   subst h2;subst h3;rw[gX,List.take_of_length_le (by simp)]
 cases k with
 | zero=>
   obtain⟨e1,e2⟩:=HA 0 hd
   rw[e1,e2]
   by_cases cT:0 <l.length
   · obtain⟨x,hx⟩: ∃x,l[0]? =some x:=⟨_,aL cT⟩
     by_cases UX:x=n
     · (conv=>whnf);repeat' ((first| intro g| refine aH.mk _ (aC hx rfl) ?_| refine st ?_| (first| refine b1 ?_ ?_| refine b2 ?_ ?_| refine Br.mk ?_ ?_) <;>intro hc| exact rfl) <;>conv=>whnf)
       simp[hx,UX]
     · (conv=>whnf);repeat' ((first| intro g| refine aH.mk _ (aC hx rfl) ?_| refine aH.mk _ (w1 0 _ (Nat.zero_le _) rfl) ?_| refine aH.mk _ (w2 0 _ _ (Nat.zero_le _) rfl rfl) ?_| refine st ?_| (first| refine b1 ?_ ?_| refine b2 ?_ ?_| refine Br.mk ?_ ?_) <;>intro hc| exact rfl) <;>conv=>whnf)
       simp[hx,UX]
   · have yx:l=[]:=by
       cases l with
       | nil=>rfl
       | cons a l=>simp at cT
     subst yx
     (conv=>whnf);repeat' ((first| intro g| refine aH.mk _ (w1 0 _ (Nat.zero_le _) rfl) ?_| refine aH.mk _ (w2 0 _ _ (Nat.zero_le _) rfl rfl) ?_| refine st ?_| (first| refine b1 ?_ ?_| refine b2 ?_ ?_| refine Br.mk ?_ ?_) <;>intro hc| exact rfl) <;>conv=>whnf)
 | succ k=>
   obtain⟨x,hx⟩: ∃x,l[k]? =some x:=⟨_,aL (by omega)⟩
   have vb:l.getD k 0=x:=by simp[List.getD_eq_getElem?_getD,hx]
   have hw:IntKind.i64.wrap (((k+1:Nat):Int) - 1)=(k:Int):=(wrap64 (by omega) (by omega)).trans (by omega)
   by_cases xb:n≤x
   · have kE:kh l n (k+1)=kh l n k:=by rw[kh,vb,if_pos xb]
     (conv=>whnf);repeat' ((first| intro g| refine aH.mk _ (aC hx hw) ?_| refine st ?_| (first| refine b1 ?_ ?_| refine b2 ?_ ?_| refine Br.mk ?_ ?_) <;>intro hc| exact rfl) <;>conv=>whnf)
     exact bc.mk k (by first| omega| (dsimp only;omega)) ⟨by omega,hd.trans kE⟩ (by(refine⟨?_,?_⟩ <;>repeat' (first| exact True.intro| refine ai ?_| refine And.intro ?_ ?_)))
   · have kE:kh l n l.length=k+1:=by rw[hd,kh,vb,if_neg xb]
     obtain⟨e1,e2⟩:=HA (k+1) kE
     rw[e1,e2]
     by_cases cT:k+1 <l.length
     · obtain⟨y,hy⟩: ∃y,l[k+1]? =some y:=⟨_,aL cT⟩
       by_cases UY:y=n
       · (conv=>whnf);repeat' ((first| intro g| refine aH.mk _ (aC hx hw) ?_| refine aH.mk _ (aC hy rfl) ?_| refine st ?_| (first| refine b1 ?_ ?_| refine b2 ?_ ?_| refine Br.mk ?_ ?_) <;>intro hc| exact rfl) <;>conv=>whnf)
         simp[hy,UY]
       · (conv=>whnf);repeat' ((first| intro g| refine aH.mk _ (aC hx hw) ?_| refine aH.mk _ (aC hy rfl) ?_| refine aH.mk _ (w1 (k+1) _ (by omega) (by first| omega| (simp;done))) ?_| refine aH.mk _ (w2 (k+1) _ _ (by omega) (by first| omega| (simp;done)) (by first| omega| (simp;omega) | (simp;done))) ?_| refine st ?_| (first| refine b1 ?_ ?_| refine b2 ?_ ?_| refine Br.mk ?_ ?_) <;>intro hc| exact rfl) <;>conv=>whnf)
         simp[hy,UY]
     · have vu:k+1=l.length:=by omega
       (conv=>whnf);repeat' ((first| intro g| refine aH.mk _ (aC hx hw) ?_| refine aH.mk _ (w1 (k+1) _ (by omega) (by first| omega| (simp;done))) ?_| refine aH.mk _ (w2 (k+1) _ _ (by omega) (by first| omega| (simp;done)) (by first| omega| (simp;omega) | (simp;done))) ?_| refine st ?_| (first| refine b1 ?_ ?_| refine b2 ?_ ?_| refine Br.mk ?_ ?_) <;>intro hc| exact rfl) <;>conv=>whnf)
       simp[vu]
theorem E1 (l:List Int) (n:Int): (Az l n).length≤l.length+1:=by
 unfold Az C3
 split
 · omega
 · have:=uk l n l.length
   simp;omega
theorem ZD {l:List Int} {n:Int} (h:l.Pairwise (· < ·)): ∀k,k≤l.length→(∀ (i:Nat) (x:Int),l[i]? =some x→i<k→(i<kh l n k↔x<n))
 | 0,_,i,x,hx,hi=>by omega
 | k+1,hk,i,x,hx,hi=>by
   unfold kh
   obtain⟨y,hy⟩: ∃y,l[k]? =some y:=⟨_,aL (by omega)⟩
   have vb:l.getD k 0=y:=by simp[List.getD_eq_getElem?_getD,hy]
   rw[vb]
   have bk:i<k→x<y:=fun vz=>by
     obtain⟨h1,rfl⟩:=List.getElem?_eq_some_iff.1 hx
     obtain⟨h2,rfl⟩:=List.getElem?_eq_some_iff.1 hy
     exact List.pairwise_iff_getElem.1 h i k h1 h2 vz
   split
   · rename_i hn
     rcases(by omega:i<k∨i=k) with vz| rfl
     · exact ZD h k (by omega) i x hx vz
     · have:=uk l n i
       rw[hx] at hy;injection hy with hy;subst hy
       omega
   · rename_i hn
     rcases(by omega:i<k∨i=k) with vz| rfl
     · have:=bk vz;omega
     · rw[hx] at hy;injection hy with hy;subst hy
       omega
theorem aaN (l:List Int) (n x:Int):x ∈ Az l n↔x ∈ l∨x=n:=by
 unfold Az
 split
 · rename_i h
   constructor
   · exact .inl
   · rintro(h1| rfl)
     · exact h1
     · unfold C2 at h
       exact List.mem_of_getElem? (of_decide_eq_true h)
 · unfold C3
   have:x ∈ l↔x ∈ l.take (kh l n l.length)∨x ∈ l.drop (kh l n l.length):=by
     rw[←List.mem_append,List.take_append_drop]
   rw[this]
   simp only[List.mem_append,List.mem_singleton]
   constructor
   · rintro((h| h) | h) <;>simp[h]
   · rintro((h| h) | h) <;>simp[h]
theorem ZZ {l:List Int} (h:l.Pairwise (· < ·)) (n:Int): (Az l n).Pairwise (· < ·):=by
 unfold Az
 split
 · exact h
 · rename_i hh
   have uq:=ZD (n:=n) h l.length (Nat.le_refl _)
   generalize hd:kh l n l.length=d at uq
   have BP:d≤l.length:=hd ▸ uk l n l.length
   unfold C3
   rw[hd]
   have h1: ∀x ∈ l.take d,x<n:=fun x hx=>by
     obtain⟨i,hi⟩:=List.mem_iff_getElem?.1 hx
     have GD:i<d:=by have:=(List.getElem?_eq_some_iff.1 hi).1;simp at this;omega
     rw[List.getElem?_take] at hi
     simp only[GD,if_true] at hi
     exact(uq i x hi (by omega)).1 GD
   have h2: ∀x ∈ l.drop d,n<x:=fun x hx=>by
     obtain⟨i,hi⟩:=List.mem_iff_getElem?.1 hx
     rw[List.getElem?_drop] at hi
     have GD:=(List.getElem?_eq_some_iff.1 hi).1
     have h3:=(uq (d+i) x hi GD)
     have h4: ¬x<n:=fun h=>by have:=h3.2 h;omega
     have h5:x≠n:=fun e=>by
      subst e
      cases i with
      | zero=>
        apply hh
        unfold C2
        rw[hd]
        simpa using hi
      | succ i=>
        obtain⟨y,hy⟩: ∃y,l[d]? =some y:=⟨_,aL (by omega)⟩
        have hyx:y<x:=by
         obtain⟨q1,rfl⟩:=List.getElem?_eq_some_iff.1 hi
         obtain⟨q2,rfl⟩:=List.getElem?_eq_some_iff.1 hy
         exact List.pairwise_iff_getElem.1 h d (d+(i+1)) q2 q1 (by omega)
        have:=(uq d y hy (by omega)).2 hyx
        omega
     omega
   have qm: (l.take d++l.drop d).Pairwise (· < ·):=by rw[List.take_append_drop];exact h
   rw[List.append_assoc,List.pairwise_append]
   rw[List.pairwise_append] at qm
   refine⟨qm.1,?_,fun a ha b hb=> ?_⟩
   · rw[List.singleton_append,List.pairwise_cons];exact⟨h2,qm.2.1⟩
   · rw[List.singleton_append] at hb
     rcases List.mem_cons.1 hb with rfl| hb
     · exact h1 a ha
     · exact qm.2.2 a ha b hb
end Go.AM
