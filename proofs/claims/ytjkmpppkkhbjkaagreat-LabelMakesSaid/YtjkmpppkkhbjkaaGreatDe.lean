/-
  Texts of the proof: SSortA, SSortE, SSortE2.
-/
import Derived.Test.YtjkmpppkkhbjkaaGreatDa
import Derived.KernelRfl
set_option maxRecDepth 20000
set_option linter.unusedSimpArgs false
set_option linter.unusedVariables false
namespace Go.AM
structure Py {α:Type} (c:α→α→Int):Prop where
 tr: ∀a b d,¬c b a< 0→ ¬c d b< 0→ ¬c d a< 0
 aS: ∀a b,c a b< 0→ ¬c b a< 0
def um {α:Type} (c:α→α→Int) (a b:α):Prop:= ¬c b a< 0
structure oN {α:Type} (c:α→α→Int) (l0:List α) (i j:Nat) (L pre:List α) (x:α) (mid post:List α):Prop where
 perm:L.Perm l0
 eq:L=pre++x:: (mid++post)
 hj:pre.length=j
 hi:j+mid.length=i
 YO: (pre++mid).Pairwise (um c)
 up: ∀y ∈ mid,c x y< 0
section
variable {α:Type} {c:α→α→Int} {l0 L pre mid post:List α} {x:α} {i j:Nat}
theorem oN.start (hp:L.Perm l0) (hs: (L.take i).Pairwise (um c)) (hi:i<L.length):oN c l0 i i L (L.take i) L[i] [] (L.drop (i+1)) where
 perm:=hp
 eq:=by
  simp only[List.nil_append]
  rw[List.getElem_cons_drop,List.take_append_drop]
 hj:=by simp;omega
 hi:=by simp
 YO:=by simpa using hs
 up:=by simp
theorem oN.Pz (h:oN c l0 i j L pre x mid post):L[j]? =some x:=by
 rw[h.eq,List.getElem?_append_right (by have:=h.hj;omega),h.hj];simp
theorem oN.PA {y:α} {j4:List α} (h:oN c l0 i (j+1) L (j4++[y]) x mid post):L[j]? =some y:=by
 have:=h.hj
 simp at this
 rw[h.eq,List.append_assoc,List.getElem?_append_right (by omega),this];simp
theorem oN.snoc (h:oN c l0 i (j+1) L pre x mid post): ∃j4 y,pre=j4++[y]:=by
 have:=h.hj
 rcases List.eq_nil_or_concat pre with rfl| ⟨l,b,rfl⟩
 · simp at this
 · exact⟨l,b,by simp⟩
theorem oN.step {y:α} {j4:List α} (h:oN c l0 i (j+1) L (j4++[y]) x mid post) (hc:c x y< 0):oN c l0 i j ((L.set (j+1) y).set j x) j4 x (y::mid) post where
 perm:=by
  have hp:=h.perm
  have e: (L.set (j+1) y).set j x=j4++x:: (y::mid++post):=by
   have hj:j4.length=j:=by have:=h.hj;simpa using this
   rw[h.eq]
   simp[List.set_append,hj]
  rw[e]
  refine List.Perm.trans ?_ hp
  rw[h.eq]
  simp only[List.append_assoc,List.cons_append,List.nil_append]
  exact List.Perm.append_left _ (List.Perm.swap _ _ _)
 eq:=by
  have hj:j4.length=j:=by have:=h.hj;simpa using this
  rw[h.eq]
  simp[List.set_append,hj]
 hj:=by have:=h.hj;simpa using this
 hi:=by have:=h.hi;simp;omega
 YO:=by have:=h.YO;simpa using this
 up:=fun z hz=>by
  rcases List.mem_cons.1 hz with rfl| hz
  · exact hc
  · exact h.up z hz
theorem oN.len (h:oN c l0 i j L pre x mid post):L.length=l0.length:=h.perm.length_eq
theorem oN.stop (ho:Py c) (h:oN c l0 i j L pre x mid post) (hx:pre=[]∨ ∃j4 y,pre=j4++[y]∧ ¬c x y< 0): (L.take (i+1)).Pairwise (um c):=by
 have e:L.take (i+1)=pre++x::mid:=by
   have h1:=h.hj
   have h2:=h.hi
   rw[h.eq,←List.cons_append,←List.append_assoc,List.take_append_of_le_length (by simp;omega),List.take_of_length_le (by simp;omega)]
 rw[e,List.pairwise_append]
 have hs:=List.pairwise_append.1 h.YO
 refine⟨hs.1,?_,fun a ha b hb=> ?_⟩
 · rw[List.pairwise_cons]
   exact⟨fun y hy=>ho.aS _ _ (h.up y hy),hs.2.1⟩
 · rcases List.mem_cons.1 hb with rfl| hb
   · rcases hx with rfl| ⟨j4,y,rfl,hy⟩
     · simp at ha
     · rcases List.mem_append.1 ha with Np| Np
       · have h3:=(List.pairwise_append.1 hs.1).2.2 a Np y (by simp)
         exact ho.tr a y b h3 hy
       · have:a=y:=by simpa using Np
         subst this;exact hy
   · exact hs.2.2 a ha b hb
end
end Go.AM
namespace Go.AM
section
variable {c:Event→Event→Int} {g:Nat}
end
end Go.AM
namespace Go.AM
section
variable {c:Event→Event→Int} {g:Nat} {l:List Event}
end
end Go.AM
