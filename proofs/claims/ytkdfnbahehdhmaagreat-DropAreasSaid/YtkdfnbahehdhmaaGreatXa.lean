/-
  Texts of the proof, joined by program: DaA, SSortA, DaB, DaC, DaX. Own work.
-/
import Derived.Test.YtkdfnbahehdhmaaGreatData
import Derived.Test.YtkdfnbahehdhmaaGreatOpsC
import Derived.KernelRfl
set_option linter.unusedSimpArgs false
set_option linter.unusedVariables false
set_option maxRecDepth 20000
set_option maxHeartbeats 4000000
namespace Go.AM
theorem xI (x:Int):Ev E 36 [vi x] ⟨.bool false,[]⟩:=by
 refine Ev.bY Vi (Vj _) rfl ?_
 (conv=>whnf);repeat' ((first| intro g| refine st ?_| (first| refine b1 ?_ ?_| refine b2 ?_ ?_| refine Br.mk ?_ ?_) <;>intro hc| exact rfl) <;>conv=>whnf)
 all_goals simp
def BS (x y:Int):Int:=if x<y then -1 else if y<x then 1 else 0
theorem sH (x y:Int):Ev E 23 [vi x,vi y] ⟨vi (BS x y),[]⟩:=by
 refine Ev.bY Ve (Vf _) rfl ?_
 (conv=>whnf);repeat' ((first| intro g| refine ak.mk _ (xI x) ?_| refine ak.mk _ (xI y) ?_| refine st ?_| (first| refine b1 ?_ ?_| refine b2 ?_ ?_| refine Br.mk ?_ ?_) <;>intro hc| exact rfl) <;>conv=>whnf)
 all_goals simp[BS, *]
 all_goals omega
def Mg (a b:Int):Int:=if a=0 then b else a
theorem Mh (a b:Int):Ev E 22 [.lit 1 [vi a,vi b]] ⟨vi (Mg a b),[]⟩:=by
 refine Ev.bY Vc (Vd _) rfl ?_
 (conv=>whnf);repeat' ((first| intro g| refine st ?_| (first| refine b1 ?_ ?_| refine b2 ?_ ?_| refine Br.mk ?_ ?_) <;>intro hc| exact rfl) <;>conv=>whnf)
 refine a9.by (fun i:Nat=> ⟨[(3,vi 0),(6,.lit 1 [vi a,vi b]),(7,aM 2),(8,aM i)],[]⟩) (fun i=>i≤2∧(1≤i→a=0)∧(2≤i→b=0)) (fun i=>2 - i) 0 ?_ ?_ ?_
 · (refine⟨?_,?_⟩ <;>repeat' (first| exact True.intro| refine ai ?_| refine And.intro ?_ ?_))
 · simp
 rintro i ⟨hi,h1,h2⟩
 rcases(by omega:i=0∨i=1∨i=2) with rfl| rfl| rfl
 · (conv=>whnf);repeat' ((first| intro g| refine st ?_| (first| refine b1 ?_ ?_| refine b2 ?_ ?_| refine Br.mk ?_ ?_) <;>intro hc| exact rfl) <;>conv=>whnf)
   · simp[Mg,hc]
   · exact br.mk 1 (by first| omega| (dsimp only;omega)) ⟨by omega,fun _=>by simpa using hc,fun h=>by omega⟩ (by(refine⟨?_,?_⟩ <;>repeat' (first| exact True.intro| refine ai ?_| refine And.intro ?_ ?_)))
 · have ha:=h1 (by omega)
   (conv=>whnf);repeat' ((first| intro g| refine st ?_| (first| refine b1 ?_ ?_| refine b2 ?_ ?_| refine Br.mk ?_ ?_) <;>intro hc| exact rfl) <;>conv=>whnf)
   · simp[Mg,ha]
   · exact br.mk 2 (by first| omega| (dsimp only;omega)) ⟨by omega,fun _=>ha,fun _=>by simpa using hc⟩ (by(refine⟨?_,?_⟩ <;>repeat' (first| exact True.intro| refine ai ?_| refine And.intro ?_ ?_)))
 · have ha:=h1 (by omega)
   have hb:=h2 (by omega)
   (conv=>whnf);repeat' ((first| intro g| refine st ?_| (first| refine b1 ?_ ?_| refine b2 ?_ ?_| refine Br.mk ?_ ?_) <;>intro hc| exact rfl) <;>conv=>whnf)
   all_goals simp[Mg,ha,hb]
theorem uC (a:Int): ∃r:Int,Ev E 287 [vi a] ⟨vi r,[]⟩:=by
 have key:=Ev.bT (R:=fun res=> ∃r:Int,res=⟨vi r,[]⟩) Qs (Qt [vi a]) rfl ?_
 · obtain⟨res,h1,r,rfl⟩:=key
   exact⟨r,h1⟩
 (conv=>whnf);repeat' ((first| intro g| refine ak.mk _ (sH _ _) ?_| refine st ?_| (first| refine b1 ?_ ?_| refine b2 ?_ ?_| refine Br.mk ?_ ?_) <;>intro hc| exact rfl) <;>conv=>whnf)
 all_goals exact⟨_,rfl⟩
noncomputable def Mi (a:Int):Int:=(uC a).choose
theorem Ea (a:Int):Ev E 287 [vi a] ⟨vi (Mi a),[]⟩:=(uC a).choose_spec
theorem uD (a:Int): ∃r:Int,Ev E 299 [vi a] ⟨.int .u64 r,[]⟩:=by
 have key:=Ev.bT (R:=fun res=> ∃r:Int,res=⟨.int .u64 r,[]⟩) QE (QF [vi a]) rfl ?_
 · obtain⟨res,h1,r,rfl⟩:=key
   exact⟨r,h1⟩
 (conv=>whnf);repeat' ((first| intro g| refine st ?_| (first| refine b1 ?_ ?_| refine b2 ?_ ?_| refine Br.mk ?_ ?_) <;>intro hc| exact rfl) <;>conv=>whnf)
 all_goals exact⟨_,rfl⟩
noncomputable def Mj (a:Int):Int:=(uD a).choose
theorem Eb (a:Int):Ev E 299 [vi a] ⟨.int .u64 (Mj a),[]⟩:=(uD a).choose_spec
theorem uE (a:Int): ∃r:Bool,Ev E 304 [.int .u64 a] ⟨.bool r,[]⟩:=by
 have key:=Ev.bT (R:=fun res=> ∃r:Bool,res=⟨.bool r,[]⟩) QI (QJ [.int .u64 a]) rfl ?_
 · obtain⟨res,h1,r,rfl⟩:=key
   exact⟨r,h1⟩
 (conv=>whnf);repeat' ((first| intro g| refine st ?_| (first| refine b1 ?_ ?_| refine b2 ?_ ?_| refine Br.mk ?_ ?_) <;>intro hc| exact rfl) <;>conv=>whnf)
 all_goals exact⟨_,rfl⟩
noncomputable def Mk (a:Int):Bool:=(uE a).choose
theorem Ec (a:Int):Ev E 304 [.int .u64 a] ⟨.bool (Mk a),[]⟩:=(uE a).choose_spec
theorem uF (a:Int) (b:Int): ∃r:Int,Ev E 300 [.int .u64 a,.int .u64 b] ⟨vi r,[]⟩:=by
 have key:=Ev.bT (R:=fun res=> ∃r:Int,res=⟨vi r,[]⟩) QG (QH [.int .u64 a,.int .u64 b]) rfl ?_
 · obtain⟨res,h1,r,rfl⟩:=key
   exact⟨r,h1⟩
 (conv=>whnf);repeat' ((first| intro g| refine ak.mk _ (Ec _) ?_| refine st ?_| (first| refine b1 ?_ ?_| refine b2 ?_ ?_| refine Br.mk ?_ ?_) <;>intro hc| exact rfl) <;>conv=>whnf)
 all_goals exact⟨_,rfl⟩
noncomputable def Ml (a:Int) (b:Int):Int:=(uF a b).choose
theorem Ed (a:Int) (b:Int):Ev E 300 [.int .u64 a,.int .u64 b] ⟨vi (Ml a b),[]⟩:=(uF a b).choose_spec
theorem uG (a:Int) (b:Int): ∃r:Int×Int,Ev E 298 [.int .u64 a,.int .u64 b] ⟨.tuple [.int .u64 r.1,.int .u64 r.2],[]⟩:=by
 have key:=Ev.bT (R:=fun res=> ∃r:Int×Int,res=⟨.tuple [.int .u64 r.1,.int .u64 r.2],[]⟩) QC (QD [.int .u64 a,.int .u64 b]) rfl ?_
 · obtain⟨res,h1,r,rfl⟩:=key
   exact⟨r,h1⟩
 (conv=>whnf);repeat' ((first| intro g| refine st ?_| (first| refine b1 ?_ ?_| refine b2 ?_ ?_| refine Br.mk ?_ ?_) <;>intro hc| exact rfl) <;>conv=>whnf)
 all_goals exact⟨⟨_,_⟩,rfl⟩
noncomputable def Ee (a:Int) (b:Int):Int×Int:=(uG a b).choose
theorem Ef (a:Int) (b:Int):Ev E 298 [.int .u64 a,.int .u64 b] ⟨.tuple [.int .u64 (Ee a b).1,.int .u64 (Ee a b).2],[]⟩:=(uG a b).choose_spec
theorem uH (a:Int) (b:Int): ∃r:Int×Int,Ev E 288 [vi a,vi b] ⟨.agg [.int .u64 r.1,.int .u64 r.2],[]⟩:=by
 have key:=Ev.bT (R:=fun res=> ∃r:Int×Int,res=⟨.agg [.int .u64 r.1,.int .u64 r.2],[]⟩) Qu (Qv [vi a,vi b]) rfl ?_
 · obtain⟨res,h1,r,rfl⟩:=key
   exact⟨r,h1⟩
 (conv=>whnf);repeat' ((first| intro g| refine ak.mk _ (Eb _) ?_| refine ak.mk _ (Ef _ _) ?_| refine st ?_| (first| refine b1 ?_ ?_| refine b2 ?_ ?_| refine Br.mk ?_ ?_) <;>intro hc| exact rfl) <;>conv=>whnf)
 all_goals exact⟨⟨_,_⟩,rfl⟩
noncomputable def Eg (a:Int) (b:Int):Int×Int:=(uH a b).choose
theorem Eh (a:Int) (b:Int):Ev E 288 [vi a,vi b] ⟨.agg [.int .u64 (Eg a b).1,.int .u64 (Eg a b).2],[]⟩:=(uH a b).choose_spec
theorem xJ (a:Int) (b:Int) (c:Int) (d:Int): ∃r:Int,Ev E 289 [.agg [.int .u64 a,.int .u64 b],.agg [.int .u64 c,.int .u64 d]] ⟨vi r,[]⟩:=by
 have key:=Ev.bT (R:=fun res=> ∃r:Int,res=⟨vi r,[]⟩) Qw (Qx [.agg [.int .u64 a,.int .u64 b],.agg [.int .u64 c,.int .u64 d]]) rfl ?_
 · obtain⟨res,h1,r,rfl⟩:=key
   exact⟨r,h1⟩
 (conv=>whnf);repeat' ((first| intro g| refine ak.mk _ (Ed _ _) ?_| refine st ?_| (first| refine b1 ?_ ?_| refine b2 ?_ ?_| refine Br.mk ?_ ?_) <;>intro hc| exact rfl) <;>conv=>whnf)
 all_goals exact⟨_,rfl⟩
noncomputable def TQ (a:Int) (b:Int) (c:Int) (d:Int):Int:=(xJ a b c d).choose
theorem GD (a:Int) (b:Int) (c:Int) (d:Int):Ev E 289 [.agg [.int .u64 a,.int .u64 b],.agg [.int .u64 c,.int .u64 d]] ⟨vi (TQ a b c d),[]⟩:=(xJ a b c d).choose_spec
theorem sI (a:Int) (b:Int) (c:Int) (d:Int): ∃r:Int,Ev E 277 [vi a,vi b,vi c,vi d] ⟨vi r,[]⟩:=by
 have key:=Ev.bT (R:=fun res=> ∃r:Int,res=⟨vi r,[]⟩) P8 (P9 [vi a,vi b,vi c,vi d]) rfl ?_
 · obtain⟨res,h1,r,rfl⟩:=key
   exact⟨r,h1⟩
 (conv=>whnf);repeat' ((first| intro g| refine ak.mk _ (Ea _) ?_| refine ak.mk _ (Eh _ _) ?_| refine ak.mk _ (GD _ _ _ _) ?_| refine st ?_| (first| refine b1 ?_ ?_| refine b2 ?_ ?_| refine Br.mk ?_ ?_) <;>intro hc| exact rfl) <;>conv=>whnf)
 all_goals exact⟨_,rfl⟩
noncomputable def GF (a:Int) (b:Int) (c:Int) (d:Int):Int:=(sI a b c d).choose
theorem BT (a:Int) (b:Int) (c:Int) (d:Int):Ev E 277 [vi a,vi b,vi c,vi d] ⟨vi (GF a b c d),[]⟩:=(sI a b c d).choose_spec
end Go.AM
namespace Go.AM
structure Ei {α:Type} (c:α→α→Int):Prop where
 tr: ∀a b d,¬c b a< 0→ ¬c d b< 0→ ¬c d a< 0
 as: ∀a b,c a b< 0→ ¬c b a< 0
def jC {α:Type} (c:α→α→Int) (a b:α):Prop:= ¬c b a< 0
structure lE {α:Type} (c:α→α→Int) (l0:List α) (i j:Nat) (L pre:List α) (x:α) (mid post:List α):Prop where
 perm:L.Perm l0
 eq:L=pre++x:: (mid++post)
 hj:pre.length=j
 hi:j+mid.length=i
 UI: (pre++mid).Pairwise (jC c)
 up: ∀y ∈ mid,c x y< 0
section
variable {α:Type} {c:α→α→Int} {l0 L pre mid post:List α} {x:α} {i j:Nat}
theorem lE.start (hp:L.Perm l0) (hs: (L.take i).Pairwise (jC c)) (hi:i<L.length):lE c l0 i i L (L.take i) L[i] [] (L.drop (i+1)) where
 perm:=hp
 eq:=by
  simp only[List.nil_append]
  rw[List.getElem_cons_drop,List.take_append_drop]
 hj:=by simp;omega
 hi:=by simp
 UI:=by simpa using hs
 up:=by simp
theorem lE.Xi (h:lE c l0 i j L pre x mid post):L[j]? =some x:=by
 rw[h.eq,List.getElem?_append_right (by have:=h.hj;omega),h.hj];simp
theorem lE.Xj {y:α} {oM:List α} (h:lE c l0 i (j+1) L (oM++[y]) x mid post):L[j]? =some y:=by
 have:=h.hj
 simp at this
 rw[h.eq,List.append_assoc,List.getElem?_append_right (by omega),this];simp
theorem lE.snoc (h:lE c l0 i (j+1) L pre x mid post): ∃oM y,pre=oM++[y]:=by
 have:=h.hj
 rcases List.eq_nil_or_concat pre with rfl| ⟨l,b,rfl⟩
 · simp at this
 · exact⟨l,b,by simp⟩
theorem lE.step {y:α} {oM:List α} (h:lE c l0 i (j+1) L (oM++[y]) x mid post) (hc:c x y< 0):lE c l0 i j ((L.set (j+1) y).set j x) oM x (y::mid) post where
 perm:=by
  have hp:=h.perm
  have e: (L.set (j+1) y).set j x=oM++x:: (y::mid++post):=by
   have hj:oM.length=j:=by have:=h.hj;simpa using this
   rw[h.eq]
   simp[List.set_append,hj]
  rw[e]
  refine List.Perm.trans ?_ hp
  rw[h.eq]
  simp only[List.append_assoc,List.cons_append,List.nil_append]
  exact List.Perm.append_left _ (List.Perm.swap _ _ _)
 eq:=by
  have hj:oM.length=j:=by have:=h.hj;simpa using this
  rw[h.eq]
  simp[List.set_append,hj]
 hj:=by have:=h.hj;simpa using this
 hi:=by have:=h.hi;simp;omega
 UI:=by have:=h.UI;simpa using this
 up:=fun z hz=>by
  rcases List.mem_cons.1 hz with rfl| hz
  · exact hc
  · exact h.up z hz
theorem lE.len (h:lE c l0 i j L pre x mid post):L.length=l0.length:=h.perm.length_eq
theorem lE.stop (ho:Ei c) (h:lE c l0 i j L pre x mid post) (hx:pre=[]∨ ∃oM y,pre=oM++[y]∧ ¬c x y< 0): (L.take (i+1)).Pairwise (jC c):=by
 have e:L.take (i+1)=pre++x::mid:=by
   have h1:=h.hj
   have h2:=h.hi
   rw[h.eq,←List.cons_append,←List.append_assoc,List.take_append_of_le_length (by simp;omega),List.take_of_length_le (by simp;omega)]
 rw[e,List.pairwise_append]
 have hs:=List.pairwise_append.1 h.UI
 refine⟨hs.1,?_,fun a ha b hb=> ?_⟩
 · rw[List.pairwise_cons]
   exact⟨fun y hy=>ho.as _ _ (h.up y hy),hs.2.1⟩
 · rcases List.mem_cons.1 hb with rfl| hb
   · rcases hx with rfl| ⟨oM,y,rfl,hy⟩
     · simp at ha
     · rcases List.mem_append.1 ha with Xk| Xk
       · have h3:=(List.pairwise_append.1 hs.1).2.2 a Xk y (by simp)
         exact ho.tr a y b h3 hy
       · have:a=y:=by simpa using Xk
         subst this;exact hy
   · exact hs.2.2 a ha b hb
end
end Go.AM
set_option maxRecDepth 20000
set_option maxHeartbeats 4000000
namespace Go.AM
theorem GG {l:List Int} {g:Nat} {caps:List V} (hc:V.al caps=true) {p:Int→Bool} (hlen:l.length< 4611686018427387904)
   (hp: ∀x:Int,Ev E g (vi x::caps) ⟨.bool (p x),[]⟩) (hm:dh E g=[]):Ev E 280 [.lit 1 (l.map vi),.fn g caps] ⟨vi (firstIdx p l),[]⟩:=by
 have km:V.al (l.map vi)=true:=AM.bP (fun _=>rfl) l
 refine Ev.bY Qq (Qr _) rfl ?_
 (conv=>whnf);repeat' ((first| intro g| refine ep.mk (by simp[V.al,V.aw,hc,km]) ?_| refine st ?_| (first| refine b1 ?_ ?_| refine b2 ?_ ?_| refine Br.mk ?_ ?_) <;>intro hc| exact rfl) <;>conv=>whnf)
 refine a9.by (fun i:Nat=> ⟨[(0,.lit 1 (l.map vi)),(1,.fn g caps),(7,aM (l.map vi).length),(8,aM i)],[]⟩) (fun i=>i≤l.length∧ ∀ (j:Nat) y,j<i→l[j]? =some y→p y=false) (fun i=>l.length - i) 0 ?_ ?_ ?_
 · (refine⟨?_,?_⟩ <;>repeat' (first| exact True.intro| refine ai ?_| refine And.intro ?_ ?_))
 · simp
 rintro i ⟨hi,ef⟩
 have cP:=hc
 by_cases bJ:i<l.length
 · have hx:l[i]? =some l[i]:=bu bJ
   have Av:=hp l[i]
   generalize l[i]=x at hx Av
   have oU: (l.map vi)[i]? =some (vi x):=by simp[hx]
   (conv=>whnf);repeat' ((first| intro g| refine bd.mk _ (oU) ?_| refine eW (by assumption) (by first| assumption| rfl| (simp only[V.al,V.aw,Bool.and_self,Bool.true_and,Bool.and_true, *])) (Av) rfl ?_| refine st ?_| (first| refine b1 ?_ ?_| refine b2 ?_ ?_| refine Br.mk ?_ ?_) <;>intro hc| exact rfl) <;>conv=>whnf)
   · rw[dU ef hx hc]
   · refine br.mk (i+1) (by first| omega| (dsimp only;omega)) ?_ (by(refine⟨?_,?_⟩ <;>repeat' (first| exact True.intro| refine ai ?_| refine And.intro ?_ ?_)))
     refine⟨by omega,fun j y hj hy=> ?_⟩
     by_cases e:j=i
     · subst e
       rw[hx] at hy
       injection hy with hy;subst hy;exact hc
     · exact ef j y (by omega) hy
 · (conv=>whnf);repeat' ((first| intro g| refine st ?_| (first| refine b1 ?_ ?_| refine b2 ?_ ?_| refine Br.mk ?_ ?_) <;>intro hc| exact rfl) <;>conv=>whnf)
   rw[firstIdx_none fun j y hy=>ef j y (by have:=(List.getElem?_eq_some_iff.1 hy).1;omega) hy]
theorem Ej {l:List Int} {g:Nat} {caps:List V} (hc:V.al caps=true) {p:Int→Bool} (hlen:l.length< 4611686018427387904)
  (hp: ∀x:Int,Ev E g (vi x::caps) ⟨.bool (p x),[]⟩) (hm:dh E g=[]):Ev E 259 [.lit 1 (l.map vi),.fn g caps] ⟨.bool (decide (0≤firstIdx p l)),[]⟩:=by
 have h:=GG hc hlen hp hm
 have km:V.al (l.map vi)=true:=AM.bP (fun _=>rfl) l
 have Lx:dh E 280=[]:=rfl
 refine Ev.bY P2 (P3 _) rfl ?_
 (conv=>whnf);repeat' ((first| intro g| refine ep.mk (by simp[V.al,V.aw,hc,km]) ?_| refine st ?_| (first| refine b1 ?_ ?_| refine b2 ?_ ?_| refine Br.mk ?_ ?_) <;>intro hc| exact rfl) <;>conv=>whnf)
 refine eW Lx (by simp[V.al,V.aw,hc,km]) h rfl ?_
 (conv=>whnf);repeat' ((first| intro g| refine st ?_| (first| refine b1 ?_ ?_| refine b2 ?_ ?_| refine Br.mk ?_ ?_) <;>intro hc| exact rfl) <;>conv=>whnf)
theorem GH {l:List Pt} {g:Nat} {caps:List V} (hc:V.al caps=true) {p:Pt→Bool} (hlen:l.length< 4611686018427387904)
   (hp: ∀x:Pt,Ev E g (Pt.v x::caps) ⟨.bool (p x),[]⟩) (hm:dh E g=[]):Ev E 224 [.lit 2 (l.map Pt.v),.fn g caps] ⟨vi (firstIdx p l),[]⟩:=by
 have km:V.al (l.map Pt.v)=true:=AM.bP (fun _=>rfl) l
 refine Ev.bY Pp (Pq _) rfl ?_
 (conv=>whnf);repeat' ((first| intro g| refine ep.mk (by simp[V.al,V.aw,hc,km]) ?_| refine st ?_| (first| refine b1 ?_ ?_| refine b2 ?_ ?_| refine Br.mk ?_ ?_) <;>intro hc| exact rfl) <;>conv=>whnf)
 refine a9.by (fun i:Nat=> ⟨[(0,.lit 2 (l.map Pt.v)),(1,.fn g caps),(7,aM (l.map Pt.v).length),(8,aM i)],[]⟩) (fun i=>i≤l.length∧ ∀ (j:Nat) y,j<i→l[j]? =some y→p y=false) (fun i=>l.length - i) 0 ?_ ?_ ?_
 · (refine⟨?_,?_⟩ <;>repeat' (first| exact True.intro| refine ai ?_| refine And.intro ?_ ?_))
 · simp
 rintro i ⟨hi,ef⟩
 have cP:=hc
 by_cases bJ:i<l.length
 · have hx:l[i]? =some l[i]:=bu bJ
   have Av:=hp l[i]
   generalize l[i]=x at hx Av
   have oU: (l.map Pt.v)[i]? =some (Pt.v x):=by simp[hx]
   (conv=>whnf);repeat' ((first| intro g| refine bd.mk _ (oU) ?_| refine eW (by assumption) (by first| assumption| rfl| (simp only[V.al,V.aw,Bool.and_self,Bool.true_and,Bool.and_true, *])) (Av) rfl ?_| refine st ?_| (first| refine b1 ?_ ?_| refine b2 ?_ ?_| refine Br.mk ?_ ?_) <;>intro hc| exact rfl) <;>conv=>whnf)
   · rw[dU ef hx hc]
   · refine br.mk (i+1) (by first| omega| (dsimp only;omega)) ?_ (by(refine⟨?_,?_⟩ <;>repeat' (first| exact True.intro| refine ai ?_| refine And.intro ?_ ?_)))
     refine⟨by omega,fun j y hj hy=> ?_⟩
     by_cases e:j=i
     · subst e
       rw[hx] at hy
       injection hy with hy;subst hy;exact hc
     · exact ef j y (by omega) hy
 · (conv=>whnf);repeat' ((first| intro g| refine st ?_| (first| refine b1 ?_ ?_| refine b2 ?_ ?_| refine Br.mk ?_ ?_) <;>intro hc| exact rfl) <;>conv=>whnf)
   rw[firstIdx_none fun j y hy=>ef j y (by have:=(List.getElem?_eq_some_iff.1 hy).1;omega) hy]
theorem xK {l:List Pt} {g:Nat} {caps:List V} (hc:V.al caps=true) {p:Pt→Bool} (hlen:l.length< 4611686018427387904)
  (hp: ∀x:Pt,Ev E g (Pt.v x::caps) ⟨.bool (p x),[]⟩) (hm:dh E g=[]):Ev E 187 [.lit 2 (l.map Pt.v),.fn g caps] ⟨.bool (decide (0≤firstIdx p l)),[]⟩:=by
 have h:=GH hc hlen hp hm
 have km:V.al (l.map Pt.v)=true:=AM.bP (fun _=>rfl) l
 have Lx:dh E 224=[]:=rfl
 refine Ev.bY O4 (O5 _) rfl ?_
 (conv=>whnf);repeat' ((first| intro g| refine ep.mk (by simp[V.al,V.aw,hc,km]) ?_| refine st ?_| (first| refine b1 ?_ ?_| refine b2 ?_ ?_| refine Br.mk ?_ ?_) <;>intro hc| exact rfl) <;>conv=>whnf)
 refine eW Lx (by simp[V.al,V.aw,hc,km]) h rfl ?_
 (conv=>whnf);repeat' ((first| intro g| refine st ?_| (first| refine b1 ?_ ?_| refine b2 ?_ ?_| refine Br.mk ?_ ?_) <;>intro hc| exact rfl) <;>conv=>whnf)
theorem Ek {l:List Place} {g:Nat} {caps:List V} (hc:V.al caps=true) {p:Place→Bool} (hlen:l.length< 4611686018427387904)
   (hp: ∀x:Place,Ev E g (Place.v x::caps) ⟨.bool (p x),[]⟩) (hm:dh E g=[]):Ev E 33 [.lit 7 (l.map Place.v),.fn g caps] ⟨vi (firstIdx p l),[]⟩:=by
 have km:V.al (l.map Place.v)=true:=AM.bP (fun _=>rfl) l
 refine Ev.bY Vg (Vh _) rfl ?_
 (conv=>whnf);repeat' ((first| intro g| refine ep.mk (by simp[V.al,V.aw,hc,km]) ?_| refine st ?_| (first| refine b1 ?_ ?_| refine b2 ?_ ?_| refine Br.mk ?_ ?_) <;>intro hc| exact rfl) <;>conv=>whnf)
 refine a9.by (fun i:Nat=> ⟨[(0,.lit 7 (l.map Place.v)),(1,.fn g caps),(7,aM (l.map Place.v).length),(8,aM i)],[]⟩) (fun i=>i≤l.length∧ ∀ (j:Nat) y,j<i→l[j]? =some y→p y=false) (fun i=>l.length - i) 0 ?_ ?_ ?_
 · (refine⟨?_,?_⟩ <;>repeat' (first| exact True.intro| refine ai ?_| refine And.intro ?_ ?_))
 · simp
 rintro i ⟨hi,ef⟩
 have cP:=hc
 by_cases bJ:i<l.length
 · have hx:l[i]? =some l[i]:=bu bJ
   have Av:=hp l[i]
   generalize l[i]=x at hx Av
   have oU: (l.map Place.v)[i]? =some (Place.v x):=by simp[hx]
   (conv=>whnf);repeat' ((first| intro g| refine bd.mk _ (oU) ?_| refine eW (by assumption) (by first| assumption| rfl| (simp only[V.al,V.aw,Bool.and_self,Bool.true_and,Bool.and_true, *])) (Av) rfl ?_| refine st ?_| (first| refine b1 ?_ ?_| refine b2 ?_ ?_| refine Br.mk ?_ ?_) <;>intro hc| exact rfl) <;>conv=>whnf)
   · rw[dU ef hx hc]
   · refine br.mk (i+1) (by first| omega| (dsimp only;omega)) ?_ (by(refine⟨?_,?_⟩ <;>repeat' (first| exact True.intro| refine ai ?_| refine And.intro ?_ ?_)))
     refine⟨by omega,fun j y hj hy=> ?_⟩
     by_cases e:j=i
     · subst e
       rw[hx] at hy
       injection hy with hy;subst hy;exact hc
     · exact ef j y (by omega) hy
 · (conv=>whnf);repeat' ((first| intro g| refine st ?_| (first| refine b1 ?_ ?_| refine b2 ?_ ?_| refine Br.mk ?_ ?_) <;>intro hc| exact rfl) <;>conv=>whnf)
   rw[firstIdx_none fun j y hy=>ef j y (by have:=(List.getElem?_eq_some_iff.1 hy).1;omega) hy]
theorem BU {l:List Place} {g:Nat} {caps:List V} (hc:V.al caps=true) {p:Place→Bool} (hlen:l.length< 4611686018427387904)
  (hp: ∀x:Place,Ev E g (Place.v x::caps) ⟨.bool (p x),[]⟩) (hm:dh E g=[]):Ev E 554 [.lit 7 (l.map Place.v),.fn g caps] ⟨.bool (decide (0≤firstIdx p l)),[]⟩:=by
 have h:=Ek hc hlen hp hm
 have km:V.al (l.map Place.v)=true:=AM.bP (fun _=>rfl) l
 have Lx:dh E 33=[]:=rfl
 refine Ev.bY Ox (Oy _) rfl ?_
 (conv=>whnf);repeat' ((first| intro g| refine ep.mk (by simp[V.al,V.aw,hc,km]) ?_| refine st ?_| (first| refine b1 ?_ ?_| refine b2 ?_ ?_| refine Br.mk ?_ ?_) <;>intro hc| exact rfl) <;>conv=>whnf)
 refine eW Lx (by simp[V.al,V.aw,hc,km]) h rfl ?_
 (conv=>whnf);repeat' ((first| intro g| refine st ?_| (first| refine b1 ?_ ?_| refine b2 ?_ ?_| refine Br.mk ?_ ?_) <;>intro hc| exact rfl) <;>conv=>whnf)
theorem El {l:List Edge} {g:Nat} {caps:List V} (hc:V.al caps=true) {p:Edge→Bool} (hlen:l.length< 4611686018427387904)
   (hp: ∀x:Edge,Ev E g (Edge.v x::caps) ⟨.bool (p x),[]⟩) (hm:dh E g=[]):Ev E 216 [.lit 4 (l.map Edge.v),.fn g caps] ⟨vi (firstIdx p l),[]⟩:=by
 have km:V.al (l.map Edge.v)=true:=AM.bP (fun _=>rfl) l
 refine Ev.bY OD (OE _) rfl ?_
 (conv=>whnf);repeat' ((first| intro g| refine ep.mk (by simp[V.al,V.aw,hc,km]) ?_| refine st ?_| (first| refine b1 ?_ ?_| refine b2 ?_ ?_| refine Br.mk ?_ ?_) <;>intro hc| exact rfl) <;>conv=>whnf)
 refine a9.by (fun i:Nat=> ⟨[(0,.lit 4 (l.map Edge.v)),(1,.fn g caps),(7,aM (l.map Edge.v).length),(8,aM i)],[]⟩) (fun i=>i≤l.length∧ ∀ (j:Nat) y,j<i→l[j]? =some y→p y=false) (fun i=>l.length - i) 0 ?_ ?_ ?_
 · (refine⟨?_,?_⟩ <;>repeat' (first| exact True.intro| refine ai ?_| refine And.intro ?_ ?_))
 · simp
 rintro i ⟨hi,ef⟩
 have cP:=hc
 by_cases bJ:i<l.length
 · have hx:l[i]? =some l[i]:=bu bJ
   have Av:=hp l[i]
   generalize l[i]=x at hx Av
   have oU: (l.map Edge.v)[i]? =some (Edge.v x):=by simp[hx]
   (conv=>whnf);repeat' ((first| intro g| refine bd.mk _ (oU) ?_| refine eW (by assumption) (by first| assumption| rfl| (simp only[V.al,V.aw,Bool.and_self,Bool.true_and,Bool.and_true, *])) (Av) rfl ?_| refine st ?_| (first| refine b1 ?_ ?_| refine b2 ?_ ?_| refine Br.mk ?_ ?_) <;>intro hc| exact rfl) <;>conv=>whnf)
   · rw[dU ef hx hc]
   · refine br.mk (i+1) (by first| omega| (dsimp only;omega)) ?_ (by(refine⟨?_,?_⟩ <;>repeat' (first| exact True.intro| refine ai ?_| refine And.intro ?_ ?_)))
     refine⟨by omega,fun j y hj hy=> ?_⟩
     by_cases e:j=i
     · subst e
       rw[hx] at hy
       injection hy with hy;subst hy;exact hc
     · exact ef j y (by omega) hy
 · (conv=>whnf);repeat' ((first| intro g| refine st ?_| (first| refine b1 ?_ ?_| refine b2 ?_ ?_| refine Br.mk ?_ ?_) <;>intro hc| exact rfl) <;>conv=>whnf)
   rw[firstIdx_none fun j y hy=>ef j y (by have:=(List.getElem?_eq_some_iff.1 hy).1;omega) hy]
theorem Em {l:List df} {g:Nat} {caps:List V} (hc:V.al caps=true) {p:df→Bool} (hlen:l.length< 4611686018427387904)
   (hp: ∀x:df,Ev E g (df.v x::caps) ⟨.bool (p x),[]⟩) (hm:dh E g=[]):Ev E 179 [.lit 5 (l.map df.v),.fn g caps] ⟨vi (firstIdx p l),[]⟩:=by
 have km:V.al (l.map df.v)=true:=AM.bP (fun _=>rfl) l
 refine Ev.bY N9 (Oa _) rfl ?_
 (conv=>whnf);repeat' ((first| intro g| refine ep.mk (by simp[V.al,V.aw,hc,km]) ?_| refine st ?_| (first| refine b1 ?_ ?_| refine b2 ?_ ?_| refine Br.mk ?_ ?_) <;>intro hc| exact rfl) <;>conv=>whnf)
 refine a9.by (fun i:Nat=> ⟨[(0,.lit 5 (l.map df.v)),(1,.fn g caps),(7,aM (l.map df.v).length),(8,aM i)],[]⟩) (fun i=>i≤l.length∧ ∀ (j:Nat) y,j<i→l[j]? =some y→p y=false) (fun i=>l.length - i) 0 ?_ ?_ ?_
 · (refine⟨?_,?_⟩ <;>repeat' (first| exact True.intro| refine ai ?_| refine And.intro ?_ ?_))
 · simp
 rintro i ⟨hi,ef⟩
 have cP:=hc
 by_cases bJ:i<l.length
 · have hx:l[i]? =some l[i]:=bu bJ
   have Av:=hp l[i]
   generalize l[i]=x at hx Av
   have oU: (l.map df.v)[i]? =some (df.v x):=by simp[hx]
   (conv=>whnf);repeat' ((first| intro g| refine bd.mk _ (oU) ?_| refine eW (by assumption) (by first| assumption| rfl| (simp only[V.al,V.aw,Bool.and_self,Bool.true_and,Bool.and_true, *])) (Av) rfl ?_| refine st ?_| (first| refine b1 ?_ ?_| refine b2 ?_ ?_| refine Br.mk ?_ ?_) <;>intro hc| exact rfl) <;>conv=>whnf)
   · rw[dU ef hx hc]
   · refine br.mk (i+1) (by first| omega| (dsimp only;omega)) ?_ (by(refine⟨?_,?_⟩ <;>repeat' (first| exact True.intro| refine ai ?_| refine And.intro ?_ ?_)))
     refine⟨by omega,fun j y hj hy=> ?_⟩
     by_cases e:j=i
     · subst e
       rw[hx] at hy
       injection hy with hy;subst hy;exact hc
     · exact ef j y (by omega) hy
 · (conv=>whnf);repeat' ((first| intro g| refine st ?_| (first| refine b1 ?_ ?_| refine b2 ?_ ?_| refine Br.mk ?_ ?_) <;>intro hc| exact rfl) <;>conv=>whnf)
   rw[firstIdx_none fun j y hy=>ef j y (by have:=(List.getElem?_eq_some_iff.1 hy).1;omega) hy]
theorem En (x n:Int): ∃r:Bool,Ev E 260 [vi x,.eptr (vi n) 0] ⟨.bool r,[]⟩:=by
 have key:=Ev.bT (R:=fun res=> ∃r:Bool,res=⟨.bool r,[]⟩) P4 (P5 [vi x,.eptr (vi n) 0]) rfl ?_
 · obtain⟨res,h1,r,rfl⟩:=key
   exact⟨r,h1⟩
 (conv=>whnf);repeat' ((first| intro g| refine st ?_| (first| refine b1 ?_ ?_| refine b2 ?_ ?_| refine Br.mk ?_ ?_) <;>intro hc| exact rfl) <;>conv=>whnf)
 all_goals exact⟨_,rfl⟩
noncomputable def cwF (x n:Int):Bool:=(En x n).choose
theorem TR (x n:Int):Ev E 260 [vi x,.eptr (vi n) 0] ⟨.bool (cwF x n),[]⟩:=(En x n).choose_spec
theorem sJ (n:Int) (l:List Int) (hl:l.length< 4611686018427387904): ∃r:Bool,Ev E 227 [vi n,.lit 1 (l.map vi)] ⟨.bool r,[]⟩:=by
 have key:=Ev.bT (R:=fun res=> ∃r:Bool,res=⟨.bool r,[]⟩) Pr (Ps [vi n,.lit 1 (l.map vi)]) rfl ?_
 · obtain⟨res,h1,r,rfl⟩:=key
   exact⟨r,h1⟩
 have h:=Ej (caps:=[.eptr (vi n) 0]) rfl hl (fun x=>TR x n) rfl
 (conv=>whnf);repeat' ((first| intro g| refine ak.mk _ (h) ?_| refine st ?_| (first| refine b1 ?_ ?_| refine b2 ?_ ?_| refine Br.mk ?_ ?_) <;>intro hc| exact rfl) <;>conv=>whnf)
 all_goals exact⟨_,rfl⟩
theorem Eo (p:Pt): ∃r:Bool,Ev E 276 [p.v] ⟨.bool r,[]⟩:=by
 have key:=Ev.bT (R:=fun res=> ∃r:Bool,res=⟨.bool r,[]⟩) P6 (P7 [p.v]) rfl ?_
 · obtain⟨res,h1,r,rfl⟩:=key
   exact⟨r,h1⟩
 obtain⟨w,hw⟩:=sJ 1152921504606846976 [p.x,p.y] (by simp)
 (conv=>whnf);repeat' ((first| intro g| refine ak.mk _ (hw) ?_| refine st ?_| (first| refine b1 ?_ ?_| refine b2 ?_ ?_| refine Br.mk ?_ ?_) <;>intro hc| exact rfl) <;>conv=>whnf)
 all_goals exact⟨_,rfl⟩
noncomputable def YD (p:Pt):Bool:=(Eo p).choose
theorem TS (p:Pt):Ev E 276 [p.v] ⟨.bool (YD p),[]⟩:=(Eo p).choose_spec
noncomputable def Mm (l:List Pt):Bool:= !decide (0≤firstIdx YD l)
theorem qx (l:List Pt) (hl:l.length< 4611686018427387904):Ev E 251 [.lit 2 (l.map Pt.v)] ⟨.bool (Mm l),[]⟩:=by
 have h:=xK (caps:=[]) rfl hl TS rfl
 refine Ev.bY Pu (Pv _) rfl ?_
 (conv=>whnf);repeat' ((first| intro g| refine ak.mk _ (h) ?_| refine st ?_| (first| refine b1 ?_ ?_| refine b2 ?_ ?_| refine Br.mk ?_ ?_) <;>intro hc| exact rfl) <;>conv=>whnf)
theorem qy (p:Pt): ∃r:Bool,Ev E 189 [p.v] ⟨.bool r,[]⟩:=by
 have key:=Ev.bT (R:=fun res=> ∃r:Bool,res=⟨.bool r,[]⟩) O8 (O9 [p.v]) rfl ?_
 · obtain⟨res,h1,r,rfl⟩:=key
   exact⟨r,h1⟩
 obtain⟨w,hw⟩:=sJ 16384 [p.x,p.y] (by simp)
 (conv=>whnf);repeat' ((first| intro g| refine ak.mk _ (hw) ?_| refine st ?_| (first| refine b1 ?_ ?_| refine b2 ?_ ?_| refine Br.mk ?_ ?_) <;>intro hc| exact rfl) <;>conv=>whnf)
 all_goals exact⟨_,rfl⟩
noncomputable def Ep (p:Pt):Bool:=(qy p).choose
theorem zG (p:Pt):Ev E 189 [p.v] ⟨.bool (Ep p),[]⟩:=(qy p).choose_spec
theorem Er (p:Pt): ∃r:Bool,Ev E 220 [p.v] ⟨.bool r,[]⟩:=by
 have key:=Ev.bT (R:=fun res=> ∃r:Bool,res=⟨.bool r,[]⟩) O6 (O7 [p.v]) rfl ?_
 · obtain⟨res,h1,r,rfl⟩:=key
   exact⟨r,h1⟩
 (conv=>whnf);repeat' ((first| intro g| refine ak.mk _ (zG _) ?_| refine st ?_| (first| refine b1 ?_ ?_| refine b2 ?_ ?_| refine Br.mk ?_ ?_) <;>intro hc| exact rfl) <;>conv=>whnf)
 all_goals exact⟨_,rfl⟩
noncomputable def YE (p:Pt):Bool:=(Er p).choose
theorem TU (p:Pt):Ev E 220 [p.v] ⟨.bool (YE p),[]⟩:=(Er p).choose_spec
noncomputable def vM (l:List Pt):Bool:= !decide (0≤firstIdx YE l)
theorem sK (l:List Pt) (hl:l.length< 4611686018427387904):Ev E 181 [.lit 2 (l.map Pt.v)] ⟨.bool (vM l),[]⟩:=by
 have h:=xK (caps:=[]) rfl hl TU rfl
 refine Ev.bY Oe (Og _) rfl ?_
 (conv=>whnf);repeat' ((first| intro g| refine ak.mk _ (h) ?_| refine st ?_| (first| refine b1 ?_ ?_| refine b2 ?_ ?_| refine Br.mk ?_ ?_) <;>intro hc| exact rfl) <;>conv=>whnf)
theorem vN (a b:Pt):Ev E 37 [a.v,b.v] ⟨(Pt.mk (fj (a.x - b.x)) (fj (a.y - b.y))).v,[]⟩:=by
 refine Ev.bY U2 (U3 _) rfl ?_
 (conv=>whnf);repeat' ((first| intro g| refine st ?_| (first| refine b1 ?_ ?_| refine b2 ?_ ?_| refine Br.mk ?_ ?_) <;>intro hc| exact rfl) <;>conv=>whnf)
theorem xL (a b p:Pt): ∃r:Int,Ev E 252 [a.v,b.v,p.v] ⟨vi r,[]⟩:=by
 have key:=Ev.bT (R:=fun res=> ∃r:Int,res=⟨vi r,[]⟩) Px (Py [a.v,b.v,p.v]) rfl ?_
 · obtain⟨res,h1,r,rfl⟩:=key
   exact⟨r,h1⟩
 have hb:Ev E 251 [.lit 2 [a.v,b.v,p.v]] ⟨.bool (Mm [a,b,p]),[]⟩:=qx [a,b,p] (by simp)
 (conv=>whnf);repeat' ((first| intro g| refine ak.mk _ (hb) ?_| refine ak.mk _ (vN b a) ?_| refine ak.mk _ (vN p a) ?_| refine ak.mk _ (BT _ _ _ _) ?_| refine st ?_| (first| refine b1 ?_ ?_| refine b2 ?_ ?_| refine Br.mk ?_ ?_) <;>intro hc| exact rfl) <;>conv=>whnf)
 all_goals exact⟨_,rfl⟩
noncomputable def TW (a b p:Pt):Int:=(xL a b p).choose
theorem Aw (a b p:Pt):Ev E 252 [a.v,b.v,p.v] ⟨vi (TW a b p),[]⟩:=(xL a b p).choose_spec
def Es (a b:Pt):Int:=Mg (BS a.x b.x) (BS a.y b.y)
theorem iV (a b:Pt):Ev E 254 [a.v,b.v] ⟨vi (Es a b),[]⟩:=by
 refine Ev.bY PB (PC _) rfl ?_
 (conv=>whnf);repeat' ((first| intro g| refine ak.mk _ (sH _ _) ?_| refine ak.mk _ (Mh _ _) ?_| refine st ?_| (first| refine b1 ?_ ?_| refine b2 ?_ ?_| refine Br.mk ?_ ?_) <;>intro hc| exact rfl) <;>conv=>whnf)
theorem GI:Ei Es where
 tr:=by
  intro a b d
  unfold Es Mg BS
  repeat' split
  all_goals omega
 as:=by
  intro a b
  unfold Es Mg BS
  repeat' split
  all_goals omega
section
variable {c:Pt→Pt→Int} {g:Nat}
set_option maxHeartbeats 1000000 in
theorem zH (ho:Ei c) (hm:dh E g=[]) (Xl: ∀a b:Pt,Ev E g [a.v,b.v] ⟨vi (c a b),[]⟩) {l0:List Pt} (hlen:l0.length< 1000000):
   ∃l':List Pt,l'.Perm l0∧l'.Pairwise (jC c)∧Ev E 290 [.msl 2 (l0.map Pt.v) 0 l0.length,vi 0,aM l0.length,.fn g []] ⟨.tuple [],[(0,l'.map Pt.v)]⟩:=by
 have key:=Ev.bT (R:=fun r=> ∃l':List Pt,l'.Perm l0∧l'.Pairwise (jC c)∧r=⟨.tuple [],[(0,l'.map Pt.v)]⟩) Qy (Qz [.msl 2 (l0.map Pt.v) 0 l0.length,vi 0,aM l0.length,.fn g []]) rfl ?_
 · obtain⟨res,h1,l',h2,h3,rfl⟩:=key
   exact⟨l',h2,h3,h1⟩
 (conv=>whnf);repeat' ((first| intro g| refine st ?_| (first| refine b1 ?_ ?_| refine b2 ?_ ?_| refine Br.mk ?_ ?_) <;>intro hc| exact rfl) <;>conv=>whnf)
 refine a9.by (fun ((i,L):Nat×List Pt)=> ⟨[(0,.sl 0 0 0 l0.length),(1,vi 0),(2,aM l0.length),(3,.fn g []),(8,aM (i+1))],[(0,⟨0,2,true,false,some (L.map Pt.v)⟩)]⟩)
   (fun p=>p.1≤l0.length∧p.2.Perm l0∧(p.2.take (p.1+1)).Pairwise (jC c)) (fun p=>l0.length - p.1) (0,l0) ?_ ?_ ?_
 · (refine⟨?_,?_⟩ <;>repeat' (first| exact True.intro| refine ai ?_| refine And.intro ?_ ?_))
 · refine⟨by simp,.refl _,?_⟩
   cases l0<;>simp
 rintro⟨i,L⟩ ⟨h1,h2,h3⟩
 dsimp only at h1 h2 h3
 have hl:=h2.length_eq
 (conv=>whnf);repeat' ((first| intro g| refine ep.mk (⟨rfl,rfl,Pt.bP _⟩) ?_| refine st ?_| (first| refine b1 ?_ ?_| refine b2 ?_ ?_| refine Br.mk ?_ ?_) <;>intro hc| exact rfl) <;>conv=>whnf)
 · have Wy:i+1 <L.length:=by omega
   refine a9.by (fun ((j,L):Nat×List Pt)=> ⟨[(0,.sl 0 0 0 l0.length),(1,vi 0),(2,aM l0.length),(3,.fn g []),(8,aM (i+1)),(9,aM j)],[(0,⟨0,2,true,false,some (L.map Pt.v)⟩)]⟩)
     (fun p=> ∃pre x mid post,lE c l0 (i+1) p.1 p.2 pre x mid post) (fun p=>p.1) (i+1,L) ?_ ⟨_,_,_,_,lE.start h2 h3 Wy⟩ ?_
   · (refine⟨?_,?_⟩ <;>repeat' (first| exact True.intro| refine ai ?_| refine And.intro ?_ ?_))
   rintro⟨j,L'⟩ ⟨pre,x,mid,post,hs⟩
   dsimp only at hs
   have yI:=hs.len
   have Vx:=hs.hj
   have wx:=hs.hi
   have hx:=hs.Xi
   cases j with
   | zero=>
     (conv=>whnf);repeat' ((first| intro g| refine st ?_| (first| refine b1 ?_ ?_| refine b2 ?_ ?_| refine Br.mk ?_ ?_) <;>intro hc| exact rfl) <;>conv=>whnf)
     refine br.mk (i+1,L') (by dsimp only;omega) ⟨by dsimp only;omega,hs.perm,hs.stop ho (.inl (by simpa using Vx))⟩ (by(refine⟨?_,?_⟩ <;>repeat' (first| exact True.intro| refine ai ?_| refine And.intro ?_ ?_)))
   | succ j=>
     obtain⟨oM,y,rfl⟩:=hs.snoc
     have hy:=hs.Xj
     have AT:IntKind.i64.wrap (((j+1:Nat):Int) - 1)=(j:Int):=(wrap64 (by omega) (by omega)).trans (by omega)
     have hy2: ((L'.map Pt.v).set ((j+1:Nat):Int).toNat y.v)[(IntKind.i64.wrap (((j+1:Nat):Int) - 1)).toNat]? =some y.v:=by
       rw[AT];simp[hy]
     (conv=>whnf);repeat' ((first| intro g| refine bd.mk _ (aJ hx rfl) ?_| refine bd.mk _ (aJ hy AT) ?_| refine bd.mk _ (hy2) ?_| refine eW (by assumption) (by first| assumption| rfl| (simp only[V.al,V.aw,Bool.and_self,Bool.true_and,Bool.and_true, *])) (Xl _ _) rfl ?_| refine st ?_| (first| refine b1 ?_ ?_| refine b2 ?_ ?_| refine Br.mk ?_ ?_) <;>intro hc| exact rfl) <;>conv=>whnf)
     · refine br.mk (j,(L'.set (j+1) y).set j x) (by dsimp only;omega) ⟨_,_,_,_,hs.step hc⟩ ?_
       have e1:V.int .i64 (IntKind.i64.wrap (((j+1:Nat):Int) - 1))=aM j:=by rw[AT]
       have e2: (⟨0,2,true,false,some (((L'.map Pt.v).set ((j+1:Nat):Int).toNat y.v).set (IntKind.i64.wrap (((j+1:Nat):Int) - 1)).toNat x.v)⟩:Obj)=⟨0,2,true,false,some (((L'.set (j+1) y).set j x).map Pt.v)⟩:=by
        rw[AT,List.map_set,List.map_set];rfl
       (refine⟨?_,?_⟩ <;>repeat' (first| exact True.intro| refine And.intro (e1) ?_| refine And.intro (e2) ?_| refine ai ?_| refine And.intro ?_ ?_))
     · refine br.mk (i+1,L') (by dsimp only;omega) ⟨by dsimp only;omega,hs.perm,hs.stop ho (.inr ⟨oM,y,rfl,hc⟩)⟩ (by(refine⟨?_,?_⟩ <;>repeat' (first| exact True.intro| refine ai ?_| refine And.intro ?_ ?_)))
 · exact⟨L,h2,by rw[List.take_of_length_le (by omega)] at h3;exact h3,rfl⟩
end
theorem GJ {l:List Pt} (h12:l.length≤12) (k:Int): ∃l':List Pt,l'.Perm l∧Ev E 278 [.msl 2 (l.map Pt.v) 0 l.length,vi 0,aM l.length,vi k,.fn 254 []] ⟨.tuple [],[(0,l'.map Pt.v)]⟩:=by
 obtain⟨l',h1,h2,h3⟩:=zH (c:=Es) GI rfl iV (l0:=l) (by omega)
 refine⟨l',h1,?_⟩
 have e0:IntKind.i64.wrap ((l.length:Int) - 0)=l.length:=(wrap64 (by omega) (by omega)).trans (by omega)
 refine Ev.bY Qa (Qb _) rfl ?_
 (conv=>whnf);repeat' ((first| intro g| refine st ?_| (first| refine b1 ?_ ?_| refine b2 ?_ ?_| refine Br.mk ?_ ?_) <;>intro hc| exact rfl) <;>conv=>whnf)
 refine a9.by (fun (_:Unit)=> ⟨[(0,.sl 0 0 0 l.length),(1,vi 0),(2,aM l.length),(3,vi k),(4,.fn 254 []),(10,.bool true),(11,.bool true)],[(0,⟨0,2,true,false,some (l.map Pt.v)⟩)]⟩)
  (fun _=>True) (fun _=>0) () (by(refine⟨?_,?_⟩ <;>repeat' (first| exact True.intro| refine ai ?_| refine And.intro ?_ ?_))) trivial ?_
 rintro _ _
 (conv=>whnf);repeat' ((first| intro g| refine ep.mk (⟨rfl,rfl,rfl,by simp,Pt.bP _⟩) ?_| refine ep.mk (⟨rfl,rfl,Pt.bP _⟩) ?_| refine ak.mk _ (h3) ?_| refine st ?_| (first| refine b1 ?_ ?_| refine b2 ?_ ?_| refine Br.mk ?_ ?_) <;>intro hc| exact rfl) <;>conv=>whnf)
theorem GK:Ev E 40 [.int .u64 2] ⟨vi 2,[]⟩:=⟨100,by kernel_rfl⟩
theorem xM (a b:Pt): ∃p q:Pt,Ev E 253 [.msl 2 [a.v,b.v] 0 2,.fn 254 []] ⟨.tuple [],[(0,[p.v,q.v])]⟩:=by
 obtain⟨l',h1,h3⟩:=GJ (l:=[a,b]) (by simp) 2
 have hl:=h1.length_eq
 match l',hl with
 | [p,q],_=>
   refine⟨p,q,?_⟩
   have Hy:Ev E 278 [.msl 2 [a.v,b.v] 0 2,vi 0,vi 2,vi 2,.fn 254 []] ⟨.tuple [],[(0,[p.v,q.v])]⟩:=h3
   refine Ev.bY Pz (PA _) rfl ?_
   (conv=>whnf);repeat' ((first| intro g| refine ep.mk (⟨rfl,rfl,rfl,by simp,Pt.bP [a,b]⟩) ?_| refine ep.mk (⟨rfl,rfl,Pt.bP [a,b]⟩) ?_| refine ak.mk _ (GK) ?_| refine ak.mk _ (Hy) ?_| refine st ?_| (first| refine b1 ?_ ?_| refine b2 ?_ ?_| refine Br.mk ?_ ?_) <;>intro hc| exact rfl) <;>conv=>whnf)
theorem xN (p q:Pt): ∃r:Pt,Ev E 255 [.lit 2 [p.v,q.v],.fn 254 []] ⟨r.v,[]⟩:=by
 have key:=Ev.bT (R:=fun res=> ∃r:Pt,res=⟨r.v,[]⟩) PD (PE [.lit 2 [p.v,q.v],.fn 254 []]) rfl ?_
 · obtain⟨res,h1,r,rfl⟩:=key
   exact⟨r,h1⟩
 have hm:dh E 254=[]:=rfl
 (conv=>whnf);repeat' ((first| intro g| refine st ?_| (first| refine b1 ?_ ?_| refine b2 ?_ ?_| refine Br.mk ?_ ?_) <;>intro hc| exact rfl) <;>conv=>whnf)
 rename_i g1
 refine a9.by (fun ((i,r):Nat×Pt)=> ⟨[(0,.lit 2 [p.v,q.v]),(1,.fn 254 []),(4,.ptr 80 g1 0 0),(5,.ptr 96 g 0 0),(6,aM (i+1))],[(80,⟨g1,2,false,false,some [.agg [vi 0,vi 0]]⟩),(96,⟨g,2,false,false,some [r.v]⟩)]⟩)
   (fun (i,_)=>i≤1) (fun (i,_)=>1 - i) (0,p) (by(refine⟨?_,?_⟩ <;>repeat' (first| exact True.intro| refine ai ?_| refine And.intro ?_ ?_))) (by simp) ?_
 rintro⟨i,r⟩ hi
 try dsimp only at hi
 rcases(by omega:i=0∨i=1) with rfl| rfl
 · (conv=>whnf);repeat' ((first| intro g| refine eW (by assumption) (by first| assumption| rfl| (simp only[V.al,V.aw,Bool.and_self,Bool.true_and,Bool.and_true, *])) (iV _ _) rfl ?_| refine st ?_| (first| refine b1 ?_ ?_| refine b2 ?_ ?_| refine Br.mk ?_ ?_) <;>intro hc| exact rfl) <;>conv=>whnf)
   · exact br.mk (1,q) (by first| omega| (dsimp only;omega)) (by simp) (by(refine⟨?_,?_⟩ <;>repeat' (first| exact True.intro| refine ai ?_| refine And.intro ?_ ?_)))
   · exact br.mk (1,r) (by first| omega| (dsimp only;omega)) (by simp) (by(refine⟨?_,?_⟩ <;>repeat' (first| exact True.intro| refine ai ?_| refine And.intro ?_ ?_)))
 · (conv=>whnf);repeat' ((first| intro g| refine st ?_| (first| refine b1 ?_ ?_| refine b2 ?_ ?_| refine Br.mk ?_ ?_) <;>intro hc| exact rfl) <;>conv=>whnf)
   exact⟨_,rfl⟩
noncomputable def TX (p q:Pt):Pt:=(xN p q).choose
theorem GL (p q:Pt):Ev E 255 [.lit 2 [p.v,q.v],.fn 254 []] ⟨(TX p q).v,[]⟩:=(xN p q).choose_spec
theorem xO (p q:Pt): ∃r:Pt,Ev E 175 [.lit 2 [p.v,q.v],.fn 254 []] ⟨r.v,[]⟩:=by
 have key:=Ev.bT (R:=fun res=> ∃r:Pt,res=⟨r.v,[]⟩) PF (PG [.lit 2 [p.v,q.v],.fn 254 []]) rfl ?_
 · obtain⟨res,h1,r,rfl⟩:=key
   exact⟨r,h1⟩
 have hm:dh E 254=[]:=rfl
 (conv=>whnf);repeat' ((first| intro g| refine st ?_| (first| refine b1 ?_ ?_| refine b2 ?_ ?_| refine Br.mk ?_ ?_) <;>intro hc| exact rfl) <;>conv=>whnf)
 rename_i g1
 refine a9.by (fun ((i,r):Nat×Pt)=> ⟨[(0,.lit 2 [p.v,q.v]),(1,.fn 254 []),(4,.ptr 80 g1 0 0),(5,.ptr 96 g 0 0),(6,aM (i+1))],[(80,⟨g1,2,false,false,some [.agg [vi 0,vi 0]]⟩),(96,⟨g,2,false,false,some [r.v]⟩)]⟩)
   (fun (i,_)=>i≤1) (fun (i,_)=>1 - i) (0,p) (by(refine⟨?_,?_⟩ <;>repeat' (first| exact True.intro| refine ai ?_| refine And.intro ?_ ?_))) (by simp) ?_
 rintro⟨i,r⟩ hi
 try dsimp only at hi
 rcases(by omega:i=0∨i=1) with rfl| rfl
 · (conv=>whnf);repeat' ((first| intro g| refine eW (by assumption) (by first| assumption| rfl| (simp only[V.al,V.aw,Bool.and_self,Bool.true_and,Bool.and_true, *])) (iV _ _) rfl ?_| refine st ?_| (first| refine b1 ?_ ?_| refine b2 ?_ ?_| refine Br.mk ?_ ?_) <;>intro hc| exact rfl) <;>conv=>whnf)
   · exact br.mk (1,q) (by first| omega| (dsimp only;omega)) (by simp) (by(refine⟨?_,?_⟩ <;>repeat' (first| exact True.intro| refine ai ?_| refine And.intro ?_ ?_)))
   · exact br.mk (1,r) (by first| omega| (dsimp only;omega)) (by simp) (by(refine⟨?_,?_⟩ <;>repeat' (first| exact True.intro| refine ai ?_| refine And.intro ?_ ?_)))
 · (conv=>whnf);repeat' ((first| intro g| refine st ?_| (first| refine b1 ?_ ?_| refine b2 ?_ ?_| refine Br.mk ?_ ?_) <;>intro hc| exact rfl) <;>conv=>whnf)
   exact⟨_,rfl⟩
noncomputable def TY (p q:Pt):Pt:=(xO p q).choose
theorem GM (p q:Pt):Ev E 175 [.lit 2 [p.v,q.v],.fn 254 []] ⟨(TY p q).v,[]⟩:=(xO p q).choose_spec
end Go.AM
set_option maxRecDepth 20000
set_option maxHeartbeats 4000000
namespace Go.AM
theorem xP (a b c d:Pt): ∃r:Int,Ev E 222 [a.v,b.v,c.v,d.v] ⟨vi r,[]⟩:=by
 have key:=Ev.bT (R:=fun res=> ∃r:Int,res=⟨vi r,[]⟩) Pa (Pb [a.v,b.v,c.v,d.v]) rfl ?_
 · obtain⟨res,h1,r,rfl⟩:=key
   exact⟨r,h1⟩
 have hb:Ev E 251 [.lit 2 [a.v,b.v,c.v,d.v]] ⟨.bool (Mm [a,b,c,d]),[]⟩:=qx [a,b,c,d] (by simp)
 obtain⟨p1,q1,h1⟩:=xM a b
 obtain⟨p2,q2,h2⟩:=xM c d
 (conv=>whnf);repeat' ((first| intro g| refine ep.mk (⟨rfl,rfl,rfl⟩) ?_| refine ak.mk _ (hb) ?_| refine ak.mk _ (Aw _ _ _) ?_| refine ak.mk _ (h1) ?_| refine ak.mk _ (h2) ?_| refine ak.mk _ (GL _ _) ?_| refine ak.mk _ (GM _ _) ?_| refine ak.mk _ (iV _ _) ?_| refine st ?_| (first| refine b1 ?_ ?_| refine b2 ?_ ?_| refine Br.mk ?_ ?_) <;>intro hc| exact rfl) <;>conv=>whnf)
 all_goals exact⟨_,rfl⟩
noncomputable def TZ (a b c d:Pt):Int:=(xP a b c d).choose
theorem Ax (a b c d:Pt):Ev E 222 [a.v,b.v,c.v,d.v] ⟨vi (TZ a b c d),[]⟩:=(xP a b c d).choose_spec
theorem Ay (a b p:Pt): ∃r:Bool,Ev E 223 [a.v,b.v,p.v] ⟨.bool r,[]⟩:=by
 have key:=Ev.bT (R:=fun res=> ∃r:Bool,res=⟨.bool r,[]⟩) PH (PI [a.v,b.v,p.v]) rfl ?_
 · obtain⟨res,h1,r,rfl⟩:=key
   exact⟨r,h1⟩
 (conv=>whnf);repeat' ((first| intro g| refine ak.mk _ (Ax _ _ _ _) ?_| refine st ?_| (first| refine b1 ?_ ?_| refine b2 ?_ ?_| refine Br.mk ?_ ?_) <;>intro hc| exact rfl) <;>conv=>whnf)
 all_goals exact⟨_,rfl⟩
noncomputable def Xm (a b p:Pt):Bool:=(Ay a b p).choose
theorem Et (a b p:Pt):Ev E 223 [a.v,b.v,p.v] ⟨.bool (Xm a b p),[]⟩:=(Ay a b p).choose_spec
theorem qz (a b c d:Pt): ∃r:Int,Ev E 184 [.agg [vi a.x,vi a.y,vi b.x,vi b.y],.agg [vi c.x,vi c.y,vi d.x,vi d.y]] ⟨vi r,[]⟩:=by
 have key:=Ev.bT (R:=fun res=> ∃r:Int,res=⟨vi r,[]⟩) Oo (Oq [.agg [vi a.x,vi a.y,vi b.x,vi b.y],.agg [vi c.x,vi c.y,vi d.x,vi d.y]]) rfl ?_
 · obtain⟨res,h1,r,rfl⟩:=key
   exact⟨r,h1⟩
 (conv=>whnf);repeat' ((first| intro g| refine ak.mk _ (Ax a b c d) ?_| refine st ?_| (first| refine b1 ?_ ?_| refine b2 ?_ ?_| refine Br.mk ?_ ?_) <;>intro hc| exact rfl) <;>conv=>whnf)
 all_goals exact⟨_,rfl⟩
noncomputable def Eu (a b c d:Pt):Int:=(qz a b c d).choose
theorem sL (a b c d:Pt):Ev E 184 [.agg [vi a.x,vi a.y,vi b.x,vi b.y],.agg [vi c.x,vi c.y,vi d.x,vi d.y]] ⟨vi (Eu a b c d),[]⟩:=(qz a b c d).choose_spec
theorem uI (a b p:Pt): ∃r:Bool,Ev E 186 [.agg [vi a.x,vi a.y,vi b.x,vi b.y],p.v] ⟨.bool r,[]⟩:=by
 have key:=Ev.bT (R:=fun res=> ∃r:Bool,res=⟨.bool r,[]⟩) Pg (Ph [.agg [vi a.x,vi a.y,vi b.x,vi b.y],p.v]) rfl ?_
 · obtain⟨res,h1,r,rfl⟩:=key
   exact⟨r,h1⟩
 (conv=>whnf);repeat' ((first| intro g| refine ak.mk _ (Et a b p) ?_| refine st ?_| (first| refine b1 ?_ ?_| refine b2 ?_ ?_| refine Br.mk ?_ ?_) <;>intro hc| exact rfl) <;>conv=>whnf)
 all_goals exact⟨_,rfl⟩
noncomputable def Mn (a b p:Pt):Bool:=(uI a b p).choose
theorem xQ (a b p:Pt):Ev E 186 [.agg [vi a.x,vi a.y,vi b.x,vi b.y],p.v] ⟨.bool (Mn a b p),[]⟩:=(uI a b p).choose_spec
theorem xR (a b c:Int): ∃r:Int,Ev E 429 [.lit 1 [vi a,vi b,vi c]] ⟨vi r,[]⟩:=by
 have key:=Ev.bT (R:=fun res=> ∃r:Int,res=⟨vi r,[]⟩) PJ (PK [.lit 1 [vi a,vi b,vi c]]) rfl ?_
 · obtain⟨res,h1,r,rfl⟩:=key
   exact⟨r,h1⟩
 (conv=>whnf);repeat' ((first| intro g| refine st ?_| (first| refine b1 ?_ ?_| refine b2 ?_ ?_| refine Br.mk ?_ ?_) <;>intro hc| exact rfl) <;>conv=>whnf)
 refine a9.by (fun ((i,r):Nat×Int)=> ⟨[(0,.lit 1 [vi a,vi b,vi c]),(3,vi r),(4,aM (i+1))],[]⟩)
   (fun (i,_)=>i≤2) (fun (i,_)=>2 - i) (0,a) (by(refine⟨?_,?_⟩ <;>repeat' (first| exact True.intro| refine ai ?_| refine And.intro ?_ ?_))) (by simp) ?_
 rintro⟨i,r⟩ hi
 try dsimp only at hi
 rcases(by omega:i=0∨i=1∨i=2) with rfl| rfl| rfl
 · (conv=>whnf);repeat' ((first| intro g| refine st ?_| (first| refine b1 ?_ ?_| refine b2 ?_ ?_| refine Br.mk ?_ ?_) <;>intro hc| exact rfl) <;>conv=>whnf)
   exact br.mk (1,_) (by first| omega| (dsimp only;omega)) (by simp) (by(refine⟨?_,?_⟩ <;>repeat' (first| exact True.intro| refine ai ?_| refine And.intro ?_ ?_)))
 · (conv=>whnf);repeat' ((first| intro g| refine st ?_| (first| refine b1 ?_ ?_| refine b2 ?_ ?_| refine Br.mk ?_ ?_) <;>intro hc| exact rfl) <;>conv=>whnf)
   exact br.mk (2,_) (by first| omega| (dsimp only;omega)) (by simp) (by(refine⟨?_,?_⟩ <;>repeat' (first| exact True.intro| refine ai ?_| refine And.intro ?_ ?_)))
 · (conv=>whnf);repeat' ((first| intro g| refine st ?_| (first| refine b1 ?_ ?_| refine b2 ?_ ?_| refine Br.mk ?_ ?_) <;>intro hc| exact rfl) <;>conv=>whnf)
   exact⟨_,rfl⟩
noncomputable def T3 (a b c:Int):Int:=(xR a b c).choose
theorem GN (a b c:Int):Ev E 429 [.lit 1 [vi a,vi b,vi c]] ⟨vi (T3 a b c),[]⟩:=(xR a b c).choose_spec
theorem xS (a b c:Int): ∃r:Int,Ev E 430 [.lit 1 [vi a,vi b,vi c]] ⟨vi r,[]⟩:=by
 have key:=Ev.bT (R:=fun res=> ∃r:Int,res=⟨vi r,[]⟩) PL (PM [.lit 1 [vi a,vi b,vi c]]) rfl ?_
 · obtain⟨res,h1,r,rfl⟩:=key
   exact⟨r,h1⟩
 (conv=>whnf);repeat' ((first| intro g| refine st ?_| (first| refine b1 ?_ ?_| refine b2 ?_ ?_| refine Br.mk ?_ ?_) <;>intro hc| exact rfl) <;>conv=>whnf)
 refine a9.by (fun ((i,r):Nat×Int)=> ⟨[(0,.lit 1 [vi a,vi b,vi c]),(3,vi r),(4,aM (i+1))],[]⟩)
   (fun (i,_)=>i≤2) (fun (i,_)=>2 - i) (0,a) (by(refine⟨?_,?_⟩ <;>repeat' (first| exact True.intro| refine ai ?_| refine And.intro ?_ ?_))) (by simp) ?_
 rintro⟨i,r⟩ hi
 try dsimp only at hi
 rcases(by omega:i=0∨i=1∨i=2) with rfl| rfl| rfl
 · (conv=>whnf);repeat' ((first| intro g| refine st ?_| (first| refine b1 ?_ ?_| refine b2 ?_ ?_| refine Br.mk ?_ ?_) <;>intro hc| exact rfl) <;>conv=>whnf)
   exact br.mk (1,_) (by first| omega| (dsimp only;omega)) (by simp) (by(refine⟨?_,?_⟩ <;>repeat' (first| exact True.intro| refine ai ?_| refine And.intro ?_ ?_)))
 · (conv=>whnf);repeat' ((first| intro g| refine st ?_| (first| refine b1 ?_ ?_| refine b2 ?_ ?_| refine Br.mk ?_ ?_) <;>intro hc| exact rfl) <;>conv=>whnf)
   exact br.mk (2,_) (by first| omega| (dsimp only;omega)) (by simp) (by(refine⟨?_,?_⟩ <;>repeat' (first| exact True.intro| refine ai ?_| refine And.intro ?_ ?_)))
 · (conv=>whnf);repeat' ((first| intro g| refine st ?_| (first| refine b1 ?_ ?_| refine b2 ?_ ?_| refine Br.mk ?_ ?_) <;>intro hc| exact rfl) <;>conv=>whnf)
   exact⟨_,rfl⟩
noncomputable def T4 (a b c:Int):Int:=(xS a b c).choose
theorem GO (a b c:Int):Ev E 430 [.lit 1 [vi a,vi b,vi c]] ⟨vi (T4 a b c),[]⟩:=(xS a b c).choose_spec
theorem Az (a b c p:Pt): ∃r:Bool,Ev E 565 [a.v,b.v,c.v,p.v] ⟨.bool r,[]⟩:=by
 have key:=Ev.bT (R:=fun res=> ∃r:Bool,res=⟨.bool r,[]⟩) Pc (Pd [a.v,b.v,c.v,p.v]) rfl ?_
 · obtain⟨res,h1,r,rfl⟩:=key
   exact⟨r,h1⟩
 (conv=>whnf);repeat' ((first| intro g| refine ak.mk _ (Aw _ _ _) ?_| refine ak.mk _ (Et _ _ _) ?_| refine ak.mk _ (GN _ _ _) ?_| refine ak.mk _ (GO _ _ _) ?_| refine st ?_| (first| refine b1 ?_ ?_| refine b2 ?_ ?_| refine Br.mk ?_ ?_) <;>intro hc| exact rfl) <;>conv=>whnf)
 all_goals exact⟨_,rfl⟩
noncomputable def Xn (a b c p:Pt):Bool:=(Az a b c p).choose
theorem Ew (a b c p:Pt):Ev E 565 [a.v,b.v,c.v,p.v] ⟨.bool (Xn a b c p),[]⟩:=(Az a b c p).choose_spec
theorem AA (a b c p:Pt): ∃r:Bool,Ev E 556 [a.v,b.v,c.v,p.v] ⟨.bool r,[]⟩:=by
 have key:=Ev.bT (R:=fun res=> ∃r:Bool,res=⟨.bool r,[]⟩) OB (OC [a.v,b.v,c.v,p.v]) rfl ?_
 · obtain⟨res,h1,r,rfl⟩:=key
   exact⟨r,h1⟩
 have hr:Ev E 181 [.lit 2 [a.v,b.v,c.v,p.v]] ⟨.bool (vM [a,b,c,p]),[]⟩:=sK [a,b,c,p] (by simp)
 (conv=>whnf);repeat' ((first| intro g| refine ak.mk _ (hr) ?_| refine ak.mk _ (Ew _ _ _ _) ?_| refine st ?_| (first| refine b1 ?_ ?_| refine b2 ?_ ?_| refine Br.mk ?_ ?_) <;>intro hc| exact rfl) <;>conv=>whnf)
 all_goals exact⟨_,rfl⟩
noncomputable def Xo (a b c p:Pt):Bool:=(AA a b c p).choose
theorem Mo (a b c p:Pt):Ev E 556 [a.v,b.v,c.v,p.v] ⟨.bool (Xo a b c p),[]⟩:=(AA a b c p).choose_spec
end Go.AM
set_option maxRecDepth 20000
namespace Go.AM
def IsSqrt (n s:Int):Prop:=0≤s∧s*s≤n∧n< (s+1)*(s+1)
theorem j3 {a b:Int} (h0:0≤a) (h:a≤b):a*a≤b*b:=Int.mul_le_mul h h h0 (by omega)
theorem IsSqrt.uniq {n s t:Int} (h:IsSqrt n s) (k:IsSqrt n t):s=t:=by
 obtain⟨h1,h2,h3⟩:=h
 obtain⟨k1,k2,k3⟩:=k
 rcases Int.lt_trichotomy s t with hl| hl| hl
 · have:=j3 (a:=s+1) (b:=t) (by omega) (by omega);omega
 · exact hl
 · have:=j3 (a:=t+1) (b:=s) (by omega) (by omega);omega
open Classical in
noncomputable def oN (n:Int):Int:=if h: ∃s,IsSqrt n s then h.choose else 0
theorem oO {n s:Int} (h:IsSqrt n s):oN n=s:=by
 have hex: ∃s,IsSqrt n s:=⟨s,h⟩
 unfold oN;rw[dif_pos hex];exact hex.choose_spec.uniq h
theorem BV {n:Int} (h:n≤0):oN n=0:=by
 by_cases hz:n=0
 · subst hz;exact oO ⟨by omega,by omega,by omega⟩
 · unfold oN;rw[dif_neg]
   rintro⟨s,h1,h2,h3⟩
   have:=Int.mul_nonneg h1 h1
   omega
theorem xU {b r:Nat} (h:FloatKind.f64.format.sqrt b=some r):Ev E 41 [.float b] ⟨.float r,[]⟩:=by
 have UJ:Ev E 52 [.float b] ⟨.float r,[]⟩:=Ev.ext (by rw[Vp];simp[vU,h])
 refine Ev.bY Va (Vb _) rfl ?_
 (conv=>whnf);repeat' ((first| intro g| refine ak.mk _ (UJ) ?_| refine st ?_| (first| refine b1 ?_ ?_| refine b2 ?_ ?_| refine Br.mk ?_ ?_) <;>intro hc| exact rfl) <;>conv=>whnf)
theorem GP {n:Int} (h1:n≤9223372036854775807):Ev E 27 [vi n] ⟨vi (oN n),[]⟩:=by
 by_cases h0:0 <n
 case neg=>
   rw[BV (by omega)]
   refine Ev.bY NV (NW _) rfl ?_
   (conv=>whnf);repeat' ((first| intro g| refine st ?_| (first| refine b1 ?_ ?_| refine b2 ?_ ?_| refine Br.mk ?_ ?_) <;>intro hc| exact rfl) <;>conv=>whnf)
   all_goals trivial
 obtain⟨r,m,hr,hm,Bd,hm1⟩:=DQ h0 h1
 have e1:IntKind.i64.min≤m:=by simp[IntKind.min,IntKind.signed,IntKind.bits];omega
 have e2:m≤IntKind.i64.max:=by simp[IntKind.max,IntKind.signed,IntKind.bits];omega
 refine Ev.bY NV (NW _) rfl ?_
 (conv=>whnf);repeat' ((first| intro g| refine bd.mk _ ((⟨hm,e1,e2⟩:_∧_∧_)) ?_| refine ak.mk _ (xU hr) ?_| refine st ?_| (first| refine b1 ?_ ?_| refine b2 ?_ ?_| refine Br.mk ?_ ?_) <;>intro hc| exact rfl) <;>conv=>whnf)
 generalize UR: (if 3037000499 <m then(3037000499:Int) else m)=s0
 have te:0≤s0∧s0≤3037000499:=by split at UR<;>omega
 refine a9.by (fun s:Int=> ⟨[(0,vi n),(3,vi s)],[]⟩) (fun s=>0≤s∧s≤3037000499) (fun s=>s.toNat) s0 ?_ te ?_
 · (refine⟨?_,?_⟩ <;>repeat' (first| exact True.intro| refine ai ?_| refine And.intro ?_ ?_))
 rintro s ⟨qE,vS⟩
 have UJ:=j3 qE vS
 have T5:0≤s*s:=Int.mul_nonneg qE qE
 have hw:IntKind.i64.wrap (s*s)=s*s:=wrap64 (by omega) (by omega)
 (conv=>whnf);repeat' ((first| intro g| refine st ?_| (first| refine b1 ?_ ?_| refine b2 ?_ ?_| refine Br.mk ?_ ?_) <;>intro hc| exact rfl) <;>conv=>whnf)
 · rw[ hw] at hc
   have:0 <s:=by
     rcases Int.lt_or_le 0 s with h| h
     · exact h
     · have:s=0:=by omega
       subst this;omega
   refine br.mk (s - 1) (by first| omega| (dsimp only;omega)) ?_ (by(refine⟨?_,?_⟩ <;>repeat' (first| exact True.intro| refine ai ?_| refine And.intro ?_ ?_)))
   exact⟨by omega,by omega⟩
 rw[hw] at hc
 refine a9.by (fun s:Int=> ⟨[(0,vi n),(3,vi s)],[]⟩) (fun s=>0≤s∧s≤3037000499∧s*s≤n) (fun s=> (3037000499 - s).toNat) s ?_ ⟨qE,vS,by omega⟩ ?_
 · (refine⟨?_,?_⟩ <;>repeat' (first| exact True.intro| refine ai ?_| refine And.intro ?_ ?_))
 clear hw UJ T5 hc qE vS s
 rintro s ⟨qE,vS,hle⟩
 by_cases bJ:s< 3037000499
 · have UJ:=j3 (a:=s+1) (b:=3037000499) (by omega) (by omega)
   have T5:0≤(s+1)*(s+1):=Int.mul_nonneg (by omega) (by omega)
   have QP:IntKind.i64.wrap (s+1)=s+1:=wrap64 (by omega) (by omega)
   have hw:IntKind.i64.wrap ((s+1)*(s+1))=(s+1)*(s+1):=wrap64 (by omega) (by omega)
   (conv=>whnf);repeat' ((first| intro g| refine st ?_| (first| refine b1 ?_ ?_| refine b2 ?_ ?_| refine Br.mk ?_ ?_) <;>intro hc| exact rfl) <;>conv=>whnf)
   · rw[QP,hw] at hc
     refine br.mk (s+1) (by first| omega| (dsimp only;omega)) ?_ (by(refine⟨?_,?_⟩ <;>repeat' (first| exact True.intro| refine ai ?_| refine And.intro ?_ ?_)))
     exact⟨by omega,by omega,hc⟩
   · rw[QP,hw] at hc
     rw[oO ⟨qE,hle,by omega⟩]
 · (conv=>whnf);repeat' ((first| intro g| refine st ?_| (first| refine b1 ?_ ?_| refine b2 ?_ ?_| refine Br.mk ?_ ?_) <;>intro hc| exact rfl) <;>conv=>whnf)
   have:=j3 (a:=3037000500) (b:=s+1) (by omega) (by omega)
   rw[oO ⟨qE,hle,by omega⟩]
end Go.AM
