/-
  Texts of the proof: SGatherA, SGatherB, SGatherC, SGatherD, SGatherE, SGatherF.
-/
import Derived.Test.YtjkmpppkkhbjkaaGreatDa
import Derived.Test.YtjkmpppkkhbjkaaGreatDe
set_option maxRecDepth 20000
set_option maxHeartbeats 4000000
set_option linter.unusedSimpArgs false
set_option linter.unusedVariables false
namespace Go.AM
def eP (ps:List Place) (id:Int):Int:=firstIdx (fun p=>decide (p.id=id)) ps
theorem xL {l:List Place} {g:Nat} {caps:List V} (hc:V.aq caps=true) {p:Place→Bool} (hlen:l.length< 4611686018427387904)
   (hp: ∀x,Ev E g (x.v::caps) ⟨.bool (p x),[]⟩) (hm:c6 E g=[]):Ev E 33 [.lit 7 (l.map Place.v),.fn g caps] ⟨vi (firstIdx p l),[]⟩:=by
 refine Ev.aT ZE (ZF _) rfl ?_
 (conv=>whnf);repeat' ((first| intro g| refine st ?_| (first| refine b1 ?_ ?_| refine b2 ?_ ?_| refine Br.mk ?_ ?_) <;>intro hc| exact rfl) <;>conv=>whnf)
 refine aI.by (fun i:Nat=> ⟨[(0,.lit 7 (l.map Place.v)),(1,.fn g caps),(7,aC (l.map Place.v).length),(8,aC i)],[]⟩) (fun i=>i≤l.length∧ ∀ (j:Nat) y,j<i→l[j]? =some y→p y=false) (fun i=>l.length - i) 0 ?_ ?_ ?_
 · (refine⟨?_,?_⟩ <;>repeat' (first| exact True.intro| refine ai ?_| refine And.intro ?_ ?_))
 · simp
 rintro i ⟨hi,eh⟩
 have cE:=hc
 (conv=>whnf);repeat' ((first| intro g| refine pZ (by assumption) (by first| assumption| rfl| (simp only[V.aq,V.aB,Bool.and_self,Bool.true_and,Bool.and_true, *])) (hp _) rfl ?_| refine st ?_| (first| refine b1 ?_ ?_| refine b2 ?_ ?_| refine Br.mk ?_ ?_) <;>intro hc| exact rfl) <;>conv=>whnf)
 · rw[di eh (aD (by omega)) hc]
 · refine aE.mk (i+1) (by first| omega| (dsimp only;omega)) ?_ (by(refine⟨?_,?_⟩ <;>repeat' (first| exact True.intro| refine ai ?_| refine And.intro ?_ ?_)))
   refine⟨by omega,fun j y hj hy=> ?_⟩
   by_cases e:j=i
   · subst e
     rw[aD (by omega)] at hy
     injection hy with hy;subst hy;exact hc
   · exact eh j y (by omega) hy
 · rw[firstIdx_none fun j y hy=>eh j y (by have:=(List.getElem?_eq_some_iff.1 hy).1;omega) hy]
def ze (place ec:Int) (a b:Place):Int:=
 if place=ec∨a.cls≠b.cls∨b.weight<a.weight∨(a.weight=b.weight∧a.id<b.id) then 1
 else if a.eM≠b.eM then 25
 else if a.name≠[]∧b.name≠[]∧a.name≠b.name then 24
 else 0
def nQ (ps:List Place) (place ec:Int):Int:=
 if 0≤eP ps place∧0≤eP ps ec then
  match ps[(eP ps place).toNat]?,ps[(eP ps ec).toNat]? with
  | some a,some b=>ze place ec a b
  | _,_=>0
 else 5
theorem gI (ps:List Place) (id:Int):eP ps id= -1∨ ∃ (i:Nat) (x:Place),eP ps id=(i:Int)∧ps[i]? =some x∧x.id=id:=by
 rcases bV (fun p:Place=>decide (p.id=id)) ps with h| ⟨i,x,h1,h2,h3⟩
 · exact .inl h.1
 · exact .inr ⟨i,x,h1,h2,by simpa using h3⟩
section
variable {m:bk} (hlen:m.au.length< 1000000)
include hlen
end
section
variable {m:bk} (hlen:m.au.length< 1000000)
include hlen
theorem iQ (id:Int):Ev E 124 [m.v,vi id] ⟨vi (eP m.au id),[]⟩:=by
 refine Ev.aT Pf (Pg _) rfl ?_
 (conv=>whnf);repeat' ((first| intro g| refine st ?_| (first| refine b1 ?_ ?_| refine b2 ?_ ?_| refine Br.mk ?_ ?_) <;>intro hc| exact rfl) <;>conv=>whnf)
 refine aI.by (fun (p:Nat×Nat)=> ⟨[(1,vi id),(2,.ptr 48 p.2 0 0),(5,aC p.1)],[(48,⟨p.2,4,false,false,some [m.v]⟩)]⟩) (fun p=>p.1≤m.au.length∧ ∀ (j:Nat) y,j<p.1→m.au[j]? =some y→y.id≠id) (fun p=>m.au.length - p.1) (0,g) ?_ ?_ ?_
 · (refine⟨?_,?_⟩ <;>repeat' (first| exact True.intro| refine ai ?_| refine And.intro ?_ ?_))
 · simp
 rintro⟨i,g⟩ ⟨hi,eh⟩
 dsimp only at hi eh
 (conv=>whnf);repeat' ((first| intro g| refine st ?_| (first| refine b1 ?_ ?_| refine b2 ?_ ?_| refine Br.mk ?_ ?_) <;>intro hc| exact rfl) <;>conv=>whnf)
 · have hx:=aD (l:=m.au) (i:=i) (by omega)
   have:eP m.au id=i:=di (fun j y hj hy=>by simpa using eh j y hj hy) hx (by simpa using hc)
   rw[this]
 · refine aE.mk ((i+1,g)) (by first| omega| (dsimp only;omega)) ?_ (by(refine⟨?_,?_⟩ <;>repeat' (first| exact True.intro| refine ai ?_| refine And.intro ?_ ?_)))
   refine⟨by dsimp only;omega,fun j y hj hy=> ?_⟩
   by_cases e:j=i
   · subst e
     rw[aD (by omega)] at hy
     injection hy with hy;subst hy;exact hc
   · exact eh j y (by dsimp only at hj;omega) hy
 · have:eP m.au id= -1:=firstIdx_none fun j y hy=>by simpa using eh j y (by have:=(List.getElem?_eq_some_iff.1 hy).1;omega) hy
   rw[this]
theorem xM (place ec:Int):Ev E 123 [m.v,vi place,vi ec] ⟨vi (nQ m.au place ec),[]⟩:=by
 have h:=iQ hlen
 have h5:=h place
 have h6:=h ec
 rcases gI m.au place with h1| ⟨i,a,h1,ha,Ph⟩
 · have r:nQ m.au place ec=5:=by simp[nQ,h1]
   rw[h1] at h5;rw[r]
   refine Ev.aT FG (FH _) rfl ?_
   (conv=>whnf);repeat' ((first| intro g| refine ah.mk _ (h5) ?_| refine ah.mk _ (h6) ?_| refine st ?_| (first| refine b1 ?_ ?_| refine b2 ?_ ?_| refine Br.mk ?_ ?_) <;>intro hc| exact rfl) <;>conv=>whnf)
   all_goals simp_all
 rcases gI m.au ec with h2| ⟨k,b,h2,hb,ZG⟩
 · have r:nQ m.au place ec=5:=by simp[nQ,h2]
   rw[h1] at h5;rw[h2] at h6;rw[r]
   refine Ev.aT FG (FH _) rfl ?_
   (conv=>whnf);repeat' ((first| intro g| refine ah.mk _ (h5) ?_| refine ah.mk _ (h6) ?_| refine st ?_| (first| refine b1 ?_ ?_| refine b2 ?_ ?_| refine Br.mk ?_ ?_) <;>intro hc| exact rfl) <;>conv=>whnf)
   all_goals simp_all
 have r:nQ m.au place ec=ze place ec a b:=by simp[nQ,h1,h2,ha,hb]
 rw[h1] at h5;rw[h2] at h6
 rw[r]
 refine Ev.aT FG (FH _) rfl ?_
 (conv=>whnf);repeat' ((first| intro g| refine aN.mk _ (al ha rfl) ?_| refine aN.mk _ (al hb rfl) ?_| refine ah.mk _ (h5) ?_| refine ah.mk _ (h6) ?_| refine st ?_| (first| refine b1 ?_ ?_| refine b2 ?_ ?_| refine Br.mk ?_ ?_) <;>intro hc| exact rfl) <;>conv=>whnf)
 all_goals (show (⟨vi _,[]⟩:dk)=_;congr 2;unfold ze;first| (simp[*];done) | (simp[*];omega) | (repeat' split) <;>first| rfl| (exfalso;simp_all;done) | (exfalso;simp_all;omega))
end
end Go.AM
namespace Go.AM
def sqV (ax ay bx b_y:Int):Int:=c9 (c9 (c9 (ax - bx)*c9 (ax - bx))+c9 (c9 (ay - b_y)*c9 (ay - b_y)))
theorem Iy (n:Int):IntKind.i64.wrap n≤9223372036854775807:=by
 simp[IntKind.wrap,IntKind.bits,IntKind.signed]
 split<;>omega
theorem LB (a b:Pt):Ev E 37 [a.v,b.v] ⟨(Pt.mk (c9 (a.x - b.x)) (c9 (a.y - b.y))).v,[]⟩:=by
 refine Ev.aT ZH (ZI _) rfl ?_
 (conv=>whnf);repeat' ((first| intro g| refine st ?_| (first| refine b1 ?_ ?_| refine b2 ?_ ?_| refine Br.mk ?_ ?_) <;>intro hc| exact rfl) <;>conv=>whnf)
theorem LC (a b:Pt):Ev E 38 [a.v,b.v] ⟨vi (c9 (c9 (a.x*b.x)+c9 (a.y*b.y))),[]⟩:=by
 refine Ev.aT ZJ (ZK _) rfl ?_
 (conv=>whnf);repeat' ((first| intro g| refine st ?_| (first| refine b1 ?_ ?_| refine b2 ?_ ?_| refine Br.mk ?_ ?_) <;>intro hc| exact rfl) <;>conv=>whnf)
theorem Iz (a b:Pt):Ev E 161 [a.v,b.v] ⟨(Pt.mk (c9 (a.x - b.x)) (c9 (a.y - b.y))).v,[]⟩:=by
 refine Ev.aT FD (FE _) rfl ?_
 (conv=>whnf);repeat' ((first| intro g| refine st ?_| (first| refine b1 ?_ ?_| refine b2 ?_ ?_| refine Br.mk ?_ ?_) <;>intro hc| exact rfl) <;>conv=>whnf)
theorem xG (a b:Pt):Ev E 166 [a.v,b.v] ⟨vi (c9 (c9 (a.x*b.x)+c9 (a.y*b.y))),[]⟩:=by
 refine Ev.aT Pj (Pk _) rfl ?_
 (conv=>whnf);repeat' ((first| intro g| refine st ?_| (first| refine b1 ?_ ?_| refine b2 ?_ ?_| refine Br.mk ?_ ?_) <;>intro hc| exact rfl) <;>conv=>whnf)
theorem oM (a b:Pt):Ev E 128 [a.v,b.v] ⟨vi (sqV a.x a.y b.x b.y),[]⟩:=by
 refine Ev.aT Pl (Pm _) rfl ?_
 (conv=>whnf);repeat' ((first| intro g| refine ah.mk _ (Iz a b) ?_| refine ah.mk _ (xG _ _) ?_| refine st ?_| (first| refine b1 ?_ ?_| refine b2 ?_ ?_| refine Br.mk ?_ ?_) <;>intro hc| exact rfl) <;>conv=>whnf)
def Place.at_ (p:Place):Pt:=⟨p.x,p.y⟩
def LD (a b:Place):Int:=sqV a.x a.y b.x b.y
noncomputable def FI (a b:Place):Int:=c9 ((lJ (LD a b)).tdiv 4)
noncomputable def jj (ps:List Place) (place ec:Int):Int:=
 match ps[(eP ps place).toNat]?,ps[(eP ps ec).toNat]? with
 | some a,some b=>if 0≤eP ps place∧0≤eP ps ec then FI a b else 0
 | _,_=>0
section
variable {m:bk} (hlen:m.au.length< 1000000)
include hlen
theorem zf (place ec:Int):Ev E 90 [m.v,vi place,vi ec] ⟨vi (jj m.au place ec),[]⟩:=by
 have h:=iQ hlen
 have h5:=h place
 have h6:=h ec
 rcases gI m.au place with h1| ⟨i,a,h1,ha,Ph⟩
 · have r:jj m.au place ec=0:=by simp[jj,h1];split<;>rfl
   rw[h1] at h5;rw[r]
   refine Ev.aT LF (LG _) rfl ?_
   (conv=>whnf);repeat' ((first| intro g| refine ah.mk _ (h5) ?_| refine ah.mk _ (h6) ?_| refine st ?_| (first| refine b1 ?_ ?_| refine b2 ?_ ?_| refine Br.mk ?_ ?_) <;>intro hc| exact rfl) <;>conv=>whnf)
   all_goals simp_all
 rcases gI m.au ec with h2| ⟨k,b,h2,hb,ZG⟩
 · have r:jj m.au place ec=0:=by simp[jj,h2];split<;>rfl
   rw[h1] at h5;rw[h2] at h6;rw[r]
   refine Ev.aT LF (LG _) rfl ?_
   (conv=>whnf);repeat' ((first| intro g| refine ah.mk _ (h5) ?_| refine ah.mk _ (h6) ?_| refine st ?_| (first| refine b1 ?_ ?_| refine b2 ?_ ?_| refine Br.mk ?_ ?_) <;>intro hc| exact rfl) <;>conv=>whnf)
   all_goals simp_all
 have r:jj m.au place ec=FI a b:=by simp[jj,h1,h2,ha,hb]
 rw[h1] at h5;rw[h2] at h6
 rw[r]
 refine Ev.aT LF (LG _) rfl ?_
 (conv=>whnf);repeat' ((first| intro g| refine aN.mk _ (al ha rfl) ?_| refine aN.mk _ (al hb rfl) ?_| refine ah.mk _ (h5) ?_| refine ah.mk _ (h6) ?_| refine ah.mk _ (oM a.at_ b.at_) ?_| refine ah.mk _ (uc (Iy _)) ?_| refine st ?_| (first| refine b1 ?_ ?_| refine b2 ?_ ?_| refine Br.mk ?_ ?_) <;>intro hc| exact rfl) <;>conv=>whnf)
 all_goals simp_all
end
def jM (p a b:Place):Int:=J8 (nN (LD p a) (LD p b)) (nN a.id b.id)
def Bl {α:Type} (c:α→α→Int) (l:List α) (x:α):α:=l.foldl (fun m y=>if c y m< 0 then y else m) x
end Go.AM
namespace Go.AM
def mz (ps:List Place) (p:Place) (j:Nat):Option Place:=match ps[j]? with
 | some o=>if eP ps o.id=j∧nQ ps p.id o.id=0 then some o else none
 | none=>none
def qe (ps:List Place) (p:Place) (i:Nat):List Place:=(List.range i).filterMap (mz ps p)
def jZ (ps:List Place) (p:Place) (j:Nat):Option Place:=match qe ps p j with
 | []=>none
 | x::xs=>some (Bl (jM p) xs x)
theorem xN (ps:List Place) (p:Place) (i:Nat):qe ps p (i+1)=qe ps p i++(mz ps p i).toList:=by
 simp only[qe,List.range_succ,List.filterMap_append]
 cases h:mz ps p i<;>simp[List.filterMap_cons,h]
theorem rZ {α:Type} (c:α→α→Int): ∀ (l:List α) (x y:α),Bl c (l++[y]) x=if c y (Bl c l x) < 0 then y else Bl c l x
 | [],x,y=>rfl
 | z::l,x,y=>by
   have e: ∀l',Bl c (z::l') x=Bl c l' (if c z x< 0 then z else x):=fun _=>rfl
   rw[List.cons_append,e,e,rZ c l _ y]
theorem zg (ps:List Place) (p:Place) (j:Nat):jZ ps p (j+1)=match mz ps p j with
   | none=>jZ ps p j
   | some o=>match jZ ps p j with
     | none=>some o
     | some b=>if jM p o b< 0 then some o else some b:=by
 unfold jZ
 rw[xN]
 cases hc:mz ps p j with
 | none=>simp
 | some o=>
   cases hl:qe ps p j with
   | nil=>simp[Bl]
   | cons x xs=>
     simp only[Option.toList_some,List.cons_append,rZ]
     split<;>rfl
theorem lj {p o b:Place}:jM p o b< 0↔LD p o<LD p b∨LD p o=LD p b∧o.id<b.id:=by
 unfold jM J8 nN
 repeat' split
 all_goals omega
noncomputable def re (ps:List Place) (d:Int) (j:Nat):Option Event:=match ps[j]? with
 | some p=>if p.eM=d∧eP ps p.id=j then(match jZ ps p ps.length with
   | some o=>some ⟨4,if 1 <jj ps p.id o.id then jj ps p.id o.id else 1,p.id,o.id,0⟩
   | none=>none) else none
 | none=>none
noncomputable def j3 (ps:List Place) (d:Int) (i:Nat):List Event:=(List.range i).filterMap (re ps d)
theorem zh (ps:List Place) (d:Int) (i:Nat):j3 ps d (i+1)=j3 ps d i++(re ps d i).toList:=by
 simp only[j3,List.range_succ,List.filterMap_append]
 cases h:re ps d i<;>simp[List.filterMap_cons,h]
theorem uh (ps:List Place) (d:Int) (i:Nat): (j3 ps d i).length≤i:=by
 simp only[j3]
 exact Nat.le_trans (List.length_filterMap_le _ _) (by simp)
section
variable {m:bk} (hlen:m.au.length< 1000000)
include hlen
theorem Bm (p:Place):Ev E 129 [m.v,p.v] ⟨(match jZ m.au p m.au.length with
   | some o=> .tuple [vi o.id,.bool true]
   | none=> .tuple [vi 0,.bool false]),[]⟩:=by
 have rf:=iQ hlen
 have FJ:=xM hlen
 refine Ev.aT Pn (Po _) rfl ?_
 (conv=>whnf);repeat' ((first| intro g| refine st ?_| (first| refine b1 ?_ ?_| refine b2 ?_ ?_| refine Br.mk ?_ ?_) <;>intro hc| exact rfl) <;>conv=>whnf)
 rename_i g1
 refine aI.by (fun ((k,vQ):Nat×Int)=> ⟨[(2,.ptr 48 g1 0 0),(3,.ptr 64 g 0 0),(6,vi vQ),(7,aC k)],[(48,⟨g1,4,false,false,some [m.v]⟩),(64,⟨g,7,false,false,some [p.v]⟩)]⟩)
   (fun (k,vQ)=>k≤m.au.length∧(match jZ m.au p k with
     | none=>vQ= -1
     | some o=> ∃b:Nat,vQ=b∧m.au[b]? =some o)) (fun (k,_)=>m.au.length - k) (0,-1) (by(refine⟨?_,?_⟩ <;>repeat' (first| exact True.intro| refine ai ?_| refine And.intro ?_ ?_))) ⟨by simp,rfl⟩ ?_
 rintro⟨k,vQ⟩ ⟨hk,hb⟩
 try dsimp only at hk hb
 by_cases bp:k<m.au.length
 · obtain⟨o,ho⟩: ∃o,m.au[k]? =some o:=⟨_,aD bp⟩
   have hs:=zg m.au p k
   have EU:=rf o.id
   have Pp:=FJ p.id o.id
   by_cases hf:eP m.au o.id=k
   case neg=>
     have hc:mz m.au p k=none:=by simp[mz,ho,hf]
     rw[hc] at hs
     (conv=>whnf);repeat' ((first| intro g| refine aN.mk _ (al ho rfl) ?_| refine ah.mk _ (EU) ?_| refine ah.mk _ (Pp) ?_| refine st ?_| (first| refine b1 ?_ ?_| refine b2 ?_ ?_| refine Br.mk ?_ ?_) <;>intro hc| exact rfl) <;>conv=>whnf)
     all_goals (refine aE.mk (k+1,vQ) (by first| omega| (dsimp only;omega)) ⟨(by first| omega| (dsimp only;omega)),?_⟩ (by(refine⟨?_,?_⟩ <;>repeat' (first| exact True.intro| refine ai ?_| refine And.intro ?_ ?_)));try dsimp only)
     all_goals (rw[hs];exact hb)
   rw[hf] at EU
   by_cases eB:nQ m.au p.id o.id=0
   case neg=>
     have hc:mz m.au p k=none:=by simp[mz,ho,hf,eB]
     rw[hc] at hs
     (conv=>whnf);repeat' ((first| intro g| refine aN.mk _ (al ho rfl) ?_| refine ah.mk _ (EU) ?_| refine ah.mk _ (Pp) ?_| refine st ?_| (first| refine b1 ?_ ?_| refine b2 ?_ ?_| refine Br.mk ?_ ?_) <;>intro hc| exact rfl) <;>conv=>whnf)
     all_goals (refine aE.mk (k+1,vQ) (by first| omega| (dsimp only;omega)) ⟨(by first| omega| (dsimp only;omega)),?_⟩ (by(refine⟨?_,?_⟩ <;>repeat' (first| exact True.intro| refine ai ?_| refine And.intro ?_ ?_)));try dsimp only)
     all_goals (rw[hs];exact hb)
   rw[eB] at Pp
   have hc:mz m.au p k=some o:=by simp[mz,ho,hf,eB]
   rw[hc] at hs
   cases Pq:jZ m.au p k with
   | none=>
     rw[Pq] at hb hs
     try dsimp only at hb hs
     subst hb
     (conv=>whnf);repeat' ((first| intro g| refine aN.mk _ (al ho rfl) ?_| refine ah.mk _ (EU) ?_| refine ah.mk _ (Pp) ?_| refine st ?_| (first| refine b1 ?_ ?_| refine b2 ?_ ?_| refine Br.mk ?_ ?_) <;>intro hc| exact rfl) <;>conv=>whnf)
     all_goals (refine aE.mk (k+1,(k:Int)) (by first| omega| (dsimp only;omega)) ⟨(by first| omega| (dsimp only;omega)),?_⟩ (by(refine⟨?_,?_⟩ <;>repeat' (first| exact True.intro| refine ai ?_| refine And.intro ?_ ?_)));try dsimp only)
     all_goals (rw[hs];exact⟨k,rfl,ho⟩)
   | some b=>
     rw[Pq] at hb hs
     try dsimp only at hb hs
     obtain⟨bi,rfl,CA⟩:=hb
     have ZL:=oM p.at_ o.at_
     have ZM:=oM p.at_ b.at_
     (conv=>whnf);repeat' ((first| intro g| refine aN.mk _ (al ho rfl) ?_| refine aN.mk _ (al CA rfl) ?_| refine ah.mk _ (EU) ?_| refine ah.mk _ (Pp) ?_| refine ah.mk _ (ZL) ?_| refine ah.mk _ (ZM) ?_| refine st ?_| (first| refine b1 ?_ ?_| refine b2 ?_ ?_| refine Br.mk ?_ ?_) <;>intro hc| exact rfl) <;>conv=>whnf)
     · have Bn:jM p o b< 0:=lj.2 (.inl hc)
       rw[if_pos Bn] at hs
       refine aE.mk (k+1,(k:Int)) (by first| omega| (dsimp only;omega)) ⟨(by first| omega| (dsimp only;omega)),?_⟩ (by(refine⟨?_,?_⟩ <;>repeat' (first| exact True.intro| refine ai ?_| refine And.intro ?_ ?_)))
       try dsimp only
       rw[hs];exact⟨k,rfl,ho⟩
     · rename_i h1 h2
       have Bn:jM p o b< 0:=lj.2 (.inr ⟨h2,hc⟩)
       rw[if_pos Bn] at hs
       refine aE.mk (k+1,(k:Int)) (by first| omega| (dsimp only;omega)) ⟨(by first| omega| (dsimp only;omega)),?_⟩ (by(refine⟨?_,?_⟩ <;>repeat' (first| exact True.intro| refine ai ?_| refine And.intro ?_ ?_)))
       try dsimp only
       rw[hs];exact⟨k,rfl,ho⟩
     · rename_i h1 h2
       have Bn: ¬jM p o b< 0:=fun h=>by
        rcases lj.1 h with h| ⟨_,h⟩
        · exact h1 h
        · exact hc h
       rw[if_neg Bn] at hs
       refine aE.mk (k+1,(bi:Int)) (by first| omega| (dsimp only;omega)) ⟨(by first| omega| (dsimp only;omega)),?_⟩ (by(refine⟨?_,?_⟩ <;>repeat' (first| exact True.intro| refine ai ?_| refine And.intro ?_ ?_)))
       try dsimp only
       rw[hs];exact⟨bi,rfl,CA⟩
     · rename_i h1
       have Bn: ¬jM p o b< 0:=fun h=>by
        rcases lj.1 h with h| ⟨h,_⟩
        · exact h1 h
        · exact hc h
       rw[if_neg Bn] at hs
       refine aE.mk (k+1,(bi:Int)) (by first| omega| (dsimp only;omega)) ⟨(by first| omega| (dsimp only;omega)),?_⟩ (by(refine⟨?_,?_⟩ <;>repeat' (first| exact True.intro| refine ai ?_| refine And.intro ?_ ?_)))
       try dsimp only
       rw[hs];exact⟨bi,rfl,CA⟩
 · have:k=m.au.length:=by omega
   subst this
   cases Pq:jZ m.au p m.au.length with
   | none=>
     rw[Pq] at hb
     try dsimp only at hb
     subst hb
     (conv=>whnf);repeat' ((first| intro g| refine st ?_| (first| refine b1 ?_ ?_| refine b2 ?_ ?_| refine Br.mk ?_ ?_) <;>intro hc| exact rfl) <;>conv=>whnf)
   | some b=>
     rw[Pq] at hb
     try dsimp only at hb
     obtain⟨bi,rfl,CA⟩:=hb
     (conv=>whnf);repeat' ((first| intro g| refine aN.mk _ (al CA rfl) ?_| refine st ?_| (first| refine b1 ?_ ?_| refine b2 ?_ ?_| refine Br.mk ?_ ?_) <;>intro hc| exact rfl) <;>conv=>whnf)
end
end Go.AM
namespace Go.AM
section
variable {m:bk} (hlen:m.au.length< 1000000)
include hlen
end
end Go.AM
namespace Go.AM
def ui (a b:Event):Prop:=a.id<b.id
theorem IA {ps:List Place} {d:Int} {j:Nat} {e:Event} (h:re ps d j=some e):eP ps e.id=j∧ ∃p,ps[j]? =some p∧e.id=p.id:=by
 unfold re at h
 split at h
 · split at h
   · rename_i p hp hc
     split at h
     · injection h with h
       subst h
       exact⟨hc.2,p,hp,rfl⟩
     · simp at h
   · simp at h
 · simp at h
theorem DD {ps:List Place} {d:Int} {k:Nat} {e:Event} (h:e ∈ j3 ps d k): ∃j,j<k∧eP ps e.id=j:=by
 simp only[j3,List.mem_filterMap] at h
 obtain⟨j,hj,h⟩:=h
 exact⟨j,by simpa using hj,(IA h).1⟩
theorem uj {l:List Event} {e:Event} {n:Nat} (hs:l.Pairwise ui) (h1: ∀ (i:Nat) x,i<n→l[i]? =some x→x.id<e.id) (h2: ∀x,l[n]? =some x→e.id<x.id) (hn:n≤l.length):
  (l.take n++e::l.drop n).Pairwise ui:=by
 have ic:=hs
 rw[←List.take_append_drop n l,List.pairwise_append] at ic
 obtain⟨a1,a2,a3⟩:=ic
 rw[List.pairwise_append]
 have hd: ∀x ∈ l.drop n,e.id<x.id:=by
  intro x hx
  cases FK:l.drop n with
  | nil=>rw[FK] at hx;simp at hx
  | cons y t=>
    have hy:l[n]? =some y:=by
     have:=congrArg (·[0]?) FK
     simpa using this
    have h3:=h2 y hy
    rw[FK] at hx a2
    rcases List.mem_cons.1 hx with rfl| hx
    · exact h3
    · exact Int.lt_trans h3 ((List.pairwise_cons.1 a2).1 x hx)
 refine⟨a1,List.pairwise_cons.2 ⟨fun x hx=>hd x hx,a2⟩,fun a ha b hb=> ?_⟩
 have Np:a.id<e.id:=by
  obtain⟨i,hi⟩:=List.mem_iff_getElem?.1 ha
  have bp:i<n:=by
    have:=(List.getElem?_eq_some_iff.1 hi).1
    simp at this;omega
  refine h1 i a bp ?_
  rw[List.getElem?_take,if_pos bp] at hi
  exact hi
 rcases List.mem_cons.1 hb with rfl| hb
 · exact Np
 · exact Int.lt_trans Np (hd b hb)
theorem zi {l:List Event} {e:Event} {n:Nat}: (l.take n++e::l.drop n).Perm (l++[e]):=by
 have h1: (l.take n++e::l.drop n).Perm (e:: (l.take n++l.drop n)):=List.perm_middle
 rw[List.take_append_drop] at h1
 exact h1.trans (List.perm_append_comm (l₁:=[e]))
section
variable {m:bk} (hlen:m.au.length< 1000000)
include hlen
theorem IB (  d:Int):
   ∃l':List Event,l'.Perm (j3 m.au d m.au.length)∧l'.Pairwise ui∧Ev E 91 [m.v,vi d] ⟨.own 5 (l'.map Event.v),[]⟩:=by
 have key:=Ev.bz (R:=fun r=> ∃l':List Event,l'.Perm (j3 m.au d m.au.length)∧l'.Pairwise ui∧r=⟨.own 5 (l'.map Event.v),[]⟩) ZN (ZO [m.v,vi d]) rfl ?_
 · obtain⟨res,h1,l',h2,h3,rfl⟩:=key
   exact⟨l',h2,h3,h1⟩
 have rf:=iQ hlen
 have Pr:=zf hlen
 have Ps:=Bm hlen
 (conv=>whnf);repeat' ((first| intro g| refine st ?_| (first| refine b1 ?_ ?_| refine b2 ?_ ?_| refine Br.mk ?_ ?_) <;>intro hc| exact rfl) <;>conv=>whnf)
 rename_i g1
 refine aI.by (fun ((k,es,g5):Nat×List Event×Nat)=> ⟨[(1,vi d),(2,.ptr 48 g1 0 0),(5,.sl 97 g5 0 es.length),(6,aC k)],[(48,⟨g1,4,false,false,some [m.v]⟩),(97,⟨g5,5,true,false,some (es.map Event.v)⟩)]⟩)
   (fun (k,es,_)=>k≤m.au.length∧es.Perm (j3 m.au d k)∧es.Pairwise ui) (fun (k,_)=>m.au.length - k) (0,[],g) (by(refine⟨?_,?_⟩ <;>repeat' (first| exact True.intro| refine ai ?_| refine And.intro ?_ ?_))) ⟨by simp,.refl _,.nil⟩ ?_
 rintro⟨k,es,g5⟩ ⟨hk,bl,Bo⟩
 try dsimp only at hk bl Bo
 have te:es.length≤k:=by rw[bl.length_eq];exact uh m.au d k
 by_cases bp:k<m.au.length
 · obtain⟨ p,Kl⟩: ∃p,m.au[k]? =some p:=⟨_,aD bp⟩
   have hs:=zh m.au d k
   have Pu:=rf p.id
   by_cases hd:p.eM=d
   case neg=>
     have he:re m.au d k=none:=by simp[re,Kl,hd]
     rw[he] at hs
     (conv=>whnf);repeat' ((first| intro g| refine aN.mk _ (al Kl rfl) ?_| refine ah.mk _ (Pu) ?_| refine st ?_| (first| refine b1 ?_ ?_| refine b2 ?_ ?_| refine Br.mk ?_ ?_) <;>intro hc| exact rfl) <;>conv=>whnf)
     all_goals exact aE.mk (k+1,es,g5) (by first| omega| (dsimp only;omega)) ⟨(by first| omega| (dsimp only;omega)),by rw[hs];simpa using bl,Bo⟩ (by(refine⟨?_,?_⟩ <;>repeat' (first| exact True.intro| refine ai ?_| refine And.intro ?_ ?_)))
   by_cases hf:eP m.au p.id=k
   case neg=>
     have he:re m.au d k=none:=by simp[re,Kl,hf]
     rw[he] at hs
     (conv=>whnf);repeat' ((first| intro g| refine aN.mk _ (al Kl rfl) ?_| refine ah.mk _ (Pu) ?_| refine st ?_| (first| refine b1 ?_ ?_| refine b2 ?_ ?_| refine Br.mk ?_ ?_) <;>intro hc| exact rfl) <;>conv=>whnf)
     all_goals exact aE.mk (k+1,es,g5) (by first| omega| (dsimp only;omega)) ⟨(by first| omega| (dsimp only;omega)),by rw[hs];simpa using bl,Bo⟩ (by(refine⟨?_,?_⟩ <;>repeat' (first| exact True.intro| refine ai ?_| refine And.intro ?_ ?_)))
   rw[hf] at Pu
   have hn:=Ps p
   cases hb:jZ m.au p m.au.length with
   | none=>
     have he:re m.au d k=none:=by simp[re,Kl,hd,hf,hb]
     rw[he] at hs
     rw[hb] at hn
     (conv=>whnf);repeat' ((first| intro g| refine aN.mk _ (al Kl rfl) ?_| refine ah.mk _ (Pu) ?_| refine ah.mk _ (hn) ?_| refine st ?_| (first| refine b1 ?_ ?_| refine b2 ?_ ?_| refine Br.mk ?_ ?_) <;>intro hc| exact rfl) <;>conv=>whnf)
     all_goals exact aE.mk (k+1,es,g5) (by first| omega| (dsimp only;omega)) ⟨(by first| omega| (dsimp only;omega)),by rw[hs];simpa using bl,Bo⟩ (by(refine⟨?_,?_⟩ <;>repeat' (first| exact True.intro| refine ai ?_| refine And.intro ?_ ?_)))
   | some o=>
     have he:re m.au d k=some ⟨4,if 1 <jj m.au p.id o.id then jj m.au p.id o.id else 1,p.id,o.id,0⟩:=by simp[re,Kl,hd,hf,hb]
     rw[he] at hs
     rw[hb] at hn
     have hco:=Pr p.id o.id
     (conv=>whnf);repeat' ((first| intro g| refine aN.mk _ (al Kl rfl) ?_| refine ah.mk _ (Pu) ?_| refine ah.mk _ (hn) ?_| refine st ?_| (first| refine b1 ?_ ?_| refine b2 ?_ ?_| refine Br.mk ?_ ?_) <;>intro hc| exact rfl) <;>conv=>whnf)
     refine aI.by (fun (at_:Nat)=> ⟨[(1,vi d),(2,.ptr 48 g1 0 0),(5,.sl 97 g5 0 es.length),(6,aC k),(7,.ptr 128 g 0 0),(8,vi o.id),(10,aC at_)],
       [(48,⟨g1,4,false,false,some [m.v]⟩),(97,⟨g5,5,true,false,some (es.map Event.v)⟩),(128,⟨g,7,false,false,some [p.v]⟩)]⟩)
       (fun at_=>at_≤es.length∧ ∀ (i:Nat) x,i<at_→es[i]? =some x→x.id<p.id) (fun at_=>es.length - at_) 0 (by(refine⟨?_,?_⟩ <;>repeat' (first| exact True.intro| refine ai ?_| refine And.intro ?_ ?_))) ⟨by simp,by simp⟩ ?_
     rintro a ⟨ha,LH⟩
     by_cases Pv:a<es.length
     · obtain⟨e,IC⟩: ∃e,es[a]? =some e:=⟨_,aD Pv⟩
       by_cases LI:e.id<p.id
       · (conv=>whnf);repeat' ((first| intro g| refine aN.mk _ (al IC rfl) ?_| refine st ?_| (first| refine b1 ?_ ?_| refine b2 ?_ ?_| refine Br.mk ?_ ?_) <;>intro hc| exact rfl) <;>conv=>whnf)
         refine aE.mk (a+1) (by first| omega| (dsimp only;omega)) ⟨(by first| omega| (dsimp only;omega)),fun i x hi hx=> ?_⟩ (by(refine⟨?_,?_⟩ <;>repeat' (first| exact True.intro| refine ai ?_| refine And.intro ?_ ?_)))
         by_cases e1:i=a
         · subst e1;rw[IC] at hx;injection hx with hx;subst hx;exact LI
         · exact LH i x (by omega) hx
       · have Px:p.id<e.id:=by
           rcases Int.lt_trichotomy e.id p.id with h| h| h
           · exact absurd h LI
           · obtain⟨j,hj,hj2⟩:=DD (bl.mem_iff.1 (List.mem_of_getElem? IC))
             rw[h,hf] at hj2
             omega
           · exact h
         (conv=>whnf);repeat' ((first| intro g| refine aN.mk _ (al IC rfl) ?_| refine aN.mk _ (gC _ _ _ _) ?_| refine ah.mk _ (hco) ?_| refine st ?_| (first| refine b1 ?_ ?_| refine b2 ?_ ?_| refine Br.mk ?_ ?_) <;>intro hc| exact rfl) <;>conv=>whnf)
         refine aE.mk (k+1,es.take a++⟨4,if 1 <jj m.au p.id o.id then jj m.au p.id o.id else 1,p.id,o.id,0⟩::es.drop a,g) (by first| omega| (dsimp only;omega)) ⟨(by first| omega| (dsimp only;omega)),?_,uj Bo LH (fun x hx=> ?_) ha⟩ ?_
         · rw[hs];exact zi.trans (bl.append_right _)
         · rw[IC] at hx;injection hx with hx;subst hx;exact Px
         · (refine⟨?_,?_⟩ <;>repeat' (first| exact True.intro| refine ai ?_| refine And.intro ?_ ?_))
           all_goals (conv=>whnf)
           all_goals first| (simp[List.take_of_length_le];done) | (simp[List.take_of_length_le];rfl)
     · have:a=es.length:=by omega
       subst this
       (conv=>whnf);repeat' ((first| intro g| refine aN.mk _ (gC _ _ _ _) ?_| refine ah.mk _ (hco) ?_| refine st ?_| (first| refine b1 ?_ ?_| refine b2 ?_ ?_| refine Br.mk ?_ ?_) <;>intro hc| exact rfl) <;>conv=>whnf)
       refine aE.mk (k+1,es.take es.length++⟨4,if 1 <jj m.au p.id o.id then jj m.au p.id o.id else 1,p.id,o.id,0⟩::es.drop es.length,g) (by first| omega| (dsimp only;omega)) ⟨(by first| omega| (dsimp only;omega)),?_,uj Bo LH (fun x hx=> ?_) (Nat.le_refl _)⟩ ?_
       · rw[hs];exact zi.trans (bl.append_right _)
       · simp at hx
       · (refine⟨?_,?_⟩ <;>repeat' (first| exact True.intro| refine ai ?_| refine And.intro ?_ ?_))
         all_goals (conv=>whnf)
         all_goals first| (simp[List.take_of_length_le];done) | (simp[List.take_of_length_le];rfl)
 · have:k=m.au.length:=by omega
   subst this
   (conv=>whnf);repeat' ((first| intro g| refine aN.mk _ (kZ rfl) ?_| refine st ?_| (first| refine b1 ?_ ?_| refine b2 ?_ ?_| refine Br.mk ?_ ?_) <;>intro hc| exact rfl) <;>conv=>whnf)
   all_goals exact⟨es,bl,Bo,rfl⟩
end
end Go.AM
namespace Go.AM
theorem DE (l:List Place) (h:l.length< 1000000):Ev E 31 [.lit 7 (l.map Place.v)] ⟨.own 7 (l.map Place.v),[]⟩:=
 Ev.ext (by rw[ZP];simp[tK];omega)
structure bk.Fit (m:bk):Prop where
 e:m.aU.length< 1000000
 f:m.ba.length< 1000000
 w:m.ways.length< 1000000
 p:m.au.length< 1000000
 el: ∀e ∈ m.aU,e.line.length< 1000000
 wl: ∀w ∈ m.ways,w.line.length< 1000000
def orS (a b:vF):vF:=if a=[] then b else a
def uk (a b:Place):Place:={b with weight:=if 255 <c9 (b.weight+a.weight) then 255 else c9 (b.weight+a.weight),name:=orS b.name a.name}
def nz (ps:List Place) (place ec:Int):List Place:=
 match ps[(eP ps place).toNat]?,ps[(eP ps ec).toNat]? with
 | some a,some b=> (ps.set (eP ps ec).toNat (uk a b)).eraseIdx (eP ps place).toNat
 | _,_=> []
def bk.zero:bk:=⟨[],[],[],[]⟩
end Go.AM
