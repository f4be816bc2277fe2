/-
  Texts of the proof: PFacA, PFacB, PFacC, PFacD.
-/
import Derived.Test.YtjmcpijpclfakaaGreatGa
import Derived.Test.YtjmcpijpclfakaaGreatF
set_option maxRecDepth 20000
set_option maxHeartbeats 4000000
set_option linter.unusedSimpArgs false
set_option linter.unusedVariables false
namespace Go.AM
def lF (v:Int) (l:List bH) (a:Int):Int:=l.foldl (fun a k=>if k.var=v then imax a k.lo else a) a
def lG (v:Int) (l:List bH) (a:Int):Int:=l.foldl (fun a k=>if k.var=v then cH a k.hi else a) a
theorem DK {v:Int} {l:List bH} {a:Int} {i:Nat} {k:bH} (h:l[i]? =some k):lF v (l.take (i+1)) a=if k.var=v then imax (lF v (l.take i) a) k.lo else lF v (l.take i) a:=by
 rw[List.take_add_one,h,lF,List.foldl_append];rfl
theorem DL {v:Int} {l:List bH} {a:Int} {i:Nat} {k:bH} (h:l[i]? =some k):lG v (l.take (i+1)) a=if k.var=v then cH (lG v (l.take i) a) k.hi else lG v (l.take i) a:=by
 rw[List.take_add_one,h,lG,List.foldl_append];rfl
def iM (v:Int):Int:=if cI v=2 then 0 else -1073741824
def toV (v:Int):Int:=if cI v=2 then 1 else 1073741824
def pL (v:Int) (l:List bH):Bd:=if lG v l (toV v) <lF v l (iM v) then nb (iM v) (toV v) else nb (lF v l (iM v)) (lG v l (toV v))
def common (own:List bH) (s:dE):Bool:=own.all fun k=>decide (s ∈ k.texts)
def fA:List bH→List dE
 | []=> []
 | k::own=>union [] (k.texts.filter (common (k::own)))
def jc (own:List bH):Bd:=⟨0,0,true,fA own,!(fA own).isEmpty,true⟩
def cY (v:Int) (l:List bH):List bH:=l.filter fun k=>decide (k.var=v)
def aH (l:List bH) (v:Int):Bd:=if cI v=3 then jc (cY v l) else pL v l
theorem IW (t n:Int) (b:Bool) (s:dE):Ev E 352 [(Va.mk t n b s).v] ⟨vi (bif b then 1 else n),[]⟩:=by
 refine Ev.aG aaM (aaN _) rfl ?_
 simp only[Va.v]
 cases b
 all_goals (conv=>whnf);repeat' ((first| intro g| refine st ?_| (first| refine b1 ?_ ?_| refine b2 ?_ ?_| refine Br.mk ?_ ?_) <;>intro hc| exact rfl) <;>conv=>whnf)
theorem bH.na (k:bH): ∃t,k.v= .agg [vi k.var,vi k.lo,vi k.hi,t]∧td 1 (k.texts.map V.str) t:=⟨_,rfl,x8 ..⟩
theorem K6 {l:List bH} {sv:V} (hs:td 4 (l.map bH.v) sv) (v:Int) (hlen:l.length< 1000000):Ev E 384 [sv,vi v] ⟨.tuple [vi (pL v l).lo,vi (pL v l).hi],[]⟩:=by
 have hv:=G1 v
 have hf:iM v=if cI v=2 then 0 else -1073741824:=rfl
 have ht:toV v=if cI v=2 then 1 else 1073741824:=rfl
 unfold pL
 generalize iM v=f at*
 generalize toV v=t at*
 rcases hs with rfl| ⟨h0,rfl⟩
 · refine Ev.aG Rl (Rm _) rfl ?_
   (conv=>whnf);repeat' ((first| intro g| refine av.mk _ (hv) ?_| refine st ?_| (first| refine b1 ?_ ?_| refine b2 ?_ ?_| refine Br.mk ?_ ?_) <;>intro hc| exact rfl) <;>conv=>whnf)
   all_goals
    simp only[*,if_true,if_false] at hf ht
    subst hf ht
    refine bj.by (fun (i:Nat)=> ⟨[(0,.lit 4 (l.map bH.v)),(1,vi v),(6,vi _),(7,vi _),(8,vi (lF v (l.take i) _)),(9,vi (lG v (l.take i) _)),(10,aO i)],[]⟩) (fun i=>i≤l.length) (fun i=>l.length - i) 0 (by(refine⟨?_,?_⟩ <;>repeat' (first| exact True.intro| refine ai ?_| refine And.intro ?_ ?_))) (by simp) ?_
    intro i hi
    by_cases bY:i<l.length
    · have hx:l[i]? =some l[i]:=bp bY
      generalize l[i]=x at hx
      have h1:=fun a:Int=>DK (v:=v) (a:=a) hx
      have h2:=fun a:Int=>DL (v:=v) (a:=a) hx
      obtain⟨tv,gD,_⟩:=x.na
      by_cases vd:x.var=v
      · simp only[vd,if_true] at h1 h2
        rw[vd] at gD
        (conv=>whnf);repeat' ((first| intro g| refine bD.mk _ (aA hx gD rfl) ?_| refine st ?_| (first| refine b1 ?_ ?_| refine b2 ?_ ?_| refine Br.mk ?_ ?_) <;>intro hc| exact rfl) <;>conv=>whnf)
        exact bk.mk (i+1) (by first| omega| (dsimp only;omega)) (by omega) (by rw[h1,h2]; (refine⟨?_,?_⟩ <;>repeat' (first| exact True.intro| refine ai ?_| refine And.intro ?_ ?_)))
      · simp only[vd,if_false] at h1 h2
        (conv=>whnf);repeat' ((first| intro g| refine bD.mk _ (aA hx gD rfl) ?_| refine st ?_| (first| refine b1 ?_ ?_| refine b2 ?_ ?_| refine Br.mk ?_ ?_) <;>intro hc| exact rfl) <;>conv=>whnf)
        exact bk.mk (i+1) (by first| omega| (dsimp only;omega)) (by omega) (by rw[h1,h2]; (refine⟨?_,?_⟩ <;>repeat' (first| exact True.intro| refine ai ?_| refine And.intro ?_ ?_)))
    · have gP:i=l.length:=by omega
      subst gP
      rw[List.take_length]
      (conv=>whnf);repeat' ((first| intro g| refine st ?_| (first| refine b1 ?_ ?_| refine b2 ?_ ?_| refine Br.mk ?_ ?_) <;>intro hc| exact rfl) <;>conv=>whnf)
      all_goals simp[hc,nb]
 · have:l=[]:=by simpa using h0
   subst this
   refine Ev.aG Rl (Rm _) rfl ?_
   (conv=>whnf);repeat' ((first| intro g| refine av.mk _ (hv) ?_| refine st ?_| (first| refine b1 ?_ ?_| refine b2 ?_ ?_| refine Br.mk ?_ ?_) <;>intro hc| exact rfl) <;>conv=>whnf)
   all_goals
    simp only[*,if_true,if_false] at hf ht
    subst hf ht
    refine bj.by (fun (i:Nat)=> ⟨[(0,.nils),(1,vi v),(6,vi _),(7,vi _),(8,vi _),(9,vi _),(10,aO i)],[]⟩) (fun i=>i=0) (fun i=>0) 0 (by(refine⟨?_,?_⟩ <;>repeat' (first| exact True.intro| refine ai ?_| refine And.intro ?_ ?_))) rfl ?_
    rintro i rfl
    (conv=>whnf);repeat' ((first| intro g| refine st ?_| (first| refine b1 ?_ ?_| refine b2 ?_ ?_| refine Br.mk ?_ ?_) <;>intro hc| exact rfl) <;>conv=>whnf)
end Go.AM
namespace Go.AM
structure gZ (l:List bH):Prop where
 len:l.length< 1000
 tx: ∀k ∈ l,k.texts.length< 1000
 str: ∀k ∈ l,∀s ∈ k.texts,s.length< 4611686018427387904
theorem IX {v:Int} {l:List bH} {j:Nat} {x:bH} (hx:l[j]? =some x) (hv:x.var=v) (eP: ∀ (i:Nat) (y:bH),i<j→l[i]? =some y→y.var≠v): ∃r,cY v l=x::r:=by
 have hl:=(List.getElem?_eq_some_iff.1 hx).1
 have e2:l.drop j=x::l.drop (j+1):=by
  rw[List.drop_eq_getElem_cons hl]
  congr 1
  exact(List.getElem?_eq_some_iff.1 hx).2
 have e3: (l.take j).filter (fun k=>decide (k.var=v))=[]:=by
  rw[List.filter_eq_nil_iff]
  intro y hy
  obtain⟨i,hi⟩:=List.mem_iff_getElem?.1 hy
  have hij:i<j:=by
   have:=(List.getElem?_eq_some_iff.1 hi).1
   simp at this;omega
  rw[List.getElem?_take_of_lt hij] at hi
  simpa using eP i y hij hi
 refine⟨(l.drop (j+1)).filter (fun k=>decide (k.var=v)),?_⟩
 have e4:l.filter (fun k=>decide (k.var=v))=(l.take j).filter (fun k=>decide (k.var=v))++(l.drop j).filter (fun k=>decide (k.var=v)):=by rw[←List.filter_append,List.take_append_drop]
 rw[cY,e4,e3,e2]
 simp[hv]
theorem K7 {v:Int} {l:List bH} (eP: ∀ (i:Nat) (y:bH),l[i]? =some y→y.var≠v):cY v l=[]:=by
 rw[cY,List.filter_eq_nil_iff]
 intro y hy
 obtain⟨i,hi⟩:=List.mem_iff_getElem?.1 hy
 simpa using eP i y hi
theorem FP (v:Int) (l:List bH) (s:dE):common (cY v l) s=l.all fun k=> !decide (k.var=v) || decide (s ∈ k.texts):=by
 induction l with
 | nil=>rfl
 | cons k l ih=>
   unfold cY common at*
   by_cases h:k.var=v
   · simp only[List.filter_cons,h,decide_true,if_true,List.all_cons,ih,Bool.not_true,Bool.false_or]
   · simp only[List.filter_cons,h,decide_false,Bool.false_eq_true,if_false,List.all_cons,ih,Bool.not_false,Bool.true_or,Bool.true_and]
theorem K8 {α:Type} {p:α→Bool} {l:List α} {i:Nat} {x:α} (h:l[i]? =some x): (l.take (i+1)).all p=((l.take i).all p &&p x):=by
 rw[List.take_add_one,h,List.all_append];simp
theorem iN {α:Type} {p:α→Bool} {l:List α} {i:Nat} {x:α} (h:l[i]? =some x): (l.take (i+1)).filter p=(l.take i).filter p++(if p x then [x] else []):=by
 rw[List.take_add_one,h,List.filter_append]
 congr 1
 cases hp:p x<;>simp[hp]
theorem DM {a b:List dE} {s:dE} (h:s ∈ union a b):union a (b++[s])=union a b:=by
 rw[kM];simp[union,h]
theorem vI {a b:List dE} {s:dE} (h: ¬s ∈ union a b):union a (b++[s])=union a b++[s]:=by
 rw[kM];simp[union,h]
theorem IY {l:List bH} (v:Int) (hl:gZ l):Ev E 417 [.lit 4 (l.map bH.v),vi v] ⟨.tuple [.own 1 ((fA (cY v l)).map V.str),.bool (!(fA (cY v l)).isEmpty)],[]⟩:=by
 have hlen:=hl.len
 refine Ev.aG Rr (Rs _) rfl ?_
 (conv=>whnf);repeat' ((first| intro g| refine st ?_| (first| refine b1 ?_ ?_| refine b2 ?_ ?_| refine Br.mk ?_ ?_) <;>intro hc| exact rfl) <;>conv=>whnf)
 refine bj.by (fun ((i,f):Nat×Int)=> ⟨[(0,.lit 4 (l.map bH.v)),(1,vi v),(6,vi f),(7,vi ((i:Int) - 1))],[]⟩)
   (fun (i,f)=>i≤l.length∧((f= -1∧ ∀ (j:Nat) (y:bH),i≤j→l[j]? =some y→y.var≠v)∨ ∃ (j0:Nat) (x:bH),f=j0∧i≤j0∧l[j0]? =some x∧x.var=v∧ ∀ (j:Nat) (y:bH),i≤j→j<j0→l[j]? =some y→y.var≠v))
   (fun (i,_)=>i) (l.length,-1) ?_ ?_ ?_
 · simp only[]
   (refine⟨?_,?_⟩ <;>repeat' (first| exact True.intro| refine And.intro (congrArg (V.int .i64) ((wrap64 (by simp only[List.length_map];omega) (by simp only[List.length_map];omega)).trans (by simp only[List.length_map]))) ?_| refine ai ?_| refine And.intro ?_ ?_))
 · refine⟨Nat.le_refl _,.inl ⟨rfl,fun j y hj hy=> ?_⟩⟩
   have:=(List.getElem?_eq_some_iff.1 hy).1
   omega
 rintro⟨i,f⟩ ⟨hi,hf⟩
 try dsimp only at hi hf
 by_cases hi0:0 <i
 · obtain⟨m,rfl⟩: ∃m,i=m+1:=⟨i - 1,by omega⟩
   have hx:l[m]? =some l[m]:=bp (by omega)
   generalize l[m]=x at hx
   obtain⟨tv,gD,_⟩:=x.na
   by_cases vd:x.var=v
   · (conv=>whnf);repeat' ((first| intro g| refine bD.mk _ (aA hx gD (by omega)) ?_| refine st ?_| (first| refine b1 ?_ ?_| refine b2 ?_ ?_| refine Br.mk ?_ ?_) <;>intro hc| exact rfl) <;>conv=>whnf)
     refine bk.mk (m,(m:Int)) (by first| omega| (dsimp only;omega)) ⟨by omega,.inr ⟨m,x,rfl,Nat.le_refl _,hx,vd,fun j y h1 h2=>by omega⟩⟩ ?_
     (refine⟨?_,?_⟩ <;>repeat' (first| exact True.intro| refine And.intro (congrArg (V.int .i64) (show ((m+1:Nat):Int) - 1=(m:Int) by omega)) ?_| refine ai ?_| refine And.intro ?_ ?_))
   · (conv=>whnf);repeat' ((first| intro g| refine bD.mk _ (aA hx gD (by omega)) ?_| refine st ?_| (first| refine b1 ?_ ?_| refine b2 ?_ ?_| refine Br.mk ?_ ?_) <;>intro hc| exact rfl) <;>conv=>whnf)
     refine bk.mk (m,f) (by first| omega| (dsimp only;omega)) ⟨by omega,?_⟩ (by(refine⟨?_,?_⟩ <;>repeat' (first| exact True.intro| refine ai ?_| refine And.intro ?_ ?_)))
     rcases hf with⟨h1,h2⟩ | ⟨j0,x0,h1,h2,h3,h4,h5⟩
     · refine .inl ⟨h1,fun j y hj hy=> ?_⟩
       by_cases e:j=m
       · subst e;rw[hx] at hy;injection hy with hy;subst hy;exact vd
       · exact h2 j y (by omega) hy
     · refine .inr ⟨j0,x0,h1,by omega,h3,h4,fun j y hj hj2 hy=> ?_⟩
       by_cases e:j=m
       · subst e;rw[hx] at hy;injection hy with hy;subst hy;exact vd
       · exact h5 j y (by omega) hj2 hy
 obtain rfl:i=0:=by omega
 rcases hf with⟨h1,h2⟩ | ⟨j0,x0,h1,h2,h3,h4,h5⟩
 · subst h1
   rw[K7 fun j y hy=>h2 j y (Nat.zero_le _) hy]
   (conv=>whnf);repeat' ((first| intro g| refine st ?_| (first| refine b1 ?_ ?_| refine b2 ?_ ?_| refine Br.mk ?_ ?_) <;>intro hc| exact rfl) <;>conv=>whnf)
 subst h1
 obtain⟨rest,gS⟩:=IX h3 h4 fun j y hj hy=>h5 j y (Nat.zero_le _) hj hy
 obtain⟨t0,RA,ht0⟩:=x0.na
 have afD:=hl.tx x0 (List.mem_of_getElem? h3)
 have WI:=FP v l
 rw[gS] at WI ⊢
 simp only[fA]
 generalize common (x0::rest)=FQ at WI ⊢
 have lm: (x0.texts.map V.str).length=x0.texts.length:=List.length_map ..
 have cm:aD E 353=[]:=rfl
 rcases ht0 with rfl| ⟨e0,rfl⟩
 rotate_left
 · have e1:x0.texts=[]:=by simpa using e0
   rw[e1]
   (conv=>whnf);repeat' ((first| intro g| refine st ?_| (first| refine b1 ?_ ?_| refine b2 ?_ ?_| refine Br.mk ?_ ?_) <;>intro hc| exact rfl) <;>conv=>whnf)
   refine bj.by (fun (i:Nat)=> ⟨[(0,.lit 4 (l.map bH.v)),(1,vi v),(6,vi j0),(8,.sl 145 g 0 0),(9,vi 0)],[(145,⟨g,1,true,false,some []⟩)]⟩) (fun i=>i=0) (fun i=>0) 0 (by(refine⟨?_,?_⟩ <;>repeat' (first| exact True.intro| refine ai ?_| refine And.intro ?_ ?_))) rfl ?_
   rintro i rfl
   (conv=>whnf);repeat' ((first| intro g| refine bD.mk _ (aA h3 RA rfl) ?_| refine st ?_| (first| refine b1 ?_ ?_| refine b2 ?_ ?_| refine Br.mk ?_ ?_) <;>intro hc| exact rfl) <;>conv=>whnf)
 (conv=>whnf);repeat' ((first| intro g| refine st ?_| (first| refine b1 ?_ ?_| refine b2 ?_ ?_| refine Br.mk ?_ ?_) <;>intro hc| exact rfl) <;>conv=>whnf)
 refine bj.by (fun ((i,L,g9):Nat×List dE×Nat)=> ⟨[(0,.lit 4 (l.map bH.v)),(1,vi v),(6,vi j0),(8,.sl 145 g9 0 L.length),(9,vi i)],[(145,⟨g9,1,true,false,some (L.map V.str)⟩)]⟩)
   (fun (i,L,g9)=>i≤x0.texts.length∧L.length≤i∧L=union [] ((x0.texts.take i).filter FQ)) (fun (i,_,_)=>x0.texts.length - i) (0,[],g) (by(refine⟨?_,?_⟩ <;>repeat' (first| exact True.intro| refine ai ?_| refine And.intro ?_ ?_))) ⟨by simp,by simp,rfl⟩ ?_
 rintro⟨i,L,g9⟩ ⟨hi,DN,hL⟩
 try dsimp only at hi DN hL
 have sU: (L.map V.str).length=L.length:=List.length_map ..
 by_cases bY:i<x0.texts.length
 rotate_left
 · have gP:i=x0.texts.length:=by omega
   subst gP
   rw[List.take_length] at hL
   subst hL
   (conv=>whnf);repeat' ((first| intro g| refine bD.mk _ (aA h3 RA rfl) ?_| refine st ?_| (first| refine b1 ?_ ?_| refine b2 ?_ ?_| refine Br.mk ?_ ?_) <;>intro hc| exact rfl) <;>conv=>whnf)
   generalize union [] (x0.texts.filter FQ)=L at*
   cases L with
   | nil=>rfl
   | cons y ys=>
     have:decide ((0:Int) < ((y::ys).length:Nat))=true:=by simp
     rw[this];rfl
 have hs:x0.texts[i]? =some x0.texts[i]:=bp bY
 generalize x0.texts[i]=s at hs
 have Ac:=iN (p:=FQ) hs
 (conv=>whnf);repeat' ((first| intro g| refine bD.mk _ (aA h3 RA rfl) ?_| refine bD.mk _ (aA hs rfl rfl) ?_| refine st ?_| (first| refine b1 ?_ ?_| refine b2 ?_ ?_| refine Br.mk ?_ ?_) <;>intro hc| exact rfl) <;>conv=>whnf)
 refine bj.by (fun (k:Nat)=> ⟨[(0,.lit 4 (l.map bH.v)),(1,vi v),(6,vi j0),(8,.sl 145 g9 0 L.length),(9,vi i),(10,.str s),(11,.bool ((l.take k).all fun k=> !decide (k.var=v) || decide (s ∈ k.texts))),(12,vi k)],[(145,⟨g9,1,true,false,some (L.map V.str)⟩)]⟩)
   (fun k=>k≤l.length) (fun k=>l.length - k) 0 (by(refine⟨?_,?_⟩ <;>repeat' (first| exact True.intro| refine ai ?_| refine And.intro ?_ ?_))) (by simp) ?_
 intro k hk
 by_cases Nw:k<l.length
 · have hx:l[k]? =some l[k]:=bp Nw
   generalize l[k]=x at hx
   obtain⟨tv,gD,htv⟩:=x.na
   have FR:=hl.tx x (List.mem_of_getElem? hx)
   have mf:=BO htv s (by omega)
   have Sd:=htv.pure (jy _)
   have fS:V.ae [tv,.str s]=true:=by simp[V.ae,V.aj,Sd]
   have iO:=K8 (p:=fun k:bH=> !decide (k.var=v) || decide (s ∈ k.texts)) hx
   rw[xm] at mf
   generalize hb: (l.take k).all (fun k:bH=> !decide (k.var=v) || decide (s ∈ k.texts))=b at*
   cases b
   · simp only[Bool.false_and] at iO
     (conv=>whnf);repeat' ((first| intro g| refine bD.mk _ (aA hx gD rfl) ?_| refine st ?_| (first| refine b1 ?_ ?_| refine b2 ?_ ?_| refine Br.mk ?_ ?_) <;>intro hc| exact rfl) <;>conv=>whnf)
     refine bk.mk (k+1) (by first| omega| (dsimp only;omega)) (by omega) ?_
     (refine⟨?_,?_⟩ <;>repeat' (first| exact True.intro| refine And.intro (congrArg V.bool iO.symm) ?_| refine ai ?_| refine And.intro ?_ ?_))
   · by_cases vd:x.var=v
     · simp only[vd,decide_true,Bool.not_true,Bool.false_or,Bool.true_and] at iO
       rw[vd] at gD
       (conv=>whnf);repeat' ((first| intro g| refine bD.mk _ (aA hx gD rfl) ?_| refine aq (by assumption) (by first| assumption| rfl| (simp only[V.ae,V.aj,Bool.and_self,Bool.true_and,Bool.and_true, *])) (mf) rfl ?_| refine st ?_| (first| refine b1 ?_ ?_| refine b2 ?_ ?_| refine Br.mk ?_ ?_) <;>intro hc| exact rfl) <;>conv=>whnf)
       refine bk.mk (k+1) (by first| omega| (dsimp only;omega)) (by omega) ?_
       (refine⟨?_,?_⟩ <;>repeat' (first| exact True.intro| refine And.intro (congrArg V.bool iO.symm) ?_| refine ai ?_| refine And.intro ?_ ?_))
     · simp only[vd,decide_false,Bool.not_false,Bool.true_or,Bool.true_and] at iO
       (conv=>whnf);repeat' ((first| intro g| refine bD.mk _ (aA hx gD rfl) ?_| refine aq (by assumption) (by first| assumption| rfl| (simp only[V.ae,V.aj,Bool.and_self,Bool.true_and,Bool.and_true, *])) (mf) rfl ?_| refine st ?_| (first| refine b1 ?_ ?_| refine b2 ?_ ?_| refine Br.mk ?_ ?_) <;>intro hc| exact rfl) <;>conv=>whnf)
       refine bk.mk (k+1) (by first| omega| (dsimp only;omega)) (by omega) ?_
       (refine⟨?_,?_⟩ <;>repeat' (first| exact True.intro| refine And.intro (congrArg V.bool iO.symm) ?_| refine ai ?_| refine And.intro ?_ ?_))
 · obtain rfl:k=l.length:=by omega
   rw[List.take_length,←WI]
   by_cases nT:FQ s=true
   · rw[nT] at Ac ⊢
     have mf:=BO (sv:= .lit 1 (L.map V.str)) (.inl rfl) s (by omega)
     rw[xm] at mf
     simp only[if_true] at Ac
     by_cases hm:s ∈ L
     · rw[decide_eq_true hm] at mf
       have hU:=DM (a:=[]) (b:=(x0.texts.take i).filter FQ) (s:=s) (by rw[←hL];exact hm)
       rw[←Ac,←hL] at hU
       (conv=>whnf);repeat' ((first| intro g| refine av.mk _ (mf) ?_| refine st ?_| (first| refine b1 ?_ ?_| refine b2 ?_ ?_| refine Br.mk ?_ ?_) <;>intro hc| exact rfl) <;>conv=>whnf)
       exact bk.mk (i+1,L,g9) (by first| omega| (dsimp only;omega)) ⟨by omega,by omega,hU.symm⟩ (by(refine⟨?_,?_⟩ <;>repeat' (first| exact True.intro| refine ai ?_| refine And.intro ?_ ?_)))
     · rw[decide_eq_false hm] at mf
       have hU:=vI (a:=[]) (b:=(x0.texts.take i).filter FQ) (s:=s) (by rw[←hL];exact hm)
       rw[←Ac,←hL] at hU
       (conv=>whnf);repeat' ((first| intro g| refine av.mk _ (mf) ?_| refine st ?_| (first| refine b1 ?_ ?_| refine b2 ?_ ?_| refine Br.mk ?_ ?_) <;>intro hc| exact rfl) <;>conv=>whnf)
       exact bk.mk (i+1,L++[s],g) (by first| omega| (dsimp only;omega)) ⟨by omega,by simp;omega,hU.symm⟩ (by(refine⟨?_,?_⟩ <;>repeat' (first| exact True.intro| refine ai ?_| refine And.intro ?_ ?_)))
   · have WJ:FQ s=false:=by simpa using nT
     rw[WJ] at Ac ⊢
     simp only[Bool.false_eq_true,if_false,List.append_nil] at Ac
     rw[←Ac] at hL
     (conv=>whnf);repeat' ((first| intro g| refine st ?_| (first| refine b1 ?_ ?_| refine b2 ?_ ?_| refine Br.mk ?_ ?_) <;>intro hc| exact rfl) <;>conv=>whnf)
     exact bk.mk (i+1,L,g9) (by first| omega| (dsimp only;omega)) ⟨by omega,by omega,hL⟩ (by(refine⟨?_,?_⟩ <;>repeat' (first| exact True.intro| refine ai ?_| refine And.intro ?_ ?_)))
end Go.AM
namespace Go.AM
theorem yL (v:Int):Ev E 375 [vi v] ⟨vi (cI v),[]⟩:=by
 have h:=kS (.mk 2 v aM false []) (by simp[Ex.size,Ex.bK]) (.mk _ _ _ _ _ (by simp[aM]) (by simp))
 have e1: (Ex.mk 2 v aM false []).ty=cI v:=by
  simp[Ex.ty,Ex.size,Ex.bK,Ex.b4,Ex.xq,jt,eJ,many,Va.zero,aM]
 rw[e1] at h
 generalize (Ex.mk 2 v aM false []).err=er at h
 have e2: (Ex.mk 2 v aM false []).v= .agg [vi 2,vi v,vi 0,vi 0,.bool false,.str [],.lit 7 []]:=by
  rw[Ex.bN];rfl
 rw[e2] at h
 refine Ev.aG aa6 (aa7 _) rfl ?_
 (conv=>whnf);repeat' ((first| intro g| refine av.mk _ (h) ?_| refine st ?_| (first| refine b1 ?_ ?_| refine b2 ?_ ?_| refine Br.mk ?_ ?_) <;>intro hc| exact rfl) <;>conv=>whnf)
theorem Hr (k:bH) (v:Int):Ev E 374 [k.v,.eptr (vi v) 0] ⟨.bool (decide (k.var≠v)),[]⟩:=by
 obtain⟨t,hk,_⟩:=k.na
 rw[hk]
 refine Ev.aG aa4 (aa5 _) rfl ?_
 (conv=>whnf);repeat' ((first| intro g| refine st ?_| (first| refine b1 ?_ ?_| refine b2 ?_ ?_| refine Br.mk ?_ ?_) <;>intro hc| exact rfl) <;>conv=>whnf)
 all_goals simp
theorem xt {α:Type} (p:α→Bool) (l:List α): (firstIdx p l= -1∧ ∀ (i:Nat) (x:α),l[i]? =some x→p x=false)∨ ∃ (i:Nat) (x:α),firstIdx p l=(i:Int)∧l[i]? =some x∧p x=true∧ ∀ (j:Nat) (y:α),j<i→l[j]? =some y→p y=false:=by
 rcases pc p l with h| ⟨i,x,h1,h2,h3⟩
 · exact .inl h
 · refine .inr ⟨i,x,h1,h2,h3,?_⟩
   unfold firstIdx at h1
   cases h:l.findIdx? p with
   | none=>rw[h] at h1;simp at h1
   | some k=>
     rw[h] at h1
     rw[List.findIdx?_eq_some_iff_getElem] at h
     obtain⟨hl,hp,eP⟩:=h
     intro j y hj hy
     obtain⟨Db,rfl⟩:=List.getElem?_eq_some_iff.1 hy
     have:k=i:=by simp at h1;omega
     subst this
     simpa using eP j hj
theorem DO {v:Int} {l:List bH} {i:Nat} {x:bH} (h:l[i]? =some x):cY v (l.take (i+1))=cY v (l.take i)++(if decide (x.var=v) then [x] else []):=iN h
theorem Cl (v:Int) (l:List bH): (cY v l).length≤l.length:=List.length_filter_le ..
theorem DP {l:List bH} (v:Int) (hl:l.length< 1000): ∃res,Ev E 372 [.msl 4 (l.map bH.v) 0 l.length,.fn 374 [.eptr (vi v) 0]] res∧ ∃ (b:Nat) (rest:List V),V.ae rest=true∧res=⟨.sl 0 b 0 (cY v l).length,[(b,(cY v l).map bH.v++rest)]⟩:=by
 have key:=Ev.jC (R:=fun r=> ∃ (b:Nat) (rest:List V),V.ae rest=true∧r=⟨.sl 0 b 0 (cY v l).length,[(b,(cY v l).map bH.v++rest)]⟩) aa2 (aa3 [.msl 4 (l.map bH.v) 0 l.length,.fn 374 [.eptr (vi v) 0]]) rfl ?_
 · exact key
 have Pg:=x9 (l:=l) (sv:= .lit 4 (l.map bH.v)) (.inl rfl) (g:=374) (caps:=[.eptr (vi v) 0]) rfl (p:=fun k=>decide (k.var≠v)) (by omega) (fun x _=>Hr x v) rfl
 have Kd:V.ae (l.map bH.v)=true:=AM.bq bH.pure l
 rcases xt (fun k:bH=>decide (k.var≠v)) l with⟨h1,h2⟩ | ⟨i0,x0,h1,h2,h3,h4⟩
 · rw[h1] at Pg
   have e:cY v l=l:=by
     rw[cY,List.filter_eq_self]
     intro y hy
     obtain⟨j,hj⟩:=List.mem_iff_getElem?.1 hy
     simpa using h2 j y hj
   rw[e]
   (conv=>whnf);repeat' ((first| intro g| refine av.mk _ (Pg) ?_| refine st ?_| (first| refine b1 ?_ ?_| refine b2 ?_ ?_| refine Br.mk ?_ ?_) <;>intro hc| exact rfl) <;>conv=>whnf)
   exact⟨0,[],rfl,by simp⟩
 · rw[ h1] at Pg
   (conv=>whnf);repeat' ((first| intro g| refine av.mk _ (Pg) ?_| refine st ?_| (first| refine b1 ?_ ?_| refine b2 ?_ ?_| refine Br.mk ?_ ?_) <;>intro hc| exact rfl) <;>conv=>whnf)
   have hi0:=(List.getElem?_eq_some_iff.1 h2).1
   have RA: ¬x0.var=v:=by simpa using h3
   have Al:cY v (l.take i0)=l.take i0:=by
     rw[cY,List.filter_eq_self]
     intro y hy
     obtain⟨j,hj⟩:=List.mem_iff_getElem?.1 hy
     have hji:j<i0:=by
       have:=(List.getElem?_eq_some_iff.1 hj).1
       simp at this;omega
     rw[List.getElem?_take_of_lt hji] at hj
     simpa using h4 j y hji hj
   refine bj.by (fun ((j,i,es):Nat×Nat×List bH)=> ⟨[(0,.sl 0 0 0 l.length),(1,.fn 374 [.eptr (vi v) 0]),(5,vi i),(6,vi j)],[(0,⟨0,4,true,false,some (es.map bH.v)⟩)]⟩)
     (fun (j,i,es)=>j≤l.length∧i<j∧es.length=l.length∧es.take i=cY v (l.take j)∧es.drop j=l.drop j) (fun (j,_,_)=>l.length - j) (i0+1,i0,l) (by(refine⟨?_,?_⟩ <;>repeat' (first| exact True.intro| refine ai ?_| refine And.intro ?_ ?_))) ?_ ?_
   · refine⟨by omega,by omega,rfl,?_,rfl⟩
     rw[DO h2,Al];simp[RA]
   rintro⟨j,i,es⟩ ⟨hj,hij,bX,Dc,hdr⟩
   try dsimp only at hj hij bX Dc hdr
   have lm: (es.map bH.v).length=es.length:=List.length_map ..
   by_cases bY:j<l.length
   · have hx:l[j]? =some l[j]:=bp bY
     generalize l[j]=x at hx
     have xD:es[j]? =some x:=by
       have h5: (es.drop j)[0]? =(l.drop j)[0]? :=by rw[hdr]
       simpa [List.getElem?_drop,hx] using h5
     have hot:=DO (v:=v) hx
     have hk:=Hr x v
     have abW:es.drop (j+1)=l.drop (j+1):=by
       have h5: (es.drop j).drop 1=(l.drop j).drop 1:=by rw[hdr]
       simpa [List.drop_drop,Nat.add_comm] using h5
     by_cases vd:x.var=v
     · have jd: (es.set i x).take (i+1)=cY v (l.take (j+1)):=by
        rw[hot,←Dc,vd]
        simp only[decide_true,if_true]
        rw[List.take_add_one,List.take_set_of_le (by omega)]
        simp[List.getElem?_set,show i<es.length by omega]
       have afE: (es.set i x).drop (j+1)=l.drop (j+1):=by
        rw[List.drop_set_of_lt (by omega),abW]
       rcases x.form with⟨gD,_⟩ | gD<;>rw[gD,vd] at hk<;>rw[vd] at gD
       all_goals
        have e1: ∀w,x.v=w→(⟨0,4,true,false,some ((es.map bH.v).set ((i:Nat):Int).toNat w)⟩:Obj)=⟨0,4,true,false,some ((es.set i x).map bH.v)⟩:=fun w hw=>by rw[←hw];simp[List.map_set]
        simp only[ne_eq,not_true_eq_false,decide_false] at hk
        (conv=>whnf);repeat' ((first| intro g| refine bD.mk _ (aA xD gD rfl) ?_| refine av.mk _ (hk) ?_| refine st ?_| (first| refine b1 ?_ ?_| refine b2 ?_ ?_| refine Br.mk ?_ ?_) <;>intro hc| exact rfl) <;>conv=>whnf)
        exact bk.mk (j+1,i+1,es.set i x) (by first| omega| (dsimp only;omega)) ⟨by omega,by omega,by simp[bX],jd,afE⟩ (by(refine⟨?_,?_⟩ <;>repeat' (first| exact True.intro| refine And.intro (e1 _ gD) ?_| refine ai ?_| refine And.intro ?_ ?_)))
     · rcases x.form with⟨gD,_⟩ | gD<;>rw[gD] at hk
       all_goals
        simp only[ne_eq,vd,not_false_eq_true,decide_true] at hk
        (conv=>whnf);repeat' ((first| intro g| refine bD.mk _ (aA xD gD rfl) ?_| refine av.mk _ (hk) ?_| refine st ?_| (first| refine b1 ?_ ?_| refine b2 ?_ ?_| refine Br.mk ?_ ?_) <;>intro hc| exact rfl) <;>conv=>whnf)
        exact bk.mk (j+1,i,es) (by first| omega| (dsimp only;omega)) ⟨by omega,by omega,bX,by rw[Dc,hot];simp[vd],abW⟩ (by(refine⟨?_,?_⟩ <;>repeat' (first| exact True.intro| refine ai ?_| refine And.intro ?_ ?_)))
   · obtain rfl:j=l.length:=by omega
     rw[List.take_length] at Dc
     have hol: (cY v l).length=i:=by rw[←Dc];simp;omega
     have hKe:V.ae (es.map bH.v)=true:=AM.bq bH.pure es
     (conv=>whnf);repeat' ((first| intro g| refine bU.mk (by first| ((and_intros<;>first| rfl| exact gr hKe (eY rfl) | exact pJ (gr hKe (eY rfl)) | (simp only[overwrite,List.length_append,List.length_take,List.length_replicate,List.length_drop,List.length_map];omega) | omega)) | fail) ?_| refine st ?_| (first| refine b1 ?_ ?_| refine b2 ?_ ?_| refine Br.mk ?_ ?_) <;>intro hc| exact rfl) <;>conv=>whnf)
     simp only[Int.toNat_natCast,Nat.zero_add,Nat.sub_zero,overwrite,List.append_assoc]
     rw[hol,←List.map_take,Dc]
     exact⟨0,_,eK (eY rfl) (dK fun y hy=>fG hKe y (List.mem_of_mem_drop hy)),rfl⟩
end Go.AM
namespace Go.AM
theorem K9 (k:bH) (s:dE) (hk:k.texts.length< 1000):Ev E 406 [k.v,.eptr (.str s) 0] ⟨.bool (!decide (s ∈ k.texts)),[]⟩:=by
 obtain⟨t,Ke,ht⟩:=k.na
 have h:=qw ht s (by omega)
 have Sd:=ht.pure (jy _)
 have fS:V.ae [t,.str s]=true:=by simp[V.ae,V.aj,Sd]
 have cm:aD E 349=[]:=rfl
 rw[Ke]
 refine Ev.aG abt (abu _) rfl ?_
 (conv=>whnf);repeat' ((first| intro g| refine aq (by assumption) (by first| assumption| rfl| (simp only[V.ae,V.aj,Bool.and_self,Bool.true_and,Bool.and_true, *])) (h) rfl ?_| refine st ?_| (first| refine b1 ?_ ?_| refine b2 ?_ ?_| refine Br.mk ?_ ?_) <;>intro hc| exact rfl) <;>conv=>whnf)
theorem FT (own:List bH) (s:dE): (own.any fun k=> !decide (s ∈ k.texts))= !common own s:=by
 unfold common
 induction own with
 | nil=>rfl
 | cons k l ih=>simp only[List.any_cons,List.all_cons,ih,Bool.not_and]
theorem AX (own:List bH) (hl:gZ own): ∃v,Ev E 376 [.lit 4 (own.map bH.v)] ⟨v,[]⟩∧yJ (jc own) v:=by
 have hlen:=hl.len
 cases own with
 | nil=>
   refine⟨_,?_,.inl rfl⟩
   refine Ev.aG Rj (Rk _) rfl ?_
   (conv=>whnf);repeat' ((first| intro g| refine st ?_| (first| refine b1 ?_ ?_| refine b2 ?_ ?_| refine Br.mk ?_ ?_) <;>intro hc| exact rfl) <;>conv=>whnf)
 | cons x0 rest=>
 have uc:=fun s=>AD (l:=x0::rest) (sv:= .lit 4 ((x0::rest).map bH.v)) (.inl rfl) (g:=406) (caps:=[.eptr (.str s) 0]) rfl (p:=fun k=> !decide (s ∈ k.texts)) (by omega) (fun x hx=>K9 x s (hl.tx x hx)) rfl
 simp only[FT] at uc
 have h3: (x0::rest)[0]? =some x0:=rfl
 have hT:fA (x0::rest)=union [] (x0.texts.filter (common (x0::rest))):=rfl
 have afD:=hl.tx x0 (by simp)
 have hB: ∀W:List dE,fA (x0::rest)=W→jc (x0::rest)=⟨0,0,true,W,!W.isEmpty,true⟩:=fun W h=>by rw[jc,h]
 obtain⟨t0,RA,ht0⟩:=x0.na
 have key:=Ev.jC (R:=fun r=> ∃v,r=⟨v,[]⟩∧yJ (jc (x0::rest)) v) Rj (Rk [.lit 4 ((x0::rest).map bH.v)]) rfl ?_
 · obtain⟨r,h1,v,rfl,h2⟩:=key
   exact⟨v,h1,h2⟩
 generalize common (x0::rest)=FQ at*
 generalize gS:x0::rest=own at*
 have Am:0 < (own.map bH.v).length:=by rw[←gS];simp
 have cu: ¬ (own.map bH.v).length=0:=by omega
 have lm: (x0.texts.map V.str).length=x0.texts.length:=List.length_map ..
 rcases ht0 with rfl| ⟨e0,rfl⟩
 rotate_left
 · have e1:x0.texts=[]:=by simpa using e0
   rw[e1] at hT
   have hT2:fA own=[]:=hT
   rw[hB _ hT2]
   (conv=>whnf);repeat' ((first| intro g| refine bD.mk _ (aA h3 RA rfl) ?_| refine st ?_| (first| refine b1 ?_ ?_| refine b2 ?_ ?_| refine Br.mk ?_ ?_) <;>intro hc| exact rfl) <;>conv=>whnf)
   rename_i ed
   refine bj.by (fun (i:Nat)=> ⟨[(2,.ptr 48 ed 0 0),(3,.ptr 64 g 0 0),(16,vi 0),(17,vi 0)],[(48,⟨ed,5,false,false,some [_]⟩),(64,⟨g,5,false,false,some [_]⟩)]⟩) (fun i=>i=0) (fun i=>0) 0 (by(refine⟨?_,?_⟩ <;>repeat' (first| exact True.intro| refine ai ?_| refine And.intro ?_ ?_))) rfl ?_
   rintro i rfl
   (conv=>whnf);repeat' ((first| intro g| refine st ?_| (first| refine b1 ?_ ?_| refine b2 ?_ ?_| refine Br.mk ?_ ?_) <;>intro hc| exact rfl) <;>conv=>whnf)
   exact⟨_,rfl,.inl rfl⟩
 (conv=>whnf);repeat' ((first| intro g| refine bD.mk _ (aA h3 RA rfl) ?_| refine st ?_| (first| refine b1 ?_ ?_| refine b2 ?_ ?_| refine Br.mk ?_ ?_) <;>intro hc| exact rfl) <;>conv=>whnf)
 rename_i ed
 obtain⟨fh,yb⟩: ∃x,x=g:=⟨_,rfl⟩
 rw[←yb];clear yb
 refine bj.by (fun ((i,L,ce):Nat×List dE×Option Nat)=> ⟨[(0,.lit 4 (own.map bH.v)),(2,.ptr 48 ed 0 0),(3,.ptr 64 fh 0 0),(15,.lit 1 (x0.texts.map V.str)),(16,aO (x0.texts.map V.str).length),(17,aO i)],
     match ce with
     | none=> [(48,⟨ed,5,false,false,some [.agg [vi 0,vi 0,.lit 1 [],.bool false,.bool false]]⟩),(64,⟨fh,5,false,false,some [.agg [vi 0,vi 0,.nils,.bool false,.bool true]]⟩)]
     | some WK=> [(48,⟨ed,5,false,false,some [.agg [vi 0,vi 0,.lit 1 [],.bool false,.bool false]]⟩),(64,⟨fh,5,false,false,some [.agg [vi 0,vi 0,.sl 68 WK 0 L.length,.bool false,.bool true]]⟩),(68,⟨WK,1,true,false,some (L.map V.str)⟩)]⟩)
   (fun (i,L,ce)=>i≤x0.texts.length∧L.length≤i∧L=union [] ((x0.texts.take i).filter FQ)∧(ce=none→L=[])∧(L=[]→ce=none)) (fun (i,_,_)=>x0.texts.length - i) (0,[],none) (by(refine⟨?_,?_⟩ <;>repeat' (first| exact True.intro| refine ai ?_| refine And.intro ?_ ?_))) ⟨by simp,by simp,rfl,by simp,by simp⟩ ?_
 rintro⟨i,L,ce⟩ ⟨hi,DN,hL,oZ,vJ⟩
 try dsimp only at hi DN hL oZ vJ
 have sU: (L.map V.str).length=L.length:=List.length_map ..
 by_cases bY:i<x0.texts.length
 · have hs:x0.texts[i]? =some x0.texts[i]:=bp bY
   generalize x0.texts[i]=s at hs
   have Ac:=iN (p:=FQ) hs
   have Ph:=uc s
   by_cases nT:FQ s=true
   · rw[ nT] at Ac Ph
     simp only[if_true,Bool.not_true] at Ac Ph
     cases ce with
     | none=>
       obtain rfl:=oZ rfl
       have mf:=qw (l:=[]) (sv:= .nils) (.inr ⟨rfl,rfl⟩) s (by simp)
       simp only[xm,List.not_mem_nil,decide_false] at mf
       have hU:=vI (a:=[]) (b:=(x0.texts.take i).filter FQ) (s:=s) (by rw[←hL];simp)
       rw[←Ac,←hL] at hU
       (conv=>whnf);repeat' ((first| intro g| refine bD.mk _ (aA hs rfl rfl) ?_| refine av.mk _ (Ph) ?_| refine av.mk _ (mf) ?_| refine st ?_| (first| refine b1 ?_ ?_| refine b2 ?_ ?_| refine Br.mk ?_ ?_) <;>intro hc| exact rfl) <;>conv=>whnf)
       exact bk.mk (i+1,[s],some g) (by first| omega| (dsimp only;omega)) ⟨by omega,by simp,hU.symm,by simp,by simp⟩ (by(refine⟨?_,?_⟩ <;>repeat' (first| exact True.intro| refine ai ?_| refine And.intro ?_ ?_)))
     | some WK=>
       have mf:=qw (sv:= .lit 1 (L.map V.str)) (.inl rfl) s (by omega)
       rw[xm] at mf
       by_cases hm:s ∈ L
       · rw[decide_eq_true hm] at mf
         have hU:=DM (a:=[]) (b:=(x0.texts.take i).filter FQ) (s:=s) (by rw[←hL];exact hm)
         rw[←Ac,←hL] at hU
         (conv=>whnf);repeat' ((first| intro g| refine bD.mk _ (aA hs rfl rfl) ?_| refine av.mk _ (Ph) ?_| refine av.mk _ (mf) ?_| refine st ?_| (first| refine b1 ?_ ?_| refine b2 ?_ ?_| refine Br.mk ?_ ?_) <;>intro hc| exact rfl) <;>conv=>whnf)
         exact bk.mk (i+1,L,some WK) (by first| omega| (dsimp only;omega)) ⟨by omega,by omega,hU.symm,oZ,vJ⟩ (by(refine⟨?_,?_⟩ <;>repeat' (first| exact True.intro| refine ai ?_| refine And.intro ?_ ?_)))
       · rw[decide_eq_false hm] at mf
         have hU:=vI (a:=[]) (b:=(x0.texts.take i).filter FQ) (s:=s) (by rw[←hL];exact hm)
         rw[←Ac,←hL] at hU
         (conv=>whnf);repeat' ((first| intro g| refine bD.mk _ (aA hs rfl rfl) ?_| refine av.mk _ (Ph) ?_| refine av.mk _ (mf) ?_| refine st ?_| (first| refine b1 ?_ ?_| refine b2 ?_ ?_| refine Br.mk ?_ ?_) <;>intro hc| exact rfl) <;>conv=>whnf)
         exact bk.mk (i+1,L++[s],some g) (by first| omega| (dsimp only;omega)) ⟨by omega,by simp;omega,hU.symm,by simp,by simp⟩ (by(refine⟨?_,?_⟩ <;>repeat' (first| exact True.intro| refine ai ?_| refine And.intro ?_ ?_)))
   · have WJ:FQ s=false:=by simpa using nT
     rw[WJ] at Ac Ph
     simp only[Bool.false_eq_true,if_false,List.append_nil,Bool.not_false] at Ac Ph
     rw[←Ac] at hL
     cases ce with
     | none=>
       (conv=>whnf);repeat' ((first| intro g| refine bD.mk _ (aA hs rfl rfl) ?_| refine av.mk _ (Ph) ?_| refine st ?_| (first| refine b1 ?_ ?_| refine b2 ?_ ?_| refine Br.mk ?_ ?_) <;>intro hc| exact rfl) <;>conv=>whnf)
       exact bk.mk (i+1,L,none) (by first| omega| (dsimp only;omega)) ⟨by omega,by omega,hL,oZ,vJ⟩ (by(refine⟨?_,?_⟩ <;>repeat' (first| exact True.intro| refine ai ?_| refine And.intro ?_ ?_)))
     | some WK=>
       (conv=>whnf);repeat' ((first| intro g| refine bD.mk _ (aA hs rfl rfl) ?_| refine av.mk _ (Ph) ?_| refine st ?_| (first| refine b1 ?_ ?_| refine b2 ?_ ?_| refine Br.mk ?_ ?_) <;>intro hc| exact rfl) <;>conv=>whnf)
       exact bk.mk (i+1,L,some WK) (by first| omega| (dsimp only;omega)) ⟨by omega,by omega,hL,oZ,vJ⟩ (by(refine⟨?_,?_⟩ <;>repeat' (first| exact True.intro| refine ai ?_| refine And.intro ?_ ?_)))
 · obtain rfl:i=x0.texts.length:=by omega
   rw[List.take_length,←hT] at hL
   rw[hB _ hL.symm]
   cases ce with
   | none=>
     obtain rfl:=oZ rfl
     (conv=>whnf);repeat' ((first| intro g| refine st ?_| (first| refine b1 ?_ ?_| refine b2 ?_ ?_| refine Br.mk ?_ ?_) <;>intro hc| exact rfl) <;>conv=>whnf)
     exact⟨_,rfl,.inl rfl⟩
   | some WK=>
     cases L with
     | nil=>exact absurd (vJ rfl) (by simp)
     | cons y ys=>
       (conv=>whnf);repeat' ((first| intro g| refine st ?_| (first| refine b1 ?_ ?_| refine b2 ?_ ?_| refine Br.mk ?_ ?_) <;>intro hc| exact rfl) <;>conv=>whnf)
       exact⟨_,rfl,.inr ⟨rfl,by simp⟩⟩
end Go.AM
