/-
  Texts of the proof: SMadeA, PData, PLib, PLibB, PSmall, PSize.
-/
import Derived.Test.YtjmcpijpclfakaaGreatData
set_option maxRecDepth 20000
set_option linter.unusedSimpArgs false
set_option linter.unusedVariables false
namespace Go.AM
def cR (a n:Int):Int:=(oG (a.tmod n+n)).tmod n
theorem dG {a:Int} {n:Nat} (h:0 <n) (h2:n< 1000000000000000):0≤cR a n∧cR a n<n:=by
 unfold cR
 have h1:=Int.tmod_lt_of_pos a (show (0:Int) <n by omega)
 have h3:=Int.lt_tmod_of_pos a (show (0:Int) <n by omega)
 rw[Sb (by omega) (by omega)]
 have h4:=Int.tmod_nonneg (b:=(n:Int)) (a:=a.tmod n+n) (by omega)
 have h5:=Int.tmod_lt_of_pos (a.tmod n+n) (show (0:Int) <n by omega)
 exact⟨h4,h5⟩
theorem eh {a n:Int} (h:n≠0):Ev E 93 [vi a,vi n] ⟨vi (cR a n),[]⟩:=by
 refine Ev.aG afq (afr _) rfl ?_
 (conv=>whnf);repeat' ((first| intro g| refine st ?_| (refine bD.Sc ?_;intro s) | (first| refine b1 ?_ ?_| refine b2 ?_ ?_| refine Br.mk ?_ ?_) <;>intro hc| exact rfl) <;>conv=>whnf)
def aW (l:List Int) (a:Nat):V:= .agg [.lit 1 (l.map vi),aO a]
def wq (l:List Int) (a n:Nat):Nat:=match l[a]? with
 | some x=> (cR x n).toNat
 | none=>0
def Di (l:List Int) (a:Nat):Nat:=if a<l.length then a+1 else a
theorem sZ {l:List Int} {a n:Nat} (h:0 <n) (h2:n< 1000000000000000):wq l a n<n:=by
 unfold wq
 split
 · rename_i x _
   have:=dG (a:=x) h h2
   omega
 · exact h
theorem GV {l:List Int} (hl:l.length< 9223372036854775808) (n:Nat) {a:Nat} (h:0 <n) (h2:n< 1000000000000000):Ev E 85 [.mptr 2 [aW l a] 0 0,aO n] ⟨aO (wq l a n),[(0,[aW l (Di l a)])]⟩:=by
 refine Ev.aG afs (aft _) rfl ?_
 by_cases bY:a<l.length
 · obtain⟨x,hx⟩: ∃x,l[a]? =some x:=⟨_,bp bY⟩
   have hm:=eh (a:=x) (n:=(n:Int)) (by omega)
   have hw:IntKind.i64.wrap (IntKind.i64.wrap ((a:Int)+1) - 1)=(a:Int):=by
    rw[wrap64 (n:=(a:Int)+1) (by omega) (by omega)]
    exact(wrap64 (by omega) (by omega)).trans (by omega)
   have hb:=dG (a:=x) h h2
   have e1:wq l a n=(cR x n).toNat:=by simp[wq,hx]
   have e2:Di l a=a+1:=by simp[Di,bY]
   rw[e1,e2]
   have e3:IntKind.i64.wrap ((a:Int)+1)=((a+1:Nat):Int):=(wrap64 (by omega) (by omega)).trans (by omega)
   have e4:aO (cR x n).toNat=vi (cR x n):=by show V.int _ _=V.int _ _;congr 1;omega
   rw[e4]
   (conv=>whnf);repeat' ((first| intro g| refine bD.mk _ (eL hx hw) ?_| refine av.mk _ (hm) ?_| refine st ?_| (refine bD.Sc ?_;intro s) | (first| refine b1 ?_ ?_| refine b2 ?_ ?_| refine Br.mk ?_ ?_) <;>intro hc| exact rfl) <;>conv=>whnf)
   show (⟨vi _,[(0,[V.agg [_,V.int .i64 _]])]⟩:iE)=_
   rw[e3];rfl
 · have e1:wq l a n=0:=by simp[wq,show l[a]? =none from by simp;omega]
   have e2:Di l a=a:=by simp[Di,bY]
   rw[e1,e2]
   (conv=>whnf);repeat' ((first| intro g| refine st ?_| (refine bD.Sc ?_;intro s) | (first| refine b1 ?_ ?_| refine b2 ?_ ?_| refine Br.mk ?_ ?_) <;>intro hc| exact rfl) <;>conv=>whnf)
theorem Iz {l:List Int} {a n:Nat} (h:0 <n) (h2:n< 1000000000000000): ((wq l a n:Nat):Int) < (n:Int):=by
 have:=sZ (l:=l) (a:=a) h h2
 omega
theorem bD.str {L:List V} {n:Nat} {q:V→Prop} (h: ∀x ∈ L,∃s,x= .str s) (hn:n<L.length) (k: ∀s,q (.str s)):bD (fun e=>L[n]? =some e) q:=by
 obtain⟨s,hs⟩:=h L[n] (List.getElem_mem hn)
 refine⟨_,List.getElem?_eq_getElem hn,?_⟩
 rw[hs];exact k s
theorem bD.Sc {L:List V} {n:Nat} {q:V→Prop} (k: ∀s,q (.str s)) (h: ∀x ∈ L,∃s,x= .str s:=by simp) (hn:n<L.length:=by first| exact Nat.lt_of_lt_of_le (sZ (by decide) (by decide)) (by decide) | fail):bD (fun e=>L[n]? =some e) q:=
 bD.str h hn k
end Go.AM
namespace Go.AM
theorem aA {α:Type} {f:α→V} {l:List α} {i:Nat} {n:Int} {x:α} {y:V} (h:l[i]? =some x) (hf:f x=y) (hn:n=(i:Int)): (l.map f)[n.toNat]? =some y:=by
 subst hn;subst hf;simp[h]
structure Va where
 t:Int
 n:Int
 b:Bool
 s:dE
def Va.v (v:Va):V:= .agg [vi v.t,vi v.n,.bool v.b,.str v.s]
inductive Ex where
 | mk (op var:Int) (val:Va) (nl:Bool) (l:List Ex)
def lv (nl:Bool):List V→V
 | []=>bif nl then .nils else .lit 7 []
 | x::xs=> .lit 7 (x::xs)
mutual
def Ex.v:Ex→V
 | .mk op var val nl l=> .agg [vi op,vi var,vi val.t,vi val.n,.bool val.b,.str val.s,lv nl (Ex.vs l)]
def Ex.vs:List Ex→List V
 | []=> []
 | e::l=>e.v::Ex.vs l
end
mutual
def Ex.size:Ex→Nat
 | .mk _ _ _ _ l=>1+Ex.bK l
def Ex.bK:List Ex→Nat
 | []=>0
 | e::l=>e.size+Ex.bK l
end
theorem Ex.QH: ∀l:List Ex,Ex.vs l=l.map Ex.v
 | []=>by simp[Ex.vs]
 | e::l=>by simp[Ex.vs,Ex.QH l]
theorem Ex.bN (op var:Int) (val:Va) (nl:Bool) (l:List Ex): (Ex.mk op var val nl l).v= .agg [vi op,vi var,vi val.t,vi val.n,.bool val.b,.str val.s,lv nl (l.map Ex.v)]:=by
 simp only[Ex.v,Ex.QH]
theorem s9 (nl:Bool) (vs:List V):lv nl vs= .nils∧vs=[]∨lv nl vs= .lit 7 vs:=by
 cases vs with
 | nil=>cases nl<;>simp[lv]
 | cons=>exact .inr rfl
theorem Ex.form (x:Ex): ∃a b c d e f L,x.v= .agg [vi a,vi b,vi c,vi d,.bool e,.str f,L]∧(L= .nils∨ ∃ys,L= .lit 7 ys):=by
 obtain⟨op,var,val,nl,l⟩:=x
 refine⟨_,_,_,_,_,_,_,Ex.bN ..,?_⟩
 rcases s9 nl (l.map Ex.v) with h| h
 · exact .inl h.1
 · exact .inr ⟨_,h⟩
theorem Ex.pure (x:Ex):V.aj x.v=true:=by
 obtain⟨a,b,c,d,e,f,L,h,hL⟩:=x.form
 rw[h]
 rcases hL with rfl| ⟨ys,rfl⟩ <;>rfl
theorem Ex.bq: ∀l:List Ex,V.ae (l.map Ex.v)=true
 | []=>rfl
 | x::l=>by simp[V.ae,x.pure,Ex.bq l]
theorem Ex.size_pos (e:Ex):0 <e.size:=by
 cases e;simp only[Ex.size];omega
theorem Ex.nD: ∀a b:List Ex,Ex.bK (a++b)=Ex.bK a+Ex.bK b
 | [],b=>by simp[Ex.bK]
 | x::a,b=>by simp only[List.cons_append,Ex.bK,Ex.nD a b];omega
theorem Ex.eU: ∀ {l:List Ex} {x:Ex},x ∈ l→x.size≤Ex.bK l
 | [],_,h=>by simp at h
 | y::l,x,h=>by
   simp only[Ex.bK]
   rcases List.mem_cons.1 h with rfl| h
   · omega
   · have:=Ex.eU h;omega
theorem Ex.length_le: ∀l:List Ex,l.length≤Ex.bK l
 | []=>by simp
 | x::l=>by
   have:=Ex.length_le l
   have:=x.size_pos
   simp only[List.length_cons,Ex.bK];omega
theorem Ex.xZ {l:List Ex} {i:Nat} {x:Ex} (h:l[i]? =some x):Ex.bK (l.take (i+1))=Ex.bK (l.take i)+x.size:=by
 rw[List.take_add_one,h]
 simp[Ex.nD,Ex.bK]
theorem Ex.rA (l:List Ex) (i:Nat):Ex.bK (l.take i)≤Ex.bK l:=by
 have:=Ex.nD (l.take i) (l.drop i)
 rw[List.take_append_drop] at this
 omega
end Go.AM
namespace Go.AM
def td (sz:Nat) (xs:List V) (v:V):Prop:=v= .lit sz xs∨xs=[]∧v= .nils
theorem td.pure {sz:Nat} {xs:List V} {v:V} (h:td sz xs v) (hx:V.ae xs=true):V.aj v=true:=by
 rcases h with rfl| ⟨_,rfl⟩
 · simp[V.aj,hx]
 · rfl
theorem fJ {α:Type} (p:α→Bool) (l:List α):l.any p=decide (0≤firstIdx p l):=by
 rcases pc p l with⟨h,hn⟩ | ⟨i,x,h,hx,hp⟩
 · rw[h]
   have:l.any p=false:=by
    rw[List.any_eq_false]
    intro x hx
    obtain⟨i,hi⟩:=List.mem_iff_getElem?.1 hx
    simp[hn i x hi]
   rw[this];rfl
 · rw[h]
   have:l.any p=true:=List.any_eq_true.2 ⟨x,List.mem_of_getElem? hx,hp⟩
   rw[this];simp
def lh (nl:Bool):List dE→V
 | []=>bif nl then .nils else .lit 1 []
 | x::xs=> .lit 1 ((x::xs).map V.str)
theorem x8 (nl:Bool) (l:List dE):td 1 (l.map V.str) (lh nl l):=by
 cases l with
 | nil=>cases nl
        · exact .inl rfl
        · exact .inr ⟨rfl,rfl⟩
 | cons x xs=>exact .inl rfl
theorem jy (l:List dE):V.ae (l.map V.str)=true:=AM.bq (fun _=>rfl) l
theorem gB (nl:Bool) (l:List dE):V.aj (lh nl l)=true:=(x8 nl l).pure (jy l)
theorem lj (nl:Bool) (l:List dE):lh nl l= .nils∧l=[]∨lh nl l= .lit 1 (l.map V.str):=by
 rcases x8 nl l with h| ⟨h0,h⟩
 · exact .inr h
 · exact .inl ⟨h,by simpa using h0⟩
structure bH where
 var:Int
 lo:Int
 hi:Int
 nt:Bool
 texts:List dE
def bH.v (k:bH):V:= .agg [vi k.var,vi k.lo,vi k.hi,lh k.nt k.texts]
theorem bH.pure (k:bH):V.aj k.v=true:=by
 simp only[bH.v,V.aj,V.ae,gB];rfl
theorem bH.form (k:bH):k.v= .agg [vi k.var,vi k.lo,vi k.hi,.nils]∧k.texts=[]∨k.v= .agg [vi k.var,vi k.lo,vi k.hi,.lit 1 (k.texts.map V.str)]:=by
 rcases lj k.nt k.texts with⟨h,h'⟩ | h
 · exact .inl ⟨by simp[bH.v,h],h'⟩
 · exact .inr (by simp[bH.v,h])
theorem Fq {l:List (Int)} {sv:V} (hs:td 1 (l.map vi) sv) {g:Nat} {caps:List V} (hc:V.ae caps=true) {p:Int→Bool} (hlen:l.length< 4611686018427387904)
   (hp: ∀x ∈ l,Ev E g (vi x::caps) ⟨.bool (p x),[]⟩) (hm:aD E g=[]):Ev E 280 [sv,.fn g caps] ⟨vi (firstIdx p l),[]⟩:=by
 have gO: ∀x,(vi x).aj=true:=(fun _=>rfl)
 have kI:=AM.bq gO l
 rcases hs with rfl| ⟨h0,rfl⟩
 · refine Ev.aG QI (QJ _) rfl ?_
   (conv=>whnf);repeat' ((first| intro g| refine bU.mk (by simp[V.ae,V.aj,hc,kI]) ?_| refine st ?_| (first| refine b1 ?_ ?_| refine b2 ?_ ?_| refine Br.mk ?_ ?_) <;>intro hc| exact rfl) <;>conv=>whnf)
   refine bj.by (fun i:Nat=> ⟨[(0,.lit 1 (l.map vi)),(1,.fn g caps),(7,aO (l.map vi).length),(8,aO i)],[]⟩) (fun i=>i≤l.length∧ ∀ (j:Nat) y,j<i→l[j]? =some y→p y=false) (fun i=>l.length - i) 0 ?_ ?_ ?_
   · (refine⟨?_,?_⟩ <;>repeat' (first| exact True.intro| refine ai ?_| refine And.intro ?_ ?_))
   · simp
   rintro i ⟨hi,eP⟩
   have eb:=hc
   by_cases bY:i<l.length
   · have hx:l[i]? =some l[i]:=bp bY
     have gX:=hp l[i] (List.getElem_mem bY)
     have xl:=gO l[i]
     generalize l[i]=x at hx gX xl
     have hv:vi x=V.int .i64 x:=rfl
     (conv=>whnf);repeat' ((first| intro g| refine bD.mk _ (aA hx hv rfl) ?_| refine aq (by assumption) (by first| assumption| rfl| (simp only[V.ae,V.aj,Bool.and_self,Bool.true_and,Bool.and_true, *])) (gX) rfl ?_| refine st ?_| (first| refine b1 ?_ ?_| refine b2 ?_ ?_| refine Br.mk ?_ ?_) <;>intro hc| exact rfl) <;>conv=>whnf)
     · rw[ec eP hx hc]
     · refine bk.mk (i+1) (by first| omega| (dsimp only;omega)) ?_ (by(refine⟨?_,?_⟩ <;>repeat' (first| exact True.intro| refine ai ?_| refine And.intro ?_ ?_)))
       refine⟨by omega,fun j y hj hy=> ?_⟩
       by_cases e:j=i
       · subst e
         rw[hx] at hy
         injection hy with hy;subst hy;exact hc
       · exact eP j y (by omega) hy
   · (conv=>whnf);repeat' ((first| intro g| refine st ?_| (first| refine b1 ?_ ?_| refine b2 ?_ ?_| refine Br.mk ?_ ?_) <;>intro hc| exact rfl) <;>conv=>whnf)
     rw[firstIdx_none fun j y hy=>eP j y (by have:=(List.getElem?_eq_some_iff.1 hy).1;omega) hy]
 · have:l=[]:=by simpa using h0
   subst this
   refine Ev.aG QI (QJ _) rfl ?_
   (conv=>whnf);repeat' ((first| intro g| refine bU.mk (by simp[V.ae,V.aj,hc]) ?_| refine st ?_| (first| refine b1 ?_ ?_| refine b2 ?_ ?_| refine Br.mk ?_ ?_) <;>intro hc| exact rfl) <;>conv=>whnf)
   refine bj.by (fun i:Nat=> ⟨[(0,.nils),(1,.fn g caps),(7,aO 0),(8,aO i)],[]⟩) (fun i=>i=0) (fun i=>0) 0 ?_ rfl ?_
   · (refine⟨?_,?_⟩ <;>repeat' (first| exact True.intro| refine ai ?_| refine And.intro ?_ ?_))
   rintro i rfl
   (conv=>whnf);repeat' ((first| intro g| refine st ?_| (first| refine b1 ?_ ?_| refine b2 ?_ ?_| refine Br.mk ?_ ?_) <;>intro hc| exact rfl) <;>conv=>whnf)
theorem IA {l:List (Int)} {sv:V} (hs:td 1 (l.map vi) sv) {g:Nat} {caps:List V} (hc:V.ae caps=true) {p:Int→Bool} (hlen:l.length< 4611686018427387904)
  (hp: ∀x ∈ l,Ev E g (vi x::caps) ⟨.bool (p x),[]⟩) (hm:aD E g=[]):Ev E 259 [sv,.fn g caps] ⟨.bool (l.any p),[]⟩:=by
 have h:=Fq hs hc hlen hp hm
 have gO: ∀x,(vi x).aj=true:=(fun _=>rfl)
 have kI:=AM.bq gO l
 have cm:aD E 280=[]:=rfl
 have se:V.aj sv=true:=hs.pure (AM.bq gO l)
 have hf:l.any p=decide (0≤firstIdx p l):=fJ p l
 rw[hf]
 refine Ev.aG YY (YZ _) rfl ?_
 rcases hs with rfl| ⟨h0,rfl⟩
 all_goals
  (conv=>whnf);repeat' ((first| intro g| refine bU.mk (by simp[V.ae,V.aj,hc,se]) ?_| refine st ?_| (first| refine b1 ?_ ?_| refine b2 ?_ ?_| refine Br.mk ?_ ?_) <;>intro hc| exact rfl) <;>conv=>whnf)
  refine aq cm (by simp[V.ae,V.aj,hc,kI]) h rfl ?_
  (conv=>whnf);repeat' ((first| intro g| refine st ?_| (first| refine b1 ?_ ?_| refine b2 ?_ ?_| refine Br.mk ?_ ?_) <;>intro hc| exact rfl) <;>conv=>whnf)
theorem Fs {l:List (dE)} {sv:V} (hs:td 1 (l.map V.str) sv) {g:Nat} {caps:List V} (hc:V.ae caps=true) {p:dE→Bool} (hlen:l.length< 4611686018427387904)
   (hp: ∀x ∈ l,Ev E g (V.str x::caps) ⟨.bool (p x),[]⟩) (hm:aD E g=[]):Ev E 438 [sv,.fn g caps] ⟨vi (firstIdx p l),[]⟩:=by
 have gO: ∀x,(V.str x).aj=true:=(fun _=>rfl)
 have kI:=AM.bq gO l
 rcases hs with rfl| ⟨h0,rfl⟩
 · refine Ev.aG QK (QL _) rfl ?_
   (conv=>whnf);repeat' ((first| intro g| refine bU.mk (by simp[V.ae,V.aj,hc,kI]) ?_| refine st ?_| (first| refine b1 ?_ ?_| refine b2 ?_ ?_| refine Br.mk ?_ ?_) <;>intro hc| exact rfl) <;>conv=>whnf)
   refine bj.by (fun i:Nat=> ⟨[(0,.lit 1 (l.map V.str)),(1,.fn g caps),(7,aO (l.map V.str).length),(8,aO i)],[]⟩) (fun i=>i≤l.length∧ ∀ (j:Nat) y,j<i→l[j]? =some y→p y=false) (fun i=>l.length - i) 0 ?_ ?_ ?_
   · (refine⟨?_,?_⟩ <;>repeat' (first| exact True.intro| refine ai ?_| refine And.intro ?_ ?_))
   · simp
   rintro i ⟨hi,eP⟩
   have eb:=hc
   by_cases bY:i<l.length
   · have hx:l[i]? =some l[i]:=bp bY
     have gX:=hp l[i] (List.getElem_mem bY)
     have xl:=gO l[i]
     generalize l[i]=x at hx gX xl
     have hv:V.str x=V.str x:=rfl
     (conv=>whnf);repeat' ((first| intro g| refine bD.mk _ (aA hx hv rfl) ?_| refine aq (by assumption) (by first| assumption| rfl| (simp only[V.ae,V.aj,Bool.and_self,Bool.true_and,Bool.and_true, *])) (gX) rfl ?_| refine st ?_| (first| refine b1 ?_ ?_| refine b2 ?_ ?_| refine Br.mk ?_ ?_) <;>intro hc| exact rfl) <;>conv=>whnf)
     · rw[ec eP hx hc]
     · refine bk.mk (i+1) (by first| omega| (dsimp only;omega)) ?_ (by(refine⟨?_,?_⟩ <;>repeat' (first| exact True.intro| refine ai ?_| refine And.intro ?_ ?_)))
       refine⟨by omega,fun j y hj hy=> ?_⟩
       by_cases e:j=i
       · subst e
         rw[hx] at hy
         injection hy with hy;subst hy;exact hc
       · exact eP j y (by omega) hy
   · (conv=>whnf);repeat' ((first| intro g| refine st ?_| (first| refine b1 ?_ ?_| refine b2 ?_ ?_| refine Br.mk ?_ ?_) <;>intro hc| exact rfl) <;>conv=>whnf)
     rw[firstIdx_none fun j y hy=>eP j y (by have:=(List.getElem?_eq_some_iff.1 hy).1;omega) hy]
 · have:l=[]:=by simpa using h0
   subst this
   refine Ev.aG QK (QL _) rfl ?_
   (conv=>whnf);repeat' ((first| intro g| refine bU.mk (by simp[V.ae,V.aj,hc]) ?_| refine st ?_| (first| refine b1 ?_ ?_| refine b2 ?_ ?_| refine Br.mk ?_ ?_) <;>intro hc| exact rfl) <;>conv=>whnf)
   refine bj.by (fun i:Nat=> ⟨[(0,.nils),(1,.fn g caps),(7,aO 0),(8,aO i)],[]⟩) (fun i=>i=0) (fun i=>0) 0 ?_ rfl ?_
   · (refine⟨?_,?_⟩ <;>repeat' (first| exact True.intro| refine ai ?_| refine And.intro ?_ ?_))
   rintro i rfl
   (conv=>whnf);repeat' ((first| intro g| refine st ?_| (first| refine b1 ?_ ?_| refine b2 ?_ ?_| refine Br.mk ?_ ?_) <;>intro hc| exact rfl) <;>conv=>whnf)
theorem IB {l:List (dE)} {sv:V} (hs:td 1 (l.map V.str) sv) {g:Nat} {caps:List V} (hc:V.ae caps=true) {p:dE→Bool} (hlen:l.length< 4611686018427387904)
  (hp: ∀x ∈ l,Ev E g (V.str x::caps) ⟨.bool (p x),[]⟩) (hm:aD E g=[]):Ev E 426 [sv,.fn g caps] ⟨.bool (l.any p),[]⟩:=by
 have h:=Fs hs hc hlen hp hm
 have gO: ∀x,(V.str x).aj=true:=(fun _=>rfl)
 have kI:=AM.bq gO l
 have cm:aD E 438=[]:=rfl
 have se:V.aj sv=true:=hs.pure (AM.bq gO l)
 have hf:l.any p=decide (0≤firstIdx p l):=fJ p l
 rw[hf]
 refine Ev.aG Y0 (Y1 _) rfl ?_
 rcases hs with rfl| ⟨h0,rfl⟩
 all_goals
  (conv=>whnf);repeat' ((first| intro g| refine bU.mk (by simp[V.ae,V.aj,hc,se]) ?_| refine st ?_| (first| refine b1 ?_ ?_| refine b2 ?_ ?_| refine Br.mk ?_ ?_) <;>intro hc| exact rfl) <;>conv=>whnf)
  refine aq cm (by simp[V.ae,V.aj,hc,kI]) h rfl ?_
  (conv=>whnf);repeat' ((first| intro g| refine st ?_| (first| refine b1 ?_ ?_| refine b2 ?_ ?_| refine Br.mk ?_ ?_) <;>intro hc| exact rfl) <;>conv=>whnf)
theorem x9 {l:List (bH)} {sv:V} (hs:td 4 (l.map bH.v) sv) {g:Nat} {caps:List V} (hc:V.ae caps=true) {p:bH→Bool} (hlen:l.length< 4611686018427387904)
   (hp: ∀x ∈ l,Ev E g (bH.v x::caps) ⟨.bool (p x),[]⟩) (hm:aD E g=[]):Ev E 390 [sv,.fn g caps] ⟨vi (firstIdx p l),[]⟩:=by
 have gO: ∀x,(bH.v x).aj=true:=bH.pure
 have kI:=AM.bq gO l
 rcases hs with rfl| ⟨h0,rfl⟩
 · refine Ev.aG QM (QN _) rfl ?_
   (conv=>whnf);repeat' ((first| intro g| refine bU.mk (by simp[V.ae,V.aj,hc,kI]) ?_| refine st ?_| (first| refine b1 ?_ ?_| refine b2 ?_ ?_| refine Br.mk ?_ ?_) <;>intro hc| exact rfl) <;>conv=>whnf)
   refine bj.by (fun i:Nat=> ⟨[(0,.lit 4 (l.map bH.v)),(1,.fn g caps),(7,aO (l.map bH.v).length),(8,aO i)],[]⟩) (fun i=>i≤l.length∧ ∀ (j:Nat) y,j<i→l[j]? =some y→p y=false) (fun i=>l.length - i) 0 ?_ ?_ ?_
   · (refine⟨?_,?_⟩ <;>repeat' (first| exact True.intro| refine ai ?_| refine And.intro ?_ ?_))
   · simp
   rintro i ⟨hi,eP⟩
   have eb:=hc
   by_cases bY:i<l.length
   · have hx:l[i]? =some l[i]:=bp bY
     have gX:=hp l[i] (List.getElem_mem bY)
     have xl:=gO l[i]
     generalize l[i]=x at hx gX xl
     obtain⟨a,b,c,t,hv⟩: ∃a b c t,x.v= .agg [vi a,vi b,vi c,t]:=⟨_,_,_,_,rfl⟩;rw[hv] at gX xl;have Sd:V.aj t=true:=(by simpa [V.aj,V.ae] using xl);have fS:V.ae ([V.agg [vi a,vi b,vi c,t]]++caps)=true:=by simp[V.ae,V.aj,Sd,eb]
     (conv=>whnf);repeat' ((first| intro g| refine bD.mk _ (aA hx hv rfl) ?_| refine aq (by assumption) (by first| assumption| rfl| (simp only[V.ae,V.aj,Bool.and_self,Bool.true_and,Bool.and_true, *])) (gX) rfl ?_| refine st ?_| (first| refine b1 ?_ ?_| refine b2 ?_ ?_| refine Br.mk ?_ ?_) <;>intro hc| exact rfl) <;>conv=>whnf)
     · rw[ec eP hx hc]
     · refine bk.mk (i+1) (by first| omega| (dsimp only;omega)) ?_ (by(refine⟨?_,?_⟩ <;>repeat' (first| exact True.intro| refine ai ?_| refine And.intro ?_ ?_)))
       refine⟨by omega,fun j y hj hy=> ?_⟩
       by_cases e:j=i
       · subst e
         rw[hx] at hy
         injection hy with hy;subst hy;exact hc
       · exact eP j y (by omega) hy
   · (conv=>whnf);repeat' ((first| intro g| refine st ?_| (first| refine b1 ?_ ?_| refine b2 ?_ ?_| refine Br.mk ?_ ?_) <;>intro hc| exact rfl) <;>conv=>whnf)
     rw[firstIdx_none fun j y hy=>eP j y (by have:=(List.getElem?_eq_some_iff.1 hy).1;omega) hy]
 · have:l=[]:=by simpa using h0
   subst this
   refine Ev.aG QM (QN _) rfl ?_
   (conv=>whnf);repeat' ((first| intro g| refine bU.mk (by simp[V.ae,V.aj,hc]) ?_| refine st ?_| (first| refine b1 ?_ ?_| refine b2 ?_ ?_| refine Br.mk ?_ ?_) <;>intro hc| exact rfl) <;>conv=>whnf)
   refine bj.by (fun i:Nat=> ⟨[(0,.nils),(1,.fn g caps),(7,aO 0),(8,aO i)],[]⟩) (fun i=>i=0) (fun i=>0) 0 ?_ rfl ?_
   · (refine⟨?_,?_⟩ <;>repeat' (first| exact True.intro| refine ai ?_| refine And.intro ?_ ?_))
   rintro i rfl
   (conv=>whnf);repeat' ((first| intro g| refine st ?_| (first| refine b1 ?_ ?_| refine b2 ?_ ?_| refine Br.mk ?_ ?_) <;>intro hc| exact rfl) <;>conv=>whnf)
theorem AD {l:List (bH)} {sv:V} (hs:td 4 (l.map bH.v) sv) {g:Nat} {caps:List V} (hc:V.ae caps=true) {p:bH→Bool} (hlen:l.length< 4611686018427387904)
  (hp: ∀x ∈ l,Ev E g (bH.v x::caps) ⟨.bool (p x),[]⟩) (hm:aD E g=[]):Ev E 346 [sv,.fn g caps] ⟨.bool (l.any p),[]⟩:=by
 have h:=x9 hs hc hlen hp hm
 have gO: ∀x,(bH.v x).aj=true:=bH.pure
 have kI:=AM.bq gO l
 have cm:aD E 390=[]:=rfl
 have se:V.aj sv=true:=hs.pure (AM.bq gO l)
 have hf:l.any p=decide (0≤firstIdx p l):=fJ p l
 rw[hf]
 refine Ev.aG Y2 (Y3 _) rfl ?_
 rcases hs with rfl| ⟨h0,rfl⟩
 all_goals
  (conv=>whnf);repeat' ((first| intro g| refine bU.mk (by simp[V.ae,V.aj,hc,se]) ?_| refine st ?_| (first| refine b1 ?_ ?_| refine b2 ?_ ?_| refine Br.mk ?_ ?_) <;>intro hc| exact rfl) <;>conv=>whnf)
  refine aq cm (by simp[V.ae,V.aj,hc,kI]) h rfl ?_
  (conv=>whnf);repeat' ((first| intro g| refine st ?_| (first| refine b1 ?_ ?_| refine b2 ?_ ?_| refine Br.mk ?_ ?_) <;>intro hc| exact rfl) <;>conv=>whnf)
end Go.AM
namespace Go.AM
def NP (s:dE) (l:List dE):V:=vi (firstIdx (fun x=>decide (x=s)) l)
def xm (s:dE) (l:List dE):V:= .bool (decide (s ∈ l))
theorem rB {l:List dE} {s:dE} {i:Nat} (eP: ∀ (j:Nat) (y:dE),j<i→l[j]? =some y→y≠s) (hx:l[i]? =some s):firstIdx (fun x=>decide (x=s)) l=(i:Int):=
 ec (fun j y hj hy=>by simpa using eP j y hj hy) hx (by simp)
theorem te {l:List dE} {s:dE} (eP: ∀ (j:Nat) (y:dE),l[j]? =some y→y≠s):firstIdx (fun x=>decide (x=s)) l= -1:=
 firstIdx_none (fun j y hy=>by simpa using eP j y hy)
theorem BO {l:List dE} {sv:V} (hs:td 1 (l.map V.str) sv) (s:dE) (hlen:l.length< 4611686018427387904):Ev E 353 [sv,.str s] ⟨xm s l,[]⟩:=by
 have kI:=jy l
 rcases hs with rfl| ⟨h0,rfl⟩
 · refine Ev.aG QO (QP _) rfl ?_
   (conv=>whnf);repeat' ((first| intro g| refine bU.mk (by simp[V.ae,V.aj,kI]) ?_| refine st ?_| (first| refine b1 ?_ ?_| refine b2 ?_ ?_| refine Br.mk ?_ ?_) <;>intro hc| exact rfl) <;>conv=>whnf)
   refine bj.by (fun i:Nat=> ⟨[(0,.lit 1 (l.map V.str)),(1,.str s),(5,aO i)],[]⟩) (fun i=>i≤l.length∧ ∀ (j:Nat) (y:dE),j<i→l[j]? =some y→y≠s) (fun i=>l.length - i) 0 ?_ ?_ ?_
   · (refine⟨?_,?_⟩ <;>repeat' (first| exact True.intro| refine ai ?_| refine And.intro ?_ ?_))
   · simp
   rintro i ⟨hi,eP⟩
   by_cases bY:i<l.length
   · have hx:l[i]? =some l[i]:=bp bY
     generalize l[i]=x at hx
     by_cases e:x=s
     · subst e
       have hm:x ∈ l:=List.mem_of_getElem? hx
       have hf:=rB eP hx
       (conv=>whnf);repeat' ((first| intro g| refine bD.mk _ (aA hx rfl rfl) ?_| refine st ?_| (first| refine b1 ?_ ?_| refine b2 ?_ ?_| refine Br.mk ?_ ?_) <;>intro hc| exact rfl) <;>conv=>whnf)
       all_goals simp[xm,hm]
     · have e': ¬s=x:=fun h=>e h.symm
       (conv=>whnf);repeat' ((first| intro g| refine bD.mk _ (aA hx rfl rfl) ?_| refine st ?_| (first| refine b1 ?_ ?_| refine b2 ?_ ?_| refine Br.mk ?_ ?_) <;>intro hc| exact rfl) <;>conv=>whnf)
       refine bk.mk (i+1) (by first| omega| (dsimp only;omega)) ?_ (by(refine⟨?_,?_⟩ <;>repeat' (first| exact True.intro| refine ai ?_| refine And.intro ?_ ?_)))
       refine⟨by omega,fun j y hj hy=> ?_⟩
       by_cases e2:j=i
       · subst e2
         rw[hx] at hy
         injection hy with hy;subst hy;exact e
       · exact eP j y (by omega) hy
   · have en: ∀ (j:Nat) (y:dE),l[j]? =some y→y≠s:=fun j y hy=>eP j y (by have:=(List.getElem?_eq_some_iff.1 hy).1;omega) hy
     have hm: ¬s ∈ l:=fun h=>by
       obtain⟨j,hj⟩:=List.mem_iff_getElem?.1 h
       exact en j s hj rfl
     have hf:=te en
     (conv=>whnf);repeat' ((first| intro g| refine st ?_| (first| refine b1 ?_ ?_| refine b2 ?_ ?_| refine Br.mk ?_ ?_) <;>intro hc| exact rfl) <;>conv=>whnf)
     simp[xm,hm]
 · have:l=[]:=by simpa using h0
   subst this
   refine Ev.aG QO (QP _) rfl ?_
   (conv=>whnf);repeat' ((first| intro g| refine st ?_| (first| refine b1 ?_ ?_| refine b2 ?_ ?_| refine Br.mk ?_ ?_) <;>intro hc| exact rfl) <;>conv=>whnf)
   refine bj.by (fun i:Nat=> ⟨[(0,.nils),(1,.str s),(5,aO i)],[]⟩) (fun i=>i=0) (fun i=>0) 0 ?_ rfl ?_
   · (refine⟨?_,?_⟩ <;>repeat' (first| exact True.intro| refine ai ?_| refine And.intro ?_ ?_))
   rintro i rfl
   (conv=>whnf);repeat' ((first| intro g| refine st ?_| (first| refine b1 ?_ ?_| refine b2 ?_ ?_| refine Br.mk ?_ ?_) <;>intro hc| exact rfl) <;>conv=>whnf)
theorem NQ {l:List dE} {sv:V} (hs:td 1 (l.map V.str) sv) (s:dE) (hlen:l.length< 4611686018427387904):Ev E 393 [sv,.str s] ⟨NP s l,[]⟩:=by
 have kI:=jy l
 rcases hs with rfl| ⟨h0,rfl⟩
 · refine Ev.aG QQ (QR _) rfl ?_
   (conv=>whnf);repeat' ((first| intro g| refine bU.mk (by simp[V.ae,V.aj,kI]) ?_| refine st ?_| (first| refine b1 ?_ ?_| refine b2 ?_ ?_| refine Br.mk ?_ ?_) <;>intro hc| exact rfl) <;>conv=>whnf)
   refine bj.by (fun i:Nat=> ⟨[(0,.lit 1 (l.map V.str)),(1,.str s),(7,aO (l.map V.str).length),(8,aO i)],[]⟩) (fun i=>i≤l.length∧ ∀ (j:Nat) (y:dE),j<i→l[j]? =some y→y≠s) (fun i=>l.length - i) 0 ?_ ?_ ?_
   · (refine⟨?_,?_⟩ <;>repeat' (first| exact True.intro| refine ai ?_| refine And.intro ?_ ?_))
   · simp
   rintro i ⟨hi,eP⟩
   by_cases bY:i<l.length
   · have hx:l[i]? =some l[i]:=bp bY
     generalize l[i]=x at hx
     by_cases e:x=s
     · subst e
       have hm:x ∈ l:=List.mem_of_getElem? hx
       have hf:=rB eP hx
       (conv=>whnf);repeat' ((first| intro g| refine bD.mk _ (aA hx rfl rfl) ?_| refine st ?_| (first| refine b1 ?_ ?_| refine b2 ?_ ?_| refine Br.mk ?_ ?_) <;>intro hc| exact rfl) <;>conv=>whnf)
       all_goals rw[NP,hf]
     · have e': ¬s=x:=fun h=>e h.symm
       (conv=>whnf);repeat' ((first| intro g| refine bD.mk _ (aA hx rfl rfl) ?_| refine st ?_| (first| refine b1 ?_ ?_| refine b2 ?_ ?_| refine Br.mk ?_ ?_) <;>intro hc| exact rfl) <;>conv=>whnf)
       refine bk.mk (i+1) (by first| omega| (dsimp only;omega)) ?_ (by(refine⟨?_,?_⟩ <;>repeat' (first| exact True.intro| refine ai ?_| refine And.intro ?_ ?_)))
       refine⟨by omega,fun j y hj hy=> ?_⟩
       by_cases e2:j=i
       · subst e2
         rw[hx] at hy
         injection hy with hy;subst hy;exact e
       · exact eP j y (by omega) hy
   · have en: ∀ (j:Nat) (y:dE),l[j]? =some y→y≠s:=fun j y hy=>eP j y (by have:=(List.getElem?_eq_some_iff.1 hy).1;omega) hy
     have hm: ¬s ∈ l:=fun h=>by
       obtain⟨j,hj⟩:=List.mem_iff_getElem?.1 h
       exact en j s hj rfl
     have hf:=te en
     (conv=>whnf);repeat' ((first| intro g| refine st ?_| (first| refine b1 ?_ ?_| refine b2 ?_ ?_| refine Br.mk ?_ ?_) <;>intro hc| exact rfl) <;>conv=>whnf)
     rw[NP,hf]
 · have:l=[]:=by simpa using h0
   subst this
   refine Ev.aG QQ (QR _) rfl ?_
   (conv=>whnf);repeat' ((first| intro g| refine st ?_| (first| refine b1 ?_ ?_| refine b2 ?_ ?_| refine Br.mk ?_ ?_) <;>intro hc| exact rfl) <;>conv=>whnf)
   refine bj.by (fun i:Nat=> ⟨[(0,.nils),(1,.str s),(7,aO 0),(8,aO i)],[]⟩) (fun i=>i=0) (fun i=>0) 0 ?_ rfl ?_
   · (refine⟨?_,?_⟩ <;>repeat' (first| exact True.intro| refine ai ?_| refine And.intro ?_ ?_))
   rintro i rfl
   (conv=>whnf);repeat' ((first| intro g| refine st ?_| (first| refine b1 ?_ ?_| refine b2 ?_ ?_| refine Br.mk ?_ ?_) <;>intro hc| exact rfl) <;>conv=>whnf)
theorem qw {l:List dE} {sv:V} (hs:td 1 (l.map V.str) sv) (s:dE) (hlen:l.length< 4611686018427387904):Ev E 349 [sv,.str s] ⟨xm s l,[]⟩:=by
 have h:=NQ hs s hlen
 have kI:=jy l
 have hf:decide (s ∈ l)=decide (0≤firstIdx (fun x=>decide (x=s)) l):=by
  rw[←fJ]
  rw[Bool.eq_iff_iff]
  simp
 rw[xm,hf]
 rw[NP] at h
 rcases hs with rfl| ⟨h0,rfl⟩
 all_goals
  refine Ev.aG Y4 (Y5 _) rfl ?_
  (conv=>whnf);repeat' ((first| intro g| refine av.mk _ (h) ?_| refine st ?_| (first| refine b1 ?_ ?_| refine b2 ?_ ?_| refine Br.mk ?_ ?_) <;>intro hc| exact rfl) <;>conv=>whnf)
end Go.AM
namespace Go.AM
theorem BP (n:Int):Ev E 335 [vi n] ⟨(Va.mk 1 n false []).v,[]⟩:=by
 refine Ev.aG Y6 (Y7 _) rfl ?_
 (conv=>whnf);repeat' ((first| intro g| refine st ?_| (first| refine b1 ?_ ?_| refine b2 ?_ ?_| refine Br.mk ?_ ?_) <;>intro hc| exact rfl) <;>conv=>whnf)
theorem ya (b:Bool):Ev E 369 [.bool b] ⟨(Va.mk 2 0 b []).v,[]⟩:=by
 refine Ev.aG Y8 (Y9 _) rfl ?_
 (conv=>whnf);repeat' ((first| intro g| refine st ?_| (first| refine b1 ?_ ?_| refine b2 ?_ ?_| refine Br.mk ?_ ?_) <;>intro hc| exact rfl) <;>conv=>whnf)
theorem GW (s:dE):Ev E 336 [.str s] ⟨(Va.mk 3 0 false s).v,[]⟩:=by
 refine Ev.aG Za (Zb _) rfl ?_
 (conv=>whnf);repeat' ((first| intro g| refine st ?_| (first| refine b1 ?_ ?_| refine b2 ?_ ?_| refine Br.mk ?_ ?_) <;>intro hc| exact rfl) <;>conv=>whnf)
end Go.AM
namespace Go.AM
theorem Dj: ∀ (k:Nat) (e:Ex),e.size≤k→k< 1000000→Ev E 382 [e.v] ⟨aO e.size,[]⟩
 | 0,e,h,_=>by have:=e.size_pos;omega
 | k+1,.mk op var val nl l,h,hk=>by
   have cJ:Ex.bK l≤k:=by simp only[Ex.size] at h;omega
   have ih: ∀x ∈ l,Ev E 382 [x.v] ⟨aO x.size,[]⟩:=fun x hx=>Dj k x (Nat.le_trans (Ex.eU hx) cJ) (by omega)
   have hlen:=Ex.length_le l
   rw[Ex.bN]
   simp only[Ex.size]
   refine Ev.aG Zc (Zd _) rfl ?_
   cases l with
   | nil=>
     cases nl<;>simp only[List.map_nil,lv,cond_true,cond_false,Ex.bK]
     all_goals
       (conv=>whnf);repeat' ((first| intro g| refine st ?_| (first| refine b1 ?_ ?_| refine b2 ?_ ?_| refine Br.mk ?_ ?_) <;>intro hc| exact rfl) <;>conv=>whnf)
       refine bj.by (fun (i:Nat)=> ⟨[(1,.ptr 32 g 0 0),(3,aO 1),(4,aO 0)],[(32,⟨g,7,false,false,some [_]⟩)]⟩) (fun i=>i=0) (fun _=>0) 0 (by(refine⟨?_,?_⟩ <;>repeat' (first| exact True.intro| refine ai ?_| refine And.intro ?_ ?_))) rfl ?_
       rintro i rfl
       (conv=>whnf);repeat' ((first| intro g| refine st ?_| (first| refine b1 ?_ ?_| refine b2 ?_ ?_| refine Br.mk ?_ ?_) <;>intro hc| exact rfl) <;>conv=>whnf)
   | cons y ys=>
     have e1:lv nl ((y::ys).map Ex.v)= .lit 7 ((y::ys).map Ex.v):=rfl
     rw[e1]
     generalize hl:y::ys=l at*
     clear hl
     (conv=>whnf);repeat' ((first| intro g| refine st ?_| (first| refine b1 ?_ ?_| refine b2 ?_ ?_| refine Br.mk ?_ ?_) <;>intro hc| exact rfl) <;>conv=>whnf)
     refine bj.by (fun (i:Nat)=> ⟨[(1,.ptr 32 g 0 0),(3,aO (1+Ex.bK (l.take i))),(4,aO i)],[(32,⟨g,7,false,false,some [.agg [vi op,vi var,vi val.t,vi val.n,.bool val.b,.str val.s,.lit 7 (l.map Ex.v)]]⟩)]⟩)
       (fun i=>i≤l.length) (fun i=>l.length - i) 0 (by(refine⟨?_,?_⟩ <;>repeat' (first| exact True.intro| refine ai ?_| refine And.intro ?_ ?_))) (by simp) ?_
     intro i hi
     by_cases bY:i<l.length
     · obtain⟨x,hx⟩: ∃x,l[i]? =some x:=⟨_,bp bY⟩
       have xD:=ih x (List.mem_of_getElem? hx)
       have h1:=Ex.xZ hx
       have h2:=Ex.rA l (i+1)
       obtain⟨a,b,c,d,e',f,L,hv,hL⟩:=x.form
       rw[hv] at xD
       rcases hL with rfl| ⟨zs,rfl⟩
       all_goals
        (conv=>whnf);repeat' ((first| intro g| refine bD.mk _ (aA hx hv rfl) ?_| refine av.mk _ (xD) ?_| refine st ?_| (first| refine b1 ?_ ?_| refine b2 ?_ ?_| refine Br.mk ?_ ?_) <;>intro hc| exact rfl) <;>conv=>whnf)
        exact bk.mk (i+1) (by first| omega| (dsimp only;omega)) (by first| omega| (dsimp only;omega)) (by(refine⟨?_,?_⟩ <;>repeat' (first| exact True.intro| refine ai ?_| refine And.intro ?_ ?_)))
     · have gP:i=l.length:=by omega
       subst gP
       have h1:l.take l.length=l:=List.take_length
       rw[h1]
       (conv=>whnf);repeat' ((first| intro g| refine st ?_| (first| refine b1 ?_ ?_| refine b2 ?_ ?_| refine Br.mk ?_ ?_) <;>intro hc| exact rfl) <;>conv=>whnf)
theorem Dk: ∀ (k:Nat) (e:Ex),e.size≤k→k< 1000000→Ev E 370 [e.v] ⟨aO e.size,[]⟩
 | 0,e,h,_=>by have:=e.size_pos;omega
 | k+1,.mk op var val nl l,h,hk=>by
   have cJ:Ex.bK l≤k:=by simp only[Ex.size] at h;omega
   have ih: ∀x ∈ l,Ev E 370 [x.v] ⟨aO x.size,[]⟩:=fun x hx=>Dk k x (Nat.le_trans (Ex.eU hx) cJ) (by omega)
   have hlen:=Ex.length_le l
   rw[Ex.bN]
   simp only[Ex.size]
   refine Ev.aG Ze (Zf _) rfl ?_
   cases l with
   | nil=>
     cases nl<;>simp only[List.map_nil,lv,cond_true,cond_false,Ex.bK]
     all_goals
       (conv=>whnf);repeat' ((first| intro g| refine st ?_| (first| refine b1 ?_ ?_| refine b2 ?_ ?_| refine Br.mk ?_ ?_) <;>intro hc| exact rfl) <;>conv=>whnf)
       refine bj.by (fun (i:Nat)=> ⟨[(3,aO 1),(8,aO 0),(9,aO 0)],[]⟩) (fun i=>i=0) (fun _=>0) 0 (by(refine⟨?_,?_⟩ <;>repeat' (first| exact True.intro| refine ai ?_| refine And.intro ?_ ?_))) rfl ?_
       rintro i rfl
       (conv=>whnf);repeat' ((first| intro g| refine st ?_| (first| refine b1 ?_ ?_| refine b2 ?_ ?_| refine Br.mk ?_ ?_) <;>intro hc| exact rfl) <;>conv=>whnf)
   | cons y ys=>
     have e1:lv nl ((y::ys).map Ex.v)= .lit 7 ((y::ys).map Ex.v):=rfl
     rw[e1]
     generalize hl:y::ys=l at*
     clear hl
     (conv=>whnf);repeat' ((first| intro g| refine st ?_| (first| refine b1 ?_ ?_| refine b2 ?_ ?_| refine Br.mk ?_ ?_) <;>intro hc| exact rfl) <;>conv=>whnf)
     refine bj.by (fun (i:Nat)=> ⟨[(3,aO (1+Ex.bK (l.take i))),(7,.lit 7 (l.map Ex.v)),(8,aO (l.map Ex.v).length),(9,aO i)],[]⟩)
       (fun i=>i≤l.length) (fun i=>l.length - i) 0 (by(refine⟨?_,?_⟩ <;>repeat' (first| exact True.intro| refine ai ?_| refine And.intro ?_ ?_))) (by simp) ?_
     intro i hi
     by_cases bY:i<l.length
     · obtain⟨x,hx⟩: ∃x,l[i]? =some x:=⟨_,bp bY⟩
       have xD:=ih x (List.mem_of_getElem? hx)
       have h1:=Ex.xZ hx
       have h2:=Ex.rA l (i+1)
       obtain⟨a,b,c,d,e',f,L,hv,hL⟩:=x.form
       rw[hv] at xD
       rcases hL with rfl| ⟨zs,rfl⟩
       all_goals
        (conv=>whnf);repeat' ((first| intro g| refine bD.mk _ (aA hx hv rfl) ?_| refine av.mk _ (xD) ?_| refine st ?_| (first| refine b1 ?_ ?_| refine b2 ?_ ?_| refine Br.mk ?_ ?_) <;>intro hc| exact rfl) <;>conv=>whnf)
        exact bk.mk (i+1) (by first| omega| (dsimp only;omega)) (by first| omega| (dsimp only;omega)) (by(refine⟨?_,?_⟩ <;>repeat' (first| exact True.intro| refine ai ?_| refine And.intro ?_ ?_)))
     · have gP:i=l.length:=by omega
       subst gP
       have h1:l.take l.length=l:=List.take_length
       rw[h1]
       (conv=>whnf);repeat' ((first| intro g| refine st ?_| (first| refine b1 ?_ ?_| refine b2 ?_ ?_| refine Br.mk ?_ ?_) <;>intro hc| exact rfl) <;>conv=>whnf)
end Go.AM
