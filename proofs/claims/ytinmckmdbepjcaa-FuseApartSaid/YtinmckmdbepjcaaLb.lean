/-
  Texts of the proof, joined by program: FuC, FuE, FuF. Own work.
-/
import Derived.Test.YtinmckmdbepjcaaLa
set_option linter.unusedSimpArgs false
set_option linter.unusedVariables false
set_option maxRecDepth 20000
namespace Go.AM
theorem nY {a b:Int} {e:Edge} (ht:b9 a b e=true): (e.left=a∧e.right=b)∨(e.left=a∧ ¬e.right=b∧e.left=b∧e.right=a)∨(¬e.left=a∧e.left=b∧e.right=a):=by
 simp only[b9,decide_eq_true_eq] at ht
 by_cases h1:e.left=a<;>by_cases h2:e.right=b<;>by_cases h3:e.left=b<;>by_cases h4:e.right=a<;>simp_all
end Go.AM
set_option maxRecDepth 20000
namespace Go.AM
def fD (S:List Int):Nat→List Int
 | 0=> []
 | t+1=>if 0 <t∧S.getD t 0=S.getD (t - 1) 0 then fD S t else fD S t++[S.getD t 0]
def jb (S:List Int):List Int:=fD S S.length
theorem vY (S:List Int): ∀t,(fD S t).length≤t
 | 0=>Nat.le_refl _
 | t+1=>by
   have:=vY S t
   unfold fD;split
   · omega
   · simp;omega
theorem vW (S:List Int): ∀t,0 <t→0 < (fD S t).length
 | 0,h=>by omega
 | t+1,_=>by
   unfold fD;split
   · rename_i h;exact vW S t h.1
   · simp
def ei (S:List Int):List Int:=jb S++List.replicate (S.length - (jb S).length) 0
set_option maxHeartbeats 4000000 in
theorem AA {S:List Int} (hl:S.length< 1000000):Ev E 133 [.msl 1 (S.map vi) 0 S.length] ⟨.sl 0 0 0 (jb S).length,[(0,(ei S).map vi)]⟩:=by
 have same:jb S=S→ei S=S:=fun h=>by unfold ei;rw[h];simp
 refine Ev.bU N9 (Oa _) rfl ?_
 by_cases h2:S.length< 2
 · have hs:jb S=S:=by
     cases S with
     | nil=>rfl
     | cons a S=>cases S with
       | nil=>rfl
       | cons b S=>simp at h2;omega
   rw[same hs,hs]
   (conv=>whnf);repeat' ((first| intro g| refine st ?_| (first| refine b1 ?_ ?_| refine b2 ?_ ?_| refine Br.mk ?_ ?_) <;>intro hc| exact rfl) <;>conv=>whnf)
 (conv=>whnf);repeat' ((first| intro g| refine st ?_| (first| refine b1 ?_ ?_| refine b2 ?_ ?_| refine Br.mk ?_ ?_) <;>intro hc| exact rfl) <;>conv=>whnf)
 refine ba.by (fun (k:Nat)=> ⟨[(0,.sl 0 0 0 S.length),(3,aF k)],[(0,⟨0,1,true,false,some (S.map vi)⟩)]⟩) (fun k=>1≤k∧k≤S.length∧fD S k=S.take k) (fun k=>S.length - k) 1 (by(refine⟨?_,?_⟩ <;>repeat' (first| exact True.intro| refine ai ?_| refine And.intro ?_ ?_))) ?_ ?_
 · refine⟨Nat.le_refl _,by omega,?_⟩
   cases S with
   | nil=>simp at h2
   | cons a S=>simp[fD]
 rintro k ⟨vu,hk,jY⟩
 try dsimp only at vu hk jY
 by_cases bk:k<S.length
 · obtain⟨x,hx⟩: ∃x,S[k]? =some x:=⟨_,aL bk⟩
   obtain⟨y,hy⟩: ∃y,S[k - 1]? =some y:=⟨_,aL (by omega)⟩
   have ef:S.getD k 0=x:=by simp[List.getD_eq_getElem?_getD,hx]
   have MM:S.getD (k - 1) 0=y:=by simp[List.getD_eq_getElem?_getD,hy]
   have hw:IntKind.i64.wrap ((k:Int) - 1)=((k - 1:Nat):Int):=(wrap64 (by omega) (by omega)).trans (by omega)
   by_cases D6:x=y
   · have E2:fD S (k+1)=fD S k:=by rw[fD,if_pos ⟨by omega,by rw[ef,MM,D6]⟩]
     (conv=>whnf);repeat' ((first| intro g| refine aH.mk _ (aC hx rfl) ?_| refine aH.mk _ (aC hy hw) ?_| refine st ?_| (first| refine b1 ?_ ?_| refine b2 ?_ ?_| refine Br.mk ?_ ?_) <;>intro hc| exact rfl) <;>conv=>whnf)
     obtain⟨k,rfl⟩: ∃k',k=k'+1:=⟨k - 1,by omega⟩
     refine ba.by (fun ((w,j,A):Nat×Nat×List Int)=> ⟨[(0,.sl 0 0 0 S.length),(3,aF w),(4,.sl 0 0 (k+1) (S.length - (k+1))),(5,aF j)],[(0,⟨0,1,true,false,some (A.map vi)⟩)]⟩)
       (fun (w,j,A)=>1≤w∧1≤j∧k+1+j≤S.length∧w≤k+j∧A.length=S.length∧A.take w=fD S (k+1+j)∧(fD S (k+1+j)).length=w∧ ∀i,k+j≤i→A[i]? =S[i]?) (fun (_,j,_)=>S.length - j) (k+1,1,S) ?_ ?_ ?_
     · (refine⟨?_,?_⟩ <;>repeat' (first| exact True.intro| refine And.intro ((by(conv=>whnf);simp)) ?_| refine ai ?_| refine And.intro ?_ ?_))
     · refine⟨vu,Nat.le_refl _,by omega,by omega,rfl,by rw[E2,jY],by rw[E2,jY];simp;omega,fun _ _=>rfl⟩
     rintro⟨w,j,A⟩ ⟨Ps,V5,nW,Pu,SZ,Pv,mG,Px⟩
     try dsimp only at Ps V5 nW Pu SZ Pv mG Px
     clear jY E2 hx hy ef MM same
     by_cases fS:k+1+j<S.length
     · obtain⟨x',BI⟩: ∃x,S[k+1+j]? =some x:=⟨_,aL fS⟩
       obtain⟨y',GF⟩: ∃y,S[k+j]? =some y:=⟨_,aL (by omega)⟩
       have ef:S.getD (k+1+j) 0=x':=by simp[List.getD_eq_getElem?_getD,BI]
       have MM:S.getD (k+1+j - 1) 0=y':=by rw[show k+1+j - 1=k+j by omega];simp[List.getD_eq_getElem?_getD,GF]
       have V6:A[k+1+j]? =some x':=by rw[Px _ (by omega),BI]
       have V7:A[k+j]? =some y':=by rw[Px _ (by omega),GF]
       have zN:IntKind.i64.wrap ((j:Int) - 1)=((j - 1:Nat):Int):=(wrap64 (by omega) (by omega)).trans (by omega)
       clear BI GF
       have r1: (A.map vi)[k+1+(j:Int).toNat]? =some (vi x'):=by simp[V6]
       have r2: (A.map vi)[k+1+(IntKind.i64.wrap ((j:Int) - 1)).toNat]? =some (vi y'):=by
         rw[zN,show k+1+((j - 1:Nat):Int).toNat=k+j by omega];simp[V7]
       have V8: (j:Int) < ((S.length - (k+1):Nat):Int):=by omega
       by_cases Py:x'=y'
       · have E2:fD S (k+1+j+1)=fD S (k+1+j):=by rw[fD,if_pos ⟨by omega,by rw[ef,MM,Py]⟩]
         (conv=>whnf);repeat' ((first| intro g| refine aH.mk _ (r1) ?_| refine aH.mk _ (r2) ?_| refine st ?_| (first| refine b1 ?_ ?_| refine b2 ?_ ?_| refine Br.mk ?_ ?_) <;>intro hc| exact rfl) <;>conv=>whnf)
         have hs:k+1+(j+1)=k+1+j+1:=by omega
         exact bc.mk (w,j+1,A) (by first| omega| (dsimp only;omega)) ⟨Ps,by omega,by omega,by omega,SZ,by rw[hs,E2,Pv],by rw[hs,E2,mG],fun i hi=>Px i (by omega)⟩ (by(refine⟨?_,?_⟩ <;>repeat' (first| exact True.intro| refine ai ?_| refine And.intro ?_ ?_)))
       · have E2:fD S (k+1+j+1)=fD S (k+1+j)++[x']:=by
          rw[fD,if_neg (fun h=>Py (by rw[←ef,←MM,h.2])),ef]
         (conv=>whnf);repeat' ((first| intro g| refine aH.mk _ (r1) ?_| refine aH.mk _ (r2) ?_| refine st ?_| (first| refine b1 ?_ ?_| refine b2 ?_ ?_| refine Br.mk ?_ ?_) <;>intro hc| exact rfl) <;>conv=>whnf)
         have hs:k+1+(j+1)=k+1+j+1:=by omega
         have nZ:w<A.length:=by omega
         have oK: (A.map vi).set (w:Int).toNat (vi x')=(A.set w x').map vi:=by simp[List.map_set]
         refine bc.mk (w+1,j+1,A.set w x') (by first| omega| (dsimp only;omega)) ⟨by omega,by omega,by omega,by omega,by simpa using SZ,?_,by rw[hs,E2,List.length_append,mG];rfl,fun i hi=> ?_⟩ (by(refine⟨?_,?_⟩ <;>repeat' (first| exact True.intro| refine And.intro ((by(conv=>whnf);rw[oK])) ?_| refine ai ?_| refine And.intro ?_ ?_)))
         · rw[hs,E2,List.take_add_one,List.take_set_of_le (Nat.le_refl _),Pv];simp[nZ]
         · rw[List.getElem?_set_ne (by omega)];exact Px i (by omega)
     · have S4:k+1+j=S.length:=by omega
       rw[S4] at Pv mG
       have Lt: (jb S).length=w:=mG
       have MN:overwrite (A.map vi) (0+(w:Int).toNat) (List.replicate (S.length - (w:Int).toNat) (V.int .i64 0))=(ei S).map vi:=by
         have e1: (w:Int).toNat=w:=by simp
         unfold overwrite ei
         rw[e1,Nat.zero_add,←List.map_take,Pv,Lt,List.drop_of_length_le (by simp;omega)]
         simp[jb]
       have V9: (ei S).length=S.length:=by unfold ei;simp[Lt];omega
       rw[Lt]
       (conv=>whnf);repeat' ((first| intro g| refine eY.mk (⟨Nat.zero_le _,by rw[MN];simp[V9];omega⟩) ?_| refine st ?_| (first| refine b1 ?_ ?_| refine b2 ?_ ?_| refine Br.mk ?_ ?_) <;>intro hc| exact rfl) <;>conv=>whnf)
       rw[MN]
       have X5:=iG (ei S)
       (conv=>whnf);repeat' ((first| intro g| refine st ?_| (first| refine b1 ?_ ?_| refine b2 ?_ ?_| refine Br.mk ?_ ?_) <;>intro hc| exact rfl) <;>conv=>whnf)
   · have E2:fD S (k+1)=S.take (k+1):=by
       rw[fD,if_neg (fun h=>D6 (by rw[←ef,←MM,h.2])),jY,ef,List.take_add_one,hx];rfl
     (conv=>whnf);repeat' ((first| intro g| refine aH.mk _ (aC hx rfl) ?_| refine aH.mk _ (aC hy hw) ?_| refine st ?_| (first| refine b1 ?_ ?_| refine b2 ?_ ?_| refine Br.mk ?_ ?_) <;>intro hc| exact rfl) <;>conv=>whnf)
     exact bc.mk (k+1) (by first| omega| (dsimp only;omega)) ⟨by omega,by omega,E2⟩ (by(refine⟨?_,?_⟩ <;>repeat' (first| exact True.intro| refine ai ?_| refine And.intro ?_ ?_)))
 · obtain rfl:k=S.length:=by omega
   have hs:jb S=S:=by unfold jb;rw[jY];simp
   rw[same hs,hs]
   (conv=>whnf);repeat' ((first| intro g| refine st ?_| (first| refine b1 ?_ ?_| refine b2 ?_ ?_| refine Br.mk ?_ ?_) <;>intro hc| exact rfl) <;>conv=>whnf)
end Go.AM
set_option maxRecDepth 20000
namespace Go.AM
theorem HC {l:List Int} (h:l.length< 1000000):Ev E 132 [.msl 1 (l.map vi) 0 l.length] ⟨.tuple [],[(0,(kH l).map vi)]⟩:=
 Ev.ext (by
  rw[N6]
  have hl:l.length< 4611686018427387904:=by omega
  simp only[xU,List.length_map,if_true,tN,if_pos hl])
theorem nU (l:List Int): (kH l).length=l.length:=by
 rw[←xS];simp
def Hr (l:List Int):List Int:=jb (kH l)
theorem aaG (l:List Int): (Hr l).length≤l.length:=by
 have:=vY (kH l) (kH l).length
 rw[nU] at this
 unfold Hr jb
 rw[nU];exact this
theorem BJ (S:List Int): (jb S).length≤S.length:=vY S S.length
theorem yA (S:List Int): (ei S).length=S.length:=by
 have:=BJ S
 simp[ei];omega
theorem E3 (S:List Int):aO ((ei S).map vi) 0 (jb S).length=(jb S).map vi:=by
 unfold ei
 rw[List.map_append]
 exact wY rfl
theorem vZ (S:List Int):0+(jb S).length≤((ei S).map vi).length∧V.aq (aO ((ei S).map vi) 0 (jb S).length)=true:=
 ⟨by have:=BJ S;have:=yA S;simp;omega,mV (iG _)⟩
set_option maxHeartbeats 2000000 in
theorem vv {l:List Int} (h:l.length< 1000000):Ev E 510 [.msl 1 (l.map vi) 0 l.length] ⟨.sl 0 0 0 (Hr l).length,[(0,(ei (kH l)).map vi)]⟩:=by
 have h1:=HC h
 have h2:=AA (S:=kH l) (by rw[nU];exact h)
 rw[nU] at h2
 have hp:=iG l
 have Lu:=iG (kH l)
 have Lv:=iG (ei (kH l))
 refine Ev.bU N7 (N8 _) rfl ?_
 (conv=>whnf);repeat' ((first| intro g| refine eY.mk (⟨rfl,rfl,rfl,by simp[nU],iG _⟩) ?_| refine eY.mk (vZ _) ?_| refine ag.mk _ (h1) ?_| refine ag.mk _ (h2) ?_| refine st ?_| (first| refine b1 ?_ ?_| refine b2 ?_ ?_| refine Br.mk ?_ ?_) <;>intro hc| exact rfl) <;>conv=>whnf)
def mZ (es:List Edge) (a b:Int) (i:Nat):List Int:=((es.take i).filter (b9 a b)).map (·.id)
theorem E4 (es:List Edge) (a b:Int) (i:Nat): (mZ es a b i).length≤i:=by
 unfold mZ
 rw[List.length_map]
 exact Nat.le_trans (List.length_filter_le _ _) (by simp;omega)
def b4 (es:List Edge) (a b:Int):List Int:=Hr (mZ es a b es.length)
set_option maxHeartbeats 4000000 in
theorem Pz {L:List V} {e:Edge} {i n g:Nat} {a b:Int} {A:List Int} {Q:aW→SS→Prop} (he:L[i]? =some e.v) (hn:L.length=n) (hi:i<n) (hb:n< 1000000) (ht:b9 a b e=false)
   (hQ: ∀T' O',SS.Sub ⟨[(1,vi a),(2,vi b),(7,.sl 129 g 0 A.length),(10,.lit 4 L),(11,aF n),(12,aF (i+1))],[(129,⟨g,1,true,false,some (A.map vi)⟩)]⟩ ⟨T',O'⟩→Q .normal ⟨T',O'⟩):
   gY E w6 ⟨[(1,vi a),(2,vi b),(7,.sl 129 g 0 A.length),(10,.lit 4 L),(11,aF n),(12,aF i)],[(129,⟨g,1,true,false,some (A.map vi)⟩)]⟩ Q:=by
 have ky: ¬ (e.left=a∧e.right=b∨e.left=b∧e.right=a):=by simpa [b9] using ht
 clear ht
 by_cases h1:e.left=a
 · have h2: ¬e.right=b:=fun h=>ky (.inl ⟨h1,h⟩)
   by_cases h3:e.left=b
   · have h4: ¬e.right=a:=fun h=>ky (.inr ⟨h3,h⟩)
     clear ky
     (conv=>whnf);repeat' ((first| intro g| refine aH.mk _ (he) ?_| refine st ?_| (first| refine b1 ?_ ?_| refine b2 ?_ ?_| refine Br.mk ?_ ?_) <;>intro hc| exact rfl) <;>conv=>whnf)
     exact hQ _ _ (by(refine⟨?_,?_⟩ <;>repeat' (first| exact True.intro| refine ai ?_| refine And.intro ?_ ?_)))
   · clear ky
     (conv=>whnf);repeat' ((first| intro g| refine aH.mk _ (he) ?_| refine st ?_| (first| refine b1 ?_ ?_| refine b2 ?_ ?_| refine Br.mk ?_ ?_) <;>intro hc| exact rfl) <;>conv=>whnf)
     exact hQ _ _ (by(refine⟨?_,?_⟩ <;>repeat' (first| exact True.intro| refine ai ?_| refine And.intro ?_ ?_)))
 · by_cases h3:e.left=b
   · have h4: ¬e.right=a:=fun h=>ky (.inr ⟨h3,h⟩)
     clear ky
     (conv=>whnf);repeat' ((first| intro g| refine aH.mk _ (he) ?_| refine st ?_| (first| refine b1 ?_ ?_| refine b2 ?_ ?_| refine Br.mk ?_ ?_) <;>intro hc| exact rfl) <;>conv=>whnf)
     exact hQ _ _ (by(refine⟨?_,?_⟩ <;>repeat' (first| exact True.intro| refine ai ?_| refine And.intro ?_ ?_)))
   · clear ky
     (conv=>whnf);repeat' ((first| intro g| refine aH.mk _ (he) ?_| refine st ?_| (first| refine b1 ?_ ?_| refine b2 ?_ ?_| refine Br.mk ?_ ?_) <;>intro hc| exact rfl) <;>conv=>whnf)
     exact hQ _ _ (by(refine⟨?_,?_⟩ <;>repeat' (first| exact True.intro| refine ai ?_| refine And.intro ?_ ?_)))
set_option maxHeartbeats 4000000 in
theorem Lw {L:List V} {e:Edge} {i n g:Nat} {a b:Int} {A:List Int} {Q:aW→SS→Prop} (he:L[i]? =some e.v) (hn:L.length=n) (hi:i<n) (hb:n< 1000000) (hA:A.length≤i) (ht:b9 a b e=true)
  (hQ: ∀T' O' g',SS.Sub ⟨[(1,vi a),(2,vi b),(7,.sl 129 g' 0 (A++[e.id]).length),(10,.lit 4 L),(11,aF n),(12,aF (i+1))],[(129,⟨g',1,true,false,some ((A++[e.id]).map vi)⟩)]⟩ ⟨T',O'⟩→Q .normal ⟨T',O'⟩):
  gY E w6 ⟨[(1,vi a),(2,vi b),(7,.sl 129 g 0 A.length),(10,.lit 4 L),(11,aF n),(12,aF i)],[(129,⟨g,1,true,false,some (A.map vi)⟩)]⟩ Q:=by
 rcases nY ht with⟨h1,h2⟩ | ⟨h1,h2,h3,h4⟩ | ⟨h1,h3,h4⟩
 all_goals
  clear ht
  (conv=>whnf);repeat' ((first| intro g| refine aH.mk _ (he) ?_| refine st ?_| (first| refine b1 ?_ ?_| refine b2 ?_ ?_| refine Br.mk ?_ ?_) <;>intro hc| exact rfl) <;>conv=>whnf)
  exact hQ _ _ _ (by(refine⟨?_,?_⟩ <;>repeat' (first| exact True.intro| refine ai ?_| refine And.intro ?_ ?_)))
set_option maxHeartbeats 2000000 in
theorem Am {es:List Edge} (hl:es.length< 1000000) (a b:Int):Ev E 495 [.lit 4 (es.map Edge.v),vi a,vi b] ⟨.own 1 ((b4 es a b).map vi),[]⟩:=by
 refine Ev.bU NU (NV _) rfl ?_
 (conv=>whnf);repeat' ((first| intro g| refine st ?_| (first| refine b1 ?_ ?_| refine b2 ?_ ?_| refine Br.mk ?_ ?_) <;>intro hc| exact rfl) <;>conv=>whnf)
 refine ba.by (fun ((i,g):Nat×Nat)=> ⟨[(1,vi a),(2,vi b),(7,.sl 129 g 0 (mZ es a b i).length),(10,.lit 4 (es.map Edge.v)),(11,aF es.length),(12,aF i)],[(129,⟨g,1,true,false,some ((mZ es a b i).map vi)⟩)]⟩) (fun (i,_)=>i≤es.length) (fun (i,_)=>es.length - i) (0,g) ?_ (by simp) ?_
 · (refine⟨?_,?_⟩ <;>repeat' (first| exact True.intro| refine And.intro ((by(conv=>whnf);simp[mZ])) ?_| refine ai ?_| refine And.intro ?_ ?_))
 rintro⟨i,g⟩ hi
 try dsimp only at hi
 have ML:=E4 es a b i
 by_cases bk:i<es.length
 · obtain⟨e,he⟩: ∃e,es[i]? =some e:=⟨_,aL bk⟩
   have C6: (es.map Edge.v)[i]? =some e.v:=by simp[he]
   have C7: (es.map Edge.v).length=es.length:=by simp
   cases ht:b9 a b e with
   | false=>
     have hn:mZ es a b (i+1)=mZ es a b i:=by simp[mZ,List.take_add_one,he,ht]
     refine Pz C6 C7 bk hl ht fun T' O' hs=>bc.mk (i+1,g) (by first| omega| (dsimp only;omega)) (by omega) ?_
     simp only[hn]
     exact hs
   | true=>
     have hn:mZ es a b (i+1)=mZ es a b i++[e.id]:=by simp[mZ,List.take_add_one,he,ht]
     refine Lw C6 C7 bk hl ML ht fun T' O' g' hs=>bc.mk (i+1,g') (by first| omega| (dsimp only;omega)) (by omega) ?_
     simp only[hn]
     exact hs
 · obtain rfl:i=es.length:=by omega
   have S5:=vv (l:=mZ es a b es.length) (by omega)
   have hp:=iG (mZ es a b es.length)
   (conv=>whnf);repeat' ((first| intro g| refine eY.mk (⟨(vZ (kH (mZ es a b es.length))).1,iG _⟩) ?_| refine aH.mk _ (E3 (kH (mZ es a b es.length))) ?_| refine ag.mk _ (S5) ?_| refine st ?_| (first| refine b1 ?_ ?_| refine b2 ?_ ?_| refine Br.mk ?_ ?_) <;>intro hc| exact rfl) <;>conv=>whnf)
end Go.AM
