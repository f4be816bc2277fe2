/- Texts of the proof. -/
import Derived.Test.YtgjbecccmiehkaaGreatGac
set_option maxRecDepth 20000
set_option maxHeartbeats 4000000
set_option linter.unusedSimpArgs false
set_option linter.unusedVariables false
namespace Go.AM
end Go.AM
namespace Go.AM
def LR:Bool→List V→V
 | true,l=> .litk 5 l
 | false,l=> .lit 5 l
def bA.kv (k:Bool) (m:bA):V:= .agg [.lit 4 (m.aH.map Edge.v),LR k (m.b9.map da.v),.lit 8 (m.ways.map Way.v),.lit 7 (m.bL.map Place.v)]
end Go.AM
namespace Go.AM
theorem kI (l:List Int):V.al (l.map vi)=true:=AM.cA (fun _=>rfl) l
end Go.AM
namespace Go.AM
end Go.AM
namespace Go.AM
def dC (S:List Int):Nat→List Int
 | 0=> []
 | t+1=>if 0 <t∧S.getD t 0=S.getD (t - 1) 0 then dC S t else dC S t++[S.getD t 0]
def fX (S:List Int):List Int:=dC S S.length
theorem rF (S:List Int): ∀t,(dC S t).length≤t
 | 0=>Zy _
 | t+1=>by
   have:=rF S t
   unfold dC;split
   ·omega
   ·simp;omega
def dI (S:List Int):List Int:=fX S++List.replicate (S.length - (fX S).length) 0
theorem B3 {S:List Int} (hl:S.length< 1000000):Ev E 133 [.msl 1 (S.map vi) 0 S.length] ⟨.sl 0 0 0 (fX S).length,[(0,(dI S).map vi)]⟩:=by
 have same:fX S=S→dI S=S:=fun h=>by unfold dI;rw[h];simp
 refine Ev.aO rfl rfl rfl ?_
 by_cases h2:S.length< 2
 ·have hs:fX S=S:=by
   cases S with
   | nil=>rfl
   | cons a S=>cases S with
     | nil=>rfl
     | cons b S=>simp at h2;omega
  rw[same hs,hs]
  exact dr
 conv=>whnf
 repeat' (first| intro g| refine st ?_| refine br ?_ ?_<;>intro hc| rfl) <;>conv=>whnf
 refine a8.by (fun (k:Nat)=> ⟨[(0,.sl 0 0 0 S.length),(3,aL k)],[(0,⟨0,1,true,false,some (S.map vi)⟩)]⟩) (fun k=>1≤k∧k≤S.length∧dC S k=S.take k) (fun k=>S.length - k) 1 su ?_ ?_
 ·refine⟨Zy _,Zl,?_⟩
  cases S with
  | nil=>simp at h2
  | cons a S=>simp[dC]
 rintro k ⟨uB,hk,gX⟩
 try dsimp only at uB hk gX
 by_cases bz:k<S.length
 ·obtain⟨x,hx⟩: ∃x,S[k]? =some x:=⟨_,bp bz⟩
  obtain⟨y,hy⟩: ∃y,S[k - 1]? =some y:=⟨_,bp Zl⟩
  have y7:S.getD k 0=x:=by simp[ZK,hx]
  have Nw:S.getD (k - 1) 0=y:=by simp[ZK,hy]
  have hw:IntKind.i64.wrap ((k:Int) - 1)=((k - 1:Nat):Int):=wt
  by_cases Fq:x=y
  ·have G3:dC S (k+1)=dC S k:=by rw[dC,if_pos ⟨Zl,by rw[y7,Nw,Fq]⟩]
   conv=>whnf
   repeat' (first| intro g| refine wi (aA hx rfl) ?_| refine wi (aA hy hw) ?_| refine st ?_| refine br ?_ ?_<;>intro hc| rfl) <;>conv=>whnf
   obtain⟨k,rfl⟩: ∃k',k=k'+1:=⟨k - 1,Zl⟩
   refine a8.by (fun ((w,j,A):Nat×Nat×List Int)=> ⟨[(0,.sl 0 0 0 S.length),(3,aL w),(4,.sl 0 0 (k+1) (S.length - (k+1))),(5,aL j)],[(0,⟨0,1,true,false,some (A.map vi)⟩)]⟩)
     (fun (w,j,A)=>1≤w∧1≤j∧k+1+j≤S.length∧w≤k+j∧A.length=S.length∧A.take w=dC S (k+1+j)∧(dC S (k+1+j)).length=w∧ ∀i,k+j≤i→A[i]? =S[i]?) (fun (_,j,_)=>S.length - j) (k+1,1,S) ?_ ?_ ?_
   ·(refine⟨?_,?_⟩ <;>repeat' (first| exact True.intro| refine And.intro ((by(conv=>whnf);simp)) ?_| refine ai ?_| refine And.intro ?_ ?_))
   ·refine⟨uB,Zy _,Zl,Zl,rfl,by rw[G3,gX],by rw[G3,gX];simp;omega,fun _ _=>rfl⟩
   rintro⟨w,j,A⟩ ⟨Iw,WB,WC,LS,Tc,Pb,nT,Pc⟩
   try dsimp only at Iw WB WC LS Tc Pb nT Pc
   clear gX G3 hx hy y7 Nw same
   by_cases il:k+1+j<S.length
   · obtain⟨x',wb⟩: ∃x,S[k+1+j]? =some x:=⟨_,bp il⟩
     obtain⟨y',yP⟩: ∃y,S[k+j]? =some y:=⟨_,bp Zl⟩
     have y7:S.getD (k+1+j) 0=x':=by simp[ZK,wb]
     have Nw:S.getD (k+1+j - 1) 0=y':=by rw[show k+1+j - 1=k+j by omega];simp[ZK,yP]
     have WD:A[k+1+j]? =some x':=by rw[Pc _ Zl,wb]
     have WE:A[k+j]? =some y':=by rw[Pc _ Zl,yP]
     have xL:IntKind.i64.wrap ((j:Int) - 1)=((j - 1:Nat):Int):=wt
     clear wb yP
     have r1: (A.map vi)[k+1+(j:Int).toNat]? =some (vi x'):=by simp[WD]
     have r2: (A.map vi)[k+1+(IntKind.i64.wrap ((j:Int) - 1)).toNat]? =some (vi y'):=by
      rw[xL,show k+1+((j - 1:Nat):Int).toNat=k+j by omega];simp[WE]
     have WG: (j:Int) < ((S.length - (k+1):Nat):Int):=Zl
     by_cases Pd:x'=y'
     ·have G3:dC S (k+1+j+1)=dC S (k+1+j):=by rw[dC,if_pos ⟨Zl,by rw[y7,Nw,Pd]⟩]
      conv=>whnf
      repeat' (first| intro g| refine wi r1 ?_| refine wi r2 ?_| refine st ?_| refine br ?_ ?_<;>intro hc| rfl) <;>conv=>whnf
      have hs:k+1+(j+1)=k+1+j+1:=Zl
      exact bo.mk (w,j+1,A) om ⟨Iw,Zl,Zl,Zl,Tc,by rw[hs,G3,Pb],by rw[hs,G3,nT],fun i hi=>Pc i Zl⟩ su
     ·have G3:dC S (k+1+j+1)=dC S (k+1+j)++[x']:=by
         rw[dC,if_neg (fun h=>Pd (by rw[←y7,←Nw,h.2])),y7]
      conv=>whnf
      repeat' (first| intro g| refine wi r1 ?_| refine wi r2 ?_| refine st ?_| refine br ?_ ?_<;>intro hc| rfl) <;>conv=>whnf
      have hs:k+1+(j+1)=k+1+j+1:=Zl
      have kZ:w<A.length:=Zl
      have lX: (A.map vi).set (w:Int).toNat (vi x')=(A.set w x').map vi:=by simp[List.map_set]
      refine bo.mk (w+1,j+1,A.set w x') om ⟨Zl,Zl,Zl,Zl,by simpa using Tc,?_,by rw[hs,G3,List.length_append,nT];rfl,fun i hi=> ?_⟩ (by(refine⟨?_,?_⟩ <;>repeat' (first| exact True.intro| refine And.intro ((by(conv=>whnf);rw[lX])) ?_| refine ai ?_| refine And.intro ?_ ?_)))
      ·rw[hs,G3,List.take_add_one,List.take_set_of_le (Zy _),Pb];simp[kZ]
      ·rw[List.getElem?_set_ne Zl];exact Pc i Zl
   · have Td:k+1+j=S.length:=Zl
     rw[Td] at Pb nT
     have LU: (fX S).length=w:=nT
     have Nx:overwrite (A.map vi) (0+(w:Int).toNat) (List.replicate (S.length - (w:Int).toNat) (V.int .i64 0))=(dI S).map vi:=by
      have e1: (w:Int).toNat=w:=Zm
      unfold overwrite dI
      rw[e1,aaa,←List.map_take,Pb,LU,aaO (by simp;omega)]
      simp[fX]
     have WH: (dI S).length=S.length:=by unfold dI;simp[LU];omega
     rw[LU]
     conv=>whnf
     repeat' (first| intro g| refine nd ⟨aaj _,by rw[Nx];simp[WH];omega⟩ ?_| refine st ?_| refine br ?_ ?_<;>intro hc| rfl) <;>conv=>whnf
     rw[Nx]
     have YO:=kI (dI S)
     exact dr
  ·have G3:dC S (k+1)=S.take (k+1):=by
     rw[dC,if_neg (fun h=>Fq (by rw[←y7,←Nw,h.2])),gX,y7,List.take_add_one,hx];rfl
   conv=>whnf
   repeat' (first| intro g| refine wi (aA hx rfl) ?_| refine wi (aA hy hw) ?_| refine st ?_| refine br ?_ ?_<;>intro hc| rfl) <;>conv=>whnf
   exact bo.mk (k+1) om ⟨Zl,Zl,G3⟩ su
 ·obtain rfl:k=S.length:=Zl
  have hs:fX S=S:=by unfold fX;rw[gX];simp
  rw[same hs,hs]
  exact dr
end Go.AM
namespace Go.AM
theorem Jw {l:List Int} (h:l.length< 1000000):Ev E 132 [.msl 1 (l.map vi) 0 l.length] ⟨.tuple [],[(0,(fV l).map vi)]⟩:=
 Ev.ext (by
  rw[Oy]
  have hl:l.length< 4611686018427387904:=Zl
  simp only[yY,List.length_map,if_true,oR,if_pos hl])
theorem kJ (l:List Int): (fV l).length=l.length:=by
 rw[←yX];simp
def LV (l:List Int):List Int:=fX (fV l)
theorem G4 (l:List Int): (LV l).length≤l.length:=by
 have:=rF (fV l) (fV l).length
 rw[kJ] at this
 unfold LV fX
 rw[kJ];exact this
theorem DE (S:List Int): (fX S).length≤S.length:=rF S S.length
theorem zO (S:List Int): (dI S).length=S.length:=by
 have:=DE S
 simp[dI];omega
theorem G5 (S:List Int):aw ((dI S).map vi) 0 (fX S).length=(fX S).map vi:=by
 unfold dI
 rw[aai]
 exact Dc rfl
theorem Eu (S:List Int):0+(fX S).length≤((dI S).map vi).length∧V.al (aw ((dI S).map vi) 0 (fX S).length)=true:=
 ⟨by have:=DE S;have:=zO S;simp;omega,jP (kI _)⟩
end Go.AM
