/- Texts of the proof. -/
import Derived.Test.YtdifmldbllaeiaaGreatGab
import Derived.KernelRfl
set_option maxRecDepth 20000
set_option maxHeartbeats 8000000
set_option linter.unusedSimpArgs false
set_option linter.unusedVariables false
namespace Go.AM
def findF (fs:List aX) (id:Int):Option Nat:=fs.findIdx? fun f=>decide (f.id=id)
theorem dW {fs:List aX} {id:Int} {i:Nat} (h:findF fs id=some i): ∃f,fs[i]? =some f∧f.id=id∧ ∀j g,j<i→fs[j]? =some g→g.id≠id:=by
 unfold findF at h
 rw[ag2] at h
 obtain⟨hl,h1,h2⟩:=h
 refine⟨fs[i],af3 hl,by simpa using h1,fun j g hj hg=> ?_⟩
 have KH:j<fs.length:=ae0
 rw[af3 KH] at hg
 injection hg with hg
 subst hg
 simpa using h2 j hj
theorem Ht {fs:List aX} {id:Int} (h:findF fs id=none): ∀ (j:Nat) g,fs[j]? =some g→g.id≠id:=by
 unfold findF at h
 rw[ahR] at h
 intro j g hg
 simpa using h g (List.mem_of_getElem? hg)
def CM:Bool→Nat→aX→V
 | true,i,f=> .epk i 5 f.v 0
 | false,_,f=> .eptr f.v 0
def bI (k:Bool) (fs:List aX):Nat→List V
 | 0=> []
 | n+1=>match fs[n]? with
   | some f=>if findF (fs.take n) f.id=none then bI k fs n++[.tuple [vi f.id,CM k n f]] else bI k fs n
   | none=>bI k fs n
theorem wq (x:V): ∀ (es es':List V),cj x es=some none→cj x (es++es')=cj x es'
 | [],_,_=>rfl
 | e::es,es',h=>by
   unfold cj at h
   split at h
   ·simp at*
   ·rename_i k' v lX he
    injection he with h1 h2
    subst h1;subst h2
    split at h
    ·simp at h
    ·rename_i hk
     simp only[ags,cj,hk]
     exact wq x _ es' h
    ·simp at h
   ·simp at h
theorem tN (x v:V): ∀ (es es':List V),cj x es=some (some v)→cj x (es++es')=some (some v)
 | [],_,h=>by simp[cj] at h
 | e::es,es',h=>by
   unfold cj at h
   split at h
   ·simp at*
   ·rename_i k' v' lX he
    injection he with h1 h2
    subst h1;subst h2
    split at h
    ·rename_i hk
     simp only[ags,cj,hk];exact h
    ·rename_i hk
     simp only[ags,cj,hk]
     exact tN x v _ es' h
    ·simp at h
   ·simp at h
theorem wu (x v:V): ∀ (es:List V),cj x es=some none→iT x v es=some (es++[.tuple [x,v]])
 | [],_=>rfl
 | e::es,h=>by
   unfold cj at h
   split at h
   ·simp at*
   ·rename_i k' v' lX he
    injection he with h1 h2
    subst h1;subst h2
    split at h
    ·simp at h
    ·rename_i hk
     simp only[ags,iT,hk,wu x v _ h,agc]
    ·simp at h
   ·simp at h
def nu (k:Bool) (fs:List aX) (n:Nat) (id:Int):Option V:=match findF (fs.take n) id with
 | some i=> (fs[i]?).map (CM k i)
 | none=>none
theorem xh {fs:List aX} {n:Nat} {f:aX} (hf:fs[n]? =some f) (id:Int):findF (fs.take (n+1)) id=(match findF (fs.take n) id with| some i=>some i| none=>if f.id=id then some n else none):=by
 rw[agD,hf]
 have hl: (fs.take n).length=n:=by have:=(af0.1 hf).1;simp;omega
 simp only[findF,Option.toList,List.findIdx?_append,hl]
 cases List.findIdx? (fun f=>decide (f.id=id)) (fs.take n) with
 | some i=>rfl
 | none=>
   by_cases h:f.id=id<;>simp[List.findIdx?_cons,h]
theorem qH (k:Bool) (fs:List aX) (id:Int): ∀n,cj (vi id) (bI k fs n)=some (nu k fs n id)
 | 0=>by simp[bI,cj,nu,findF]
 | n+1=>  by
   have ih:=qH k fs id n
   unfold bI
   cases hf:fs[n]? with
   | none=>
     have:fs.take (n+1)=fs.take n:=by rw[agD,hf];simp
     simp only[ih,nu,this]
   | some f=>
     have hs:=xh hf id
     by_cases hn:findF (fs.take n) f.id=none
     ·simp only[hn,if_true]
      cases hl:findF (fs.take n) id with
      | none=>
        have hi:cj (vi id) (bI k fs n)=some none:=by rw[ih];simp[nu,hl]
        rw[wq _ _ _ hi]
        rw[hl] at hs
        by_cases he:f.id=id
        ·subst he
         simp only[if_true] at hs
         simp only[nu,hs,hf,agc]
         simp[cj,vZ,vi]
        ·simp only[if_neg he] at hs
         have kE: ¬id=f.id:=fun h=>he h.symm
         have hb: (id==f.id)=false:=by simpa using kE
         simp[nu,hs,cj,vZ,vi,hb]
      | some i=>
        rw[hl] at hs
        obtain⟨g,hg,_⟩:=dW hl
        have GQ:i<n:=by have:=(af0.1 hg).1;simp at this;omega
        have Xi:fs[i]? =some g:=by rw[agy] at hg;simpa [GQ] using hg
        have hi:cj (vi id) (bI k fs n)=some (some (CM k i g)):=by rw[ih];simp[nu,hl,Xi]
        rw[tN _ _ _ _ hi]
        simp[nu,hs,Xi]
     ·simp only[hn,if_false]
      cases hl:findF (fs.take n) id with
      | none=>
        rw[hl] at hs
        by_cases he:f.id=id
        ·subst he;exact absurd hl hn
        ·simp only[if_neg he] at hs
         rw[ih];simp[nu,hl,hs]
      | some i=>
        rw[hl] at hs
        rw[ih];simp[nu,hl,hs]
theorem ED (k:Bool) {fs:List aX} {n:Nat} {f:aX} (hf:fs[n]? =some f) (h:findF (fs.take n) f.id=none):iT (vi f.id) (CM k n f) (bI k fs n)=some (bI k fs (n+1)):=by
 have h1:cj (vi f.id) (bI k fs n)=some none:=by rw[qH];simp[nu,h]
 rw[wu _ _ _ h1]
 simp[bI,hf,h]
theorem Ba (k:Bool) {fs:List aX} {n:Nat} {f:aX} (hf:fs[n]? =some f) (h:findF (fs.take n) f.id≠none):bI k fs (n+1)=bI k fs n:=by
 simp[bI,hf,h]
theorem vp {k:Bool} {fs:List aX} {n:Nat} {id:Int} (z:V) (h:findF (fs.take n) id=none):cQ false z (bI k fs n) (vi id)= .done z:=by
 simp[cQ,qH,nu,h]
theorem vq {k:Bool} {fs:List aX} {n:Nat} {id:Int} (z:V) {i:Nat} {f:aX} (h:findF (fs.take n) id=some i) (hf:fs[i]? =some f):cQ false z (bI k fs n) (vi id)= .done (CM k i f):=by
 simp[cQ,qH,nu,h,hf]
theorem KI (k:Bool) (i:Nat) (f:aX): (CM k i f).au=true:=by cases k<;>rfl
theorem iF (k:Bool) (fs:List aX): ∀n,V.ak (bI k fs n)=true
 | 0=>rfl
 | n+1=>by
   unfold bI
   split
   ·split
    ·exact eQ (iF k fs n) (by simp[V.ak,V.au,KI,vi])
    ·exact iF k fs n
   ·exact iF k fs n
theorem pz (k:Bool) (fs:List aX): ∀n,(bI k fs n).all V.isTuple=true
 | 0=>rfl
 | n+1=>by
   unfold bI
   split
   ·split
    ·simp[pz k fs n,V.isTuple]
    ·exact pz k fs n
   ·exact pz k fs n
theorem kG (k:Bool) (fs:List aX) (n:Nat):V.au (.mlit (bI k fs n))=true:=by
 simp only[V.au,iF]
def CN:Bool→List V→V
 | true,l=> .litk 5 l
 | false,l=> .lit 5 l
def aG.kv (k:Bool) (m:aG):V:= .agg [.lit 4 (m.az.map Edge.v),CN k (m.al.map aX.v),.lit 8 (m.ways.map Way.v),.lit 7 (m.aA.map Place.v)]
def cS (a b:Int) (e:Edge):Bool:=decide (e.left=a∧e.right=b∨e.left=b∧e.right=a)
def T1 (es:List Edge) (a b:Int) (f g:aX):Int:=
 if a=b then 1 else if f.bB≠g.bB∨f.bB< 1 then 25 else if es.any (cS a b)=false then 13 else if f.name≠[]∧g.name≠[]∧f.name≠g.name then 24 else 0
def xi (m:aG) (a b:Int):Int:=match findF m.al a,findF m.al b with
 | some i,some j=> (match m.al[i]?,m.al[j]? with
   | some f,some g=>T1 m.az a b f g
   | _,_=>5)
 | _,_=>5
end Go.AM
namespace Go.AM
theorem dq (l:List Int):V.ak (l.map vi)=true:=AM.aV (fun _=>rfl) l
end Go.AM
namespace Go.AM
theorem Bb {a b:Int} {e:Edge} (ht:cS a b e=true): (e.left=a∧e.right=b)∨(e.left=a∧ ¬e.right=b∧e.left=b∧e.right=a)∨(¬e.left=a∧e.left=b∧e.right=a):=by
 simp only[cS,decide_eq_true_eq] at ht
 by_cases h1:e.left=a<;>by_cases h2:e.right=b<;>by_cases h3:e.left=b<;>by_cases h4:e.right=a<;>simp_all
end Go.AM
namespace Go.AM
def gO (S:List Int):Nat→List Int
 | 0=> []
 | t+1=>if 0 <t∧S.getD t 0=S.getD (t - 1) 0 then gO S t else gO S t++[S.getD t 0]
def jj (S:List Int):List Int:=gO S S.length
theorem vr (S:List Int): ∀t,(gO S t).length≤t
 | 0=>af6 _
 | t+1=>by
   have:=vr S t
   unfold gO;split
   ·omega
   ·simp;omega
theorem Bf (S:List Int): ∀t,0 <t→0 < (gO S t).length
 | 0,h=>ae0
 | t+1,_=>by
   unfold gO;split
   ·rename_i h;exact Bf S t h.1
   ·simp
def ec (S:List Int):List Int:=jj S++List.replicate (S.length - (jj S).length) 0
theorem yM {S:List Int} (hl:S.length< 1000000):Ev E 133 [.msl 1 (S.map vi) 0 S.length] ⟨.sl 0 0 0 (jj S).length,[(0,(ec S).map vi)]⟩:=by
 have same:jj S=S→ec S=S:=fun h=>by unfold ec;rw[h];simp
 refine Ev.aI rfl rfl rfl ?_
 by_cases h2:S.length< 2
 ·have hs:jj S=S:=by
   cases S with
   | nil=>rfl
   | cons a S=>cases S with
     | nil=>rfl
     | cons b S=>simp at h2;omega
  rw[same hs,hs]
  exact dr
 conv=>whnf
 repeat' (first| intro g| refine st ?_| refine br ?_ ?_<;>intro hc| rfl) <;>conv=>whnf
 refine aO.by (fun (k:Nat)=> ⟨[(0,.sl 0 0 0 S.length),(3,ar k)],[(0,⟨0,1,true,false,some (S.map vi)⟩)]⟩) (fun k=>1≤k∧k≤S.length∧gO S k=S.take k) (fun k=>S.length - k) 1 su ?_ ?_
 ·refine⟨af6 _,ae0,?_⟩
  cases S with
  | nil=>simp at h2
  | cons a S=>simp[gO]
 rintro k ⟨yN,hk,il⟩
 try dsimp only at yN hk il
 by_cases bk:k<S.length
 ·obtain⟨x,hx⟩: ∃x,S[k]? =some x:=⟨_,aL bk⟩
  obtain⟨y,hy⟩: ∃y,S[k - 1]? =some y:=⟨_,aL ae0⟩
  have QZ:S.getD k 0=x:=by simp[agL,hx]
  have Xp:S.getD (k - 1) 0=y:=by simp[agL,hy]
  have hw:IntKind.i64.wrap ((k:Int) - 1)=((k - 1:Nat):Int):=wt
  by_cases Mx:x=y
  ·have NP:gO S (k+1)=gO S k:=by rw[gO,if_pos ⟨ae0,by rw[QZ,Xp,Mx]⟩]
   conv=>whnf
   repeat' (first| intro g| refine wi (av hx rfl) ?_| refine wi (av hy hw) ?_| refine st ?_| refine br ?_ ?_<;>intro hc| rfl) <;>conv=>whnf
   obtain⟨k,rfl⟩: ∃k',k=k'+1:=⟨k - 1,ae0⟩
   refine aO.by (fun ((w,j,A):Nat×Nat×List Int)=> ⟨[(0,.sl 0 0 0 S.length),(3,ar w),(4,.sl 0 0 (k+1) (S.length - (k+1))),(5,ar j)],[(0,⟨0,1,true,false,some (A.map vi)⟩)]⟩)
     (fun (w,j,A)=>1≤w∧1≤j∧k+1+j≤S.length∧w≤k+j∧A.length=S.length∧A.take w=gO S (k+1+j)∧(gO S (k+1+j)).length=w∧ ∀i,k+j≤i→A[i]? =S[i]?) (fun (_,j,_)=>S.length - j) (k+1,1,S) ?_ ?_ ?_
   ·(refine⟨?_,?_⟩ <;>repeat' (first| exact True.intro| refine And.intro ((by(conv=>whnf);simp)) ?_| refine ai ?_| refine And.intro ?_ ?_))
   ·refine⟨yN,af6 _,ae0,ae0,rfl,by rw[NP,il],by rw[NP,il];simp;omega,fun _ _=>rfl⟩
   rintro⟨w,j,A⟩ ⟨Kz,hj1,RO,RP,hAl,MA,ig,ZS⟩
   try dsimp only at Kz hj1 RO RP hAl MA ig ZS
   clear il NP hx hy QZ Xp same
   by_cases kb:k+1+j<S.length
   · obtain⟨x',wh⟩: ∃x,S[k+1+j]? =some x:=⟨_,aL kb⟩
     obtain⟨y',Hu⟩: ∃y,S[k+j]? =some y:=⟨_,aL ae0⟩
     have QZ:S.getD (k+1+j) 0=x':=by simp[agL,wh]
     have Xp:S.getD (k+1+j - 1) 0=y':=by rw[show k+1+j - 1=k+j by omega];simp[agL,Hu]
     have hax:A[k+1+j]? =some x':=by rw[ZS _ ae0,wh]
     have hay:A[k+j]? =some y':=by rw[ZS _ ae0,Hu]
     have GR:IntKind.i64.wrap ((j:Int) - 1)=((j - 1:Nat):Int):=wt
     clear wh Hu
     have r1: (A.map vi)[k+1+(j:Int).toNat]? =some (vi x'):=by simp[hax]
     have r2: (A.map vi)[k+1+(IntKind.i64.wrap ((j:Int) - 1)).toNat]? =some (vi y'):=by
      rw[GR,show k+1+((j - 1:Nat):Int).toNat=k+j by omega];simp[hay]
     have afB: (j:Int) < ((S.length - (k+1):Nat):Int):=ae0
     by_cases ZT:x'=y'
     ·have NP:gO S (k+1+j+1)=gO S (k+1+j):=by rw[gO,if_pos ⟨ae0,by rw[QZ,Xp,ZT]⟩]
      conv=>whnf
      repeat' (first| intro g| refine wi r1 ?_| refine wi r2 ?_| refine st ?_| refine br ?_ ?_<;>intro hc| rfl) <;>conv=>whnf
      have hs:k+1+(j+1)=k+1+j+1:=ae0
      exact aK.mk (w,j+1,A) om ⟨Kz,ae0,ae0,ae0,hAl,by rw[hs,NP,MA],by rw[hs,NP,ig],fun i hi=>ZS i ae0⟩ su
     ·have NP:gO S (k+1+j+1)=gO S (k+1+j)++[x']:=by
         rw[gO,if_neg (fun h=>ZT (by rw[←QZ,←Xp,h.2])),QZ]
      conv=>whnf
      repeat' (first| intro g| refine wi r1 ?_| refine wi r2 ?_| refine st ?_| refine br ?_ ?_<;>intro hc| rfl) <;>conv=>whnf
      have hs:k+1+(j+1)=k+1+j+1:=ae0
      have oa:w<A.length:=ae0
      have eJ: (A.map vi).set (w:Int).toNat (vi x')=(A.set w x').map vi:=by simp[ag0]
      refine aK.mk (w+1,j+1,A.set w x') om ⟨ae0,ae0,ae0,ae0,by simpa using hAl,?_,by rw[hs,NP,List.length_append,ig];rfl,fun i hi=> ?_⟩ (by(refine⟨?_,?_⟩ <;>repeat' (first| exact True.intro| refine And.intro ((by(conv=>whnf);rw[eJ])) ?_| refine ai ?_| refine And.intro ?_ ?_)))
      ·rw[hs,NP,agD,List.take_set_of_le (af6 _),MA];simp[oa]
      ·rw[List.getElem?_set_ne ae0];exact ZS i ae0
   · have ad8:k+1+j=S.length:=ae0
     rw[ad8] at MA ig
     have Vh: (jj S).length=w:=ig
     have Xq:overwrite (A.map vi) (0+(w:Int).toNat) (List.replicate (S.length - (w:Int).toNat) (V.int .i64 0))=(ec S).map vi:=by
      have e1: (w:Int).toNat=w:=afU
      unfold overwrite ec
      rw[e1,agK,←ahM,MA,Vh,ahE (by simp;omega)]
      simp[jj]
     have hol: (ec S).length=S.length:=by unfold ec;simp[Vh];omega
     rw[Vh]
     conv=>whnf
     repeat' (first| intro g| refine nd ⟨agI _,by rw[Xq];simp[hol];omega⟩ ?_| refine st ?_| refine br ?_ ?_<;>intro hc| rfl) <;>conv=>whnf
     rw[Xq]
     have hvp:=dq (ec S)
     exact dr
  ·have NP:gO S (k+1)=S.take (k+1):=by
     rw[gO,if_neg (fun h=>Mx (by rw[←QZ,←Xp,h.2])),il,QZ,agD,hx];rfl
   conv=>whnf
   repeat' (first| intro g| refine wi (av hx rfl) ?_| refine wi (av hy hw) ?_| refine st ?_| refine br ?_ ?_<;>intro hc| rfl) <;>conv=>whnf
   exact aK.mk (k+1) om ⟨ae0,ae0,NP⟩ su
 ·obtain rfl:k=S.length:=ae0
  have hs:jj S=S:=by unfold jj;rw[il];simp
  rw[same hs,hs]
  exact dr
end Go.AM
namespace Go.AM
theorem xL {l:List Int} (h:l.length< 1000000):Ev E 132 [.msl 1 (l.map vi) 0 l.length] ⟨.tuple [],[(0,(ed l).map vi)]⟩:=
 Ev.ext (by
  rw[Zd]
  have hl:l.length< 4611686018427387904:=ae0
  simp only[Ea,List.length_map,if_true,rX,if_pos hl])
theorem dx (l:List Int): (ed l).length=l.length:=by
 rw[←D9];simp
def Hv (l:List Int):List Int:=jj (ed l)
theorem NQ (l:List Int): (Hv l).length≤l.length:=by
 have:=vr (ed l) (ed l).length
 rw[dx] at this
 unfold Hv jj
 rw[dx];exact this
theorem Ju (S:List Int): (jj S).length≤S.length:=vr S S.length
theorem EE (S:List Int): (ec S).length=S.length:=by
 have:=Ju S
 simp[ec];omega
theorem NR (S:List Int):aF ((ec S).map vi) 0 (jj S).length=(jj S).map vi:=by
 unfold ec
 rw[agA]
 exact qB rfl
theorem vt (S:List Int):0+(jj S).length≤((ec S).map vi).length∧V.ak (aF ((ec S).map vi) 0 (jj S).length)=true:=
 ⟨by have:=Ju S;have:=EE S;simp;omega,fZ (dq _)⟩
theorem Ax {l:List Int} (h:l.length< 1000000):Ev E 510 [.msl 1 (l.map vi) 0 l.length] ⟨.sl 0 0 0 (Hv l).length,[(0,(ec (ed l)).map vi)]⟩:=by
 have h1:=xL h
 have h2:=yM (S:=ed l) (by rw[dx];exact h)
 rw[dx] at h2
 have hp:=dq l
 have Hi:=dq (ed l)
 have Hj:=dq (ec (ed l))
 refine Ev.aI rfl rfl rfl ?_
 conv=>whnf
 repeat' (first| intro g| refine nd ⟨rfl,rfl,rfl,by simp[dx],dq _⟩ ?_| refine nd (vt _) ?_| apply ca h1| apply ca h2| refine st ?_| refine br ?_ ?_<;>intro hc| rfl) <;>conv=>whnf
def pA (es:List Edge) (a b:Int) (i:Nat):List Int:=((es.take i).filter (cS a b)).map (·.id)
theorem NS (es:List Edge) (a b:Int) (i:Nat): (pA es a b i).length≤i:=by
 unfold pA
 rw[List.length_map]
 exact agm (List.length_filter_le _ _) (by simp;omega)
def bY (es:List Edge) (a b:Int):List Int:=Hv (pA es a b es.length)
theorem ZU {L:List V} {e:Edge} {i n g:Nat} {a b:Int} {A:List Int} {Q:aP→SS→Prop} (he:L[i]? =some e.v) (hn:L.length=n) (hi:i<n) (hb:n< 1000000) (ht:cS a b e=false)
  (hQ: ∀T' O',SS.Sub ⟨[(1,vi a),(2,vi b),(7,.sl 129 g 0 A.length),(10,.lit 4 L),(11,ar n),(12,ar (i+1))],[(129,⟨g,1,true,false,some (A.map vi)⟩)]⟩ ⟨T',O'⟩→Q .normal ⟨T',O'⟩):
  km E Jk ⟨[(1,vi a),(2,vi b),(7,.sl 129 g 0 A.length),(10,.lit 4 L),(11,ar n),(12,ar i)],[(129,⟨g,1,true,false,some (A.map vi)⟩)]⟩ Q:=by
 have kH: ¬ (e.left=a∧e.right=b∨e.left=b∧e.right=a):=by simpa [cS] using ht
 clear ht
 by_cases h1:e.left=a
 ·have h2: ¬e.right=b:=fun h=>kH (.inl ⟨h1,h⟩)
  by_cases h3:e.left=b
  ·have h4: ¬e.right=a:=fun h=>kH (.inr ⟨h3,h⟩)
   clear kH
   conv=>whnf
   repeat' (first| intro g| refine wi he ?_| refine st ?_| refine br ?_ ?_<;>intro hc| rfl) <;>conv=>whnf
   exact hQ _ _ su
  ·clear kH
   conv=>whnf
   repeat' (first| intro g| refine wi he ?_| refine st ?_| refine br ?_ ?_<;>intro hc| rfl) <;>conv=>whnf
   exact hQ _ _ su
 ·by_cases h3:e.left=b
  ·have h4: ¬e.right=a:=fun h=>kH (.inr ⟨h3,h⟩)
   clear kH
   conv=>whnf
   repeat' (first| intro g| refine wi he ?_| refine st ?_| refine br ?_ ?_<;>intro hc| rfl) <;>conv=>whnf
   exact hQ _ _ su
  ·clear kH
   conv=>whnf
   repeat' (first| intro g| refine wi he ?_| refine st ?_| refine br ?_ ?_<;>intro hc| rfl) <;>conv=>whnf
   exact hQ _ _ su
theorem Vi {L:List V} {e:Edge} {i n g:Nat} {a b:Int} {A:List Int} {Q:aP→SS→Prop} (he:L[i]? =some e.v) (hn:L.length=n) (hi:i<n) (hb:n< 1000000) (hA:A.length≤i) (ht:cS a b e=true)
  (hQ: ∀T' O' g',SS.Sub ⟨[(1,vi a),(2,vi b),(7,.sl 129 g' 0 (A++[e.id]).length),(10,.lit 4 L),(11,ar n),(12,ar (i+1))],[(129,⟨g',1,true,false,some ((A++[e.id]).map vi)⟩)]⟩ ⟨T',O'⟩→Q .normal ⟨T',O'⟩):
  km E Jk ⟨[(1,vi a),(2,vi b),(7,.sl 129 g 0 A.length),(10,.lit 4 L),(11,ar n),(12,ar i)],[(129,⟨g,1,true,false,some (A.map vi)⟩)]⟩ Q:=by
 rcases Bb ht with⟨h1,h2⟩ | ⟨h1,h2,h3,h4⟩ | ⟨h1,h3,h4⟩
 all_goals
  clear ht
  conv=>whnf
  repeat' (first| intro g| refine wi he ?_| refine st ?_| refine br ?_ ?_<;>intro hc| rfl) <;>conv=>whnf
  exact hQ _ _ _ su
theorem Hw {es:List Edge} (hl:es.length< 1000000) (a b:Int):Ev E 495 [.lit 4 (es.map Edge.v),vi a,vi b] ⟨.own 1 ((bY es a b).map vi),[]⟩:=by
 refine Ev.aI rfl rfl rfl ?_
 conv=>whnf
 repeat' (first| intro g| refine st ?_| refine br ?_ ?_<;>intro hc| rfl) <;>conv=>whnf
 refine aO.by (fun ((i,g):Nat×Nat)=> ⟨[(1,vi a),(2,vi b),(7,.sl 129 g 0 (pA es a b i).length),(10,.lit 4 (es.map Edge.v)),(11,ar es.length),(12,ar i)],[(129,⟨g,1,true,false,some ((pA es a b i).map vi)⟩)]⟩) (fun (i,_)=>i≤es.length) (fun (i,_)=>es.length - i) (0,g) ?_ afU ?_
 ·(refine⟨?_,?_⟩ <;>repeat' (first| exact True.intro| refine And.intro ((by(conv=>whnf);simp[pA])) ?_| refine ai ?_| refine And.intro ?_ ?_))
 rintro⟨i,g⟩ hi
 try dsimp only at hi
 have ZV:=NS es a b i
 by_cases bk:i<es.length
 ·obtain⟨e,he⟩: ∃e,es[i]? =some e:=⟨_,aL bk⟩
  have tL: (es.map Edge.v)[i]? =some e.v:=by simp[he]
  have CO: (es.map Edge.v).length=es.length:=afU
  cases ht:cS a b e with
  | false=>
    have hn:pA es a b (i+1)=pA es a b i:=by simp[pA,agD,he,ht]
    refine ZU tL CO bk hl ht fun T' O' hs=>aK.mk (i+1,g) om ae0 ?_
    simp only[hn]
    exact hs
  | true=>
    have hn:pA es a b (i+1)=pA es a b i++[e.id]:=by simp[pA,agD,he,ht]
    refine Vi tL CO bk hl ZV ht fun T' O' g' hs=>aK.mk (i+1,g') om ae0 ?_
    simp only[hn]
    exact hs
 ·obtain rfl:i=es.length:=ae0
  have ad9:=Ax (l:=pA es a b es.length) ae0
  have hp:=dq (pA es a b es.length)
  conv=>whnf
  repeat' (first| intro g| refine nd ⟨(vt (ed (pA es a b es.length))).1,dq _⟩ ?_| refine wi (NR (ed (pA es a b es.length))) ?_| apply ca ad9| refine st ?_| refine br ?_ ?_<;>intro hc| rfl) <;>conv=>whnf
end Go.AM
namespace Go.AM
theorem EF (x0:Int): ∃r:Int,Ev E 283 [vi x0] ⟨vi r,[]⟩:=by
 refine bp (Ev.bH rfl rfl rfl ?_)
 exact dr
noncomputable def NT (x0:Int):Int:=(EF x0).choose
theorem RQ (x0:Int):Ev E 283 [vi x0] ⟨vi (NT x0),[]⟩:=(EF x0).choose_spec
theorem EG (x0:Int): ∃r:Int,Ev E 285 [vi x0] ⟨.int .u64 r,[]⟩:=by
 refine bp (Ev.bH rfl rfl rfl ?_)
 exact dr
noncomputable def EH (x0:Int):Int:=(EG x0).choose
theorem RR (x0:Int):Ev E 285 [vi x0] ⟨.int .u64 (EH x0),[]⟩:=(EG x0).choose_spec
theorem wv (x0 x1:Int): ∃r:Int×Int,Ev E 284 [.int .u64 x0,.int .u64 x1] ⟨.agg [.int .u64 r.1,.int .u64 r.2],[]⟩:=by
 refine bp (Ev.bH rfl rfl rfl ?_)
 conv=>whnf
 repeat' (first| intro g| refine st ?_| refine br ?_ ?_<;>intro hc| rfl) <;>conv=>whnf
 all_goals exact⟨⟨_,_⟩,rfl⟩
noncomputable def tO (x0 x1:Int):Int×Int:=(wv x0 x1).choose
theorem Hx (x0 x1:Int):Ev E 284 [.int .u64 x0,.int .u64 x1] ⟨.agg [.int .u64 (tO x0 x1).1,.int .u64 (tO x0 x1).2],[]⟩:=(wv x0 x1).choose_spec
theorem wx (x0 x1 x2:Int): ∃r:Bool,Ev E 282 [vi x0,vi x1,vi x2] ⟨.bool r,[]⟩:=by
 refine bp (Ev.bH rfl rfl rfl ?_)
 exact dr
noncomputable def NU (x0 x1 x2:Int):Bool:=(wx x0 x1 x2).choose
theorem Hy (x0 x1 x2:Int):Ev E 282 [vi x0,vi x1,vi x2] ⟨.bool (NU x0 x1 x2),[]⟩:=(wx x0 x1 x2).choose_spec
theorem Jv (x0 x1 x2:Int): ∃r:Bool,Ev E 270 [.agg [vi x0,vi x1,vi x2]] ⟨.bool r,[]⟩:=by
 refine bp (Ev.bH rfl rfl rfl ?_)
 conv=>whnf
 repeat' (first| intro g| apply ca (Hy _ _ _) | refine st ?_| refine br ?_ ?_<;>intro hc| rfl) <;>conv=>whnf
 all_goals exact⟨_,rfl⟩
noncomputable def aea (x0 x1 x2:Int):Bool:=(Jv x0 x1 x2).choose
theorem Vj (x0 x1 x2:Int):Ev E 270 [.agg [vi x0,vi x1,vi x2]] ⟨.bool (aea x0 x1 x2),[]⟩:=(Jv x0 x1 x2).choose_spec
theorem wy (x0 x1 x2:Int): ∃r:Bool,Ev E 198 [.agg [vi x0,vi x1,vi x2]] ⟨.bool r,[]⟩:=by
 refine bp (Ev.bH rfl rfl rfl ?_)
 exact dr
noncomputable def EI (x0 x1 x2:Int):Bool:=(wy x0 x1 x2).choose
theorem yO (x0 x1 x2:Int):Ev E 198 [.agg [vi x0,vi x1,vi x2]] ⟨.bool (EI x0 x1 x2),[]⟩:=(wy x0 x1 x2).choose_spec
theorem qI (x y:Int):Ev E 199 [.agg [vi x,vi y]] ⟨.agg [vi x,vi y,vi 1],[]⟩:=by
 refine Ev.aI rfl rfl rfl ?_
 exact dr
theorem Bg (x0 x1 x2 x3:Int): ∃r:Int,Ev E 271 [vi x0,vi x1,vi x2,vi x3] ⟨vi r,[]⟩:=by
 refine bp (Ev.bH rfl rfl rfl ?_)
 conv=>whnf
 repeat' (first| intro g| apply ca (RQ _) | apply ca (RR _) | apply ca (Hx _ _) | refine st ?_| refine br ?_ ?_<;>intro hc| rfl) <;>conv=>whnf
 ·exact⟨_,rfl⟩
 rename_i g11
 generalize hu:tO (EH x0) (EH x1)=u
 generalize hv:tO (EH x2) (EH x3)=v
 obtain⟨u0,u1⟩:=u
 obtain⟨v0,v1⟩:=v
 generalize hs:IntKind.i64.wrap (NT x0*NT x1)=s
 refine aO.by (fun (k:Nat)=> ⟨[(9,vi s),(11,.ptr 192 g11 0 0),(12,.ptr 208 g 0 0),(13,ar k)],[(192,⟨g11,2,false,false,some [.agg [.int .u64 u0,.int .u64 u1]]⟩),(208,⟨g,2,false,false,some [.agg [.int .u64 v0,.int .u64 v1]]⟩)]⟩)
  (fun k=>k≤2) (fun k=>2 - k) 0 su om ?_
 intro k hk
 rcases(by omega:k=0∨k=1∨k=2) with rfl| rfl| rfl
 ·conv=>whnf
  repeat' (first| intro g| refine st ?_| refine br ?_ ?_<;>intro hc| rfl) <;>conv=>whnf
  all_goals first| exact⟨_,rfl⟩ | exact aK.mk 1 om om su
 ·conv=>whnf
  repeat' (first| intro g| refine st ?_| refine br ?_ ?_<;>intro hc| rfl) <;>conv=>whnf
  all_goals first| exact⟨_,rfl⟩ | exact aK.mk 2 om om su
 ·conv=>whnf
  repeat' (first| intro g| refine st ?_| refine br ?_ ?_<;>intro hc| rfl) <;>conv=>whnf
  exact⟨_,rfl⟩
noncomputable def Vk (x0 x1 x2 x3:Int):Int:=(Bg x0 x1 x2 x3).choose
theorem EJ (x0 x1 x2 x3:Int):Ev E 271 [vi x0,vi x1,vi x2,vi x3] ⟨vi (Vk x0 x1 x2 x3),[]⟩:=(Bg x0 x1 x2 x3).choose_spec
theorem Jw (x0 x1 x2 x3:Int): ∃r:Int,Ev E 238 [.agg [vi x0,vi x1],.agg [vi x2,vi x3]] ⟨vi r,[]⟩:=by
 refine bp (Ev.bH rfl rfl rfl ?_)
 conv=>whnf
 repeat' (first| intro g| apply ca (EJ _ _ _ _) | refine st ?_| refine br ?_ ?_<;>intro hc| rfl) <;>conv=>whnf
 all_goals exact⟨_,rfl⟩
noncomputable def aeb (x0 x1 x2 x3:Int):Int:=(Jw x0 x1 x2 x3).choose
theorem Hz (x0 x1 x2 x3:Int):Ev E 238 [.agg [vi x0,vi x1],.agg [vi x2,vi x3]] ⟨vi (aeb x0 x1 x2 x3),[]⟩:=(Jw x0 x1 x2 x3).choose_spec
theorem Bi (x0 x1 x2 x3 x4:Int): ∃r:Int,Ev E 236 [vi x0,.agg [vi x1,vi x2],.agg [vi x3,vi x4]] ⟨vi r,[]⟩:=by
 refine bp (Ev.bH rfl rfl rfl ?_)
 conv=>whnf
 repeat' (first| intro g| apply ca (Hz _ _ _ _) | refine st ?_| refine br ?_ ?_<;>intro hc| rfl) <;>conv=>whnf
 all_goals exact⟨_,rfl⟩
noncomputable def Vl (x0 x1 x2 x3 x4:Int):Int:=(Bi x0 x1 x2 x3 x4).choose
theorem NV (x0 x1 x2 x3 x4:Int):Ev E 236 [vi x0,.agg [vi x1,vi x2],.agg [vi x3,vi x4]] ⟨vi (Vl x0 x1 x2 x3 x4),[]⟩:=(Bi x0 x1 x2 x3 x4).choose_spec
theorem Bj (x0 x1 x2 x3 x4:Int): ∃r:Bool,Ev E 237 [.agg [vi x0,vi x1,vi x2],.agg [vi x3,vi x4]] ⟨.bool r,[]⟩:=by
 refine bp (Ev.bH rfl rfl rfl ?_)
 conv=>whnf
 repeat' (first| intro g| apply ca (Hz _ _ _ _) | refine st ?_| refine br ?_ ?_<;>intro hc| rfl) <;>conv=>whnf
 all_goals exact⟨_,rfl⟩
noncomputable def Vm (x0 x1 x2 x3 x4:Int):Bool:=(Bj x0 x1 x2 x3 x4).choose
theorem NW (x0 x1 x2 x3 x4:Int):Ev E 237 [.agg [vi x0,vi x1,vi x2],.agg [vi x3,vi x4]] ⟨.bool (Vm x0 x1 x2 x3 x4),[]⟩:=(Bj x0 x1 x2 x3 x4).choose_spec
theorem tP (x0 x1 x2 x3 x4 x5 x6 x7 x8:Int): ∃r:Int,Ev E 235 [.agg [vi x0,vi x1,vi x2],.agg [vi x3,vi x4,vi x5],.agg [vi x6,vi x7,vi x8]] ⟨vi r,[]⟩:=by
 refine bp (Ev.bH rfl rfl rfl ?_)
 conv=>whnf
 repeat' (first| intro g| apply ca (Vj _ _ _) | apply ca (EJ _ _ _ _) | refine st ?_| refine br ?_ ?_<;>intro hc| rfl) <;>conv=>whnf
 all_goals exact⟨_,rfl⟩
noncomputable def KJ (x0 x1 x2 x3 x4 x5 x6 x7 x8:Int):Int:=(tP x0 x1 x2 x3 x4 x5 x6 x7 x8).choose
theorem pB (x0 x1 x2 x3 x4 x5 x6 x7 x8:Int):Ev E 235 [.agg [vi x0,vi x1,vi x2],.agg [vi x3,vi x4,vi x5],.agg [vi x6,vi x7,vi x8]] ⟨vi (KJ x0 x1 x2 x3 x4 x5 x6 x7 x8),[]⟩:=(tP x0 x1 x2 x3 x4 x5 x6 x7 x8).choose_spec
theorem NX (x0 x1 x2 x3 x4 x5 x6 x7:Int): ∃r:Bool,Ev E 200 [.agg [vi x0,vi x1,vi x2],.agg [vi x3,vi x4,vi x5],.agg [vi x6,vi x7]] ⟨.bool r,[]⟩:=by
 refine bp (Ev.bH rfl rfl rfl ?_)
 conv=>whnf
 repeat' (first| intro g| apply ca (qI _ _) | apply ca (pB _ _ _ _ _ _ _ _ _) | apply ca (NV _ _ _ _ _) | refine st ?_| refine br ?_ ?_<;>intro hc| rfl) <;>conv=>whnf
 all_goals exact⟨_,rfl⟩
noncomputable def onF (x0 x1 x2 x3 x4 x5 x6 x7:Int):Bool:=(NX x0 x1 x2 x3 x4 x5 x6 x7).choose
theorem ZW (x0 x1 x2 x3 x4 x5 x6 x7:Int):Ev E 200 [.agg [vi x0,vi x1,vi x2],.agg [vi x3,vi x4,vi x5],.agg [vi x6,vi x7]] ⟨.bool (onF x0 x1 x2 x3 x4 x5 x6 x7),[]⟩:=(NX x0 x1 x2 x3 x4 x5 x6 x7).choose_spec
theorem wz (x0 x1 x2 x3 x4 x5 x6 x7:Int): ∃r:Int,Ev E 201 [.agg [vi x0,vi x1,vi x2],.agg [vi x3,vi x4,vi x5],.agg [vi x6,vi x7]] ⟨vi r,[]⟩:=by
 refine bp (Ev.bH rfl rfl rfl ?_)
 conv=>whnf
 repeat' (first| intro g| apply ca (qI _ _) | apply ca (NW _ _ _ _ _) | apply ca (pB _ _ _ _ _ _ _ _ _) | refine st ?_| refine br ?_ ?_<;>intro hc| rfl) <;>conv=>whnf
 all_goals exact⟨_,rfl⟩
noncomputable def EK (x0 x1 x2 x3 x4 x5 x6 x7:Int):Int:=(wz x0 x1 x2 x3 x4 x5 x6 x7).choose
theorem HA (x0 x1 x2 x3 x4 x5 x6 x7:Int):Ev E 201 [.agg [vi x0,vi x1,vi x2],.agg [vi x3,vi x4,vi x5],.agg [vi x6,vi x7]] ⟨vi (EK x0 x1 x2 x3 x4 x5 x6 x7),[]⟩:=(wz x0 x1 x2 x3 x4 x5 x6 x7).choose_spec
theorem yP (x0 x1 x2 x3 x4 x5 x6 x7 x8 x9 MB MC MD ME:Int): ∃r:Bool,Ev E 202 [.agg [vi x0,vi x1,vi x2,vi x3,vi x4,vi x5,vi x6],.agg [vi x7,vi x8,vi x9,vi MB,vi MC,vi MD,vi ME]] ⟨.bool r,[]⟩:=by
 refine bp (Ev.bH rfl rfl rfl ?_)
 conv=>whnf
 repeat' (first| intro g| apply ca (Hz _ _ _ _) | apply ca (pB _ _ _ _ _ _ _ _ _) | refine st ?_| refine br ?_ ?_<;>intro hc| rfl) <;>conv=>whnf
 all_goals exact⟨_,rfl⟩
noncomputable def RS (x0 x1 x2 x3 x4 x5 x6 x7 x8 x9 MB MC MD ME:Int):Bool:=(yP x0 x1 x2 x3 x4 x5 x6 x7 x8 x9 MB MC MD ME).choose
theorem Bk (x0 x1 x2 x3 x4 x5 x6 x7 x8 x9 MB MC MD ME:Int):Ev E 202 [.agg [vi x0,vi x1,vi x2,vi x3,vi x4,vi x5,vi x6],.agg [vi x7,vi x8,vi x9,vi MB,vi MC,vi MD,vi ME]] ⟨.bool (RS x0 x1 x2 x3 x4 x5 x6 x7 x8 x9 MB MC MD ME),[]⟩:=(yP x0 x1 x2 x3 x4 x5 x6 x7 x8 x9 MB MC MD ME).choose_spec
end Go.AM
namespace Go.AM
theorem sk1 {α β:Type} {P:α→β→Prop} (h: ∀a,∃b,P a b): ∃F:α→β,∀a,P a (F a):=⟨fun a=> (h a).choose,fun a=> (h a).choose_spec⟩
theorem sk2 {α α2 β:Type} {P:α→α2→β→Prop} (h: ∀a b,∃c,P a b c): ∃F:α→α2→β,∀a b,P a b (F a b):=⟨fun a b=> (h a b).choose,fun a b=> (h a b).choose_spec⟩
end Go.AM
namespace Go.AM
structure IL where
 l:List Int
 h:l.length< 1000000
def IL.v (x:IL):V:= .lit 1 (x.l.map vi)
theorem IL.aV (l:List IL):V.ak (l.map IL.v)=true:=AM.aV (fun x=>by simp only[IL.v,V.au]) l
section
variable {c:IL→IL→Int} {g:Nat}
theorem KL (hm:bC E g=[]) (lY: ∀a b:IL,Ev E g [a.v,b.v] ⟨vi (c a b),[]⟩) {l0:List IL} (hlen:l0.length< 1000000) {a b:Nat} (Q5:a≤b) (hb:b≤l0.length):
  ∃l':List IL,l'.length=l0.length∧(∀x ∈ l',x ∈ l0)∧Ev E 712 [.msl 1 (l0.map IL.v) 0 l0.length,ar a,ar b,.fn g []] ⟨.tuple [],[(0,l'.map IL.v)]⟩:=by
 have key:=Ev.bH (R:=fun r=> ∃l':List IL,l'.length=l0.length∧(∀x ∈ l',x ∈ l0)∧r=⟨.tuple [],[(0,l'.map IL.v)]⟩) Zm (Zn [.msl 1 (l0.map IL.v) 0 l0.length,ar a,ar b,.fn g []]) rfl ?_
 ·obtain⟨res,h1,l',h2,h3,rfl⟩:=key
  exact⟨l',h2,h3,h1⟩
 conv=>whnf
 repeat' (first| intro g| refine st ?_| refine br ?_ ?_<;>intro hc| rfl) <;>conv=>whnf
 refine aO.by (fun ((i,L):Nat×List IL)=> ⟨[(0,.sl 0 0 0 l0.length),(1,ar a),(2,ar b),(3,.fn g []),(8,ar (i+1))],[(0,⟨0,1,true,false,some (L.map IL.v)⟩)]⟩)
  (fun p=>a≤p.1∧p.1≤b∧p.2.length=l0.length∧ ∀x ∈ p.2,x ∈ l0) (fun p=>b - p.1) (a,l0) ?_ ⟨afU,Q5,rfl,fun x h=>h⟩ ?_
 ·exact su
 rintro⟨i,L⟩ ⟨ha,h1,h2,h3⟩
 dsimp only at ha h1 h2 h3
 conv=>whnf
 repeat' (first| intro g| refine nd ⟨rfl,rfl,IL.aV _⟩ ?_| refine st ?_| refine br ?_ ?_<;>intro hc| rfl) <;>conv=>whnf
 ·have GQ:i+1 <L.length:=ae0
  refine aO.by (fun ((j,L):Nat×List IL)=> ⟨[(0,.sl 0 0 0 l0.length),(1,ar a),(2,ar b),(3,.fn g []),(8,ar (i+1)),(9,ar j)],[(0,⟨0,1,true,false,some (L.map IL.v)⟩)]⟩)
   (fun p=>a≤p.1∧p.1≤i+1∧p.2.length=l0.length∧ ∀x ∈ p.2,x ∈ l0) (fun p=>p.1) (i+1,L) ?_ ⟨om,afU,h2,h3⟩ ?_
  ·exact su
  rintro⟨j,L'⟩ ⟨ka,k1,k2,k3⟩
  dsimp only at ka k1 k2 k3
  by_cases hja:a<j
  ·obtain⟨j,rfl⟩: ∃q,j=q+1:=⟨j - 1,ae0⟩
   obtain⟨x,hx⟩: ∃x,L'[j+1]? =some x:=⟨_,aL ae0⟩
   obtain⟨y,hy⟩: ∃x,L'[j]? =some x:=⟨_,aL ae0⟩
   have DX:IntKind.i64.wrap (((j+1:Nat):Int) - 1)=(j:Int):=wt
   have hy2: ((L'.map IL.v).set ((j+1:Nat):Int).toNat y.v)[(IntKind.i64.wrap (((j+1:Nat):Int) - 1)).toNat]? =some y.v:=by
    rw[DX];simp[hy]
   conv=>whnf
   repeat' (first| intro g| refine wi (av hx rfl) ?_| refine wi (av hy DX) ?_| refine wi hy2 ?_| refine sf (lY _ _) ?_| refine st ?_| refine br ?_ ?_<;>intro hc| rfl) <;>conv=>whnf
   ·refine aK.mk (j,(L'.set (j+1) y).set j x) om ⟨om,om,by simp[k2],fun z hz=> ?_⟩ ?_
    ·rcases agf hz with hz| rfl
     ·rcases agf hz with hz| rfl
      ·exact k3 z hz
      ·exact k3 _ (List.mem_of_getElem? hy)
     ·exact k3 _ (List.mem_of_getElem? hx)
    have e1:V.int .i64 (IntKind.i64.wrap (((j+1:Nat):Int) - 1))=ar j:=by rw[DX]
    have e2: (⟨0,1,true,false,some (((L'.map IL.v).set ((j+1:Nat):Int).toNat y.v).set (IntKind.i64.wrap (((j+1:Nat):Int) - 1)).toNat x.v)⟩:Obj)=⟨0,1,true,false,some (((L'.set (j+1) y).set j x).map IL.v)⟩:=by
     rw[DX,ag0,ag0];rfl
    (refine⟨?_,?_⟩ <;>repeat' (first| exact True.intro| refine And.intro (e1) ?_| refine And.intro (e2) ?_| refine ai ?_| refine And.intro ?_ ?_))
   ·refine aK.mk (i+1,L') om ⟨om,om,k2,k3⟩ su
  ·conv=>whnf
   repeat' (first| intro g| refine st ?_| refine br ?_ ?_<;>intro hc| rfl) <;>conv=>whnf
   refine aK.mk (i+1,L') om ⟨om,om,k2,k3⟩ su
 ·exact⟨L,h2,h3,rfl⟩
end
section
variable {c:Event→Event→Int} {g:Nat}
theorem tQ (hm:bC E g=[]) (lY: ∀a b:Event,Ev E g [a.v,b.v] ⟨vi (c a b),[]⟩) {l0:List Event} (hlen:l0.length< 1000000) {a b:Nat} (Q5:a≤b) (hb:b≤l0.length):
  ∃l':List Event,l'.length=l0.length∧(∀x ∈ l',x ∈ l0)∧Ev E 42 [.msl 5 (l0.map Event.v) 0 l0.length,ar a,ar b,.fn g []] ⟨.tuple [],[(0,l'.map Event.v)]⟩:=by
 have key:=Ev.bH (R:=fun r=> ∃l':List Event,l'.length=l0.length∧(∀x ∈ l',x ∈ l0)∧r=⟨.tuple [],[(0,l'.map Event.v)]⟩) ad5 (ad6 [.msl 5 (l0.map Event.v) 0 l0.length,ar a,ar b,.fn g []]) rfl ?_
 ·obtain⟨res,h1,l',h2,h3,rfl⟩:=key
  exact⟨l',h2,h3,h1⟩
 conv=>whnf
 repeat' (first| intro g| refine st ?_| refine br ?_ ?_<;>intro hc| rfl) <;>conv=>whnf
 refine aO.by (fun ((i,L):Nat×List Event)=> ⟨[(0,.sl 0 0 0 l0.length),(1,ar a),(2,ar b),(3,.fn g []),(8,ar (i+1))],[(0,⟨0,5,true,false,some (L.map Event.v)⟩)]⟩)
  (fun p=>a≤p.1∧p.1≤b∧p.2.length=l0.length∧ ∀x ∈ p.2,x ∈ l0) (fun p=>b - p.1) (a,l0) ?_ ⟨afU,Q5,rfl,fun x h=>h⟩ ?_
 ·exact su
 rintro⟨i,L⟩ ⟨ha,h1,h2,h3⟩
 dsimp only at ha h1 h2 h3
 conv=>whnf
 repeat' (first| intro g| refine nd ⟨rfl,rfl,Event.aV _⟩ ?_| refine st ?_| refine br ?_ ?_<;>intro hc| rfl) <;>conv=>whnf
 ·have GQ:i+1 <L.length:=ae0
  refine aO.by (fun ((j,L):Nat×List Event)=> ⟨[(0,.sl 0 0 0 l0.length),(1,ar a),(2,ar b),(3,.fn g []),(8,ar (i+1)),(9,ar j)],[(0,⟨0,5,true,false,some (L.map Event.v)⟩)]⟩)
   (fun p=>a≤p.1∧p.1≤i+1∧p.2.length=l0.length∧ ∀x ∈ p.2,x ∈ l0) (fun p=>p.1) (i+1,L) ?_ ⟨om,afU,h2,h3⟩ ?_
  ·exact su
  rintro⟨j,L'⟩ ⟨ka,k1,k2,k3⟩
  dsimp only at ka k1 k2 k3
  by_cases hja:a<j
  ·obtain⟨j,rfl⟩: ∃q,j=q+1:=⟨j - 1,ae0⟩
   obtain⟨x,hx⟩: ∃x,L'[j+1]? =some x:=⟨_,aL ae0⟩
   obtain⟨y,hy⟩: ∃x,L'[j]? =some x:=⟨_,aL ae0⟩
   have DX:IntKind.i64.wrap (((j+1:Nat):Int) - 1)=(j:Int):=wt
   have hy2: ((L'.map Event.v).set ((j+1:Nat):Int).toNat y.v)[(IntKind.i64.wrap (((j+1:Nat):Int) - 1)).toNat]? =some y.v:=by
    rw[DX];simp[hy]
   conv=>whnf
   repeat' (first| intro g| refine wi (av hx rfl) ?_| refine wi (av hy DX) ?_| refine wi hy2 ?_| refine sf (lY _ _) ?_| refine st ?_| refine br ?_ ?_<;>intro hc| rfl) <;>conv=>whnf
   ·refine aK.mk (j,(L'.set (j+1) y).set j x) om ⟨om,om,by simp[k2],fun z hz=> ?_⟩ ?_
    ·rcases agf hz with hz| rfl
     ·rcases agf hz with hz| rfl
      ·exact k3 z hz
      ·exact k3 _ (List.mem_of_getElem? hy)
     ·exact k3 _ (List.mem_of_getElem? hx)
    have e1:V.int .i64 (IntKind.i64.wrap (((j+1:Nat):Int) - 1))=ar j:=by rw[DX]
    have e2: (⟨0,5,true,false,some (((L'.map Event.v).set ((j+1:Nat):Int).toNat y.v).set (IntKind.i64.wrap (((j+1:Nat):Int) - 1)).toNat x.v)⟩:Obj)=⟨0,5,true,false,some (((L'.set (j+1) y).set j x).map Event.v)⟩:=by
     rw[DX,ag0,ag0];rfl
    (refine⟨?_,?_⟩ <;>repeat' (first| exact True.intro| refine And.intro (e1) ?_| refine And.intro (e2) ?_| refine ai ?_| refine And.intro ?_ ?_))
   ·refine aK.mk (i+1,L') om ⟨om,om,k2,k3⟩ su
  ·conv=>whnf
   repeat' (first| intro g| refine st ?_| refine br ?_ ?_<;>intro hc| rfl) <;>conv=>whnf
   refine aK.mk (i+1,L') om ⟨om,om,k2,k3⟩ su
 ·exact⟨L,h2,h3,rfl⟩
end
theorem KM (a b:IL): ∃r:Int,Ev E 709 [a.v,b.v] ⟨vi r,[]⟩:=bp (g:=vi) (Ev.bH rfl rfl rfl (by
 obtain⟨a,ha⟩:=a
 obtain⟨b,hb⟩:=b
 unfold IL.v
 dsimp only
 conv=>whnf
 repeat' (first| intro g| refine st ?_| refine br ?_ ?_<;>intro hc| rfl) <;>conv=>whnf
 refine aO.by (fun i:Nat=> ⟨[(0,.lit 1 (a.map vi)),(1,.lit 1 (b.map vi)),(9,.lit 1 (a.map vi)),(10,ar a.length),(11,ar i)],[]⟩) (fun i=>i≤a.length) (fun i=>a.length - i) 0 su ae0 ?_
 intro i hi
 by_cases bk:i<a.length
 ·obtain⟨x,hx⟩: ∃x,a[i]? =some x:=⟨_,aL bk⟩
  by_cases vu:i<b.length
  ·obtain⟨y,hy⟩: ∃x,b[i]? =some x:=⟨_,aL vu⟩
   have hc:=eD x y
   conv=>whnf
   repeat' (first| intro g| refine wi (av hx rfl) ?_| refine wi (av hy rfl) ?_| apply ca hc| refine st ?_| refine br ?_ ?_<;>intro hc| rfl) <;>conv=>whnf
   all_goals first| exact⟨_,rfl⟩ | exact aK.mk (i+1) om ae0 su
  ·exact dr
 ·conv=>whnf
  repeat' (first| intro g| refine st ?_| refine br ?_ ?_<;>intro hc| rfl) <;>conv=>whnf
  all_goals exact⟨_,rfl⟩))
theorem bitsLen: ∀n,n< 13→ ∃k:Int,Ev E 40 [.int .u64 (n:Nat)] ⟨vi k,[]⟩:=by
 have key: (List.range 13).all (fun n=>match call E 100 40 [.int .u64 (n:Nat)] with
  | some ⟨.int .i64 k,[]⟩=>true
  | _=>false)=true:=afW
 intro n hn
 have h:=af5.1 key n (by simpa using hn)
 split at h
 ·rename_i k hk
  exact⟨k,⟨100,hk⟩⟩
 ·simp at h
theorem KN {l:List IL} (h12:l.length≤12): ∃l':List IL,l'.length=l.length∧(∀x ∈ l',x ∈ l)∧Ev E 708 [.msl 1 (l.map IL.v) 0 l.length,.fn 709 []] ⟨.tuple [],[(0,l'.map IL.v)]⟩:=by
 obtain⟨c,lY⟩:=sk2 KM
 have hm:bC E 709=[]:=rfl
 obtain⟨l',h1,h2,h3⟩:=KL hm lY (l0:=l) ae0 (agI _) (af6 _)
 refine⟨l',h1,h2,?_⟩
 obtain⟨k,hb⟩:=bitsLen l.length ae0
 have e0:IntKind.i64.wrap ((l.length:Int) - 0)=l.length:=wt
 have h4:Ev E 711 [.msl 1 (l.map IL.v) 0 l.length,vi 0,ar l.length,vi k,.fn 709 []] ⟨.tuple [],[(0,l'.map IL.v)]⟩:=by
  refine Ev.aI rfl rfl rfl ?_
  conv=>whnf
  repeat' (first| intro g| refine st ?_| refine br ?_ ?_<;>intro hc| rfl) <;>conv=>whnf
  refine aO.by (fun (_:Unit)=> ⟨[(0,.sl 0 0 0 l.length),(1,vi 0),(2,ar l.length),(3,vi k),(4,.fn 709 []),(10,.bool true),(11,.bool true)],[(0,⟨0,1,true,false,some (l.map IL.v)⟩)]⟩)
   (fun _=>True) (fun _=>0) () su trivial ?_
  rintro _ _
  conv=>whnf
  repeat' (first| intro g| refine nd ⟨rfl,rfl,rfl,afU,IL.aV _⟩ ?_| refine nd ⟨rfl,rfl,IL.aV _⟩ ?_| apply ca h3| refine st ?_| refine br ?_ ?_<;>intro hc| rfl) <;>conv=>whnf
 have hw:IntKind.u64.wrap (l.length:Int)=l.length:=by
  simp[IntKind.wrap,IntKind.bits,IntKind.signed];omega
 have kI:Ev E 40 [.int .u64 (IntKind.u64.wrap (l.length:Int))] ⟨vi k,[]⟩:=by rw[hw];exact hb
 refine Ev.aI rfl rfl rfl ?_
 conv=>whnf
 repeat' (first| intro g| refine nd ⟨rfl,rfl,rfl,afU,IL.aV _⟩ ?_| refine nd ⟨rfl,rfl,IL.aV _⟩ ?_| apply ca kI| apply ca h4| refine st ?_| refine br ?_ ?_<;>intro hc| rfl) <;>conv=>whnf
end Go.AM
namespace Go.AM
theorem HB: ∀ {es:List V},es.all iL=true→es.all V.isTuple=true
 | [],_=>rfl
 | e::es,h=>by
   simp only[agj,af2] at h
   obtain⟨k,v,rfl,_⟩:=Jo h.1
   simp only[agj,HB h.2,agB]
   rfl
def Vn (n:Nat) (res:eL):Prop:= ∃gs:List (List Int),gs.length≤n∧(∀g ∈ gs,g.length≤n)∧res=⟨.own 1 (gs.map fun g=> .lit 1 (g.map vi)),[]⟩
theorem T2 {n:Nat} (hn:n< 1000000): ∀H:List (Nat×List Int),(∀p ∈ H,p.2.length≤n)→ ∃ls:List IL,H.map KG=ls.map IL.v∧ls.length=H.length∧ ∀x ∈ ls,x.l.length≤n
 | [],_=> ⟨[],rfl,rfl,afU⟩
 | p::H,h=>by
   obtain⟨ls,h1,h2,h3⟩:=T2 hn H (fun q hq=>h q (by simp[hq]))
   have hp:=h p afU
   refine⟨⟨p.2,ae0⟩::ls,by rw[List.map_cons,List.map_cons,h1];rfl,by simp[h2],fun x hx=> ?_⟩
   rcases af7.1 hx with rfl| hx
   ·exact hp
   ·exact h3 x hx
theorem KO {ws:List Way} (hw:ws.length≤12) (hl: ∀w ∈ ws,0 <w.line.length∧w.line.length< 1000): ∃res,Ev E 704 [.lit 8 (ws.map Way.v)] res∧Vn 12 res:=by
 refine Ev.bH rfl rfl rfl ?_
 conv=>whnf
 repeat' (first| intro g| refine st ?_| refine br ?_ ?_<;>intro hc| rfl) <;>conv=>whnf
 rename_i KP HC
 refine aO.by (fun ((i,es):Nat×List V)=> ⟨[(0,.lit 8 (ws.map Way.v)),(2,.sl 49 KP 0 0),(4,.bfn 706 [.agg [.mp 304 HC]]),(5,.bfn 707 [.agg [.mp 304 HC]]),(24,.lit 8 (ws.map Way.v)),(25,ar ws.length),(26,ar i)],[(49,⟨KP,1,true,false,some []⟩),(304,⟨HC,0,false,false,some es⟩)]⟩)
  (fun (i,es)=>i≤ws.length∧UF (i+1) es) (fun (i,_)=>ws.length - i) (0,[]) su ⟨afU,UF.nil⟩ ?_
 rintro⟨i,es⟩ ⟨hi,hu⟩
 try dsimp only at hi hu
 by_cases bk:i<ws.length
 ·obtain⟨w,hx⟩: ∃x,ws[i]? =some x:=⟨_,aL bk⟩
  obtain⟨p,q,hp⟩:=Xo.ex (hl w (List.mem_of_getElem? hx)).1 (hl w (List.mem_of_getElem? hx)).2
  have hs:=yK hp
  have ht:=HB hu.se
  obtain⟨es',hj,Bl⟩:=hu.join ae0 (yJ p w.level) (yJ q w.level)
  conv=>whnf
  repeat' (first| intro g| refine wi (av hx rfl) ?_| refine wi hj ?_| apply ca hs| refine st ?_| refine br ?_ ?_<;>intro hc| rfl) <;>conv=>whnf
  exact aK.mk (i+1,es') om ⟨ae0,Bl⟩ su
 obtain rfl:i=ws.length:=ae0
 clear bk hi
 conv=>whnf
 repeat' (first| intro g| refine st ?_| refine br ?_ ?_<;>intro hc| rfl) <;>conv=>whnf
 obtain⟨NY,hg7⟩: ∃x,x=g:=⟨_,rfl⟩
 rw[←hg7];clear hg7
 refine aO.by (fun ((i,es,ae,G,KP):Nat×List V×List V×List (Nat×List Int) ×Nat)=> ⟨[(0,.lit 8 (ws.map Way.v)),(2,.sl 49 KP 0 G.length),(5,.bfn 707 [.agg [.mp 304 HC]]),(9,.mp 720 NY),(45,.lit 8 (ws.map Way.v)),(46,ar ws.length),(47,ar i)],
   (49,⟨KP,1,true,false,some (ee 0 G)⟩):: (304,⟨HC,0,false,false,some es⟩):: (720,⟨NY,0,false,false,some ae⟩)::rC 0 G⟩)
  (fun (i,es,ae,G,_)=>i≤ws.length∧UF (ws.length+1) es∧SI G.length ae∧G.length≤i∧ ∀p ∈ G,p.2.length≤i) (fun (i,_)=>ws.length - i) (0,es,[],[],KP) su ⟨afU,hu,by simp[SI],afU,afU⟩ ?_
 rintro⟨i,es,ae,G,KP⟩ ⟨hi,hu,ha,hG,ZX⟩
 try dsimp only at hi hu ha hG ZX
 by_cases bk:i<ws.length
 ·obtain⟨w,hx⟩: ∃x,ws[i]? =some x:=⟨_,aL bk⟩
  obtain⟨p,q,hp⟩:=Xo.ex (hl w (List.mem_of_getElem? hx)).1 (hl w (List.mem_of_getElem? hx)).2
  have hs:=yK hp
  have ht:=HB hu.se
  obtain⟨_,es',hr,RT,Bl⟩:=hu.root ae0 (yJ p w.level)
  obtain⟨ra,rb,rc,rfl⟩:=CE RT
  rcases Nx RT ha with⟨j,hj,hg⟩ | hg
  ·obtain⟨⟨gj,ids⟩,hGj⟩: ∃x,G[j]? =some x:=⟨_,aL hj⟩
   have dX: (ee 0 G)[((j:Nat):Int).toNat]? =some (.sl (16001488+16*(0+j)) gj 0 ids.length):=qG hGj
   have dg:lk (rC 0 G) (16001488+16*(0+j))=some ⟨gj,1,true,false,some (ids.map vi)⟩:=jX hGj
   have hlen:=ZX _ (List.mem_of_getElem? hGj)
   dsimp only at hlen
   conv=>whnf
   repeat' (first| intro g| refine wi (av hx rfl) ?_| refine wi hr ?_| refine wi hg ?_| refine wi dX ?_| apply ca hs| refine st ?_| refine br ?_ ?_<;>intro hc| rfl| refine NM (by(repeat' (first| exact fi| assumption| refine(yL afV).trans ?_| refine(pt afV).trans ?_| refine(mQ afV).trans ?_))) ?_) <;>conv=>whnf
   refine aK.mk (i+1,es',ae,G.set j (g,ids++[w.id]),KP) om ⟨ae0,Bl,by simpa using ha,by simp;omega,?_⟩ ⟨by(repeat' (first| exact True.intro| refine ai ?_| refine And.intro ?_ ?_)),?_⟩
   ·intro p hp
    rcases agf hp with h| rfl
    ·have:=ZX p h;omega
    ·simp;omega
   ·refine gK ?_ (gK ?_ (gK ?_ (pw fun k p hk=> ?_)))
    ·show lk _ 49=some (⟨KP,1,true,false,some (ee 0 (G.set j (g,ids++[w.id])))⟩:Obj)
     rw[vl,List.length_append];exact fi
    ·show lk _ 304=some (⟨HC,0,false,false,some es'⟩:Obj)
     repeat' (first| exact fi| refine(yL afV).trans ?_| refine(pt afV).trans ?_)
    ·show lk _ 720=some (⟨NY,0,false,false,some ae⟩:Obj)
     repeat' (first| exact fi| refine(yL afV).trans ?_| refine(pt afV).trans ?_)
    ·by_cases RO:k=j
     ·   subst RO
         rw[List.getElem?_set_self ae0] at hk
         injection hk with hk;subst hk
         refine(mQ afV).trans ?_
         show _=some (⟨g,1,true,false,some ((ids++[w.id]).map vi)⟩:Obj)
         rw[agA];exact fi
     ·   rw[List.getElem?_set_ne (ag8 RO)] at hk
         repeat' (first| exact jX hk| refine(mQ afV).trans ?_| refine(NL ae0).trans ?_)
  ·obtain⟨Ve,fj,ha'⟩:=Ny RT (Nat.lt_succ_self G.length) (ha.mono (Nat.le_succ _))
   have dX: (ee 0 G++[V.nils])[((G.length:Nat):Int).toNat]? =some .nils:=by
    rw[ahf,agU (by rw[kS];exact af6 _),kS,Nat.sub_self];rfl
   have hdl:=kS 0 G
   conv=>whnf
   repeat' (first| intro g| refine wi (av hx rfl) ?_| refine wi hr ?_| refine wi hg ?_| refine wi fj ?_| refine wi dX ?_| apply ca hs| refine st ?_| refine br ?_ ?_<;>intro hc| rfl| refine NM (by(repeat' (first| exact fi| assumption| refine(yL afV).trans ?_| refine(pt afV).trans ?_| refine(mQ afV).trans ?_))) ?_) <;>conv=>whnf
   rename_i gn gb
   have CP: (ee 0 G++[V.nils]).set ((G.length:Nat):Int).toNat (V.sl (16001488+16*((G.length:Nat):Int).toNat) g 0 1)=ee 0 (G++[(g,[w.id])]):=by
    rw[ahf,A9,List.set_append_right _ _ (by rw[kS];exact af6 _),kS,Nat.sub_self]
    simp[Hr]
   refine aK.mk (i+1,es',Ve,G++[(g,[w.id])],gn) om ⟨ae0,Bl,by simpa using ha',by simp;omega,?_⟩ ⟨by(repeat' (first| exact True.intro| refine ai ?_| refine And.intro ?_ ?_)),?_⟩
   ·intro p hp
    rcases agd.1 hp with h| h
    ·have:=ZX p h;omega
    ·rw[agW.1 h];simp
   ·refine gK ?_ (gK ?_ (gK ?_ (pw fun k p hk=> ?_)))
    ·show lk _ 49=some (⟨gn,1,true,false,some (ee 0 (G++[(g,[w.id])]))⟩:Obj)
     rw[CP];exact fi
    ·show lk _ 304=some (⟨HC,0,false,false,some es'⟩:Obj)
     repeat' (first| exact fi| refine(yL afV).trans ?_| refine(pt afV).trans ?_)
    ·show lk _ 720=some (⟨NY,0,false,false,some Ve⟩:Obj)
     repeat' (first| exact fi| refine(yL afV).trans ?_| refine(pt afV).trans ?_)
    ·by_cases Q6:k<G.length
     ·   rw[agM ae0] at hk
         repeat' (first| exact jX hk| refine(mQ afV).trans ?_| refine(NL ae0).trans ?_)
     ·   obtain rfl:k=G.length:=by
          have:=(af0.1 hk).1
          simp at this;omega
         obtain rfl:p=(g,[w.id]):=by
          rw[agU ae0] at hk
          simpa using hk.symm
         rw[show 16001488+16*(0+G.length)=16001488+16*((G.length:Nat):Int).toNat from by simp]
         repeat' (first| exact fi| refine(mQ afV).trans ?_)
 obtain rfl:i=ws.length:=ae0
 clear bk hi
 conv=>whnf
 repeat' (first| intro g| refine st ?_| refine br ?_ ?_<;>intro hc| rfl) <;>conv=>whnf
 clear hu ha
 refine aO.by (fun ((i,H):Nat×List (Nat×List Int))=> ⟨[(2,.sl 49 KP 0 G.length),(95,.sl 49 KP 0 G.length),(96,ar G.length),(97,ar i)],(49,⟨KP,1,true,false,some (ee 0 H)⟩)::rC 0 H⟩)
  (fun (i,H)=>i≤G.length∧H.length=G.length∧ ∀p ∈ H,p.2.length≤ws.length) (fun (i,_)=>G.length - i) (0,G) ⟨by(repeat' (first| exact True.intro| refine ai ?_| refine And.intro ?_ ?_)),gK (by exact fi) (pw fun k p hk=>by repeat' (first| exact jX hk| refine(mQ afV).trans ?_))⟩ ⟨afU,rfl,ZX⟩ ?_
 clear NY ae es
 rintro⟨i,H⟩ ⟨hi,hH,hHl⟩
 try dsimp only at hi hH hHl
 by_cases bk:i<G.length
 ·obtain⟨⟨gj,ids⟩,hHj⟩: ∃x,H[i]? =some x:=⟨_,aL ae0⟩
  have dX: (ee 0 H)[((i:Nat):Int).toNat]? =some (.sl (16001488+16*(0+i)) gj 0 ids.length):=qG hHj
  have dg:lk (rC 0 H) (16001488+16*(0+i))=some ⟨gj,1,true,false,some (ids.map vi)⟩:=jX hHj
  have hlen:=hHl _ (List.mem_of_getElem? hHj)
  dsimp only at hlen
  have MF:=xL (l:=ids) ae0
  conv=>whnf
  repeat' (first| intro g| refine wi dX ?_| apply ca MF| refine st ?_| refine br ?_ ?_<;>intro hc| rfl| refine NM (by(repeat' (first| exact fi| assumption| refine(yL afV).trans ?_| refine(pt afV).trans ?_| refine(mQ afV).trans ?_))) ?_) <;>conv=>whnf
  refine aK.mk (i+1,H.set i (gj,ed ids)) om ⟨ae0,by simpa using hH,fun p hp=> ?_⟩ ⟨by(repeat' (first| exact True.intro| refine ai ?_| refine And.intro ?_ ?_)),?_⟩
  ·rcases agf hp with h| rfl
   ·exact hHl p h
   ·rw[dx];exact hlen
  ·have mm:ee 0 (H.set i (gj,ed ids))=ee 0 H:=by
    rw[vl,dx]
    exact tM (qG hHj)
   refine gK ?_ (pw fun k p hk=> ?_)
   ·show lk _ 49=some (⟨KP,1,true,false,some (ee 0 (H.set i (gj,ed ids)))⟩:Obj)
    rw[mm]
    repeat' (first| exact fi| refine(pt afV).trans ?_)
   ·by_cases Q6:k=i
    ·subst Q6
     rw[List.getElem?_set_self ae0] at hk
     injection hk with hk;subst hk
     exact fi
    ·rw[List.getElem?_set_ne (ag8 Q6)] at hk
     repeat' (first| exact jX hk| refine(mQ afV).trans ?_| refine(NL ae0).trans ?_)
 obtain rfl:i=G.length:=ae0
 obtain⟨ls,e1,e2,e3⟩:=T2 (n:=ws.length) ae0 H hHl
 rw[←hH]
 conv=>whnf
 repeat' (first| intro g| refine st ?_| refine br ?_ ?_<;>intro hc| rfl) <;>conv=>whnf
 refine NO ?_
 intro r w
 rw[e1,←e2]
 obtain⟨l',k1,k2,k3⟩:=KN (l:=ls) ae0
 have kp:V.ak (l'.map IL.v)=true:=IL.aV _
 conv=>whnf
 repeat' (first| intro g| refine nd ⟨rfl,rfl,afU,IL.aV _⟩ ?_| refine nd ⟨rfl,rfl,IL.aV _⟩ ?_| refine wi (iW (by rw[List.length_map,k1])) ?_| apply ca k3| refine st ?_| refine br ?_ ?_<;>intro hc| rfl) <;>conv=>whnf
 refine⟨l'.map IL.l,by rw[List.length_map];omega,fun y hy=> ?_,?_⟩
 ·obtain⟨x,hx,rfl⟩:=agk.1 hy
  have:=e3 x (k2 x hx)
  omega
 ·rw[List.map_map];rfl
end Go.AM
