/- Texts of the proof. -/
import Derived.Test.YtdldmebldkgcnaaGreatGab
import Derived.KernelRfl
set_option maxRecDepth 20000
set_option maxHeartbeats 8000000
set_option linter.unusedSimpArgs false
set_option linter.unusedVariables false
namespace Go.AM
def findF (fs:List aW) (id:Int):Option Nat:=fs.findIdx? fun f=>decide (f.id=id)
theorem ej {fs:List aW} {id:Int} {i:Nat} (h:findF fs id=some i): ∃f,fs[i]? =some f∧f.id=id∧ ∀j g,j<i→fs[j]? =some g→g.id≠id:=by
 unfold findF at h
 rw[ajM] at h
 obtain⟨hl,h1,h2⟩:=h
 refine⟨fs[i],aiW hl,by simpa using h1,fun j g hj hg=> ?_⟩
 have E2:j<fs.length:=abV
 rw[aiW E2] at hg
 injection hg with hg
 subst hg
 simpa using h2 j hj
theorem J1 {fs:List aW} {id:Int} (h:findF fs id=none): ∀ (j:Nat) g,fs[j]? =some g→g.id≠id:=by
 unfold findF at h
 rw[akP] at h
 intro j g hg
 simpa using h g (List.mem_of_getElem? hg)
def E3:Bool→Nat→aW→V
 | true,i,f=> .epk i 5 f.v 0
 | false,_,f=> .eptr f.v 0
def bK (k:Bool) (fs:List aW):Nat→List V
 | 0=> []
 | n+1=>match fs[n]? with
   | some f=>if findF (fs.take n) f.id=none then bK k fs n++[.tuple [vi f.id,E3 k n f]] else bK k fs n
   | none=>bK k fs n
theorem ye (x:V): ∀ (es es':List V),cp x es=some none→cp x (es++es')=cp x es'
 | [],_,_=>rfl
 | e::es,es',h=>by
   unfold cp at h
   split at h
   ·simp at*
   ·rename_i k' v mY he
    injection he with h1 h2
    subst h1;subst h2
    split at h
    ·simp at h
    ·rename_i hk
     simp only[ajn,cp,hk]
     exact ye x _ es' h
    ·simp at h
   ·simp at h
theorem vg (x v:V): ∀ (es es':List V),cp x es=some (some v)→cp x (es++es')=some (some v)
 | [],_,h=>by simp[cp] at h
 | e::es,es',h=>by
   unfold cp at h
   split at h
   ·simp at*
   ·rename_i k' v' mY he
    injection he with h1 h2
    subst h1;subst h2
    split at h
    ·rename_i hk
     simp only[ajn,cp,hk];exact h
    ·rename_i hk
     simp only[ajn,cp,hk]
     exact vg x v _ es' h
    ·simp at h
   ·simp at h
theorem yf (x v:V): ∀ (es:List V),cp x es=some none→jn x v es=some (es++[.tuple [x,v]])
 | [],_=>rfl
 | e::es,h=>by
   unfold cp at h
   split at h
   ·simp at*
   ·rename_i k' v' mY he
    injection he with h1 h2
    subst h1;subst h2
    split at h
    ·simp at h
    ·rename_i hk
     simp only[ajn,jn,hk,yf x v _ h,ai4]
    ·simp at h
   ·simp at h
def oo (k:Bool) (fs:List aW) (n:Nat) (id:Int):Option V:=match findF (fs.take n) id with
 | some i=> (fs[i]?).map (E3 k i)
 | none=>none
theorem yY {fs:List aW} {n:Nat} {f:aW} (hf:fs[n]? =some f) (id:Int):findF (fs.take (n+1)) id=(match findF (fs.take n) id with| some i=>some i| none=>if f.id=id then some n else none):=by
 rw[ajt,hf]
 have hl: (fs.take n).length=n:=by have:=(aiS.1 hf).1;simp;omega
 simp only[findF,Option.toList,List.findIdx?_append,hl]
 cases List.findIdx? (fun f=>decide (f.id=id)) (fs.take n) with
 | some i=>rfl
 | none=>
   by_cases h:f.id=id<;>simp[List.findIdx?_cons,h]
theorem rV (k:Bool) (fs:List aW) (id:Int): ∀n,cp (vi id) (bK k fs n)=some (oo k fs n id)
 | 0=>by simp[bK,cp,oo,findF]
 | n+1=>  by
   have ih:=rV k fs id n
   unfold bK
   cases hf:fs[n]? with
   | none=>
     have:fs.take (n+1)=fs.take n:=by rw[ajt,hf];simp
     simp only[ih,oo,this]
   | some f=>
     have hs:=yY hf id
     by_cases hn:findF (fs.take n) f.id=none
     ·simp only[hn,if_true]
      cases hl:findF (fs.take n) id with
      | none=>
        have hi:cp (vi id) (bK k fs n)=some none:=by rw[ih];simp[oo,hl]
        rw[ye _ _ _ hi]
        rw[hl] at hs
        by_cases he:f.id=id
        ·subst he
         simp only[if_true] at hs
         simp only[oo,hs,hf,ai4]
         simp[cp,ya,vi]
        ·simp only[if_neg he] at hs
         have lD: ¬id=f.id:=fun h=>he h.symm
         have hb: (id==f.id)=false:=by simpa using lD
         simp[oo,hs,cp,ya,vi,hb]
      | some i=>
        rw[hl] at hs
        obtain⟨g,hg,_⟩:=ej hl
        have Cw:i<n:=by have:=(aiS.1 hg).1;simp at this;omega
        have hg':fs[i]? =some g:=by rw[ajl] at hg;simpa [Cw] using hg
        have hi:cp (vi id) (bK k fs n)=some (some (E3 k i g)):=by rw[ih];simp[oo,hl,hg']
        rw[vg _ _ _ _ hi]
        simp[oo,hs,hg']
     ·simp only[hn,if_false]
      cases hl:findF (fs.take n) id with
      | none=>
        rw[hl] at hs
        by_cases he:f.id=id
        ·subst he;exact absurd hl hn
        ·simp only[if_neg he] at hs
         rw[ih];simp[oo,hl,hs]
      | some i=>
        rw[hl] at hs
        rw[ih];simp[oo,hl,hs]
theorem GX (k:Bool) {fs:List aW} {n:Nat} {f:aW} (hf:fs[n]? =some f) (h:findF (fs.take n) f.id=none):jn (vi f.id) (E3 k n f) (bK k fs n)=some (bK k fs (n+1)):=by
 have h1:cp (vi f.id) (bK k fs n)=some none:=by rw[rV];simp[oo,h]
 rw[yf _ _ _ h1]
 simp[bK,hf,h]
theorem Df (k:Bool) {fs:List aW} {n:Nat} {f:aW} (hf:fs[n]? =some f) (h:findF (fs.take n) f.id≠none):bK k fs (n+1)=bK k fs n:=by
 simp[bK,hf,h]
theorem xa {k:Bool} {fs:List aW} {n:Nat} {id:Int} (z:V) (h:findF (fs.take n) id=none):cW false z (bK k fs n) (vi id)= .done z:=by
 simp[cW,rV,oo,h]
theorem xb {k:Bool} {fs:List aW} {n:Nat} {id:Int} (z:V) {i:Nat} {f:aW} (h:findF (fs.take n) id=some i) (hf:fs[i]? =some f):cW false z (bK k fs n) (vi id)= .done (E3 k i f):=by
 simp[cW,rV,oo,h,hf]
theorem Nv (k:Bool) (i:Nat) (f:aW): (E3 k i f).aw=true:=by cases k<;>rfl
theorem iZ (k:Bool) (fs:List aW): ∀n,V.al (bK k fs n)=true
 | 0=>rfl
 | n+1=>by
   unfold bK
   split
   ·split
    ·exact bC (iZ k fs n) (by simp[V.al,V.aw,Nv,vi])
    ·exact iZ k fs n
   ·exact iZ k fs n
theorem qt (k:Bool) (fs:List aW): ∀n,(bK k fs n).all V.isTuple=true
 | 0=>rfl
 | n+1=>by
   unfold bK
   split
   ·split
    ·simp[qt k fs n,V.isTuple]
    ·exact qt k fs n
   ·exact qt k fs n
theorem ki (k:Bool) (fs:List aW) (n:Nat):V.aw (.mlit (bK k fs n))=true:=by
 simp only[V.aw,iZ]
def E4:Bool→List V→V
 | true,l=> .litk 5 l
 | false,l=> .lit 5 l
def aI.kv (k:Bool) (m:aI):V:= .agg [.lit 4 (m.aB.map Edge.v),E4 k (m.an.map aW.v),.lit 8 (m.ways.map Way.v),.lit 7 (m.az.map Place.v)]
def cZ (a b:Int) (e:Edge):Bool:=decide (e.left=a∧e.right=b∨e.left=b∧e.right=a)
def Xm (es:List Edge) (a b:Int) (f g:aW):Int:=
 if a=b then 1 else if f.bG≠g.bG∨f.bG< 1 then 25 else if es.any (cZ a b)=false then 13 else if f.name≠[]∧g.name≠[]∧f.name≠g.name then 24 else 0
def tM (m:aI) (a b:Int):Int:=match findF m.an a,findF m.an b with
 | some i,some j=> (match m.an[i]?,m.an[j]? with
   | some f,some g=>Xm m.aB a b f g
   | _,_=>5)
 | _,_=>5
end Go.AM
namespace Go.AM
theorem dw (l:List Int):V.al (l.map vi)=true:=AM.aN (fun _=>rfl) l
end Go.AM
namespace Go.AM
theorem Dg {a b:Int} {e:Edge} (ht:cZ a b e=true): (e.left=a∧e.right=b)∨(e.left=a∧ ¬e.right=b∧e.left=b∧e.right=a)∨(¬e.left=a∧e.left=b∧e.right=a):=by
 simp only[cZ,decide_eq_true_eq] at ht
 by_cases h1:e.left=a<;>by_cases h2:e.right=b<;>by_cases h3:e.left=b<;>by_cases h4:e.right=a<;>simp_all
end Go.AM
namespace Go.AM
def iq (S:List Int):Nat→List Int
 | 0=> []
 | t+1=>if 0 <t∧S.getD t 0=S.getD (t - 1) 0 then iq S t else iq S t++[S.getD t 0]
def jH (S:List Int):List Int:=iq S S.length
theorem xd (S:List Int): ∀t,(iq S t).length≤t
 | 0=>aiZ _
 | t+1=>by
   have:=xd S t
   unfold iq;split
   ·omega
   ·simp;omega
theorem Dh (S:List Int): ∀t,0 <t→0 < (iq S t).length
 | 0,h=>abV
 | t+1,_=>by
   unfold iq;split
   ·rename_i h;exact Dh S t h.1
   ·simp
def eu (S:List Int):List Int:=jH S++List.replicate (S.length - (jH S).length) 0
theorem Av {S:List Int} (hl:S.length< 1000000):Ev E 133 [.msl 1 (S.map vi) 0 S.length] ⟨.sl 0 0 0 (jH S).length,[(0,(eu S).map vi)]⟩:=by
 have same:jH S=S→eu S=S:=fun h=>by unfold eu;rw[h];simp
 refine Ev.aD rfl rfl rfl ?_
 by_cases h2:S.length< 2
 ·have hs:jH S=S:=by
   cases S with
   | nil=>rfl
   | cons a S=>cases S with
     | nil=>rfl
     | cons b S=>simp at h2;omega
  rw[same hs,hs]
  exact aiN
 conv=>whnf
 repeat' (first| intro g| refine st ?_| refine br ?_ ?_<;>intro hc| rfl) <;>conv=>whnf
 refine aL.by (fun (k:Nat)=> ⟨[(0,.sl 0 0 0 S.length),(3,av k)],[(0,⟨0,1,true,false,some (S.map vi)⟩)]⟩) (fun k=>1≤k∧k≤S.length∧iq S k=S.take k) (fun k=>S.length - k) 1 su ?_ ?_
 ·refine⟨aiZ _,abV,?_⟩
  cases S with
  | nil=>simp at h2
  | cons a S=>simp[iq]
 rintro k ⟨Aw,hk,iw⟩
 try dsimp only at Aw hk iw
 by_cases bl:k<S.length
 ·obtain⟨x,hx⟩: ∃x,S[k]? =some x:=⟨_,aH bl⟩
  obtain⟨y,hy⟩: ∃y,S[k - 1]? =some y:=⟨_,aH abV⟩
  have Uw:S.getD k 0=x:=by simp[ajB,hx]
  have hgy:S.getD (k - 1) 0=y:=by simp[ajB,hy]
  have hw:IntKind.i64.wrap ((k:Int) - 1)=((k - 1:Nat):Int):=wt
  by_cases LR:x=y
  ·have QW:iq S (k+1)=iq S k:=by rw[iq,if_pos ⟨abV,by rw[Uw,hgy,LR]⟩]
   conv=>whnf
   repeat' (first| intro g| refine wi (aq hx rfl) ?_| refine wi (aq hy hw) ?_| refine st ?_| refine br ?_ ?_<;>intro hc| rfl) <;>conv=>whnf
   obtain⟨k,rfl⟩: ∃k',k=k'+1:=⟨k - 1,abV⟩
   refine aL.by (fun ((w,j,A):Nat×Nat×List Int)=> ⟨[(0,.sl 0 0 0 S.length),(3,av w),(4,.sl 0 0 (k+1) (S.length - (k+1))),(5,av j)],[(0,⟨0,1,true,false,some (A.map vi)⟩)]⟩)
     (fun (w,j,A)=>1≤w∧1≤j∧k+1+j≤S.length∧w≤k+j∧A.length=S.length∧A.take w=iq S (k+1+j)∧(iq S (k+1+j)).length=w∧ ∀i,k+j≤i→A[i]? =S[i]?) (fun (_,j,_)=>S.length - j) (k+1,1,S) ?_ ?_ ?_
   ·(refine⟨?_,?_⟩ <;>repeat' (first| exact True.intro| refine And.intro ((by(conv=>whnf);simp)) ?_| refine ai ?_| refine And.intro ?_ ?_))
   ·refine⟨Aw,aiZ _,abV,abV,rfl,by rw[QW,iw],by rw[QW,iw];simp;omega,fun _ _=>rfl⟩
   rintro⟨w,j,A⟩ ⟨GL,hj1,U6,Xn,hAl,hAt,iB,hAs⟩
   try dsimp only at GL hj1 U6 Xn hAl hAt iB hAs
   clear iw QW hx hy Uw hgy same
   by_cases jU:k+1+j<S.length
   · obtain⟨x',uy⟩: ∃x,S[k+1+j]? =some x:=⟨_,aH jU⟩
     obtain⟨y',J2⟩: ∃y,S[k+j]? =some y:=⟨_,aH abV⟩
     have Uw:S.getD (k+1+j) 0=x':=by simp[ajB,uy]
     have hgy:S.getD (k+1+j - 1) 0=y':=by rw[show k+1+j - 1=k+j by omega];simp[ajB,J2]
     have hax:A[k+1+j]? =some x':=by rw[hAs _ abV,uy]
     have hay:A[k+j]? =some y':=by rw[hAs _ abV,J2]
     have Jl:IntKind.i64.wrap ((j:Int) - 1)=((j - 1:Nat):Int):=wt
     clear uy J2
     have r1: (A.map vi)[k+1+(j:Int).toNat]? =some (vi x'):=by simp[hax]
     have r2: (A.map vi)[k+1+(IntKind.i64.wrap ((j:Int) - 1)).toNat]? =some (vi y'):=by
      rw[Jl,show k+1+((j - 1:Nat):Int).toNat=k+j by omega];simp[hay]
     have air: (j:Int) < ((S.length - (k+1):Nat):Int):=abV
     by_cases acs:x'=y'
     ·have QW:iq S (k+1+j+1)=iq S (k+1+j):=by rw[iq,if_pos ⟨abV,by rw[Uw,hgy,acs]⟩]
      conv=>whnf
      repeat' (first| intro g| refine wi r1 ?_| refine wi r2 ?_| refine st ?_| refine br ?_ ?_<;>intro hc| rfl) <;>conv=>whnf
      have hs:k+1+(j+1)=k+1+j+1:=abV
      exact aK.mk (w,j+1,A) om ⟨GL,abV,abV,abV,hAl,by rw[hs,QW,hAt],by rw[hs,QW,iB],fun i hi=>hAs i abV⟩ su
     ·have QW:iq S (k+1+j+1)=iq S (k+1+j)++[x']:=by
         rw[iq,if_neg (fun h=>acs (by rw[←Uw,←hgy,h.2])),Uw]
      conv=>whnf
      repeat' (first| intro g| refine wi r1 ?_| refine wi r2 ?_| refine st ?_| refine br ?_ ?_<;>intro hc| rfl) <;>conv=>whnf
      have hs:k+1+(j+1)=k+1+j+1:=abV
      have o9:w<A.length:=abV
      have eW: (A.map vi).set (w:Int).toNat (vi x')=(A.set w x').map vi:=by simp[ajH]
      refine aK.mk (w+1,j+1,A.set w x') om ⟨abV,abV,abV,abV,by simpa using hAl,?_,by rw[hs,QW,List.length_append,iB];rfl,fun i hi=> ?_⟩ (by(refine⟨?_,?_⟩ <;>repeat' (first| exact True.intro| refine And.intro ((by(conv=>whnf);rw[eW])) ?_| refine ai ?_| refine And.intro ?_ ?_)))
      ·rw[hs,QW,ajt,List.take_set_of_le (aiZ _),hAt];simp[o9]
      ·rw[akr abV];exact hAs i abV
   · have agX:k+1+j=S.length:=abV
     rw[agX] at hAt iB
     have YD: (jH S).length=w:=iB
     have hov:overwrite (A.map vi) (0+(w:Int).toNat) (List.replicate (S.length - (w:Int).toNat) (V.int .i64 0))=(eu S).map vi:=by
      have e1: (w:Int).toNat=w:=abW
      unfold overwrite eu
      rw[e1,ajF,←List.map_take,hAt,YD,akB (by simp;omega)]
      simp[jH]
     have hol: (eu S).length=S.length:=by unfold eu;simp[YD];omega
     rw[YD]
     conv=>whnf
     repeat' (first| intro g| refine nd ⟨ajG _,by rw[hov];simp[hol];omega⟩ ?_| refine st ?_| refine br ?_ ?_<;>intro hc| rfl) <;>conv=>whnf
     rw[hov]
     have hvp:=dw (eu S)
     exact aiN
  ·have QW:iq S (k+1)=S.take (k+1):=by
     rw[iq,if_neg (fun h=>LR (by rw[←Uw,←hgy,h.2])),iw,Uw,ajt,hx];rfl
   conv=>whnf
   repeat' (first| intro g| refine wi (aq hx rfl) ?_| refine wi (aq hy hw) ?_| refine st ?_| refine br ?_ ?_<;>intro hc| rfl) <;>conv=>whnf
   exact aK.mk (k+1) om ⟨abV,abV,QW⟩ su
 ·obtain rfl:k=S.length:=abV
  have hs:jH S=S:=by unfold jH;rw[iw];simp
  rw[same hs,hs]
  exact aiN
end Go.AM
namespace Go.AM
theorem zt {l:List Int} (h:l.length< 1000000):Ev E 132 [.msl 1 (l.map vi) 0 l.length] ⟨.tuple [],[(0,(ew l).map vi)]⟩:=
 Ev.ext (by
  rw[abO]
  have hl:l.length< 4611686018427387904:=abV
  simp only[Gw,List.length_map,if_true,tw,if_pos hl])
theorem dG (l:List Int): (ew l).length=l.length:=by
 rw[←Gv];simp
def J3 (l:List Int):List Int:=jH (ew l)
theorem QX (l:List Int): (J3 l).length≤l.length:=by
 have:=xd (ew l) (ew l).length
 rw[dG] at this
 unfold J3 jH
 rw[dG];exact this
theorem Mc (S:List Int): (jH S).length≤S.length:=xd S S.length
theorem GY (S:List Int): (eu S).length=S.length:=by
 have:=Mc S
 simp[eu];omega
theorem QY (S:List Int):aG ((eu S).map vi) 0 (jH S).length=(jH S).map vi:=by
 unfold eu
 rw[ajk]
 exact rP rfl
theorem xe (S:List Int):0+(jH S).length≤((eu S).map vi).length∧V.al (aG ((eu S).map vi) 0 (jH S).length)=true:=
 ⟨by have:=Mc S;have:=GY S;simp;omega,eH (dw _)⟩
theorem Cy {l:List Int} (h:l.length< 1000000):Ev E 510 [.msl 1 (l.map vi) 0 l.length] ⟨.sl 0 0 0 (J3 l).length,[(0,(eu (ew l)).map vi)]⟩:=by
 have h1:=zt h
 have h2:=Av (S:=ew l) (by rw[dG];exact h)
 rw[dG] at h2
 have hp:=dw l
 have ET:=dw (ew l)
 have JS:=dw (eu (ew l))
 refine Ev.aD rfl rfl rfl ?_
 conv=>whnf
 repeat' (first| intro g| refine nd ⟨rfl,rfl,rfl,by simp[dG],dw _⟩ ?_| refine nd (xe _) ?_| apply ca h1| apply ca h2| refine st ?_| refine br ?_ ?_<;>intro hc| rfl) <;>conv=>whnf
def qu (es:List Edge) (a b:Int) (i:Nat):List Int:=((es.take i).filter (cZ a b)).map (·.id)
theorem QZ (es:List Edge) (a b:Int) (i:Nat): (qu es a b i).length≤i:=by
 unfold qu
 rw[List.length_map]
 exact ajb (List.length_filter_le _ _) (by simp;omega)
def cg (es:List Edge) (a b:Int):List Int:=J3 (qu es a b es.length)
theorem acu {L:List V} {e:Edge} {i n g:Nat} {a b:Int} {A:List Int} {Q:aR→SS→Prop} (he:L[i]? =some e.v) (hn:L.length=n) (hi:i<n) (hb:n< 1000000) (ht:cZ a b e=false)
  (hQ: ∀T' O',SS.Sub ⟨[(1,vi a),(2,vi b),(7,.sl 129 g 0 A.length),(10,.lit 4 L),(11,av n),(12,av (i+1))],[(129,⟨g,1,true,false,some (A.map vi)⟩)]⟩ ⟨T',O'⟩→Q .normal ⟨T',O'⟩):
  kW E L4 ⟨[(1,vi a),(2,vi b),(7,.sl 129 g 0 A.length),(10,.lit 4 L),(11,av n),(12,av i)],[(129,⟨g,1,true,false,some (A.map vi)⟩)]⟩ Q:=by
 have lE: ¬ (e.left=a∧e.right=b∨e.left=b∧e.right=a):=by simpa [cZ] using ht
 clear ht
 by_cases h1:e.left=a
 ·have h2: ¬e.right=b:=fun h=>lE (.inl ⟨h1,h⟩)
  by_cases h3:e.left=b
  ·have h4: ¬e.right=a:=fun h=>lE (.inr ⟨h3,h⟩)
   clear lE
   conv=>whnf
   repeat' (first| intro g| refine wi he ?_| refine st ?_| refine br ?_ ?_<;>intro hc| rfl) <;>conv=>whnf
   exact hQ _ _ su
  ·clear lE
   conv=>whnf
   repeat' (first| intro g| refine wi he ?_| refine st ?_| refine br ?_ ?_<;>intro hc| rfl) <;>conv=>whnf
   exact hQ _ _ su
 ·by_cases h3:e.left=b
  ·have h4: ¬e.right=a:=fun h=>lE (.inr ⟨h3,h⟩)
   clear lE
   conv=>whnf
   repeat' (first| intro g| refine wi he ?_| refine st ?_| refine br ?_ ?_<;>intro hc| rfl) <;>conv=>whnf
   exact hQ _ _ su
  ·clear lE
   conv=>whnf
   repeat' (first| intro g| refine wi he ?_| refine st ?_| refine br ?_ ?_<;>intro hc| rfl) <;>conv=>whnf
   exact hQ _ _ su
theorem YE {L:List V} {e:Edge} {i n g:Nat} {a b:Int} {A:List Int} {Q:aR→SS→Prop} (he:L[i]? =some e.v) (hn:L.length=n) (hi:i<n) (hb:n< 1000000) (hA:A.length≤i) (ht:cZ a b e=true)
  (hQ: ∀T' O' g',SS.Sub ⟨[(1,vi a),(2,vi b),(7,.sl 129 g' 0 (A++[e.id]).length),(10,.lit 4 L),(11,av n),(12,av (i+1))],[(129,⟨g',1,true,false,some ((A++[e.id]).map vi)⟩)]⟩ ⟨T',O'⟩→Q .normal ⟨T',O'⟩):
  kW E L4 ⟨[(1,vi a),(2,vi b),(7,.sl 129 g 0 A.length),(10,.lit 4 L),(11,av n),(12,av i)],[(129,⟨g,1,true,false,some (A.map vi)⟩)]⟩ Q:=by
 rcases Dg ht with⟨h1,h2⟩ | ⟨h1,h2,h3,h4⟩ | ⟨h1,h3,h4⟩
 all_goals
  clear ht
  conv=>whnf
  repeat' (first| intro g| refine wi he ?_| refine st ?_| refine br ?_ ?_<;>intro hc| rfl) <;>conv=>whnf
  exact hQ _ _ _ su
theorem J4 {es:List Edge} (hl:es.length< 1000000) (a b:Int):Ev E 495 [.lit 4 (es.map Edge.v),vi a,vi b] ⟨.own 1 ((cg es a b).map vi),[]⟩:=by
 refine Ev.aD rfl rfl rfl ?_
 conv=>whnf
 repeat' (first| intro g| refine st ?_| refine br ?_ ?_<;>intro hc| rfl) <;>conv=>whnf
 refine aL.by (fun ((i,g):Nat×Nat)=> ⟨[(1,vi a),(2,vi b),(7,.sl 129 g 0 (qu es a b i).length),(10,.lit 4 (es.map Edge.v)),(11,av es.length),(12,av i)],[(129,⟨g,1,true,false,some ((qu es a b i).map vi)⟩)]⟩) (fun (i,_)=>i≤es.length) (fun (i,_)=>es.length - i) (0,g) ?_ abW ?_
 ·(refine⟨?_,?_⟩ <;>repeat' (first| exact True.intro| refine And.intro ((by(conv=>whnf);simp[qu])) ?_| refine ai ?_| refine And.intro ?_ ?_))
 rintro⟨i,g⟩ hi
 try dsimp only at hi
 have hal:=QZ es a b i
 by_cases bl:i<es.length
 ·obtain⟨e,he⟩: ∃e,es[i]? =some e:=⟨_,aH bl⟩
  have kY: (es.map Edge.v)[i]? =some e.v:=by simp[he]
  have Di: (es.map Edge.v).length=es.length:=abW
  cases ht:cZ a b e with
  | false=>
    have hn:qu es a b (i+1)=qu es a b i:=by simp[qu,ajt,he,ht]
    refine acu kY Di bl hl ht fun T' O' hs=>aK.mk (i+1,g) om abV ?_
    simp only[hn]
    exact hs
  | true=>
    have hn:qu es a b (i+1)=qu es a b i++[e.id]:=by simp[qu,ajt,he,ht]
    refine YE kY Di bl hl hal ht fun T' O' g' hs=>aK.mk (i+1,g') om abV ?_
    simp only[hn]
    exact hs
 ·obtain rfl:i=es.length:=abV
  have agY:=Cy (l:=qu es a b es.length) abV
  have hp:=dw (qu es a b es.length)
  conv=>whnf
  repeat' (first| intro g| refine nd ⟨(xe (ew (qu es a b es.length))).1,dw _⟩ ?_| refine wi (QY (ew (qu es a b es.length))) ?_| apply ca agY| refine st ?_| refine br ?_ ?_<;>intro hc| rfl) <;>conv=>whnf
end Go.AM
namespace Go.AM
theorem GZ (x0:Int): ∃r:Int,Ev E 283 [vi x0] ⟨vi r,[]⟩:=by
 refine a8 (Ev.bD rfl rfl rfl ?_)
 exact aiN
noncomputable def Q0 (x0:Int):Int:=(GZ x0).choose
theorem U7 (x0:Int):Ev E 283 [vi x0] ⟨vi (Q0 x0),[]⟩:=(GZ x0).choose_spec
theorem G0 (x0:Int): ∃r:Int,Ev E 285 [vi x0] ⟨.int .u64 r,[]⟩:=by
 refine a8 (Ev.bD rfl rfl rfl ?_)
 exact aiN
noncomputable def G1 (x0:Int):Int:=(G0 x0).choose
theorem U8 (x0:Int):Ev E 285 [vi x0] ⟨.int .u64 (G1 x0),[]⟩:=(G0 x0).choose_spec
theorem yg (x0 x1:Int): ∃r:Int×Int,Ev E 284 [.int .u64 x0,.int .u64 x1] ⟨.agg [.int .u64 r.1,.int .u64 r.2],[]⟩:=by
 refine a8 (Ev.bD rfl rfl rfl ?_)
 conv=>whnf
 repeat' (first| intro g| refine st ?_| refine br ?_ ?_<;>intro hc| rfl) <;>conv=>whnf
 all_goals exact⟨⟨_,_⟩,rfl⟩
noncomputable def vh (x0 x1:Int):Int×Int:=(yg x0 x1).choose
theorem J5 (x0 x1:Int):Ev E 284 [.int .u64 x0,.int .u64 x1] ⟨.agg [.int .u64 (vh x0 x1).1,.int .u64 (vh x0 x1).2],[]⟩:=(yg x0 x1).choose_spec
theorem yh (x0 x1 x2:Int): ∃r:Bool,Ev E 282 [vi x0,vi x1,vi x2] ⟨.bool r,[]⟩:=by
 refine a8 (Ev.bD rfl rfl rfl ?_)
 exact aiN
noncomputable def Q1 (x0 x1 x2:Int):Bool:=(yh x0 x1 x2).choose
theorem J6 (x0 x1 x2:Int):Ev E 282 [vi x0,vi x1,vi x2] ⟨.bool (Q1 x0 x1 x2),[]⟩:=(yh x0 x1 x2).choose_spec
theorem Md (x0 x1 x2:Int): ∃r:Bool,Ev E 270 [.agg [vi x0,vi x1,vi x2]] ⟨.bool r,[]⟩:=by
 refine a8 (Ev.bD rfl rfl rfl ?_)
 conv=>whnf
 repeat' (first| intro g| apply ca (J6 _ _ _) | refine st ?_| refine br ?_ ?_<;>intro hc| rfl) <;>conv=>whnf
 all_goals exact⟨_,rfl⟩
noncomputable def agZ (x0 x1 x2:Int):Bool:=(Md x0 x1 x2).choose
theorem YF (x0 x1 x2:Int):Ev E 270 [.agg [vi x0,vi x1,vi x2]] ⟨.bool (agZ x0 x1 x2),[]⟩:=(Md x0 x1 x2).choose_spec
theorem yj (x0 x1 x2:Int): ∃r:Bool,Ev E 198 [.agg [vi x0,vi x1,vi x2]] ⟨.bool r,[]⟩:=by
 refine a8 (Ev.bD rfl rfl rfl ?_)
 exact aiN
noncomputable def G2 (x0 x1 x2:Int):Bool:=(yj x0 x1 x2).choose
theorem Ax (x0 x1 x2:Int):Ev E 198 [.agg [vi x0,vi x1,vi x2]] ⟨.bool (G2 x0 x1 x2),[]⟩:=(yj x0 x1 x2).choose_spec
theorem rW (x y:Int):Ev E 199 [.agg [vi x,vi y]] ⟨.agg [vi x,vi y,vi 1],[]⟩:=by
 refine Ev.aD rfl rfl rfl ?_
 exact aiN
theorem Dj (x0 x1 x2 x3:Int): ∃r:Int,Ev E 271 [vi x0,vi x1,vi x2,vi x3] ⟨vi r,[]⟩:=by
 refine a8 (Ev.bD rfl rfl rfl ?_)
 conv=>whnf
 repeat' (first| intro g| apply ca (U7 _) | apply ca (U8 _) | apply ca (J5 _ _) | refine st ?_| refine br ?_ ?_<;>intro hc| rfl) <;>conv=>whnf
 ·exact⟨_,rfl⟩
 rename_i g11
 generalize hu:vh (G1 x0) (G1 x1)=u
 generalize hv:vh (G1 x2) (G1 x3)=v
 obtain⟨u0,u1⟩:=u
 obtain⟨v0,v1⟩:=v
 generalize hs:IntKind.i64.wrap (Q0 x0*Q0 x1)=s
 refine aL.by (fun (k:Nat)=> ⟨[(9,vi s),(11,.ptr 192 g11 0 0),(12,.ptr 208 g 0 0),(13,av k)],[(192,⟨g11,2,false,false,some [.agg [.int .u64 u0,.int .u64 u1]]⟩),(208,⟨g,2,false,false,some [.agg [.int .u64 v0,.int .u64 v1]]⟩)]⟩)
  (fun k=>k≤2) (fun k=>2 - k) 0 su om ?_
 intro k hk
 rcases(by omega:k=0∨k=1∨k=2) with rfl| rfl| rfl
 ·conv=>whnf
  repeat' (first| intro g| refine st ?_| refine br ?_ ?_<;>intro hc| rfl) <;>conv=>whnf
  all_goals first| exact⟨_,rfl⟩ | exact aK.mk 1 om om su
 ·conv=>whnf
  repeat' (first| intro g| refine st ?_| refine br ?_ ?_<;>intro hc| rfl) <;>conv=>whnf
  all_goals first| exact⟨_,rfl⟩ | exact aK.mk 2 om om su
 ·conv=>whnf
  repeat' (first| intro g| refine st ?_| refine br ?_ ?_<;>intro hc| rfl) <;>conv=>whnf
  exact⟨_,rfl⟩
noncomputable def YG (x0 x1 x2 x3:Int):Int:=(Dj x0 x1 x2 x3).choose
theorem G3 (x0 x1 x2 x3:Int):Ev E 271 [vi x0,vi x1,vi x2,vi x3] ⟨vi (YG x0 x1 x2 x3),[]⟩:=(Dj x0 x1 x2 x3).choose_spec
theorem Me (x0 x1 x2 x3:Int): ∃r:Int,Ev E 238 [.agg [vi x0,vi x1],.agg [vi x2,vi x3]] ⟨vi r,[]⟩:=by
 refine a8 (Ev.bD rfl rfl rfl ?_)
 conv=>whnf
 repeat' (first| intro g| apply ca (G3 _ _ _ _) | refine st ?_| refine br ?_ ?_<;>intro hc| rfl) <;>conv=>whnf
 all_goals exact⟨_,rfl⟩
noncomputable def ag0 (x0 x1 x2 x3:Int):Int:=(Me x0 x1 x2 x3).choose
theorem J7 (x0 x1 x2 x3:Int):Ev E 238 [.agg [vi x0,vi x1],.agg [vi x2,vi x3]] ⟨vi (ag0 x0 x1 x2 x3),[]⟩:=(Me x0 x1 x2 x3).choose_spec
theorem Dk (x0 x1 x2 x3 x4:Int): ∃r:Int,Ev E 236 [vi x0,.agg [vi x1,vi x2],.agg [vi x3,vi x4]] ⟨vi r,[]⟩:=by
 refine a8 (Ev.bD rfl rfl rfl ?_)
 conv=>whnf
 repeat' (first| intro g| apply ca (J7 _ _ _ _) | refine st ?_| refine br ?_ ?_<;>intro hc| rfl) <;>conv=>whnf
 all_goals exact⟨_,rfl⟩
noncomputable def YH (x0 x1 x2 x3 x4:Int):Int:=(Dk x0 x1 x2 x3 x4).choose
theorem Q3 (x0 x1 x2 x3 x4:Int):Ev E 236 [vi x0,.agg [vi x1,vi x2],.agg [vi x3,vi x4]] ⟨vi (YH x0 x1 x2 x3 x4),[]⟩:=(Dk x0 x1 x2 x3 x4).choose_spec
theorem Dl (x0 x1 x2 x3 x4:Int): ∃r:Bool,Ev E 237 [.agg [vi x0,vi x1,vi x2],.agg [vi x3,vi x4]] ⟨.bool r,[]⟩:=by
 refine a8 (Ev.bD rfl rfl rfl ?_)
 conv=>whnf
 repeat' (first| intro g| apply ca (J7 _ _ _ _) | refine st ?_| refine br ?_ ?_<;>intro hc| rfl) <;>conv=>whnf
 all_goals exact⟨_,rfl⟩
noncomputable def YI (x0 x1 x2 x3 x4:Int):Bool:=(Dl x0 x1 x2 x3 x4).choose
theorem Q4 (x0 x1 x2 x3 x4:Int):Ev E 237 [.agg [vi x0,vi x1,vi x2],.agg [vi x3,vi x4]] ⟨.bool (YI x0 x1 x2 x3 x4),[]⟩:=(Dl x0 x1 x2 x3 x4).choose_spec
theorem vj (x0 x1 x2 x3 x4 x5 x6 x7 x8:Int): ∃r:Int,Ev E 235 [.agg [vi x0,vi x1,vi x2],.agg [vi x3,vi x4,vi x5],.agg [vi x6,vi x7,vi x8]] ⟨vi r,[]⟩:=by
 refine a8 (Ev.bD rfl rfl rfl ?_)
 conv=>whnf
 repeat' (first| intro g| apply ca (YF _ _ _) | apply ca (G3 _ _ _ _) | refine st ?_| refine br ?_ ?_<;>intro hc| rfl) <;>conv=>whnf
 all_goals exact⟨_,rfl⟩
noncomputable def Nw (x0 x1 x2 x3 x4 x5 x6 x7 x8:Int):Int:=(vj x0 x1 x2 x3 x4 x5 x6 x7 x8).choose
theorem qv (x0 x1 x2 x3 x4 x5 x6 x7 x8:Int):Ev E 235 [.agg [vi x0,vi x1,vi x2],.agg [vi x3,vi x4,vi x5],.agg [vi x6,vi x7,vi x8]] ⟨vi (Nw x0 x1 x2 x3 x4 x5 x6 x7 x8),[]⟩:=(vj x0 x1 x2 x3 x4 x5 x6 x7 x8).choose_spec
theorem Q5 (x0 x1 x2 x3 x4 x5 x6 x7:Int): ∃r:Bool,Ev E 200 [.agg [vi x0,vi x1,vi x2],.agg [vi x3,vi x4,vi x5],.agg [vi x6,vi x7]] ⟨.bool r,[]⟩:=by
 refine a8 (Ev.bD rfl rfl rfl ?_)
 conv=>whnf
 repeat' (first| intro g| apply ca (rW _ _) | apply ca (qv _ _ _ _ _ _ _ _ _) | apply ca (Q3 _ _ _ _ _) | refine st ?_| refine br ?_ ?_<;>intro hc| rfl) <;>conv=>whnf
 all_goals exact⟨_,rfl⟩
noncomputable def onF (x0 x1 x2 x3 x4 x5 x6 x7:Int):Bool:=(Q5 x0 x1 x2 x3 x4 x5 x6 x7).choose
theorem acv (x0 x1 x2 x3 x4 x5 x6 x7:Int):Ev E 200 [.agg [vi x0,vi x1,vi x2],.agg [vi x3,vi x4,vi x5],.agg [vi x6,vi x7]] ⟨.bool (onF x0 x1 x2 x3 x4 x5 x6 x7),[]⟩:=(Q5 x0 x1 x2 x3 x4 x5 x6 x7).choose_spec
theorem yl (x0 x1 x2 x3 x4 x5 x6 x7:Int): ∃r:Int,Ev E 201 [.agg [vi x0,vi x1,vi x2],.agg [vi x3,vi x4,vi x5],.agg [vi x6,vi x7]] ⟨vi r,[]⟩:=by
 refine a8 (Ev.bD rfl rfl rfl ?_)
 conv=>whnf
 repeat' (first| intro g| apply ca (rW _ _) | apply ca (Q4 _ _ _ _ _) | apply ca (qv _ _ _ _ _ _ _ _ _) | refine st ?_| refine br ?_ ?_<;>intro hc| rfl) <;>conv=>whnf
 all_goals exact⟨_,rfl⟩
noncomputable def G4 (x0 x1 x2 x3 x4 x5 x6 x7:Int):Int:=(yl x0 x1 x2 x3 x4 x5 x6 x7).choose
theorem J8 (x0 x1 x2 x3 x4 x5 x6 x7:Int):Ev E 201 [.agg [vi x0,vi x1,vi x2],.agg [vi x3,vi x4,vi x5],.agg [vi x6,vi x7]] ⟨vi (G4 x0 x1 x2 x3 x4 x5 x6 x7),[]⟩:=(yl x0 x1 x2 x3 x4 x5 x6 x7).choose_spec
theorem Ay (x0 x1 x2 x3 x4 x5 x6 x7 x8 x9 PN PO PQ PR:Int): ∃r:Bool,Ev E 202 [.agg [vi x0,vi x1,vi x2,vi x3,vi x4,vi x5,vi x6],.agg [vi x7,vi x8,vi x9,vi PN,vi PO,vi PQ,vi PR]] ⟨.bool r,[]⟩:=by
 refine a8 (Ev.bD rfl rfl rfl ?_)
 conv=>whnf
 repeat' (first| intro g| apply ca (J7 _ _ _ _) | apply ca (qv _ _ _ _ _ _ _ _ _) | refine st ?_| refine br ?_ ?_<;>intro hc| rfl) <;>conv=>whnf
 all_goals exact⟨_,rfl⟩
noncomputable def U9 (x0 x1 x2 x3 x4 x5 x6 x7 x8 x9 PN PO PQ PR:Int):Bool:=(Ay x0 x1 x2 x3 x4 x5 x6 x7 x8 x9 PN PO PQ PR).choose
theorem Dm (x0 x1 x2 x3 x4 x5 x6 x7 x8 x9 PN PO PQ PR:Int):Ev E 202 [.agg [vi x0,vi x1,vi x2,vi x3,vi x4,vi x5,vi x6],.agg [vi x7,vi x8,vi x9,vi PN,vi PO,vi PQ,vi PR]] ⟨.bool (U9 x0 x1 x2 x3 x4 x5 x6 x7 x8 x9 PN PO PQ PR),[]⟩:=(Ay x0 x1 x2 x3 x4 x5 x6 x7 x8 x9 PN PO PQ PR).choose_spec
end Go.AM
namespace Go.AM
theorem sk1 {α β:Type} {P:α→β→Prop} (h: ∀a,∃b,P a b): ∃F:α→β,∀a,P a (F a):=⟨fun a=> (h a).choose,fun a=> (h a).choose_spec⟩
theorem sk2 {α α2 β:Type} {P:α→α2→β→Prop} (h: ∀a b,∃c,P a b c): ∃F:α→α2→β,∀a b,P a b (F a b):=⟨fun a b=> (h a b).choose,fun a b=> (h a b).choose_spec⟩
end Go.AM
namespace Go.AM
structure IL where
 l:List Int
 h:l.length< 1000000
def IL.v (x:IL):V:= .lit 1 (x.l.map vi)
theorem IL.aN (l:List IL):V.al (l.map IL.v)=true:=AM.aN (fun x=>by simp only[IL.v,V.aw]) l
section
variable {c:IL→IL→Int} {g:Nat}
theorem Nx (hm:bz E g=[]) (mQ: ∀a b:IL,Ev E g [a.v,b.v] ⟨vi (c a b),[]⟩) {l0:List IL} (hlen:l0.length< 1000000) {a b:Nat} (Gh:a≤b) (hb:b≤l0.length):
  ∃l':List IL,l'.length=l0.length∧(∀x ∈ l',x ∈ l0)∧Ev E 712 [.msl 1 (l0.map IL.v) 0 l0.length,av a,av b,.fn g []] ⟨.tuple [],[(0,l'.map IL.v)]⟩:=by
 have key:=Ev.bD (R:=fun r=> ∃l':List IL,l'.length=l0.length∧(∀x ∈ l',x ∈ l0)∧r=⟨.tuple [],[(0,l'.map IL.v)]⟩) acb (acd [.msl 1 (l0.map IL.v) 0 l0.length,av a,av b,.fn g []]) rfl ?_
 ·obtain⟨res,h1,l',h2,h3,rfl⟩:=key
  exact⟨l',h2,h3,h1⟩
 conv=>whnf
 repeat' (first| intro g| refine st ?_| refine br ?_ ?_<;>intro hc| rfl) <;>conv=>whnf
 refine aL.by (fun ((i,L):Nat×List IL)=> ⟨[(0,.sl 0 0 0 l0.length),(1,av a),(2,av b),(3,.fn g []),(8,av (i+1))],[(0,⟨0,1,true,false,some (L.map IL.v)⟩)]⟩)
  (fun p=>a≤p.1∧p.1≤b∧p.2.length=l0.length∧ ∀x ∈ p.2,x ∈ l0) (fun p=>b - p.1) (a,l0) ?_ ⟨abW,Gh,rfl,fun x h=>h⟩ ?_
 ·exact su
 rintro⟨i,L⟩ ⟨ha,h1,h2,h3⟩
 dsimp only at ha h1 h2 h3
 conv=>whnf
 repeat' (first| intro g| refine nd ⟨rfl,rfl,IL.aN _⟩ ?_| refine st ?_| refine br ?_ ?_<;>intro hc| rfl) <;>conv=>whnf
 ·have Cw:i+1 <L.length:=abV
  refine aL.by (fun ((j,L):Nat×List IL)=> ⟨[(0,.sl 0 0 0 l0.length),(1,av a),(2,av b),(3,.fn g []),(8,av (i+1)),(9,av j)],[(0,⟨0,1,true,false,some (L.map IL.v)⟩)]⟩)
   (fun p=>a≤p.1∧p.1≤i+1∧p.2.length=l0.length∧ ∀x ∈ p.2,x ∈ l0) (fun p=>p.1) (i+1,L) ?_ ⟨om,abW,h2,h3⟩ ?_
  ·exact su
  rintro⟨j,L'⟩ ⟨ka,k1,k2,k3⟩
  dsimp only at ka k1 k2 k3
  by_cases hja:a<j
  ·obtain⟨j,rfl⟩: ∃q,j=q+1:=⟨j - 1,abV⟩
   obtain⟨x,hx⟩: ∃x,L'[j+1]? =some x:=⟨_,aH abV⟩
   obtain⟨y,hy⟩: ∃x,L'[j]? =some x:=⟨_,aH abV⟩
   have Aj:IntKind.i64.wrap (((j+1:Nat):Int) - 1)=(j:Int):=wt
   have hy2: ((L'.map IL.v).set ((j+1:Nat):Int).toNat y.v)[(IntKind.i64.wrap (((j+1:Nat):Int) - 1)).toNat]? =some y.v:=by
    rw[Aj];simp[hy]
   conv=>whnf
   repeat' (first| intro g| refine wi (aq hx rfl) ?_| refine wi (aq hy Aj) ?_| refine wi hy2 ?_| refine sf (mQ _ _) ?_| refine st ?_| refine br ?_ ?_<;>intro hc| rfl) <;>conv=>whnf
   ·refine aK.mk (j,(L'.set (j+1) y).set j x) om ⟨om,om,by simp[k2],fun z hz=> ?_⟩ ?_
    ·rcases aje hz with hz| rfl
     ·rcases aje hz with hz| rfl
      ·exact k3 z hz
      ·exact k3 _ (List.mem_of_getElem? hy)
     ·exact k3 _ (List.mem_of_getElem? hx)
    have e1:V.int .i64 (IntKind.i64.wrap (((j+1:Nat):Int) - 1))=av j:=by rw[Aj]
    have e2: (⟨0,1,true,false,some (((L'.map IL.v).set ((j+1:Nat):Int).toNat y.v).set (IntKind.i64.wrap (((j+1:Nat):Int) - 1)).toNat x.v)⟩:Obj)=⟨0,1,true,false,some (((L'.set (j+1) y).set j x).map IL.v)⟩:=by
     rw[Aj,ajH,ajH];rfl
    (refine⟨?_,?_⟩ <;>repeat' (first| exact True.intro| refine And.intro (e1) ?_| refine And.intro (e2) ?_| refine ai ?_| refine And.intro ?_ ?_))
   ·refine aK.mk (i+1,L') om ⟨om,om,k2,k3⟩ su
  ·conv=>whnf
   repeat' (first| intro g| refine st ?_| refine br ?_ ?_<;>intro hc| rfl) <;>conv=>whnf
   refine aK.mk (i+1,L') om ⟨om,om,k2,k3⟩ su
 ·exact⟨L,h2,h3,rfl⟩
end
section
variable {c:Event→Event→Int} {g:Nat}
theorem vk (hm:bz E g=[]) (mQ: ∀a b:Event,Ev E g [a.v,b.v] ⟨vi (c a b),[]⟩) {l0:List Event} (hlen:l0.length< 1000000) {a b:Nat} (Gh:a≤b) (hb:b≤l0.length):
  ∃l':List Event,l'.length=l0.length∧(∀x ∈ l',x ∈ l0)∧Ev E 42 [.msl 5 (l0.map Event.v) 0 l0.length,av a,av b,.fn g []] ⟨.tuple [],[(0,l'.map Event.v)]⟩:=by
 have key:=Ev.bD (R:=fun r=> ∃l':List Event,l'.length=l0.length∧(∀x ∈ l',x ∈ l0)∧r=⟨.tuple [],[(0,l'.map Event.v)]⟩) agU (agV [.msl 5 (l0.map Event.v) 0 l0.length,av a,av b,.fn g []]) rfl ?_
 ·obtain⟨res,h1,l',h2,h3,rfl⟩:=key
  exact⟨l',h2,h3,h1⟩
 conv=>whnf
 repeat' (first| intro g| refine st ?_| refine br ?_ ?_<;>intro hc| rfl) <;>conv=>whnf
 refine aL.by (fun ((i,L):Nat×List Event)=> ⟨[(0,.sl 0 0 0 l0.length),(1,av a),(2,av b),(3,.fn g []),(8,av (i+1))],[(0,⟨0,5,true,false,some (L.map Event.v)⟩)]⟩)
  (fun p=>a≤p.1∧p.1≤b∧p.2.length=l0.length∧ ∀x ∈ p.2,x ∈ l0) (fun p=>b - p.1) (a,l0) ?_ ⟨abW,Gh,rfl,fun x h=>h⟩ ?_
 ·exact su
 rintro⟨i,L⟩ ⟨ha,h1,h2,h3⟩
 dsimp only at ha h1 h2 h3
 conv=>whnf
 repeat' (first| intro g| refine nd ⟨rfl,rfl,Event.aN _⟩ ?_| refine st ?_| refine br ?_ ?_<;>intro hc| rfl) <;>conv=>whnf
 ·have Cw:i+1 <L.length:=abV
  refine aL.by (fun ((j,L):Nat×List Event)=> ⟨[(0,.sl 0 0 0 l0.length),(1,av a),(2,av b),(3,.fn g []),(8,av (i+1)),(9,av j)],[(0,⟨0,5,true,false,some (L.map Event.v)⟩)]⟩)
   (fun p=>a≤p.1∧p.1≤i+1∧p.2.length=l0.length∧ ∀x ∈ p.2,x ∈ l0) (fun p=>p.1) (i+1,L) ?_ ⟨om,abW,h2,h3⟩ ?_
  ·exact su
  rintro⟨j,L'⟩ ⟨ka,k1,k2,k3⟩
  dsimp only at ka k1 k2 k3
  by_cases hja:a<j
  ·obtain⟨j,rfl⟩: ∃q,j=q+1:=⟨j - 1,abV⟩
   obtain⟨x,hx⟩: ∃x,L'[j+1]? =some x:=⟨_,aH abV⟩
   obtain⟨y,hy⟩: ∃x,L'[j]? =some x:=⟨_,aH abV⟩
   have Aj:IntKind.i64.wrap (((j+1:Nat):Int) - 1)=(j:Int):=wt
   have hy2: ((L'.map Event.v).set ((j+1:Nat):Int).toNat y.v)[(IntKind.i64.wrap (((j+1:Nat):Int) - 1)).toNat]? =some y.v:=by
    rw[Aj];simp[hy]
   conv=>whnf
   repeat' (first| intro g| refine wi (aq hx rfl) ?_| refine wi (aq hy Aj) ?_| refine wi hy2 ?_| refine sf (mQ _ _) ?_| refine st ?_| refine br ?_ ?_<;>intro hc| rfl) <;>conv=>whnf
   ·refine aK.mk (j,(L'.set (j+1) y).set j x) om ⟨om,om,by simp[k2],fun z hz=> ?_⟩ ?_
    ·rcases aje hz with hz| rfl
     ·rcases aje hz with hz| rfl
      ·exact k3 z hz
      ·exact k3 _ (List.mem_of_getElem? hy)
     ·exact k3 _ (List.mem_of_getElem? hx)
    have e1:V.int .i64 (IntKind.i64.wrap (((j+1:Nat):Int) - 1))=av j:=by rw[Aj]
    have e2: (⟨0,5,true,false,some (((L'.map Event.v).set ((j+1:Nat):Int).toNat y.v).set (IntKind.i64.wrap (((j+1:Nat):Int) - 1)).toNat x.v)⟩:Obj)=⟨0,5,true,false,some (((L'.set (j+1) y).set j x).map Event.v)⟩:=by
     rw[Aj,ajH,ajH];rfl
    (refine⟨?_,?_⟩ <;>repeat' (first| exact True.intro| refine And.intro (e1) ?_| refine And.intro (e2) ?_| refine ai ?_| refine And.intro ?_ ?_))
   ·refine aK.mk (i+1,L') om ⟨om,om,k2,k3⟩ su
  ·conv=>whnf
   repeat' (first| intro g| refine st ?_| refine br ?_ ?_<;>intro hc| rfl) <;>conv=>whnf
   refine aK.mk (i+1,L') om ⟨om,om,k2,k3⟩ su
 ·exact⟨L,h2,h3,rfl⟩
end
theorem Ny (a b:IL): ∃r:Int,Ev E 709 [a.v,b.v] ⟨vi r,[]⟩:=a8 (g:=vi) (Ev.bD rfl rfl rfl (by
 obtain⟨a,ha⟩:=a
 obtain⟨b,hb⟩:=b
 unfold IL.v
 dsimp only
 conv=>whnf
 repeat' (first| intro g| refine st ?_| refine br ?_ ?_<;>intro hc| rfl) <;>conv=>whnf
 refine aL.by (fun i:Nat=> ⟨[(0,.lit 1 (a.map vi)),(1,.lit 1 (b.map vi)),(9,.lit 1 (a.map vi)),(10,av a.length),(11,av i)],[]⟩) (fun i=>i≤a.length) (fun i=>a.length - i) 0 su abV ?_
 intro i hi
 by_cases bl:i<a.length
 ·obtain⟨x,hx⟩: ∃x,a[i]? =some x:=⟨_,aH bl⟩
  by_cases Gi:i<b.length
  ·obtain⟨y,hy⟩: ∃x,b[i]? =some x:=⟨_,aH Gi⟩
   have hc:=dK x y
   conv=>whnf
   repeat' (first| intro g| refine wi (aq hx rfl) ?_| refine wi (aq hy rfl) ?_| apply ca hc| refine st ?_| refine br ?_ ?_<;>intro hc| rfl) <;>conv=>whnf
   all_goals first| exact⟨_,rfl⟩ | exact aK.mk (i+1) om abV su
  ·exact aiN
 ·conv=>whnf
  repeat' (first| intro g| refine st ?_| refine br ?_ ?_<;>intro hc| rfl) <;>conv=>whnf
  all_goals exact⟨_,rfl⟩))
theorem bitsLen: ∀n,n< 13→ ∃k:Int,Ev E 40 [.int .u64 (n:Nat)] ⟨vi k,[]⟩:=by
 have key: (List.range 13).all (fun n=>match call E 100 40 [.int .u64 (n:Nat)] with
  | some ⟨.int .i64 k,[]⟩=>true
  | _=>false)=true:=aiQ
 intro n hn
 have h:=aiY.1 key n (by simpa using hn)
 split at h
 ·rename_i k hk
  exact⟨k,⟨100,hk⟩⟩
 ·simp at h
theorem Nz {l:List IL} (h12:l.length≤12): ∃l':List IL,l'.length=l.length∧(∀x ∈ l',x ∈ l)∧Ev E 708 [.msl 1 (l.map IL.v) 0 l.length,.fn 709 []] ⟨.tuple [],[(0,l'.map IL.v)]⟩:=by
 obtain⟨c,mQ⟩:=sk2 Ny
 have hm:bz E 709=[]:=rfl
 obtain⟨l',h1,h2,h3⟩:=Nx hm mQ (l0:=l) abV (ajG _) (aiZ _)
 refine⟨l',h1,h2,?_⟩
 obtain⟨k,hb⟩:=bitsLen l.length abV
 have e0:IntKind.i64.wrap ((l.length:Int) - 0)=l.length:=wt
 have h4:Ev E 711 [.msl 1 (l.map IL.v) 0 l.length,vi 0,av l.length,vi k,.fn 709 []] ⟨.tuple [],[(0,l'.map IL.v)]⟩:=by
  refine Ev.aD rfl rfl rfl ?_
  conv=>whnf
  repeat' (first| intro g| refine st ?_| refine br ?_ ?_<;>intro hc| rfl) <;>conv=>whnf
  refine aL.by (fun (_:Unit)=> ⟨[(0,.sl 0 0 0 l.length),(1,vi 0),(2,av l.length),(3,vi k),(4,.fn 709 []),(10,.bool true),(11,.bool true)],[(0,⟨0,1,true,false,some (l.map IL.v)⟩)]⟩)
   (fun _=>True) (fun _=>0) () su trivial ?_
  rintro _ _
  conv=>whnf
  repeat' (first| intro g| refine nd ⟨rfl,rfl,rfl,abW,IL.aN _⟩ ?_| refine nd ⟨rfl,rfl,IL.aN _⟩ ?_| apply ca h3| refine st ?_| refine br ?_ ?_<;>intro hc| rfl) <;>conv=>whnf
 have hw:IntKind.u64.wrap (l.length:Int)=l.length:=by
  simp[IntKind.wrap,IntKind.bits,IntKind.signed];omega
 have kK:Ev E 40 [.int .u64 (IntKind.u64.wrap (l.length:Int))] ⟨vi k,[]⟩:=by rw[hw];exact hb
 refine Ev.aD rfl rfl rfl ?_
 conv=>whnf
 repeat' (first| intro g| refine nd ⟨rfl,rfl,rfl,abW,IL.aN _⟩ ?_| refine nd ⟨rfl,rfl,IL.aN _⟩ ?_| apply ca kK| apply ca h4| refine st ?_| refine br ?_ ?_<;>intro hc| rfl) <;>conv=>whnf
end Go.AM
namespace Go.AM
theorem J9: ∀ {es:List V},es.all jf=true→es.all V.isTuple=true
 | [],_=>rfl
 | e::es,h=>by
   simp only[aja,Bool.and_eq_true] at h
   obtain⟨k,v,rfl,_⟩:=L8 h.1
   simp only[aja,J9 h.2,ajy]
   rfl
def YJ (n:Nat) (res:eZ):Prop:= ∃gs:List (List Int),gs.length≤n∧(∀g ∈ gs,g.length≤n)∧res=⟨.own 1 (gs.map fun g=> .lit 1 (g.map vi)),[]⟩
theorem Xo {n:Nat} (hn:n< 1000000): ∀H:List (Nat×List Int),(∀p ∈ H,p.2.length≤n)→ ∃ls:List IL,H.map Nu=ls.map IL.v∧ls.length=H.length∧ ∀x ∈ ls,x.l.length≤n
 | [],_=> ⟨[],rfl,rfl,abW⟩
 | p::H,h=>by
   obtain⟨ls,h1,h2,h3⟩:=Xo hn H (fun q hq=>h q (by simp[hq]))
   have hp:=h p abW
   refine⟨⟨p.2,abV⟩::ls,by rw[List.map_cons,List.map_cons,h1];rfl,by simp[h2],fun x hx=> ?_⟩
   rcases ai0.1 hx with rfl| hx
   ·exact hp
   ·exact h3 x hx
theorem NA {ws:List Way} (hw:ws.length≤12) (hl: ∀w ∈ ws,0 <w.line.length∧w.line.length< 1000): ∃res,Ev E 704 [.lit 8 (ws.map Way.v)] res∧YJ 12 res:=by
 refine Ev.bD rfl rfl rfl ?_
 conv=>whnf
 repeat' (first| intro g| refine st ?_| refine br ?_ ?_<;>intro hc| rfl) <;>conv=>whnf
 rename_i NB Ka
 refine aL.by (fun ((i,es):Nat×List V)=> ⟨[(0,.lit 8 (ws.map Way.v)),(2,.sl 49 NB 0 0),(4,.bfn 706 [.agg [.mp 304 Ka]]),(5,.bfn 707 [.agg [.mp 304 Ka]]),(24,.lit 8 (ws.map Way.v)),(25,av ws.length),(26,av i)],[(49,⟨NB,1,true,false,some []⟩),(304,⟨Ka,0,false,false,some es⟩)]⟩)
  (fun (i,es)=>i≤ws.length∧UF (i+1) es) (fun (i,_)=>ws.length - i) (0,[]) su ⟨abW,UF.nil⟩ ?_
 rintro⟨i,es⟩ ⟨hi,hu⟩
 try dsimp only at hi hu
 by_cases bl:i<ws.length
 ·obtain⟨w,hx⟩: ∃x,ws[i]? =some x:=⟨_,aH bl⟩
  obtain⟨p,q,hp⟩:=WLn.ex (hl w (List.mem_of_getElem? hx)).1 (hl w (List.mem_of_getElem? hx)).2
  have hs:=As hp
  have ht:=J9 hu.se
  obtain⟨es',hj,Dn⟩:=hu.join abV (Ar p w.level) (Ar q w.level)
  conv=>whnf
  repeat' (first| intro g| refine wi (aq hx rfl) ?_| refine wi hj ?_| apply ca hs| refine st ?_| refine br ?_ ?_<;>intro hc| rfl) <;>conv=>whnf
  exact aK.mk (i+1,es') om ⟨abV,Dn⟩ su
 obtain rfl:i=ws.length:=abV
 clear bl hi
 conv=>whnf
 repeat' (first| intro g| refine st ?_| refine br ?_ ?_<;>intro hc| rfl) <;>conv=>whnf
 obtain⟨Q6,hg7⟩: ∃x,x=g:=⟨_,rfl⟩
 rw[←hg7];clear hg7
 refine aL.by (fun ((i,es,ae,G,NB):Nat×List V×List V×List (Nat×List Int) ×Nat)=> ⟨[(0,.lit 8 (ws.map Way.v)),(2,.sl 49 NB 0 G.length),(5,.bfn 707 [.agg [.mp 304 Ka]]),(9,.mp 720 Q6),(45,.lit 8 (ws.map Way.v)),(46,av ws.length),(47,av i)],
   (49,⟨NB,1,true,false,some (ez 0 G)⟩):: (304,⟨Ka,0,false,false,some es⟩):: (720,⟨Q6,0,false,false,some ae⟩)::sP 0 G⟩)
  (fun (i,es,ae,G,_)=>i≤ws.length∧UF (ws.length+1) es∧SI G.length ae∧G.length≤i∧ ∀p ∈ G,p.2.length≤i) (fun (i,_)=>ws.length - i) (0,es,[],[],NB) su ⟨abW,hu,by simp[SI],abW,abW⟩ ?_
 rintro⟨i,es,ae,G,NB⟩ ⟨hi,hu,ha,hG,hGl⟩
 try dsimp only at hi hu ha hG hGl
 by_cases bl:i<ws.length
 ·obtain⟨w,hx⟩: ∃x,ws[i]? =some x:=⟨_,aH bl⟩
  obtain⟨p,q,hp⟩:=WLn.ex (hl w (List.mem_of_getElem? hx)).1 (hl w (List.mem_of_getElem? hx)).2
  have hs:=As hp
  have ht:=J9 hu.se
  obtain⟨_,es',hr,Q7,Dn⟩:=hu.root abV (Ar p w.level)
  obtain⟨ra,rb,rc,rfl⟩:=EU Q7
  rcases QH Q7 ha with⟨j,hj,hg⟩ | hg
  ·obtain⟨⟨gj,ids⟩,hGj⟩: ∃x,G[j]? =some x:=⟨_,aH hj⟩
   have fP: (ez 0 G)[((j:Nat):Int).toNat]? =some (.sl (16001488+16*(0+j)) gj 0 ids.length):=rU hGj
   have dA:lk (sP 0 G) (16001488+16*(0+j))=some ⟨gj,1,true,false,some (ids.map vi)⟩:=kA hGj
   have hlen:=hGl _ (List.mem_of_getElem? hGj)
   dsimp only at hlen
   conv=>whnf
   repeat' (first| intro g| refine wi (aq hx rfl) ?_| refine wi hr ?_| refine wi hg ?_| refine wi fP ?_| apply ca hs| refine st ?_| refine br ?_ ?_<;>intro hc| rfl| refine QT (by(repeat' (first| exact fD| assumption| refine(Au aiO).trans ?_| refine(qp aiO).trans ?_| refine(nN aiO).trans ?_))) ?_) <;>conv=>whnf
   refine aK.mk (i+1,es',ae,G.set j (g,ids++[w.id]),NB) om ⟨abV,Dn,by simpa using ha,by simp;omega,?_⟩ ⟨by(repeat' (first| exact True.intro| refine ai ?_| refine And.intro ?_ ?_)),?_⟩
   ·intro p hp
    rcases aje hp with h| rfl
    ·have:=hGl p h;omega
    ·simp;omega
   ·refine ik ?_ (ik ?_ (ik ?_ (qq fun k p hk=> ?_)))
    ·show lk _ 49=some (⟨NB,1,true,false,some (ez 0 (G.set j (g,ids++[w.id])))⟩:Obj)
     rw[w8,List.length_append];exact fD
    ·show lk _ 304=some (⟨Ka,0,false,false,some es'⟩:Obj)
     repeat' (first| exact fD| refine(Au aiO).trans ?_| refine(qp aiO).trans ?_)
    ·show lk _ 720=some (⟨Q6,0,false,false,some ae⟩:Obj)
     repeat' (first| exact fD| refine(Au aiO).trans ?_| refine(qp aiO).trans ?_)
    ·by_cases U6:k=j
     ·   subst U6
         rw[List.getElem?_set_self abV] at hk
         injection hk with hk;subst hk
         refine(nN aiO).trans ?_
         show _=some (⟨g,1,true,false,some ((ids++[w.id]).map vi)⟩:Obj)
         rw[ajk];exact fD
     ·   rw[akr (aj4 U6)] at hk
         repeat' (first| exact kA hk| refine(nN aiO).trans ?_| refine(QS abV).trans ?_)
  ·obtain⟨Yz,fE,ha'⟩:=QI Q7 (Nat.lt_succ_self G.length) (ha.mono (Nat.le_succ _))
   have fP: (ez 0 G++[V.nils])[((G.length:Nat):Int).toNat]? =some .nils:=by
    rw[Int.toNat_natCast,ajp (by rw[lQ];exact aiZ _),lQ,Nat.sub_self];rfl
   have hdl:=lQ 0 G
   conv=>whnf
   repeat' (first| intro g| refine wi (aq hx rfl) ?_| refine wi hr ?_| refine wi hg ?_| refine wi fE ?_| refine wi fP ?_| apply ca hs| refine st ?_| refine br ?_ ?_<;>intro hc| rfl| refine QT (by(repeat' (first| exact fD| assumption| refine(Au aiO).trans ?_| refine(qp aiO).trans ?_| refine(nN aiO).trans ?_))) ?_) <;>conv=>whnf
   rename_i gn gb
   have pS: (ez 0 G++[V.nils]).set ((G.length:Nat):Int).toNat (V.sl (16001488+16*((G.length:Nat):Int).toNat) g 0 1)=ez 0 (G++[(g,[w.id])]):=by
    rw[Int.toNat_natCast,De,List.set_append_right _ _ (by rw[lQ];exact aiZ _),lQ,Nat.sub_self]
    simp[JZ]
   refine aK.mk (i+1,es',Yz,G++[(g,[w.id])],gn) om ⟨abV,Dn,by simpa using ha',by simp;omega,?_⟩ ⟨by(repeat' (first| exact True.intro| refine ai ?_| refine And.intro ?_ ?_)),?_⟩
   ·intro p hp
    rcases ai6.1 hp with h| h
    ·have:=hGl p h;omega
    ·rw[ajC.1 h];simp
   ·refine ik ?_ (ik ?_ (ik ?_ (qq fun k p hk=> ?_)))
    ·show lk _ 49=some (⟨gn,1,true,false,some (ez 0 (G++[(g,[w.id])]))⟩:Obj)
     rw[pS];exact fD
    ·show lk _ 304=some (⟨Ka,0,false,false,some es'⟩:Obj)
     repeat' (first| exact fD| refine(Au aiO).trans ?_| refine(qp aiO).trans ?_)
    ·show lk _ 720=some (⟨Q6,0,false,false,some Yz⟩:Obj)
     repeat' (first| exact fD| refine(Au aiO).trans ?_| refine(qp aiO).trans ?_)
    ·by_cases NC:k<G.length
     ·   rw[ajw abV] at hk
         repeat' (first| exact kA hk| refine(nN aiO).trans ?_| refine(QS abV).trans ?_)
     ·   obtain rfl:k=G.length:=by
          have:=(aiS.1 hk).1
          simp at this;omega
         obtain rfl:p=(g,[w.id]):=by
          rw[ajp abV] at hk
          simpa using hk.symm
         rw[show 16001488+16*(0+G.length)=16001488+16*((G.length:Nat):Int).toNat from by simp]
         repeat' (first| exact fD| refine(nN aiO).trans ?_)
 obtain rfl:i=ws.length:=abV
 clear bl hi
 conv=>whnf
 repeat' (first| intro g| refine st ?_| refine br ?_ ?_<;>intro hc| rfl) <;>conv=>whnf
 clear hu ha
 refine aL.by (fun ((i,H):Nat×List (Nat×List Int))=> ⟨[(2,.sl 49 NB 0 G.length),(95,.sl 49 NB 0 G.length),(96,av G.length),(97,av i)],(49,⟨NB,1,true,false,some (ez 0 H)⟩)::sP 0 H⟩)
  (fun (i,H)=>i≤G.length∧H.length=G.length∧ ∀p ∈ H,p.2.length≤ws.length) (fun (i,_)=>G.length - i) (0,G) ⟨by(repeat' (first| exact True.intro| refine ai ?_| refine And.intro ?_ ?_)),ik (by exact fD) (qq fun k p hk=>by repeat' (first| exact kA hk| refine(nN aiO).trans ?_))⟩ ⟨abW,rfl,hGl⟩ ?_
 clear Q6 ae es
 rintro⟨i,H⟩ ⟨hi,hH,hHl⟩
 try dsimp only at hi hH hHl
 by_cases bl:i<G.length
 ·obtain⟨⟨gj,ids⟩,hHj⟩: ∃x,H[i]? =some x:=⟨_,aH abV⟩
  have fP: (ez 0 H)[((i:Nat):Int).toNat]? =some (.sl (16001488+16*(0+i)) gj 0 ids.length):=rU hHj
  have dA:lk (sP 0 H) (16001488+16*(0+i))=some ⟨gj,1,true,false,some (ids.map vi)⟩:=kA hHj
  have hlen:=hHl _ (List.mem_of_getElem? hHj)
  dsimp only at hlen
  have PS:=zt (l:=ids) abV
  conv=>whnf
  repeat' (first| intro g| refine wi fP ?_| apply ca PS| refine st ?_| refine br ?_ ?_<;>intro hc| rfl| refine QT (by(repeat' (first| exact fD| assumption| refine(Au aiO).trans ?_| refine(qp aiO).trans ?_| refine(nN aiO).trans ?_))) ?_) <;>conv=>whnf
  refine aK.mk (i+1,H.set i (gj,ew ids)) om ⟨abV,by simpa using hH,fun p hp=> ?_⟩ ⟨by(repeat' (first| exact True.intro| refine ai ?_| refine And.intro ?_ ?_)),?_⟩
  ·rcases aje hp with h| rfl
   ·exact hHl p h
   ·rw[dG];exact hlen
  ·have kZ:ez 0 (H.set i (gj,ew ids))=ez 0 H:=by
    rw[w8,dG]
    exact vf (rU hHj)
   refine ik ?_ (qq fun k p hk=> ?_)
   ·show lk _ 49=some (⟨NB,1,true,false,some (ez 0 (H.set i (gj,ew ids)))⟩:Obj)
    rw[kZ]
    repeat' (first| exact fD| refine(qp aiO).trans ?_)
   ·by_cases NC:k=i
    ·subst NC
     rw[List.getElem?_set_self abV] at hk
     injection hk with hk;subst hk
     exact fD
    ·rw[akr (aj4 NC)] at hk
     repeat' (first| exact kA hk| refine(nN aiO).trans ?_| refine(QS abV).trans ?_)
 obtain rfl:i=G.length:=abV
 obtain⟨ls,e1,e2,e3⟩:=Xo (n:=ws.length) abV H hHl
 rw[←hH]
 conv=>whnf
 repeat' (first| intro g| refine st ?_| refine br ?_ ?_<;>intro hc| rfl) <;>conv=>whnf
 refine QV ?_
 intro r w
 rw[e1,←e2]
 obtain⟨l',k1,k2,k3⟩:=Nz (l:=ls) abV
 have kp:V.al (l'.map IL.v)=true:=IL.aN _
 conv=>whnf
 repeat' (first| intro g| refine nd ⟨rfl,rfl,abW,IL.aN _⟩ ?_| refine nd ⟨rfl,rfl,IL.aN _⟩ ?_| refine wi (jr (by rw[List.length_map,k1])) ?_| apply ca k3| refine st ?_| refine br ?_ ?_<;>intro hc| rfl) <;>conv=>whnf
 refine⟨l'.map IL.l,by rw[List.length_map];omega,fun y hy=> ?_,?_⟩
 ·obtain⟨x,hx,rfl⟩:=ai9.1 hy
  have:=e3 x (k2 x hx)
  omega
 ·rw[List.map_map];rfl
end Go.AM
