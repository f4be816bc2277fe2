/- Texts of the proof. -/
import Derived.Test.YtdifmldbllaeiaaGreatGaf
set_option maxRecDepth 20000
set_option maxHeartbeats 4000000
set_option linter.unusedSimpArgs false
set_option linter.unusedVariables false
namespace Go.AM
theorem xl {α:Type} (p:α→Bool) (l:List α): (firstIdx p l= -1∧ ∀ (i:Nat) (x:α),l[i]? =some x→p x=false)∨ ∃ (i:Nat) (x:α),firstIdx p l=(i:Int)∧l[i]? =some x∧p x=true∧ ∀ (j:Nat) (y:α),j<i→l[j]? =some y→p y=false:=by
 rcases dU p l with h| ⟨i,x,h1,h2,h3⟩
 ·exact .inl h
 ·refine .inr ⟨i,x,h1,h2,h3,?_⟩
  unfold firstIdx at h1
  cases h:l.findIdx? p with
  | none=>rw[h] at h1;simp at h1
  | some k=>
    rw[h] at h1
    rw[ag2] at h
    obtain⟨hl,hp,gR⟩:=h
    intro j y hj hy
    obtain⟨KH,rfl⟩:=af0.1 hy
    have:k=i:=by simp at h1;omega
    subst this
    simpa using gR j hj
theorem Fq {α:Type} {p:α→Bool} {l:List α} {i:Nat} {x:α} (h:l[i]? =some x): (l.take (i+1)).filter p=(l.take i).filter p++(if p x then [x] else []):=by
 rw[agD,h,Option.toList_some,List.filter_append]
 simp[List.filter_cons]
def Cl (g:Nat) (caps:List V) (f:Int→V):Prop:=V.ak caps=true∧bC E g=[]∧ ∀x,Ev E g (vi x::caps) ⟨f x,[]⟩
theorem VJ {l:List Int} {g:Nat} {caps:List V} {p:Int→Bool} (hlen:l.length< 1000000) (hc:Cl g caps fun x=> .bool (p x)):Ev E 280 [.lit 1 (l.map vi),.fn g caps] ⟨vi (firstIdx p l),[]⟩:=by
 exact qD (a:=false) (fun _=>rfl) (fun _=>rfl) hc.1 ae0 hc.2.2 hc.2.1
def j0 (l:List Int) (p:Int→Bool):List Int:=l.filter fun x=> !p x
theorem Lm (l:List Int) (p:Int→Bool): (j0 l p).length≤l.length:=List.length_filter_le ..
theorem za {l:List Int} {p:Int→Bool} {i:Nat} {x:Int} (h:l[i]? =some x):j0 (l.take (i+1)) p=j0 (l.take i) p++(if p x then [] else [x]):=by
 unfold j0
 rw[Fq h]
 cases p x<;>rfl
theorem BE {l:List Int} {p:Int→Bool} (h: ∀ (i:Nat) x,l[i]? =some x→p x=false):j0 l p=l:=by
 unfold j0
 rw[List.filter_eq_self]
 intro y hy
 obtain⟨j,hj⟩:=agt.1 hy
 simp[h j y hj]
theorem VK {l:List Int} {g:Nat} {caps:List V} {p:Int→Bool} (hl:l.length< 1000000) (ig:Cl g caps fun x=> .bool (p x)): ∃rest:List V,V.ak rest=true∧Ev E 505 [.msl 1 (l.map vi) 0 l.length,.fn g caps] ⟨.sl 0 0 0 (j0 l p).length,[(0,(j0 l p).map vi++rest)]⟩:=by
 have qZ:=VJ hl ig
 obtain⟨hc,hm,hp⟩:=ig
 have Mz:bC E 280=[]:=rfl
 have hKp:V.ak (l.map vi)=true:=dq l
 have Ha:V.ak [.lit 1 (l.map vi),.fn g caps]=true:=by simp[V.ak,V.au,hc,hKp]
 have key:=Ev.bH (R:=fun r=> ∃ (rest:List V),V.ak rest=true∧r=⟨.sl 0 0 0 (j0 l p).length,[(0,(j0 l p).map vi++rest)]⟩) Zw (Zx [.msl 1 (l.map vi) 0 l.length,.fn g caps]) rfl ?_
 ·obtain⟨r,h1,rest,h2,rfl⟩:=key
  exact⟨rest,h2,h1⟩
 rcases xl p l with⟨h1,h2⟩ | ⟨i0,x0,h1,h2,h3,h4⟩
 ·rw[h1] at qZ
  have e:j0 l p=l:=BE h2
  rw[e]
  conv=>whnf
  repeat' (first| intro g| apply ca qZ| refine st ?_| refine br ?_ ?_<;>intro hc| rfl| (simp only[List.append,dA,fL,V.au,hc,cond_true])) <;>conv=>whnf
  exact⟨[],rfl,afU⟩
 ·rw[h1] at qZ
  conv=>whnf
  repeat' (first| intro g| apply ca qZ| refine st ?_| refine br ?_ ?_<;>intro hc| rfl| (simp only[List.append,dA,fL,V.au,hc,cond_true])) <;>conv=>whnf
  have hi0:=(af0.1 h2).1
  have AB:j0 (l.take i0) p=l.take i0:=by
   refine BE fun j y hy=> ?_
   have hji:j<i0:=by
     have:=(af0.1 hy).1
     simp at this;omega
   rw[List.getElem?_take_of_lt hji] at hy
   exact h4 j y hji hy
  refine aO.by (fun ((j,i,es):Nat×Nat×List Int)=> ⟨[(0,.sl 0 0 0 l.length),(1,.fn g caps),(5,vi i),(6,vi j)],[(0,⟨0,1,true,false,some (es.map vi)⟩)]⟩)
   (fun (j,i,es)=>j≤l.length∧i<j∧es.length=l.length∧es.take i=j0 (l.take j) p∧es.drop j=l.drop j) (fun (j,_,_)=>l.length - j) (i0+1,i0,l) ?_ ?_ ?_
  ·have hw:IntKind.i64.wrap ((i0:Int)+1)=((i0+1:Nat):Int):=wrap64 ae0 ae0
   simp only[hw]
   exact su
  ·refine⟨ae0,ae0,rfl,?_,rfl⟩
   rw[za h2,AB];simp[h3]
  rintro⟨j,i,es⟩ ⟨hj,VG,bo,DZ,hdr⟩
  try dsimp only at hj VG bo DZ hdr
  have lm: (es.map vi).length=es.length:=List.length_map ..
  have cM:=hc
  by_cases bk:j<l.length
  ·have hx:l[j]? =some l[j]:=aL bk
   have TW:=hp l[j]
   generalize l[j]=x at hx TW
   have hxe:es[j]? =some x:=by
     have h5: (es.drop j)[0]? =(l.drop j)[0]? :=by rw[hdr]
     simpa [ahF,hx] using h5
   have aak: (es.map vi)[j]? =some (vi x):=by simp[hxe]
   have hot:=za (p:=p) hx
   have aal:es.drop (j+1)=l.drop (j+1):=by
     have h5: (es.drop j).drop 1=(l.drop j).drop 1:=by rw[hdr]
     simpa [ahc,Nat.add_comm] using h5
   cases Xu:p x with
   | false=>
     have CP: (es.set i x).take (i+1)=j0 (l.take (j+1)) p:=by
      rw[hot,←DZ,Xu]
      rw[agD,List.take_set_of_le ae0]
      simp[agY,show i<es.length by omega]
     have aej: (es.set i x).drop (j+1)=l.drop (j+1):=by
      rw[List.drop_set_of_lt ae0,aal]
     have e1: (⟨0,1,true,false,some ((es.map vi).set ((i:Nat):Int).toNat (vi x))⟩:Obj)=⟨0,1,true,false,some ((es.set i x).map vi)⟩:=by simp[ag0]
     simp only[Xu] at TW
     conv=>whnf
     repeat' (first| intro g| refine wi aak ?_| refine sf TW ?_| refine st ?_| refine br ?_ ?_<;>intro hc| rfl) <;>conv=>whnf
     exact aK.mk (j+1,i+1,es.set i x) om ⟨ae0,ae0,by simp[bo],CP,aej⟩ (by(refine⟨?_,?_⟩ <;>repeat' (first| exact True.intro| refine And.intro (e1) ?_| refine ai ?_| refine And.intro ?_ ?_)))
   | true=>
     simp only[Xu] at TW
     conv=>whnf
     repeat' (first| intro g| refine wi aak ?_| refine sf TW ?_| refine st ?_| refine br ?_ ?_<;>intro hc| rfl) <;>conv=>whnf
     exact aK.mk (j+1,i,es) om ⟨ae0,ae0,bo,by rw[DZ,hot];simp[Xu],aal⟩ su
  ·obtain rfl:j=l.length:=ae0
   rw[ag9] at DZ
   have hol: (j0 l p).length=i:=by rw[←DZ];simp;omega
   have hKe:V.ak (es.map vi)=true:=dq es
   conv=>whnf
   repeat' (first| intro g| refine nd (by first| ((and_intros<;>first| rfl| exact bq hKe (bR rfl) | exact fZ (bq hKe (bR rfl)) | (simp only[overwrite,List.length_append,agz,ahi,agG,List.length_map];omega) | omega)) | fail) ?_| refine st ?_| refine br ?_ ?_<;>intro hc| rfl) <;>conv=>whnf
   simp only[ahf,agK,Nat.sub_zero,overwrite,ag4]
   rw[hol,←ahM,DZ]
   exact⟨_,eQ (bR rfl) (cX fun y hy=>eX hKe y (agF hy)),rfl⟩
noncomputable def oM (f:Int→Int) (l:List Int):Nat→Int
 | 0=>0
 | k+1=>match l[k]? with
   | some x=>if k=0∨f (oM f l k) <f x then x else oM f l k
   | none=>oM f l k
noncomputable def wH (f:Int→Int) (l:List Int):Int:=oM f l l.length
theorem zb {f:Int→Int} {l:List Int} {k:Nat} {x:Int} (h:l[k]? =some x):oM f l (k+1)=if k=0∨f (oM f l k) <f x then x else oM f l k:=by
 simp only[oM,h]
theorem HW {l:List Int} {g:Nat} {caps:List V} {f:Int→Int} (hl:l.length< 1000000) (ig:Cl g caps fun x=>vi (f x)):Ev E 508 [.lit 1 (l.map vi),.fn g caps] ⟨.tuple [vi (wH f l),.bool (decide (0 <l.length))],[]⟩:=by
 obtain⟨hc,hm,hp⟩:=ig
 have KB:=dq l
 refine Ev.aI rfl rfl rfl ?_
 conv=>whnf
 repeat' (first| intro g| refine nd (by simp[V.ak,V.au,hc,KB]) ?_| refine st ?_| refine br ?_ ?_<;>intro hc| rfl) <;>conv=>whnf
 refine aO.by (fun k:Nat=> ⟨[(0,.lit 1 (l.map vi)),(1,.fn g caps),(6,vi (oM f l k)),(9,.lit 1 (l.map vi)),(10,ar (l.map vi).length),(11,ar k)],[]⟩) (fun k=>k≤l.length) (fun k=>l.length - k) 0 su ae0 ?_
 intro k hk
 try dsimp only at hk
 have cM:=hc
 by_cases bk:k<l.length
 ·have hx:l[k]? =some l[k]:=aL bk
  generalize l[k]=x at hx
  have wh: (l.map vi)[k]? =some (vi x):=by simp[hx]
  have h1:=hp x
  have h2:=hp (oM f l k)
  have eJ:=zb (f:=f) hx
  by_cases h0:k=0
  ·subst h0
   rw[if_pos (.inl rfl)] at eJ
   conv=>whnf
   repeat' (first| intro g| refine wi wh ?_| refine st ?_| refine br ?_ ?_<;>intro hc| rfl) <;>conv=>whnf
   refine aK.mk 1 om ae0 ?_
   simp only[eJ]
   exact su
  ·by_cases tF:f (oM f l k) <f x
   ·rw[if_pos (.inr tF)] at eJ
    conv=>whnf
    repeat' (first| intro g| refine wi wh ?_| refine sf h1 ?_| refine sf h2 ?_| refine st ?_| refine br ?_ ?_<;>intro hc| rfl) <;>conv=>whnf
    refine aK.mk (k+1) om ae0 ?_
    simp only[eJ]
    exact su
   ·rw[if_neg (fun h=>h.elim h0 tF)] at eJ
    conv=>whnf
    repeat' (first| intro g| refine wi wh ?_| refine sf h1 ?_| refine sf h2 ?_| refine st ?_| refine br ?_ ?_<;>intro hc| rfl) <;>conv=>whnf
    refine aK.mk (k+1) om ae0 ?_
    simp only[eJ]
    exact su
 ·obtain rfl:k=l.length:=ae0
  conv=>whnf
  repeat' (first| intro g| refine st ?_| refine br ?_ ?_<;>intro hc| rfl) <;>conv=>whnf
  simp[wH]
end Go.AM
namespace Go.AM
noncomputable def xn (es:List Edge) (a b:Int):Nat→Int
 | 0=>0
 | i+1=>match es[i]? with
   | some e=>if cS a b e=true then jV (xn es a b i+tZ e.line) else xn es a b i
   | none=>xn es a b i
noncomputable def T8 (es:List Edge) (a b:Int):Int:=xn es a b es.length
theorem O4 {es:List Edge} {a b:Int} {i:Nat} {e:Edge} (h:es[i]? =some e) (ht:cS a b e=true):xn es a b (i+1)=jV (xn es a b i+tZ e.line):=by
 simp only[xn,h,if_pos ht]
theorem Sq {es:List Edge} {a b:Int} {i:Nat} {e:Edge} (h:es[i]? =some e) (ht:cS a b e=false):xn es a b (i+1)=xn es a b i:=by
 simp only[xn,h,ht];rfl
def VL (es:List Edge):Prop:=es.length< 1000000∧ ∀e ∈ es,e.line.length< 1000000
theorem O5 {a b:Int} {e:Edge} (ht:cS a b e=false): ¬ (e.left=a∧e.right=b∨e.left=b∧e.right=a):=by simpa [cS] using ht
end Go.AM
namespace Go.AM
theorem VM {L:List V} {e:Edge} {i n:Nat} {a b s:Int} {p1 p9:V} {Q:aP→SS→Prop} (he:L[i]? =some e.v) (hn:L.length=n) (hi:i<n) (hb:n< 1000000) (ht:cS a b e=false)
  (hQ: ∀T' O',SS.Sub ⟨[(0,vi b),(1,p1),(2,.eptr (vi a) 0),(5,vi s),(9,.lit 4 L),(10,ar n),(11,ar (i+1))],[]⟩ ⟨T',O'⟩→Q .normal ⟨T',O'⟩):
  km E Jj ⟨[(0,vi b),(1,p1),(2,.eptr (vi a) 0),(5,vi s),(9,.lit 4 L),(10,ar n),(11,ar i)],[]⟩ Q:=by
 have kH:=O5 ht
 clear ht
 by_cases h1:e.left=a
 ·have h2: ¬e.right=b:=fun h=>kH (.inl ⟨h1,h⟩)
  by_cases h3:e.left=b
  ·have h4: ¬e.right=a:=fun h=>kH (.inr ⟨h3,h⟩)
   clear kH
   conv=>whnf
   repeat' (first| intro g| refine wi he ?_| refine st ?_| refine br ?_ ?_<;>intro hc| rfl) <;>conv=>whnf
   exact hQ _ _ su
  ·clear kH
   conv=>whnf
   repeat' (first| intro g| refine wi he ?_| refine st ?_| refine br ?_ ?_<;>intro hc| rfl) <;>conv=>whnf
   exact hQ _ _ su
 ·by_cases h3:e.left=b
  ·have h4: ¬e.right=a:=fun h=>kH (.inr ⟨h3,h⟩)
   clear kH
   conv=>whnf
   repeat' (first| intro g| refine wi he ?_| refine st ?_| refine br ?_ ?_<;>intro hc| rfl) <;>conv=>whnf
   exact hQ _ _ su
  ·clear kH
   conv=>whnf
   repeat' (first| intro g| refine wi he ?_| refine st ?_| refine br ?_ ?_<;>intro hc| rfl) <;>conv=>whnf
   exact hQ _ _ su
theorem Sr {L:List V} {e:Edge} {i n:Nat} {a b s:Int} {p1:V} {Q:aP→SS→Prop} (he:L[i]? =some e.v) (hn:L.length=n) (hi:i<n) (hb:n< 1000000) (ht:cS a b e=true) (TX:Ev E 496 [iy e.line] ⟨vi (tZ e.line),[]⟩)
  (hQ: ∀T' O',SS.Sub ⟨[(0,vi b),(1,p1),(2,.eptr (vi a) 0),(5,vi (jV (s+tZ e.line))),(9,.lit 4 L),(10,ar n),(11,ar (i+1))],[]⟩ ⟨T',O'⟩→Q .normal ⟨T',O'⟩):
  km E Jj ⟨[(0,vi b),(1,p1),(2,.eptr (vi a) 0),(5,vi s),(9,.lit 4 L),(10,ar n),(11,ar i)],[]⟩ Q:=by
 rcases Bb ht with⟨h1,h2⟩ | ⟨h1,h2,h3,h4⟩ | ⟨h1,h3,h4⟩
 all_goals
  clear ht
  conv=>whnf
  repeat' (first| intro g| refine wi he ?_| apply ca TX| refine st ?_| refine br ?_ ?_<;>intro hc| rfl) <;>conv=>whnf
  exact hQ _ _ su
theorem VN {m:aG} (hl:VL m.az) (a b:Int):Ev E 507 [vi b,.eptr m.v 0,.eptr (vi a) 0] ⟨vi (T8 m.az a b),[]⟩:=by
 refine Ev.aI rfl rfl rfl ?_
 conv=>whnf
 repeat' (first| intro g| refine st ?_| refine br ?_ ?_<;>intro hc| rfl) <;>conv=>whnf
 refine aO.by (fun i:Nat=> ⟨[(0,vi b),(1,.eptr m.v 0),(2,.eptr (vi a) 0),(5,vi (xn m.az a b i)),(9,.lit 4 (m.az.map Edge.v)),(10,ar m.az.length),(11,ar i)],[]⟩) (fun i=>i≤m.az.length) (fun i=>m.az.length - i) 0 ?_ ae0 ?_
 ·(refine⟨?_,?_⟩ <;>repeat' (first| exact True.intro| refine And.intro ((by(conv=>whnf);simp[xn])) ?_| refine ai ?_| refine And.intro ?_ ?_))
 intro i hi
 try dsimp only at hi
 have T9:=hl.1
 by_cases bk:i<m.az.length
 ·obtain⟨e,he⟩: ∃e,m.az[i]? =some e:=⟨_,aL bk⟩
  have tL: (m.az.map Edge.v)[i]? =some e.v:=by simp[he]
  have CO: (m.az.map Edge.v).length=m.az.length:=afU
  cases ht:cS a b e with
  | false=>
    have hn:=Sq he ht
    refine VM (p9:= .nils) tL CO bk T9 ht fun T' O' hs=>aK.mk (i+1) om ae0 ?_
    simp only[hn]
    exact hs
  | true=>
    have hn:=O4 he ht
    have TX:=VI (hl.2 e (List.mem_of_getElem? he))
    refine Sr tL CO bk T9 ht TX fun T' O' hs=>aK.mk (i+1) om ae0 ?_
    simp only[hn]
    exact hs
 ·obtain rfl:i=m.az.length:=ae0
  exact dr
theorem VO {m:aG} (hl:VL m.az) (a:Int):Cl 507 [.eptr m.v 0,.eptr (vi a) 0] fun b=>vi (T8 m.az a b):=
 ⟨by have h0:V.au m.v=true:=aG.tY false m
     simp only[V.ak,V.au,h0];rfl,rfl,fun b=>VN hl a b⟩
def pH (m:aG):V:= .mlit (bI false m.al m.al.length)
theorem Ss {m:aG} (hs:oo m) (a b:Int):Ev E 506 [vi b,.eptr m.v 0,.eptr (pH m) 0,.eptr (vi a) 0] ⟨.bool (decide (xi m a b≠0)),[]⟩:=by
 have hc:=CV false hs a b
 have hm:bC E 501=[]:=rfl
 have hp:V.ak [m.v,pH m,vi a,vi b]=true:=by
  have h0:V.au m.v=true:=aG.tY false m
  have h1:V.au (pH m)=true:=kG ..
  simp only[V.ak,h0,h1];rfl
 refine Ev.aI rfl rfl rfl ?_
 conv=>whnf
 repeat' (first| refine gJ hm hp hc rfl ?_| intro g| refine st ?_| refine br ?_ ?_<;>intro hc| rfl) <;>conv=>whnf
 all_goals simp
theorem VP {m:aG} (hs:oo m) (a:Int):Cl 506 [.eptr m.v 0,.eptr (pH m) 0,.eptr (vi a) 0] fun b=> .bool (decide (xi m a b≠0)):=
 ⟨by have h0:V.au m.v=true:=aG.tY false m
     have h1:V.au (pH m)=true:=kG ..
     simp only[V.ak,V.au,h0,h1];rfl,rfl,fun b=>Ss hs a b⟩
def zc (m:aG) (a:Int):Int:=match findF m.al a with
 | none=>0
 | some i=>match m.al[i]? with
   | some f=>jV (4*f.weight)
   | none=>0
theorem O7 {m:aG} (hs:oo m) (a b:Int):Ev E 489 [m.v,vi a,vi b] ⟨vi (zc m a),[]⟩:=by
 have hk:=tW false hs.2
 have hm:bC E 500=[]:=rfl
 have hp:V.ak [m.v]=true:=by
   have h0:V.au m.v=true:=aG.tY false m
   simp only[V.ak,h0];rfl
 refine Ev.aI rfl rfl rfl ?_
 cases h:findF m.al a with
 | none=>
   have e:zc m a=0:=by simp only[zc,h]
   rw[e]
   conv=>whnf
   repeat' (first| refine gJ hm hp hk (kG ..) ?_| intro g| refine wi (kJ h) ?_| refine st ?_| refine br ?_ ?_<;>intro hc| rfl) <;>conv=>whnf
 | some i=>
   obtain⟨f,hf,_⟩:=dW h
   have e:zc m a=jV (4*f.weight):=by simp only[zc,h,hf]
   rw[e]
   have hfv: (m.al.map aX.v)[i]? =some f.v:=by simp[hf]
   conv=>whnf
   repeat' (first| refine gJ hm hp hk (kG ..) ?_| intro g| refine wi (bL h hf) ?_| refine wi hfv ?_| refine st ?_| refine br ?_ ?_<;>intro hc| rfl) <;>conv=>whnf
end Go.AM
namespace Go.AM
def lD:V→Int
 | .tuple (.int _ n::_)=>n
 | _=>0
theorem ny (k:Bool) (fs:List aX): ∀n,∀e ∈ bI k fs n,∃ (i:Nat) (f:aX),fs[i]? =some f∧e= .tuple [vi f.id,CM k i f]
 | 0,e,h=>by simp[bI] at h
 | n+1,e,h=>by
   unfold bI at h
   split at h
   ·rename_i f hf
    split at h
    ·rcases agd.1 h with h| h
     ·exact ny k fs n e h
     ·simp at h;exact⟨n,f,hf,h⟩
    ·exact ny k fs n e h
   ·exact ny k fs n e h
def ua (fs:List aX) (n:Nat):List Int:=(bI false fs n).map lD
theorem qJ (fs:List aX): ∀n,(ua fs n).length≤n
 | 0=>by simp[ua,bI]
 | n+1=>by
   have ih:=qJ fs n
   simp only[ua,List.length_map] at ih ⊢
   unfold bI
   split
   ·split
    ·simp;omega
    ·omega
   ·omega
theorem BF (fs:List aX) (id:Int): ∀n,id ∈ ua fs n↔ ∃ (i:Nat) (f:aX),i<n∧fs[i]? =some f∧f.id=id
 | 0=>by simp[ua,bI]
 | n+1=> by
   have ih:=BF fs id n
   have mq: (∃ (i:Nat) (f:aX),i<n+1∧fs[i]? =some f∧f.id=id)↔(∃ (i:Nat) (f:aX),i<n∧fs[i]? =some f∧f.id=id)∨ ∃f,fs[n]? =some f∧f.id=id:=by
     constructor
     ·rintro⟨i,f,h1,h2,h3⟩
      rcases(by omega:i<n∨i=n) with h| rfl
      ·exact .inl ⟨i,f,h,h2,h3⟩
      ·exact .inr ⟨f,h2,h3⟩
     ·rintro(⟨i,f,h1,h2,h3⟩ | ⟨f,h2,h3⟩)
      ·exact⟨i,f,ae0,h2,h3⟩
      ·exact⟨n,f,ae0,h2,h3⟩
   rw[mq,←ih]
   unfold ua
   conv=>lhs;unfold bI
   cases hf:fs[n]? with
   | none=>simp
   | some f=>
     simp only[afY]
     by_cases hn:findF (fs.take n) f.id=none
     ·simp only[hn,if_true,agA,agd]
      simp[lD,eq_comm]
     ·simp only[hn,if_false]
      constructor
      ·exact .inl
      ·rintro(h| ⟨g,rfl,rfl⟩)
       ·exact h
       ·cases hq:findF (fs.take n) f.id with
        | none=>exact absurd hq hn
        | some i=>
          obtain⟨g,hg,hgi,_⟩:=dW hq
          have GQ:i<n:=by have:=(af0.1 hg).1;simp at this;omega
          exact ih.2 ⟨i,g,GQ,by rw[agy] at hg;simpa [GQ] using hg,hgi⟩
def cq (m:aG):List Int:=ed (ua m.al m.al.length)
theorem sj (l:List Int): (ed l).Perm l:=nP My l
theorem ub (l:List Int): (ed l).Pairwise (My · ·):=nQ (fun a b c h1 h2=>by simp[My] at h1 h2 ⊢;omega) (fun a b=>by simp[My];omega) l
theorem AD {l l':List Int} (h:l.Perm l'):ed l=ed l':=
 AX (le:=My) (fun a b h1 h2=>by simp[My] at h1 h2;omega) ((sj l).trans (h.trans (sj l').symm)) (ub l) (ub l')
theorem wI (m:aG): (cq m).length≤m.al.length:=by
 unfold cq;rw[dx];exact qJ ..
theorem Ft (m:aG) (id:Int):id ∈ cq m↔ ∃ (i:Nat) (f:aX),i<m.al.length∧m.al[i]? =some f∧f.id=id:=
 (sj _).mem_iff.trans (BF ..)
end Go.AM
namespace Go.AM
theorem all_keys {m:aG} (hs:oo m) {d:Int} {Q:aP→SS→Prop} {S:SS} {g2 g5 g6 gi:Nat}
  (hS: (⟨[(1,vi d),(2,.ptr 48 g2 0 0),(5,.ptr 96 g5 0 0),(6,.sl 113 g6 0 0),(18,.it 304 gi)],[(48,⟨g2,4,false,false,some [m.v]⟩),(96,⟨g5,1,false,false,some [pH m]⟩),(113,⟨g6,1,true,false,some []⟩),(304,⟨gi,0,false,false,none⟩)]⟩:SS).Sub ⟨S.T,(304,⟨gi,0,false,false,none⟩)::S.O⟩)
  (hT:lk S.T 18=some (.it 304 gi))
  (hI:lk S.O 304=some ⟨gi,0,false,false,some [pH m]⟩)
  (hQ: ∀g,Q .normal ⟨[(1,vi d),(2,.ptr 48 g2 0 0),(5,.ptr 96 g5 0 0),(6,.sl 113 g 0 (cq m).length)],[(48,⟨g2,4,false,false,some [m.v]⟩),(96,⟨g5,1,false,false,some [pH m]⟩),(113,⟨g,1,true,false,some ((cq m).map vi)⟩)]⟩):
  Eh E 18 19 21 0 [1,2,5,6] [48,96,113] RI RJ RK S Q:=by
 refine Eh.by (r:=304) (g:=gi) (es:=bI false m.al m.al.length) (fun L=> ⟨[(1,vi d),(2,.ptr 48 g2 0 0),(5,.ptr 96 g5 0 0),(6,.sl 113 (g6+L.length) 0 (L.map lD).length),(18,.it 304 gi)],[(48,⟨g2,4,false,false,some [m.v]⟩),(96,⟨g5,1,false,false,some [pH m]⟩),(113,⟨g6+L.length,1,true,false,some ((L.map lD).map vi)⟩),(304,⟨gi,0,false,false,none⟩)]⟩)
  ⟨[(1,vi d),(2,.ptr 48 g2 0 0),(5,.ptr 96 g5 0 0),(6,.sl 113 (g6+(cq m).length) 0 (cq m).length)],[(48,⟨g2,4,false,false,some [m.v]⟩),(96,⟨g5,1,false,false,some [pH m]⟩),(113,⟨g6+(cq m).length,1,true,false,some ((cq m).map vi)⟩)]⟩ ?_ hI ?_ (fun _=>rfl) (fun _=> ⟨_,rfl,rfl⟩) ?_ ?_ ?_ rfl rfl rfl rfl ?_
 ·exact hT
 ·exact hS
 ·intro e he
  obtain⟨i,f,_,rfl⟩:=ny _ _ _ e he
  exact⟨_,_,rfl⟩
 ·intro L k v rest hL
  obtain⟨i,f,hf,he⟩:=ny false m.al m.al.length (.tuple [k,v]) (hL.mem_iff.1 afU)
  injection he with he
  obtain⟨rfl,rfl⟩:k=vi f.id∧v=CM false i f:=by simpa using he
  have hlen: (L.map lD).length<m.al.length:=by
   have h1:=hL.length_eq
   have h2:=qJ m.al m.al.length
   simp[ua] at h1 h2 ⊢;omega
  have hm:=hs.2
  have afs:L.length≤m.al.length:=by rw[List.length_map] at hlen;omega
  have aft:L.length< 1000000:=ae0
  conv=>whnf
  repeat' (first| intro g| refine st ?_| refine br ?_ ?_<;>intro hc| rfl) <;>conv=>whnf
  refine⟨⟨rfl,_,rfl,rfl⟩,?_⟩
  conv=>whnf
  repeat' (first| refine Or.inr ?_| intro g| refine st ?_| refine br ?_ ?_<;>intro hc| rfl) <;>conv=>whnf
  have CK:aF ((L.map lD).map vi) 0 (L.map lD).length=(L.map lD).map vi:=iW afU
  have e1: ∀e:V,g6+(L++[e]).length=g6+L.length+1:=fun e=>by rw[List.length_append];rfl
  simp only[e1,CK]
  (refine⟨?_,?_⟩ <;>repeat' (first| exact True.intro| refine And.intro ((by(conv=>whnf);simp[lD];done)) ?_| refine ai ?_| refine And.intro ?_ ?_))
 ·intro L hL
  have hlen: (L.map lD).length≤m.al.length:=by
   have h1:=hL.length_eq
   have h2:=qJ m.al m.al.length
   simp[ua] at h1 h2 ⊢;omega
  have hm:=hs.2
  have MF:=xL (l:=L.map lD) ae0
  have KD: (cq m)=ed (L.map lD):=(AD (hL.map lD)).symm
  have CX: (cq m).length=L.length:=by rw[KD,dx,List.length_map]
  rw[KD,dx,List.length_map]
  have aek:Ev E 132 [.msl 1 ((L.map lD).map vi) 0 L.length] ⟨.tuple [],[(0,(ed (L.map lD)).map vi)]⟩:=by rw[List.length_map] at MF;exact MF
  conv=>whnf
  repeat' (first| intro g| apply ca aek| refine st ?_| refine br ?_ ?_<;>intro hc| rfl) <;>conv=>whnf
  refine⟨?_,?_⟩
  ·(repeat' (first| exact True.intro| refine And.intro ((by(conv=>whnf);simp)) ?_| refine ai ?_| refine And.intro ?_ ?_))
  ·(repeat' (first| exact True.intro| refine ai ?_| refine And.intro ?_ ?_))
 ·exact hQ _
end Go.AM
namespace Go.AM
def CY (mv d:V) (es:List V) (ids:List Int) (evs:List Event) (g2 g5 gk ge k:Nat) (z1 z2 z3:Bool):SS:=
 ⟨[(1,d),(2,.ptr 48 g2 0 0),(5,.ptr 96 g5 0 0),(6,.sl 113 gk 0 ids.length),(8,.sl 145 ge 0 evs.length),(29,.sl 113 gk 0 ids.length),(30,ar ids.length),(31,ar k)],
  [(48,⟨g2,4,false,z1,some [mv]⟩),(96,⟨g5,1,false,z2,some [.mlit es]⟩),(113,⟨gk,1,true,z3,some (ids.map vi)⟩),(145,⟨ge,5,true,false,some (evs.map Event.v)⟩)]⟩
theorem O8 {mv:V} {d id:Int} {es:List V} {ids:List Int} {evs:List Event} {g2 g5 gk ge k:Nat} {z1 z2 z3:Bool} {Q:aP→SS→Prop} (hx: (ids.map vi)[k]? =some (vi id)) (hk:k<ids.length) (hb:ids.length< 1000000) (hd:d< 1)
  (hQ: ∀T' O' z1 z2 z3,(CY mv (vi d) es ids evs g2 g5 gk ge (k+1) z1 z2 z3).Sub ⟨T',O'⟩→Q .normal ⟨T',O'⟩):km E xD (CY mv (vi d) es ids evs g2 g5 gk ge k z1 z2 z3) Q:=by
 conv=>whnf
 repeat' (first| intro g| refine wi hx ?_| refine st ?_| refine br ?_ ?_<;>intro hc| rfl) <;>conv=>whnf
 exact hQ _ _ _ _ _ su
theorem O9 {mv:V} {d id:Int} {es:List V} {ids:List Int} {evs:List Event} {f:aX} {g2 g5 gk ge k:Nat} {z1 z2 z3:Bool} {Q:aP→SS→Prop} (hx: (ids.map vi)[k]? =some (vi id)) (hk:k<ids.length) (hb:ids.length< 1000000) (hd: ¬d< 1) (eF:cQ false .nilp es (vi id)= .done (.eptr f.v 0)) (hf: ¬f.bB=d)
  (hQ: ∀T' O' z1 z2 z3,(CY mv (vi d) es ids evs g2 g5 gk ge (k+1) z1 z2 z3).Sub ⟨T',O'⟩→Q .normal ⟨T',O'⟩):km E xD (CY mv (vi d) es ids evs g2 g5 gk ge k z1 z2 z3) Q:=by
 conv=>whnf
 repeat' (first| intro g| refine wi hx ?_| refine wi eF ?_| refine st ?_| refine br ?_ ?_<;>intro hc| rfl) <;>conv=>whnf
 exact hQ _ _ _ _ _ su
theorem BG {l:List Int} (h:l.length< 1000000):Ev E 149 [.lit 1 (l.map vi)] ⟨.own 1 (l.map vi),[]⟩:=
 Ev.ext (by rw[ZH];simp[dy];omega)
theorem Su {mv:V} {d id Ln:Int} {es rest:List V} {ids K:List Int} {evs:List Event} {f:aX} {g2 g5 gk ge k:Nat} {z1 z2 z3:Bool} {Q:aP→SS→Prop} (hx: (ids.map vi)[k]? =some (vi id)) (hk:k<ids.length) (hb:ids.length< 1000000) (hd: ¬d< 1) (eF:cQ false .nilp es (vi id)= .done (.eptr f.v 0)) (hf:f.bB=d)
  (CW:V.au mv=true) (bo:V.ak es=true) (ud:V.ak rest=true) (hKl:K.length≤ids.length)
  (ig:Ev E 149 [.lit 1 (ids.map vi)] ⟨.own 1 (ids.map vi),[]⟩)
  (CL:Ev E 505 [.msl 1 (ids.map vi) 0 (ids.map vi).length,.fn 506 [.eptr mv 0,.eptr (.mlit es) 0,.eptr (vi id) 0]] ⟨.sl 0 0 0 K.length,[(0,K.map vi++rest)]⟩)
  (rE:Ev E 508 [.lit 1 (K.map vi),.fn 507 [.eptr mv 0,.eptr (vi id) 0]] ⟨.tuple [vi Ln,.bool false],[]⟩)
  (hQ: ∀T' O' z1 z2 z3,(CY mv (vi d) es ids evs g2 g5 gk ge (k+1) z1 z2 z3).Sub ⟨T',O'⟩→Q .normal ⟨T',O'⟩):km E xD (CY mv (vi d) es ids evs g2 g5 gk ge k z1 z2 z3) Q:=by
 have hw:aF (K.map vi++rest) 0 K.length=K.map vi:=qB afU
 rw[←hw] at rE
 have hn:True∧True∧0+K.length≤(K.map vi++rest).length∧V.ak (aF (K.map vi++rest) 0 K.length)=true:=⟨trivial,trivial,afU,by rw[hw];exact dq _⟩
 conv=>whnf
 repeat' (first| intro g| refine nd hn ?_| refine wi hx ?_| refine wi eF ?_| apply ca ig| apply ca CL| apply ca rE| refine st ?_| refine br ?_ ?_<;>intro hc| rfl| (simp only[List.append,dA,fL,V.au,V.ak,CW,bo,cond_true])) <;>conv=>whnf
 exact hQ _ _ _ _ _ su
def evI (w id Ln:Int):Event:=⟨2,if 1 <jV (4*w) then jV (4*w) else 1,id,Ln,0⟩
theorem Sv {mv:V} {d id Ln:Int} {es rest:List V} {ids K:List Int} {evs:List Event} {f:aX} {g2 g5 gk ge k:Nat} {z1 z2 z3:Bool} {Q:aP→SS→Prop} (hx: (ids.map vi)[k]? =some (vi id)) (hk:k<ids.length) (hb:ids.length< 1000000) (hd: ¬d< 1) (eF:cQ false .nilp es (vi id)= .done (.eptr f.v 0)) (hf:f.bB=d)
  (CW:V.au mv=true) (bo:V.ak es=true) (ud:V.ak rest=true) (hKl:K.length≤ids.length) (afF:evs.length≤k)
  (ig:Ev E 149 [.lit 1 (ids.map vi)] ⟨.own 1 (ids.map vi),[]⟩)
  (CL:Ev E 505 [.msl 1 (ids.map vi) 0 (ids.map vi).length,.fn 506 [.eptr mv 0,.eptr (.mlit es) 0,.eptr (vi id) 0]] ⟨.sl 0 0 0 K.length,[(0,K.map vi++rest)]⟩)
  (rE:Ev E 508 [.lit 1 (K.map vi),.fn 507 [.eptr mv 0,.eptr (vi id) 0]] ⟨.tuple [vi Ln,.bool true],[]⟩)
  (hQ: ∀T' O' z1 z2 z3 ge,(CY mv (vi d) es ids (evs++[evI f.weight id Ln]) g2 g5 gk ge (k+1) z1 z2 z3).Sub ⟨T',O'⟩→Q .normal ⟨T',O'⟩):km E xD (CY mv (vi d) es ids evs g2 g5 gk ge k z1 z2 z3) Q:=by
 have hw:aF (K.map vi++rest) 0 K.length=K.map vi:=qB afU
 rw[←hw] at rE
 have hn:True∧True∧0+K.length≤(K.map vi++rest).length∧V.ak (aF (K.map vi++rest) 0 K.length)=true:=⟨trivial,trivial,afU,by rw[hw];exact dq _⟩
 have rB:evs.length< 1000000:=ae0
 conv=>whnf
 repeat' (first| intro g| refine nd hn ?_| refine wi hx ?_| refine wi eF ?_| apply ca ig| apply ca CL| apply ca rE| refine st ?_| refine br ?_ ?_<;>intro hc| rfl| (simp only[List.append,dA,fL,V.au,V.ak,CW,bo,cond_true])) <;>conv=>whnf
 exact hQ _ _ _ _ _ _ su
end Go.AM
namespace Go.AM
def GS (m:aG) (id:Int):List Int:=j0 (cq m) fun o=>decide (xi m id o≠0)
noncomputable def Lo (m:aG) (d id:Int):Option Event:=
 if d< 1 then none else match findF m.al id with
  | none=>none
  | some i=>match m.al[i]? with
    | none=>none
    | some f=>if f.bB=d then(if 0 < (GS m id).length then some (evI f.weight id (wH (T8 m.az id) (GS m id))) else none) else none
noncomputable def HX (m:aG) (d:Int) (k:Nat):List Event:=((cq m).take k).filterMap (Lo m d)
noncomputable def VQ (m:aG) (d:Int):List Event:=HX m d (cq m).length
theorem Lp {m:aG} {d:Int} {k:Nat} {id:Int} (h: (cq m)[k]? =some id):HX m d (k+1)=HX m d k++(Lo m d id).toList:=by
 unfold HX
 rw[agD,h,Option.toList_some,List.filterMap_append]
 cases hh:Lo m d id<;>simp[hh]
theorem zd (m:aG) (d:Int) (k:Nat): (HX m d k).length≤k:=by
 unfold HX
 exact agm (ahW ..) (by simp;omega)
theorem Lq {m:aG} {d id:Int} (h:d< 1):Lo m d id=none:=by unfold Lo;rw[if_pos h]
theorem Lr {m:aG} {d id:Int} (h: ¬d< 1) {i:Nat} {f:aX} (hi:findF m.al id=some i) (hf:m.al[i]? =some f) (hd: ¬f.bB=d):Lo m d id=none:=by
 unfold Lo;rw[if_neg h];simp only[hi,hf,if_neg hd]
theorem Pa {m:aG} {d id:Int} (h: ¬d< 1) {i:Nat} {f:aX} (hi:findF m.al id=some i) (hf:m.al[i]? =some f) (hd:f.bB=d) (hn: ¬0 < (GS m id).length):Lo m d id=none:=by
 unfold Lo;rw[if_neg h];simp only[hi,hf,if_pos hd,if_neg hn]
theorem Pb {m:aG} {d id:Int} (h: ¬d< 1) {i:Nat} {f:aX} (hi:findF m.al id=some i) (hf:m.al[i]? =some f) (hd:f.bB=d) (hn:0 < (GS m id).length):Lo m d id=some (evI f.weight id (wH (T8 m.az id) (GS m id))):=by
 unfold Lo;rw[if_neg h];simp only[hi,hf,if_pos hd,if_pos hn]
theorem CZ {m:aG} {k:Nat} {id:Int} (h: (cq m)[k]? =some id): ∃ (i:Nat) (f:aX),findF m.al id=some i∧m.al[i]? =some f:=by
 obtain⟨j,g,_,hj,hg⟩:=(Ft m id).1 (List.mem_of_getElem? h)
 cases hq:findF m.al id with
 | none=>exact absurd hg (Ht hq j g hj)
 | some i=>
   obtain⟨f,hf,_⟩:=dW hq
   exact⟨i,f,rfl,hf⟩
def ael (m:aG):Prop:=VL m.az∧m.al.length< 1000000
theorem Sx {m:aG} (iM:ael m) (d:Int):Ev E 492 [m.v,vi d] ⟨.own 5 ((VQ m d).map Event.v),[]⟩:=by
 have hs:oo m:=⟨iM.1.1,iM.2⟩
 have hk:=tW false hs.2
 have hm:bC E 500=[]:=rfl
 have h0:V.au m.v=true:=aG.tY false m
 have hp:V.ak [m.v]=true:=by simp only[V.ak,h0];rfl
 refine Ev.aI rfl rfl rfl ?_
 conv=>whnf
 repeat' (first| refine gJ hm hp hk (kG ..) ?_| intro g| refine st ?_| refine br ?_ ?_<;>intro hc| rfl) <;>conv=>whnf
 rename_i g2 g4 g5 g6
 refine all_keys hs (d:=d) (g2:=g2) (g5:=g5) (g6:=g6) (gi:=g) ?_ rfl rfl fun gk=> ?_
 ·exact su
 clear hk hm hp
 have GQ:=wI m
 have CX:=hs.2
 conv=>whnf
 repeat' (first| intro g| refine st ?_| refine br ?_ ?_<;>intro hc| rfl) <;>conv=>whnf
 refine aO.by (fun ((k,ge,z1,z2,z3):Nat×Nat×Bool×Bool×Bool)=>CY m.v (vi d) (bI false m.al m.al.length) (cq m) (HX m d k) g2 g5 gk ge k z1 z2 z3) (fun (k,_)=>k≤(cq m).length) (fun (k,_)=> (cq m).length - k) (0,g,false,false,false) ?_ afU ?_
 ·exact su
 rintro⟨k,ge,z1,z2,z3⟩ hk
 try dsimp only at hk
 by_cases bk:k< (cq m).length
 ·obtain⟨id,Q0⟩: ∃id,(cq m)[k]? =some id:=⟨_,aL bk⟩
  have Sy: ((cq m).map vi)[k]? =some (vi id):=by simp[Q0]
  have VR: (cq m).length< 1000000:=ae0
  have eJ:=Lp (d:=d) Q0
  obtain⟨i,f,hi,hf⟩:=CZ Q0
  have eF:=bL (k:=false) hi hf
  have rB:=zd m d k
  by_cases hd:d< 1
  ·rw[Lq hd] at eJ
   refine O8 Sy bk VR hd fun T' O' z1 z2 z3 hq=>aK.mk (k+1,ge,z1,z2,z3) om ae0 ?_
   simp only[eJ,Option.toList_none,agJ]
   exact hq
  by_cases Xv:f.bB=d
  ·obtain⟨rest,hr,CL⟩:=VK VR (VP hs id)
   have Ua:Ev E 505 [.msl 1 ((cq m).map vi) 0 ((cq m).map vi).length,.fn 506 [.eptr m.v 0,.eptr (pH m) 0,.eptr (vi id) 0]] ⟨.sl 0 0 0 (GS m id).length,[(0,(GS m id).map vi++rest)]⟩:=by rw[List.length_map];exact CL
   have hnl: (GS m id).length≤(cq m).length:=Lm ..
   have rE:=HW (l:=GS m id) ae0 (VO iM.1 id)
   by_cases hn:0 < (GS m id).length
   ·rw[Pb hd hi hf Xv hn] at eJ
    simp only[hn,decide_true] at rE
    refine Sv Sy bk VR hd eF Xv h0 (iF ..) hr hnl rB (BG VR) Ua rE fun T' O' z1 z2 z3 ge hq=>aK.mk (k+1,ge,z1,z2,z3) om ae0 ?_
    simp only[eJ,Option.toList_some]
    exact hq
   ·rw[Pa hd hi hf Xv hn] at eJ
    simp only[hn,decide_false] at rE
    refine Su Sy bk VR hd eF Xv h0 (iF ..) hr hnl (BG VR) Ua rE fun T' O' z1 z2 z3 hq=>aK.mk (k+1,ge,z1,z2,z3) om ae0 ?_
    simp only[eJ,Option.toList_none,agJ]
    exact hq
  ·rw[Lr hd hi hf Xv] at eJ
   refine O9 Sy bk VR hd eF Xv fun T' O' z1 z2 z3 hq=>aK.mk (k+1,ge,z1,z2,z3) om ae0 ?_
   simp only[eJ,Option.toList_none,agJ]
   exact hq
 ·obtain rfl:k=(cq m).length:=ae0
  have rB:=zd m d (cq m).length
  conv=>whnf
  repeat' (first| intro g| refine st ?_| refine br ?_ ?_<;>intro hc| rfl) <;>conv=>whnf
  trace_state
end Go.AM
namespace Go.AM
theorem aG.Bd.fit {m:aG} (h:m.Bd):m.Fit:=by
 have h1:=h.e;have h2:=h.f;have h3:=h.w;have h4:=h.p
 exact⟨ae0,ae0,ae0,ae0,fun e he=>by have:=h.el e he;omega,fun w hw=>by have:=(h.wl w hw).2;omega⟩
theorem aG.Bd.aem {m:aG} (h:m.Bd):aag m:=by
 have h1:=h.e;have h2:=h.f;have h3:=h.w;have h4:=h.p
 exact⟨ae0,ae0,ae0,ae0,fun e he=>by have:=h.el e he;omega,fun w hw=>by have:=(h.wl w hw).2;omega⟩
theorem aG.Bd.small {m:aG} (h:m.Bd):oo m:=⟨by have:=h.e;omega,by have:=h.f;omega⟩
theorem dbd {m:aG} (h:m.Bd) (q:Dr.wG m): (aG.mk q.es m.al m.ways m.aA).Bd:=by
 refine⟨by show (m.az.set _ _).length≤18;rw[List.length_set];exact h.e,fun e he=> ?_,h.f,h.w,h.wl,h.p⟩
 rcases agf he with he| rfl
 ·exact h.el e he
 ·have:=h.el _ (List.mem_of_getElem? q.he)
  show q.rest.length< 10
  unfold Dr.wG.rest
  rw[agV]
  split<;>omega
theorem Ls {m:aG} (h:m.Bd) {id n:Int} (hc:Ev E 526 [m.v,vi id,vi n] ⟨vi 0,[]⟩):wB 524 [m.v,vi id,vi n]:=by
 obtain⟨v,q,h1,h2⟩:=Dr.K8 h.fit hc
 exact⟨v,_,h1,h2,dbd h q⟩
theorem Pc {m:aG} (h:m.Bd) (d:Int): ∃l:List Event,l.length≤126∧(∀e ∈ l,yS m e)∧Ev E 529 [m.v,vi d] ⟨.own 5 (l.map Event.v),[]⟩:=by
 have he:=h.e
 obtain⟨l,h1,h2,h3⟩:=Dr.Sg h.fit ae0 h.el d
 exact⟨l,ae0,h2,h3⟩
theorem Pd {fs:List aX} {a b:Int} {i j:Nat} (Q5:a≠b) (hi:findF fs a=some i) (hj:findF fs b=some j):i≠j:=fun h=>by
 obtain⟨f,h1,h2,_⟩:=dW hi
 obtain⟨g,h3,h4,_⟩:=dW hj
 subst h
 rw[h1] at h3;injection h3 with h3;subst h3
 exact Q5 (h2.symm.trans h4)
theorem Ub (sz:Nat) (l:List V):oL sz l= .lit sz l∨oL sz l= .own sz l:=by
 cases l<;>simp[oL]
theorem Pe (m:aG) (es:List Edge) (fs:List aX):Jy (HU m es fs) (.tuple [(aG.mk es fs m.ways m.aA).v,vi 0]):=by
 refine Vo (m:=⟨es,fs,m.ways,m.aA⟩) ?_ (.inl rfl) ?_ (.inl rfl)
 ·exact(Ub 4 _).symm
 ·exact(Ub 8 _).symm
theorem ot {es:List Edge} {a b:Int} {e:Edge}: ∀ {n:Nat},e ∈ ei es a b n→ ∃e' ∈ es,e.line=e'.line
 | 0,h=>by simp[ei] at h
 | n+1,h=>by
   cases hx:es[n]? with
   | none=>rw[ei,hx] at h;exact ot h
   | some x=>
     rw[ei,hx] at h
     simp only at h
     split at h
     ·exact ot h
     ·rcases agd.1 h with h| h
      ·exact ot h
      ·have:e=gS a b x:=by simpa using h
       exact⟨x,List.mem_of_getElem? hx,by rw[this];rfl⟩
theorem Lt {m:aG} (h:m.Bd) {a b:Int} (hc:xi m a b=0):wB 485 [m.v,vi a,vi b]:=by
 have main: ∀ {i j:Nat} {f g:aX},findF m.al a=some i→m.al[i]? =some f→findF m.al b=some j→m.al[j]? =some g→a≠b→wB 485 [m.v,vi a,vi b]:=by
  intro i j f g h1 h2 h3 h4 h5
  refine⟨_,_,Lk h.aem a b hc h1 h2 h3 h4 (Pd h5 h1 h3) h5,Pe m _ _,⟨?_,?_,?_,h.w,h.wl,h.p⟩⟩
  ·exact agm (oq m.az a b _) h.e
  ·intro e he
   obtain⟨e',h6,h7⟩:=ot he
   rw[h7];exact h.el e' h6
  ·exact agm (lC m.al i j f _) h.f
 cases y8 hc with
 | ok1 h1 h2 h3 h4 h5=>exact main h1 h2 h3 h4 h5
 | ok2 h1 h2 h3 h4 h5=>exact main h1 h2 h3 h4 h5
 | ok3 h1 h2 h3 h4 h5=>exact main h1 h2 h3 h4 h5
theorem BH {f:Int→Int} {l:List Int}: ∀k,0 <k→k≤l.length→oM f l k ∈ l
 | 0,h,_=>ae0
 | k+1,_,h=>by
   have hx:l[k]? =some l[k]:=aL h
   rw[zb hx]
   split
   ·exact agP ..
   ·rename_i hn
    exact BH k ae0 ae0
theorem Sz {m:aG} (h:oo m) {d id:Int} {e:Event} (he:Lo m d id=some e):yS m e:=by
 unfold Lo at he
 split at he
 ·simp at he
 split at he
 ·simp at he
 rename_i i hi
 split at he
 ·simp at he
 rename_i f hf
 split at he
 ·split at he
  ·rename_i hn
   injection he with he
   subst he
   have hb:wH (T8 m.az id) (GS m id) ∈ GS m id:=BH _ hn (af6 _)
   have hz:xi m id (wH (T8 m.az id) (GS m id))=0:=by simpa [GS,j0] using (ahI.1 hb).2
   have h1:=JJ h id (wH (T8 m.az id) (GS m id))
   have h2:=O7 h id (wH (T8 m.az id) (GS m id))
   rw[hz] at h1
   have hco:zc m id=jV (4*f.weight):=by simp only[zc,hi,hf]
   rw[hco] at h2
   exact .N9 h1 h2 (T4 _).1 (T4 _).2
  ·simp at he
 ·simp at he
theorem Pf {m:aG} (h:m.Bd) (d:Int): ∃l:List Event,l.length≤36∧(∀e ∈ l,yS m e)∧Ev E 492 [m.v,vi d] ⟨.own 5 (l.map Event.v),[]⟩:=by
 have hf:=h.f
 refine⟨VQ m d,?_,fun e he=> ?_,Sx ⟨⟨by have:=h.e;omega,fun e he=>by have:=h.el e he;omega⟩,ae0⟩ d⟩
 ·have:=zd m d (cq m).length
  have h2:=wI m
  unfold VQ
  omega
 ·obtain⟨id,_,h3⟩:=List.mem_filterMap.1 he
  exact Sz h.small h3
theorem Lu {m:aG} (h:m.Bd) {a b:Int} (hc:oT m.aA a b=0):wB 7 [m.v,vi a,vi b]:=by
 have:=NJ h.fit a b
 rw[if_pos hc] at this
 ·refine⟨_,⟨m.az,m.al,m.ways,n9 m.aA a b⟩,this,Vo (m:=⟨m.az,m.al,m.ways,n9 m.aA a b⟩) (.inl rfl) (.inl rfl) (.inl rfl) (.inl rfl),⟨h.e,h.el,h.f,h.w,h.wl,?_⟩⟩
  show (n9 m.aA a b).length≤6
  have hp:=h.p
  unfold n9
  split
  ·rw[agV,List.length_set]
   split<;>omega
  ·simp
theorem Pg {m:aG} (hp:m.aA.length< 1000000) {d:Int} {j:Nat} {e:Event} (he:yI m.aA d j=some e):yS m e:=by
 unfold yI at he
 split at he
 case h_2=>simp at he
 rename_i p hj
 split at he
 case isFalse=>simp at he
 split at he
 case h_2=>simp at he
 rename_i o ho
 injection he with he
 subst he
 obtain⟨i,_,_,_,h4⟩:=Ho ho
 have h1:=CI hp p.id o.id
 rw[h4] at h1
 exact .yT h1 (xJ hp p.id o.id) (T4 _).1 (T4 _).2
theorem Ph {m:aG} (h:m.Bd) (d:Int): ∃l:List Event,l.length≤6∧(∀e ∈ l,yS m e)∧Ev E 9 [m.v,vi d] ⟨.own 5 (l.map Event.v),[]⟩:=by
 have hp:=h.p
 have hl:=sh m.aA d m.aA.length
 obtain⟨l',h1,h2⟩:=Hp (m:=m) ae0 d
 refine⟨l',by rw[h1.length_eq];omega,fun e he=> ?_,h2⟩
 obtain⟨j,_,h3⟩:=List.mem_filterMap.1 (h1.mem_iff.1 he)
 exact Pg ae0 h3
end Go.AM
namespace Go.AM
theorem HY {L:List Event} {ia ib:Int} {p q:Nat} (ha:ia=(p:Int)) (hb:ib=(q:Int)) (x y:Event): (⟨0,5,true,false,some (((L.map Event.v).set ia.toNat y.v).set ib.toNat x.v)⟩:Obj)=⟨0,5,true,false,some (((L.set p y).set q x).map Event.v)⟩:=by
 subst ha;subst hb
 rw[ag0,ag0];rfl
theorem VS {L:List Event} {ia ib:Int} {p q:Nat} (ha:ia=(p:Int)) (hb:ib=(q:Int)) (y:Event) (hq:q<L.length): ∃z:Event,((L.map Event.v).set ia.toNat y.v)[ib.toNat]? =some z.v:=by
 subst ha;subst hb
 refine⟨(L.set p y)[q]'(by simpa using hq),?_⟩
 have: (L.map Event.v).set ((p:Nat):Int).toNat y.v=(L.set p y).map Event.v:=by rw[ag0];rfl
 rw[this,ahf,age,af3 (by simpa using hq)];rfl
def Sw (L l:List Event):Prop:=L.length=l.length∧ ∀x ∈ L,x ∈ l
theorem Sw.rfl {l:List Event}:Sw l l:=⟨Eq.refl _,fun _ h=>h⟩
theorem Sw.trans {a b c:List Event} (h:Sw a b) (k:Sw b c):Sw a c:=⟨h.1.trans k.1,fun x hx=>k.2 x (h.2 x hx)⟩
theorem Sw.HY {L l:List Event} (h:Sw L l) {a b p q:Nat} {x y:Event} (hx:L[a]? =some x) (hy:L[b]? =some y):Sw ((L.set p y).set q x) l:=⟨by simp[h.1],fun z hz=>by
 rcases agf hz with hz| rfl
 ·rcases agf hz with hz| rfl
  ·exact h.2 z hz
  ·exact h.2 _ (List.mem_of_getElem? hy)
 ·exact h.2 _ (List.mem_of_getElem? hx)⟩
theorem ze {l:List Event} (hlen:l.length< 1000000) {a b k f:Nat} (ha:a+k≤l.length) (hb:b+k≤l.length):
  ∃l':List Event,Sw l' l∧Ev E 705 [.msl 5 (l.map Event.v) 0 l.length,ar a,ar b,ar k,.fn f []] ⟨.tuple [],[(0,l'.map Event.v)]⟩:=by
 have key:=Ev.bH (R:=fun r=> ∃l':List Event,Sw l' l∧r=⟨.tuple [],[(0,l'.map Event.v)]⟩) ZA (ZB [.msl 5 (l.map Event.v) 0 l.length,ar a,ar b,ar k,.fn f []]) rfl ?_
 ·obtain⟨res,h1,l',h2,rfl⟩:=key
  exact⟨l',h2,h1⟩
 conv=>whnf
 repeat' (first| intro g| refine st ?_| refine br ?_ ?_<;>intro hc| rfl) <;>conv=>whnf
 refine aO.by (fun ((i,L):Nat×List Event)=> ⟨[(0,.sl 0 0 0 l.length),(1,ar a),(2,ar b),(3,ar k),(10,ar i)],[(0,⟨0,5,true,false,some (L.map Event.v)⟩)]⟩)
  (fun p=>p.1≤k∧Sw p.2 l) (fun p=>k - p.1) (0,l) su ⟨afU,Sw.rfl⟩ ?_
 rintro⟨i,L⟩ ⟨hi,hL,hM⟩
 dsimp only at hi hL hM
 by_cases bk:i<k
 ·have wa:IntKind.i64.wrap ((a:Int)+(i:Int))=((a+i:Nat):Int):=wt
  have wb:IntKind.i64.wrap ((b:Int)+(i:Int))=((b+i:Nat):Int):=wt
  obtain⟨x,hx⟩: ∃x,L[a+i]? =some x:=⟨_,aL ae0⟩
  obtain⟨y,hy⟩: ∃x,L[b+i]? =some x:=⟨_,aL ae0⟩
  obtain⟨z,hz⟩:=VS wa wb y (L:=L) ae0
  have na:0≤IntKind.i64.wrap ((a:Int)+(i:Int)):=by rw[wa];omega
  have nb:0≤IntKind.i64.wrap ((b:Int)+(i:Int)):=by rw[wb];omega
  have e2:=HY (L:=L) wa wb x y
  conv=>whnf
  repeat' (first| intro g| refine wi (av hx wa) ?_| refine wi (av hy wb) ?_| refine wi hz ?_| refine st ?_| refine br ?_ ?_<;>intro hc| rfl) <;>conv=>whnf
  exact aK.mk (i+1,(L.set (a+i) y).set (b+i) x) om ⟨ae0,Sw.HY ⟨hL,hM⟩ hx hy⟩ (by(refine⟨?_,?_⟩ <;>repeat' (first| exact True.intro| refine And.intro (e2) ?_| refine ai ?_| refine And.intro ?_ ?_)))
 ·conv=>whnf
  repeat' (first| intro g| refine st ?_| refine br ?_ ?_<;>intro hc| rfl) <;>conv=>whnf
  exact⟨L,⟨hL,hM⟩,rfl⟩
theorem ja {x:Int} {n:Nat} (h:x=(n:Int)):ar n=vi x:=by rw[h]
theorem xP {l:List Event} (hlen:l.length< 1000000) {a m b f:Nat} (ha:a<m) (hm:m<b) (hb:b≤l.length):
  ∃l':List Event,Sw l' l∧Ev E 700 [.msl 5 (l.map Event.v) 0 l.length,ar a,ar m,ar b,.fn f []] ⟨.tuple [],[(0,l'.map Event.v)]⟩:=by
 have key:=Ev.bH (R:=fun r=> ∃l':List Event,Sw l' l∧r=⟨.tuple [],[(0,l'.map Event.v)]⟩) Zy (Zz [.msl 5 (l.map Event.v) 0 l.length,ar a,ar m,ar b,.fn f []]) rfl ?_
 ·obtain⟨res,h1,l',h2,rfl⟩:=key
  exact⟨l',h2,h1⟩
 have w0:IntKind.i64.wrap ((m:Int) - (a:Int))=((m - a:Nat):Int):=wt
 have w1:IntKind.i64.wrap ((b:Int) - (m:Int))=((b - m:Nat):Int):=wt
 conv=>whnf
 repeat' (first| intro g| refine st ?_| refine br ?_ ?_<;>intro hc| rfl) <;>conv=>whnf
 refine aO.by (fun ((i,j,L):Nat×Nat×List Event)=> ⟨[(0,.sl 0 0 0 l.length),(2,ar m),(4,.fn f []),(10,ar i),(11,ar j)],[(0,⟨0,5,true,false,some (L.map Event.v)⟩)]⟩)
  (fun p=>0 <p.1∧0 <p.2.1∧p.1≤m∧m+p.2.1≤b∧Sw p.2.2 l) (fun p=>p.1+p.2.1) (m - a,b - m,l) (by(refine⟨?_,?_⟩ <;>repeat' (first| exact True.intro| refine And.intro (congrArg vi w0) ?_| refine And.intro (congrArg vi w1) ?_| refine ai ?_| refine And.intro ?_ ?_))) ⟨om,om,om,om,Sw.rfl⟩ ?_
 rintro⟨i,j,L⟩ ⟨hi,hj,him,hjb,hL,hM⟩
 dsimp only at hi hj him hjb hL hM
 have wm:IntKind.i64.wrap ((m:Int) - (i:Int))=((m - i:Nat):Int):=wt
 have wj:IntKind.i64.wrap (IntKind.i64.wrap ((m:Int)+(j:Int)) - (i:Int))=((m+j:Nat):Int) - (i:Int):=by
  rw[wrap64 (n:=(m:Int)+(j:Int)) ae0 ae0]
  exact wt
 have hn:l.length=L.length:=hL.symm
 by_cases he:i=j
 ·subst he
  obtain⟨l1,k1,c1⟩:=ze (l:=L) ae0 (a:=m - i) (b:=m) (k:=i) (f:=f) ae0 ae0
  rw[ja wm,hL] at c1
  conv=>whnf
  repeat' (first| intro g| refine nd ⟨rfl,rfl,rfl,by simp[hL],Event.aV _⟩ ?_| refine nd ⟨rfl,rfl,Event.aV _⟩ ?_| apply ca c1| refine st ?_| refine br ?_ ?_<;>intro hc| rfl) <;>conv=>whnf
  exact⟨l1,k1.trans ⟨hL,hM⟩,rfl⟩
 ·have kE: ¬ (i:Int)=(j:Int):=ae0
  by_cases hg:j<i
  ·obtain⟨l1,k1,c1⟩:=ze (l:=L) ae0 (a:=m - i) (b:=m) (k:=j) (f:=f) ae0 ae0
   have ws:IntKind.i64.wrap ((i:Int) - (j:Int))=((i - j:Nat):Int):=wt
   rw[ja wm,hL] at c1
   conv=>whnf
   repeat' (first| ((exfalso;omega)) | intro g| refine nd ⟨rfl,rfl,rfl,by simp[hL],Event.aV _⟩ ?_| refine nd ⟨rfl,rfl,Event.aV _⟩ ?_| apply ca c1| refine st ?_| refine br ?_ ?_<;>intro hc| rfl) <;>conv=>whnf
   exact aK.mk (i - j,j,l1) om ⟨om,hj,om,hjb,k1.trans ⟨hL,hM⟩⟩ (by(refine⟨?_,?_⟩ <;>repeat' (first| exact True.intro| refine And.intro (congrArg vi ws) ?_| refine ai ?_| refine And.intro ?_ ?_)))
  ·obtain⟨l1,k1,c1⟩:=ze (l:=L) ae0 (a:=m - i) (b:=m+j - i) (k:=i) (f:=f) ae0 ae0
   have ws:IntKind.i64.wrap ((j:Int) - (i:Int))=((j - i:Nat):Int):=wt
   have wj2:IntKind.i64.wrap (IntKind.i64.wrap ((m:Int)+(j:Int)) - (i:Int))=((m+j - i:Nat):Int):=by rw[wj];omega
   rw[ja wm,ja wj2,hL] at c1
   conv=>whnf
   repeat' (first| ((exfalso;omega)) | intro g| refine nd ⟨rfl,rfl,rfl,by simp[hL],Event.aV _⟩ ?_| refine nd ⟨rfl,rfl,Event.aV _⟩ ?_| apply ca c1| refine st ?_| refine br ?_ ?_<;>intro hc| rfl) <;>conv=>whnf
   exact aK.mk (i,j - i,l1) om ⟨hi,om,him,om,k1.trans ⟨hL,hM⟩⟩ (by(refine⟨?_,?_⟩ <;>repeat' (first| exact True.intro| refine And.intro (congrArg vi ws) ?_| refine ai ?_| refine And.intro ?_ ?_)))
end Go.AM
