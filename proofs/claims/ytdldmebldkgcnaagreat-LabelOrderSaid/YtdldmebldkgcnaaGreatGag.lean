/- Texts of the proof. -/
import Derived.Test.YtdldmebldkgcnaaGreatGaf
set_option maxRecDepth 20000
set_option maxHeartbeats 4000000
set_option linter.unusedSimpArgs false
set_option linter.unusedVariables false
namespace Go.AM
theorem za {α:Type} (p:α→Bool) (l:List α): (firstIdx p l= -1∧ ∀ (i:Nat) (x:α),l[i]? =some x→p x=false)∨ ∃ (i:Nat) (x:α),firstIdx p l=(i:Int)∧l[i]? =some x∧p x=true∧ ∀ (j:Nat) (y:α),j<i→l[j]? =some y→p y=false:=by
 rcases cI p l with h| ⟨i,x,h1,h2,h3⟩
 ·exact .inl h
 ·refine .inr ⟨i,x,h1,h2,h3,?_⟩
  unfold firstIdx at h1
  cases h:l.findIdx? p with
  | none=>rw[h] at h1;simp at h1
  | some k=>
    rw[h] at h1
    rw[ajM] at h
    obtain⟨hl,hp,ij⟩:=h
    intro j y hj hy
    obtain⟨E2,rfl⟩:=aiS.1 hy
    have:k=i:=by simp at h1;omega
    subst this
    simpa using ij j hj
theorem HH {α:Type} {p:α→Bool} {l:List α} {i:Nat} {x:α} (h:l[i]? =some x): (l.take (i+1)).filter p=(l.take i).filter p++(if p x then [x] else []):=by
 rw[ajt,h,Option.toList_some,List.filter_append]
 simp[List.filter_cons]
def Cl (g:Nat) (caps:List V) (f:Int→V):Prop:=V.al caps=true∧bz E g=[]∧ ∀x,Ev E g (vi x::caps) ⟨f x,[]⟩
theorem Y6 {l:List Int} {g:Nat} {caps:List V} {p:Int→Bool} (hlen:l.length< 1000000) (hc:Cl g caps fun x=> .bool (p x)):Ev E 280 [.lit 1 (l.map vi),.fn g caps] ⟨vi (firstIdx p l),[]⟩:=by
 exact oZ (a:=false) (fun _=>rfl) (fun _=>rfl) hc.1 abV hc.2.2 hc.2.1
def la (l:List Int) (p:Int→Bool):List Int:=l.filter fun x=> !p x
theorem N9 (l:List Int) (p:Int→Bool): (la l p).length≤l.length:=List.length_filter_le ..
theorem AR {l:List Int} {p:Int→Bool} {i:Nat} {x:Int} (h:l[i]? =some x):la (l.take (i+1)) p=la (l.take i) p++(if p x then [] else [x]):=by
 unfold la
 rw[HH h]
 cases p x<;>rfl
theorem DI {l:List Int} {p:Int→Bool} (h: ∀ (i:Nat) x,l[i]? =some x→p x=false):la l p=l:=by
 unfold la
 rw[akw]
 intro y hy
 obtain⟨j,hj⟩:=aji.1 hy
 simp[h j y hj]
theorem Y7 {l:List Int} {g:Nat} {caps:List V} {p:Int→Bool} (hl:l.length< 1000000) (iB:Cl g caps fun x=> .bool (p x)): ∃rest:List V,V.al rest=true∧Ev E 505 [.msl 1 (l.map vi) 0 l.length,.fn g caps] ⟨.sl 0 0 0 (la l p).length,[(0,(la l p).map vi++rest)]⟩:=by
 have sC:=Y6 hl iB
 obtain⟨hc,hm,hp⟩:=iB
 have PM:bz E 280=[]:=rfl
 have hKp:V.al (l.map vi)=true:=dw l
 have JK:V.al [.lit 1 (l.map vi),.fn g caps]=true:=by simp[V.al,V.aw,hc,hKp]
 have key:=Ev.bD (R:=fun r=> ∃ (rest:List V),V.al rest=true∧r=⟨.sl 0 0 0 (la l p).length,[(0,(la l p).map vi++rest)]⟩) ab5 (ab6 [.msl 1 (l.map vi) 0 l.length,.fn g caps]) rfl ?_
 ·obtain⟨r,h1,rest,h2,rfl⟩:=key
  exact⟨rest,h2,h1⟩
 rcases za p l with⟨h1,h2⟩ | ⟨i0,x0,h1,h2,h3,h4⟩
 ·rw[h1] at sC
  have e:la l p=l:=DI h2
  rw[e]
  conv=>whnf
  repeat' (first| intro g| apply ca sC| refine st ?_| refine br ?_ ?_<;>intro hc| rfl| (simp only[List.append,dL,fZ,V.aw,hc,cond_true])) <;>conv=>whnf
  exact⟨[],rfl,abW⟩
 ·rw[h1] at sC
  conv=>whnf
  repeat' (first| intro g| apply ca sC| refine st ?_| refine br ?_ ?_<;>intro hc| rfl| (simp only[List.append,dL,fZ,V.aw,hc,cond_true])) <;>conv=>whnf
  have hi0:=(aiS.1 h2).1
  have vy:la (l.take i0) p=l.take i0:=by
   refine DI fun j y hy=> ?_
   have Y8:j<i0:=by
     have:=(aiS.1 hy).1
     simp at this;omega
   rw[List.getElem?_take_of_lt Y8] at hy
   exact h4 j y Y8 hy
  refine aL.by (fun ((j,i,es):Nat×Nat×List Int)=> ⟨[(0,.sl 0 0 0 l.length),(1,.fn g caps),(5,vi i),(6,vi j)],[(0,⟨0,1,true,false,some (es.map vi)⟩)]⟩)
   (fun (j,i,es)=>j≤l.length∧i<j∧es.length=l.length∧es.take i=la (l.take j) p∧es.drop j=l.drop j) (fun (j,_,_)=>l.length - j) (i0+1,i0,l) ?_ ?_ ?_
  ·have hw:IntKind.i64.wrap ((i0:Int)+1)=((i0+1:Nat):Int):=wrap64 abV abV
   simp only[hw]
   exact su
  ·refine⟨abV,abV,rfl,?_,rfl⟩
   rw[AR h2,vy];simp[h3]
  rintro⟨j,i,es⟩ ⟨hj,Jm,bq,y9,RU⟩
  try dsimp only at hj Jm bq y9 RU
  have lm: (es.map vi).length=es.length:=List.length_map ..
  have cS:=hc
  by_cases bl:j<l.length
  ·have hx:l[j]? =some l[j]:=aH bl
   have Xi:=hp l[j]
   generalize l[j]=x at hx Xi
   have hxe:es[j]? =some x:=by
     have h5: (es.drop j)[0]? =(l.drop j)[0]? :=by rw[RU]
     simpa [aki,hx] using h5
   have acO: (es.map vi)[j]? =some (vi x):=by simp[hxe]
   have hot:=AR (p:=p) hx
   have RV:es.drop (j+1)=l.drop (j+1):=by
     have h5: (es.drop j).drop 1=(l.drop j).drop 1:=by rw[RU]
     simpa [aj9,Nat.add_comm] using h5
   cases Jn:p x with
   | false=>
     have pS: (es.set i x).take (i+1)=la (l.take (j+1)) p:=by
      rw[hot,←y9,Jn]
      rw[ajt,List.take_set_of_le abV]
      simp[ajQ,show i<es.length by omega]
     have Y9: (es.set i x).drop (j+1)=l.drop (j+1):=by
      rw[List.drop_set_of_lt abV,RV]
     have e1: (⟨0,1,true,false,some ((es.map vi).set ((i:Nat):Int).toNat (vi x))⟩:Obj)=⟨0,1,true,false,some ((es.set i x).map vi)⟩:=by simp[ajH]
     simp only[Jn] at Xi
     conv=>whnf
     repeat' (first| intro g| refine wi acO ?_| refine sf Xi ?_| refine st ?_| refine br ?_ ?_<;>intro hc| rfl) <;>conv=>whnf
     exact aK.mk (j+1,i+1,es.set i x) om ⟨abV,abV,by simp[bq],pS,Y9⟩ (by(refine⟨?_,?_⟩ <;>repeat' (first| exact True.intro| refine And.intro (e1) ?_| refine ai ?_| refine And.intro ?_ ?_)))
   | true=>
     simp only[Jn] at Xi
     conv=>whnf
     repeat' (first| intro g| refine wi acO ?_| refine sf Xi ?_| refine st ?_| refine br ?_ ?_<;>intro hc| rfl) <;>conv=>whnf
     exact aK.mk (j+1,i,es) om ⟨abV,abV,bq,by rw[y9,hot];simp[Jn],RV⟩ su
  ·obtain rfl:j=l.length:=abV
   rw[ajP] at y9
   have hol: (la l p).length=i:=by rw[←y9];simp;omega
   have Za:V.al (es.map vi)=true:=dw es
   conv=>whnf
   repeat' (first| intro g| refine nd (by first| ((and_intros<;>first| rfl| exact bj Za (bE rfl) | exact eH (bj Za (bE rfl)) | (simp only[overwrite,List.length_append,ajg,aj3,aju,List.length_map];omega) | omega)) | fail) ?_| refine st ?_| refine br ?_ ?_<;>intro hc| rfl) <;>conv=>whnf
   simp only[Int.toNat_natCast,ajF,Nat.sub_zero,overwrite,ajR]
   rw[hol,←List.map_take,y9]
   exact⟨_,bC (bE rfl) (cR fun y hy=>dW Za y (ajz hy)),rfl⟩
noncomputable def qC (f:Int→Int) (l:List Int):Nat→Int
 | 0=>0
 | k+1=>match l[k]? with
   | some x=>if k=0∨f (qC f l k) <f x then x else qC f l k
   | none=>qC f l k
noncomputable def Mo (f:Int→Int) (l:List Int):Int:=qC f l l.length
theorem Ky {f:Int→Int} {l:List Int} {k:Nat} {x:Int} (h:l[k]? =some x):qC f l (k+1)=if k=0∨f (qC f l k) <f x then x else qC f l k:=by
 simp only[qC,h]
theorem Kz {l:List Int} {g:Nat} {caps:List V} {f:Int→Int} (hl:l.length< 1000000) (iB:Cl g caps fun x=>vi (f x)):Ev E 508 [.lit 1 (l.map vi),.fn g caps] ⟨.tuple [vi (Mo f l),.bool (decide (0 <l.length))],[]⟩:=by
 obtain⟨hc,hm,hp⟩:=iB
 have Np:=dw l
 refine Ev.aD rfl rfl rfl ?_
 conv=>whnf
 repeat' (first| intro g| refine nd (by simp[V.al,V.aw,hc,Np]) ?_| refine st ?_| refine br ?_ ?_<;>intro hc| rfl) <;>conv=>whnf
 refine aL.by (fun k:Nat=> ⟨[(0,.lit 1 (l.map vi)),(1,.fn g caps),(6,vi (qC f l k)),(9,.lit 1 (l.map vi)),(10,av (l.map vi).length),(11,av k)],[]⟩) (fun k=>k≤l.length) (fun k=>l.length - k) 0 su abV ?_
 intro k hk
 try dsimp only at hk
 have cS:=hc
 by_cases bl:k<l.length
 ·have hx:l[k]? =some l[k]:=aH bl
  generalize l[k]=x at hx
  have uy: (l.map vi)[k]? =some (vi x):=by simp[hx]
  have h1:=hp x
  have h2:=hp (qC f l k)
  have eW:=Ky (f:=f) hx
  by_cases h0:k=0
  ·subst h0
   rw[if_pos (.inl rfl)] at eW
   conv=>whnf
   repeat' (first| intro g| refine wi uy ?_| refine st ?_| refine br ?_ ?_<;>intro hc| rfl) <;>conv=>whnf
   refine aK.mk 1 om abV ?_
   simp only[eW]
   exact su
  ·by_cases u5:f (qC f l k) <f x
   ·rw[if_pos (.inr u5)] at eW
    conv=>whnf
    repeat' (first| intro g| refine wi uy ?_| refine sf h1 ?_| refine sf h2 ?_| refine st ?_| refine br ?_ ?_<;>intro hc| rfl) <;>conv=>whnf
    refine aK.mk (k+1) om abV ?_
    simp only[eW]
    exact su
   ·rw[if_neg (fun h=>h.elim h0 u5)] at eW
    conv=>whnf
    repeat' (first| intro g| refine wi uy ?_| refine sf h1 ?_| refine sf h2 ?_| refine st ?_| refine br ?_ ?_<;>intro hc| rfl) <;>conv=>whnf
    refine aK.mk (k+1) om abV ?_
    simp only[eW]
    exact su
 ·obtain rfl:k=l.length:=abV
  conv=>whnf
  repeat' (first| intro g| refine st ?_| refine br ?_ ?_<;>intro hc| rfl) <;>conv=>whnf
  simp[Mo]
end Go.AM
namespace Go.AM
noncomputable def zb (es:List Edge) (a b:Int):Nat→Int
 | 0=>0
 | i+1=>match es[i]? with
   | some e=>if cZ a b e=true then gC (zb es a b i+vx e.line) else zb es a b i
   | none=>zb es a b i
noncomputable def brd (es:List Edge) (a b:Int):Int:=zb es a b es.length
theorem RW {es:List Edge} {a b:Int} {i:Nat} {e:Edge} (h:es[i]? =some e) (ht:cZ a b e=true):zb es a b (i+1)=gC (zb es a b i+vx e.line):=by
 simp only[zb,h,if_pos ht]
theorem Vz {es:List Edge} {a b:Int} {i:Nat} {e:Edge} (h:es[i]? =some e) (ht:cZ a b e=false):zb es a b (i+1)=zb es a b i:=by
 simp only[zb,h,ht];rfl
def Zb (es:List Edge):Prop:=es.length< 1000000∧ ∀e ∈ es,e.line.length< 1000000
theorem RX {a b:Int} {e:Edge} (ht:cZ a b e=false): ¬ (e.left=a∧e.right=b∨e.left=b∧e.right=a):=by simpa [cZ] using ht
end Go.AM
namespace Go.AM
theorem Zc {L:List V} {e:Edge} {i n:Nat} {a b s:Int} {p1 p9:V} {Q:aR→SS→Prop} (he:L[i]? =some e.v) (hn:L.length=n) (hi:i<n) (hb:n< 1000000) (ht:cZ a b e=false)
  (hQ: ∀T' O',SS.Sub ⟨[(0,vi b),(1,p1),(2,.eptr (vi a) 0),(5,vi s),(9,.lit 4 L),(10,av n),(11,av (i+1))],[]⟩ ⟨T',O'⟩→Q .normal ⟨T',O'⟩):
  kW E L3 ⟨[(0,vi b),(1,p1),(2,.eptr (vi a) 0),(5,vi s),(9,.lit 4 L),(10,av n),(11,av i)],[]⟩ Q:=by
 have lE:=RX ht
 clear ht
 by_cases h1:e.left=a
 ·have h2: ¬e.right=b:=fun h=>lE (.inl ⟨h1,h⟩)
  by_cases h3:e.left=b
  ·have h4: ¬e.right=a:=fun h=>lE (.inr ⟨h3,h⟩)
   clear lE
   conv=>whnf
   repeat' (first| intro g| refine wi he ?_| refine st ?_| refine br ?_ ?_<;>intro hc| rfl) <;>conv=>whnf
   exact hQ _ _ su
  ·clear lE
   conv=>whnf
   repeat' (first| intro g| refine wi he ?_| refine st ?_| refine br ?_ ?_<;>intro hc| rfl) <;>conv=>whnf
   exact hQ _ _ su
 ·by_cases h3:e.left=b
  ·have h4: ¬e.right=a:=fun h=>lE (.inr ⟨h3,h⟩)
   clear lE
   conv=>whnf
   repeat' (first| intro g| refine wi he ?_| refine st ?_| refine br ?_ ?_<;>intro hc| rfl) <;>conv=>whnf
   exact hQ _ _ su
  ·clear lE
   conv=>whnf
   repeat' (first| intro g| refine wi he ?_| refine st ?_| refine br ?_ ?_<;>intro hc| rfl) <;>conv=>whnf
   exact hQ _ _ su
theorem VA {L:List V} {e:Edge} {i n:Nat} {a b s:Int} {p1:V} {Q:aR→SS→Prop} (he:L[i]? =some e.v) (hn:L.length=n) (hi:i<n) (hb:n< 1000000) (ht:cZ a b e=true) (YB:Ev E 496 [iP e.line] ⟨vi (vx e.line),[]⟩)
  (hQ: ∀T' O',SS.Sub ⟨[(0,vi b),(1,p1),(2,.eptr (vi a) 0),(5,vi (gC (s+vx e.line))),(9,.lit 4 L),(10,av n),(11,av (i+1))],[]⟩ ⟨T',O'⟩→Q .normal ⟨T',O'⟩):
  kW E L3 ⟨[(0,vi b),(1,p1),(2,.eptr (vi a) 0),(5,vi s),(9,.lit 4 L),(10,av n),(11,av i)],[]⟩ Q:=by
 rcases Dg ht with⟨h1,h2⟩ | ⟨h1,h2,h3,h4⟩ | ⟨h1,h3,h4⟩
 all_goals
  clear ht
  conv=>whnf
  repeat' (first| intro g| refine wi he ?_| apply ca YB| refine st ?_| refine br ?_ ?_<;>intro hc| rfl) <;>conv=>whnf
  exact hQ _ _ su
theorem Zd {m:aI} (hl:Zb m.aB) (a b:Int):Ev E 507 [vi b,.eptr m.v 0,.eptr (vi a) 0] ⟨vi (brd m.aB a b),[]⟩:=by
 refine Ev.aD rfl rfl rfl ?_
 conv=>whnf
 repeat' (first| intro g| refine st ?_| refine br ?_ ?_<;>intro hc| rfl) <;>conv=>whnf
 refine aL.by (fun i:Nat=> ⟨[(0,vi b),(1,.eptr m.v 0),(2,.eptr (vi a) 0),(5,vi (zb m.aB a b i)),(9,.lit 4 (m.aB.map Edge.v)),(10,av m.aB.length),(11,av i)],[]⟩) (fun i=>i≤m.aB.length) (fun i=>m.aB.length - i) 0 ?_ abV ?_
 ·(refine⟨?_,?_⟩ <;>repeat' (first| exact True.intro| refine And.intro ((by(conv=>whnf);simp[zb])) ?_| refine ai ?_| refine And.intro ?_ ?_))
 intro i hi
 try dsimp only at hi
 have Fb:=hl.1
 by_cases bl:i<m.aB.length
 ·obtain⟨e,he⟩: ∃e,m.aB[i]? =some e:=⟨_,aH bl⟩
  have kY: (m.aB.map Edge.v)[i]? =some e.v:=by simp[he]
  have Di: (m.aB.map Edge.v).length=m.aB.length:=abW
  cases ht:cZ a b e with
  | false=>
    have hn:=Vz he ht
    refine Zc (p9:= .nils) kY Di bl Fb ht fun T' O' hs=>aK.mk (i+1) om abV ?_
    simp only[hn]
    exact hs
  | true=>
    have hn:=RW he ht
    have YB:=Y5 (hl.2 e (List.mem_of_getElem? he))
    refine VA kY Di bl Fb ht YB fun T' O' hs=>aK.mk (i+1) om abV ?_
    simp only[hn]
    exact hs
 ·obtain rfl:i=m.aB.length:=abV
  exact aiN
theorem Ze {m:aI} (hl:Zb m.aB) (a:Int):Cl 507 [.eptr m.v 0,.eptr (vi a) 0] fun b=>vi (brd m.aB a b):=
 ⟨by have h0:V.aw m.v=true:=aI.qA false m
     simp only[V.al,V.aw,h0];rfl,rfl,fun b=>Zd hl a b⟩
def qD (m:aI):V:= .mlit (bK false m.an m.an.length)
theorem VB {m:aI} (hs:qz m) (a b:Int):Ev E 506 [vi b,.eptr m.v 0,.eptr (qD m) 0,.eptr (vi a) 0] ⟨.bool (decide (tM m a b≠0)),[]⟩:=by
 have hc:=zw false hs a b
 have hm:bz E 501=[]:=rfl
 have hp:V.al [m.v,qD m,vi a,vi b]=true:=by
  have h0:V.aw m.v=true:=aI.qA false m
  have h1:V.aw (qD m)=true:=ki ..
  simp only[V.al,h0,h1];rfl
 refine Ev.aD rfl rfl rfl ?_
 conv=>whnf
 repeat' (first| refine fB hm hp hc rfl ?_| intro g| refine st ?_| refine br ?_ ?_<;>intro hc| rfl) <;>conv=>whnf
 all_goals simp
theorem Zf {m:aI} (hs:qz m) (a:Int):Cl 506 [.eptr m.v 0,.eptr (qD m) 0,.eptr (vi a) 0] fun b=> .bool (decide (tM m a b≠0)):=
 ⟨by have h0:V.aw m.v=true:=aI.qA false m
     have h1:V.aw (qD m)=true:=ki ..
     simp only[V.al,V.aw,h0,h1];rfl,rfl,fun b=>VB hs a b⟩
def DJ (m:aI) (a:Int):Int:=match findF m.an a with
 | none=>0
 | some i=>match m.an[i]? with
   | some f=>gC (4*f.weight)
   | none=>0
theorem RY {m:aI} (hs:qz m) (a b:Int):Ev E 489 [m.v,vi a,vi b] ⟨vi (DJ m a),[]⟩:=by
 have hk:=qy false hs.2
 have hm:bz E 500=[]:=rfl
 have hp:V.al [m.v]=true:=by
   have h0:V.aw m.v=true:=aI.qA false m
   simp only[V.al,h0];rfl
 refine Ev.aD rfl rfl rfl ?_
 cases h:findF m.an a with
 | none=>
   have e:DJ m a=0:=by simp only[DJ,h]
   rw[e]
   conv=>whnf
   repeat' (first| refine fB hm hp hk (ki ..) ?_| intro g| refine wi (lF h) ?_| refine st ?_| refine br ?_ ?_<;>intro hc| rfl) <;>conv=>whnf
 | some i=>
   obtain⟨f,hf,_⟩:=ej h
   have e:DJ m a=gC (4*f.weight):=by simp only[DJ,h,hf]
   rw[e]
   have hfv: (m.an.map aW.v)[i]? =some f.v:=by simp[hf]
   conv=>whnf
   repeat' (first| refine fB hm hp hk (ki ..) ?_| intro g| refine wi (bN h hf) ?_| refine wi hfv ?_| refine st ?_| refine br ?_ ?_<;>intro hc| rfl) <;>conv=>whnf
end Go.AM
namespace Go.AM
def mr:V→Int
 | .tuple (.int _ n::_)=>n
 | _=>0
theorem ou (k:Bool) (fs:List aW): ∀n,∀e ∈ bK k fs n,∃ (i:Nat) (f:aW),fs[i]? =some f∧e= .tuple [vi f.id,E3 k i f]
 | 0,e,h=>by simp[bK] at h
 | n+1,e,h=>by
   unfold bK at h
   split at h
   ·rename_i f hf
    split at h
    ·rcases ai6.1 h with h| h
     ·exact ou k fs n e h
     ·simp at h;exact⟨n,f,hf,h⟩
    ·exact ou k fs n e h
   ·exact ou k fs n e h
def vz (fs:List aW) (n:Nat):List Int:=(bK false fs n).map mr
theorem rX (fs:List aW): ∀n,(vz fs n).length≤n
 | 0=>by simp[vz,bK]
 | n+1=>by
   have ih:=rX fs n
   simp only[vz,List.length_map] at ih ⊢
   unfold bK
   split
   ·split
    ·simp;omega
    ·omega
   ·omega
theorem DK (fs:List aW) (id:Int): ∀n,id ∈ vz fs n↔ ∃ (i:Nat) (f:aW),i<n∧fs[i]? =some f∧f.id=id
 | 0=>by simp[vz,bK]
 | n+1=> by
   have ih:=DK fs id n
   have jt: (∃ (i:Nat) (f:aW),i<n+1∧fs[i]? =some f∧f.id=id)↔(∃ (i:Nat) (f:aW),i<n∧fs[i]? =some f∧f.id=id)∨ ∃f,fs[n]? =some f∧f.id=id:=by
     constructor
     ·rintro⟨i,f,h1,h2,h3⟩
      rcases(by omega:i<n∨i=n) with h| rfl
      ·exact .inl ⟨i,f,h,h2,h3⟩
      ·exact .inr ⟨f,h2,h3⟩
     ·rintro(⟨i,f,h1,h2,h3⟩ | ⟨f,h2,h3⟩)
      ·exact⟨i,f,abV,h2,h3⟩
      ·exact⟨n,f,abV,h2,h3⟩
   rw[jt,←ih]
   unfold vz
   conv=>lhs;unfold bK
   cases hf:fs[n]? with
   | none=>simp
   | some f=>
     simp only[aiT]
     by_cases hn:findF (fs.take n) f.id=none
     ·simp only[hn,if_true,ajk,ai6]
      simp[mr,eq_comm]
     ·simp only[hn,if_false]
      constructor
      ·exact .inl
      ·rintro(h| ⟨g,rfl,rfl⟩)
       ·exact h
       ·cases hq:findF (fs.take n) f.id with
        | none=>exact absurd hq hn
        | some i=>
          obtain⟨g,hg,hgi,_⟩:=ej hq
          have Cw:i<n:=by have:=(aiS.1 hg).1;simp at this;omega
          exact ih.2 ⟨i,g,Cw,by rw[ajl] at hg;simpa [Cw] using hg,hgi⟩
def cz (m:aI):List Int:=ew (vz m.an m.an.length)
theorem tP (l:List Int): (ew l).Perm l:=oQ PK l
theorem vA (l:List Int): (ew l).Pairwise (PK · ·):=oR (fun a b c h1 h2=>by simp[PK] at h1 h2 ⊢;omega) (fun a b=>by simp[PK];omega) l
theorem CD {l l':List Int} (h:l.Perm l'):ew l=ew l':=
 C2 (le:=PK) (fun a b h1 h2=>by simp[PK] at h1 h2;omega) ((tP l).trans (h.trans (tP l').symm)) (vA l) (vA l')
theorem yu (m:aI): (cz m).length≤m.an.length:=by
 unfold cz;rw[dG];exact rX ..
theorem HI (m:aI) (id:Int):id ∈ cz m↔ ∃ (i:Nat) (f:aW),i<m.an.length∧m.an[i]? =some f∧f.id=id:=
 (tP _).mem_iff.trans (DK ..)
end Go.AM
namespace Go.AM
theorem all_keys {m:aI} (hs:qz m) {d:Int} {Q:aR→SS→Prop} {S:SS} {g2 g5 g6 gi:Nat}
  (hS: (⟨[(1,vi d),(2,.ptr 48 g2 0 0),(5,.ptr 96 g5 0 0),(6,.sl 113 g6 0 0),(18,.it 304 gi)],[(48,⟨g2,4,false,false,some [m.v]⟩),(96,⟨g5,1,false,false,some [qD m]⟩),(113,⟨g6,1,true,false,some []⟩),(304,⟨gi,0,false,false,none⟩)]⟩:SS).Sub ⟨S.T,(304,⟨gi,0,false,false,none⟩)::S.O⟩)
  (hT:lk S.T 18=some (.it 304 gi))
  (hI:lk S.O 304=some ⟨gi,0,false,false,some [qD m]⟩)
  (hQ: ∀g,Q .normal ⟨[(1,vi d),(2,.ptr 48 g2 0 0),(5,.ptr 96 g5 0 0),(6,.sl 113 g 0 (cz m).length)],[(48,⟨g2,4,false,false,some [m.v]⟩),(96,⟨g5,1,false,false,some [qD m]⟩),(113,⟨g,1,true,false,some ((cz m).map vi)⟩)]⟩):
  GC E 18 19 21 0 [1,2,5,6] [48,96,113] aeg U2 aeh S Q:=by
 refine GC.by (r:=304) (g:=gi) (es:=bK false m.an m.an.length) (fun L=> ⟨[(1,vi d),(2,.ptr 48 g2 0 0),(5,.ptr 96 g5 0 0),(6,.sl 113 (g6+L.length) 0 (L.map mr).length),(18,.it 304 gi)],[(48,⟨g2,4,false,false,some [m.v]⟩),(96,⟨g5,1,false,false,some [qD m]⟩),(113,⟨g6+L.length,1,true,false,some ((L.map mr).map vi)⟩),(304,⟨gi,0,false,false,none⟩)]⟩)
  ⟨[(1,vi d),(2,.ptr 48 g2 0 0),(5,.ptr 96 g5 0 0),(6,.sl 113 (g6+(cz m).length) 0 (cz m).length)],[(48,⟨g2,4,false,false,some [m.v]⟩),(96,⟨g5,1,false,false,some [qD m]⟩),(113,⟨g6+(cz m).length,1,true,false,some ((cz m).map vi)⟩)]⟩ ?_ hI ?_ (fun _=>rfl) (fun _=> ⟨_,rfl,rfl⟩) ?_ ?_ ?_ rfl rfl rfl rfl ?_
 ·exact hT
 ·exact hS
 ·intro e he
  obtain⟨i,f,_,rfl⟩:=ou _ _ _ e he
  exact⟨_,_,rfl⟩
 ·intro L k v rest hL
  obtain⟨i,f,hf,he⟩:=ou false m.an m.an.length (.tuple [k,v]) (hL.mem_iff.1 abW)
  injection he with he
  obtain⟨rfl,rfl⟩:k=vi f.id∧v=E3 false i f:=by simpa using he
  have hlen: (L.map mr).length<m.an.length:=by
   have h1:=hL.length_eq
   have h2:=rX m.an m.an.length
   simp[vz] at h1 h2 ⊢;omega
  have hm:=hs.2
  have aii:L.length≤m.an.length:=by rw[List.length_map] at hlen;omega
  have aij:L.length< 1000000:=abV
  conv=>whnf
  repeat' (first| intro g| refine st ?_| refine br ?_ ?_<;>intro hc| rfl) <;>conv=>whnf
  refine⟨⟨rfl,_,rfl,rfl⟩,?_⟩
  conv=>whnf
  repeat' (first| refine Or.inr ?_| intro g| refine st ?_| refine br ?_ ?_<;>intro hc| rfl) <;>conv=>whnf
  have E0:aG ((L.map mr).map vi) 0 (L.map mr).length=(L.map mr).map vi:=jr abW
  have e1: ∀e:V,g6+(L++[e]).length=g6+L.length+1:=fun e=>by rw[List.length_append];rfl
  simp only[e1,E0]
  (refine⟨?_,?_⟩ <;>repeat' (first| exact True.intro| refine And.intro ((by(conv=>whnf);simp[mr];done)) ?_| refine ai ?_| refine And.intro ?_ ?_))
 ·intro L hL
  have hlen: (L.map mr).length≤m.an.length:=by
   have h1:=hL.length_eq
   have h2:=rX m.an m.an.length
   simp[vz] at h1 h2 ⊢;omega
  have hm:=hs.2
  have PS:=zt (l:=L.map mr) abV
  have JY: (cz m)=ew (L.map mr):=(CD (hL.map mr)).symm
  have Fc: (cz m).length=L.length:=by rw[JY,dG,List.length_map]
  rw[JY,dG,List.length_map]
  have ag7:Ev E 132 [.msl 1 ((L.map mr).map vi) 0 L.length] ⟨.tuple [],[(0,(ew (L.map mr)).map vi)]⟩:=by rw[List.length_map] at PS;exact PS
  conv=>whnf
  repeat' (first| intro g| apply ca ag7| refine st ?_| refine br ?_ ?_<;>intro hc| rfl) <;>conv=>whnf
  refine⟨?_,?_⟩
  ·(repeat' (first| exact True.intro| refine And.intro ((by(conv=>whnf);simp)) ?_| refine ai ?_| refine And.intro ?_ ?_))
  ·(repeat' (first| exact True.intro| refine ai ?_| refine And.intro ?_ ?_))
 ·exact hQ _
end Go.AM
namespace Go.AM
def Fe (mv d:V) (es:List V) (ids:List Int) (evs:List Event) (g2 g5 gk ge k:Nat) (z1 z2 z3:Bool):SS:=
 ⟨[(1,d),(2,.ptr 48 g2 0 0),(5,.ptr 96 g5 0 0),(6,.sl 113 gk 0 ids.length),(8,.sl 145 ge 0 evs.length),(29,.sl 113 gk 0 ids.length),(30,av ids.length),(31,av k)],
  [(48,⟨g2,4,false,z1,some [mv]⟩),(96,⟨g5,1,false,z2,some [.mlit es]⟩),(113,⟨gk,1,true,z3,some (ids.map vi)⟩),(145,⟨ge,5,true,false,some (evs.map Event.v)⟩)]⟩
theorem RZ {mv:V} {d id:Int} {es:List V} {ids:List Int} {evs:List Event} {g2 g5 gk ge k:Nat} {z1 z2 z3:Bool} {Q:aR→SS→Prop} (hx: (ids.map vi)[k]? =some (vi id)) (hk:k<ids.length) (hb:ids.length< 1000000) (hd:d< 1)
  (hQ: ∀T' O' z1 z2 z3,(Fe mv (vi d) es ids evs g2 g5 gk ge (k+1) z1 z2 z3).Sub ⟨T',O'⟩→Q .normal ⟨T',O'⟩):kW E zl (Fe mv (vi d) es ids evs g2 g5 gk ge k z1 z2 z3) Q:=by
 conv=>whnf
 repeat' (first| intro g| refine wi hx ?_| refine st ?_| refine br ?_ ?_<;>intro hc| rfl) <;>conv=>whnf
 exact hQ _ _ _ _ _ su
theorem R0 {mv:V} {d id:Int} {es:List V} {ids:List Int} {evs:List Event} {f:aW} {g2 g5 gk ge k:Nat} {z1 z2 z3:Bool} {Q:aR→SS→Prop} (hx: (ids.map vi)[k]? =some (vi id)) (hk:k<ids.length) (hb:ids.length< 1000000) (hd: ¬d< 1) (eS:cW false .nilp es (vi id)= .done (.eptr f.v 0)) (hf: ¬f.bG=d)
  (hQ: ∀T' O' z1 z2 z3,(Fe mv (vi d) es ids evs g2 g5 gk ge (k+1) z1 z2 z3).Sub ⟨T',O'⟩→Q .normal ⟨T',O'⟩):kW E zl (Fe mv (vi d) es ids evs g2 g5 gk ge k z1 z2 z3) Q:=by
 conv=>whnf
 repeat' (first| intro g| refine wi hx ?_| refine wi eS ?_| refine st ?_| refine br ?_ ?_<;>intro hc| rfl) <;>conv=>whnf
 exact hQ _ _ _ _ _ su
theorem DL {l:List Int} (h:l.length< 1000000):Ev E 149 [.lit 1 (l.map vi)] ⟨.own 1 (l.map vi),[]⟩:=
 Ev.ext (by rw[acj];simp[dI];omega)
theorem VC {mv:V} {d id Oa:Int} {es rest:List V} {ids K:List Int} {evs:List Event} {f:aW} {g2 g5 gk ge k:Nat} {z1 z2 z3:Bool} {Q:aR→SS→Prop} (hx: (ids.map vi)[k]? =some (vi id)) (hk:k<ids.length) (hb:ids.length< 1000000) (hd: ¬d< 1) (eS:cW false .nilp es (vi id)= .done (.eptr f.v 0)) (hf:f.bG=d)
  (Fa:V.aw mv=true) (bq:V.al es=true) (eX:V.al rest=true) (hKl:K.length≤ids.length)
  (iB:Ev E 149 [.lit 1 (ids.map vi)] ⟨.own 1 (ids.map vi),[]⟩)
  (E1:Ev E 505 [.msl 1 (ids.map vi) 0 (ids.map vi).length,.fn 506 [.eptr mv 0,.eptr (.mlit es) 0,.eptr (vi id) 0]] ⟨.sl 0 0 0 K.length,[(0,K.map vi++rest)]⟩)
  (sR:Ev E 508 [.lit 1 (K.map vi),.fn 507 [.eptr mv 0,.eptr (vi id) 0]] ⟨.tuple [vi Oa,.bool false],[]⟩)
  (hQ: ∀T' O' z1 z2 z3,(Fe mv (vi d) es ids evs g2 g5 gk ge (k+1) z1 z2 z3).Sub ⟨T',O'⟩→Q .normal ⟨T',O'⟩):kW E zl (Fe mv (vi d) es ids evs g2 g5 gk ge k z1 z2 z3) Q:=by
 have hw:aG (K.map vi++rest) 0 K.length=K.map vi:=rP abW
 rw[←hw] at sR
 have hn:True∧True∧0+K.length≤(K.map vi++rest).length∧V.al (aG (K.map vi++rest) 0 K.length)=true:=⟨trivial,trivial,abW,by rw[hw];exact dw _⟩
 conv=>whnf
 repeat' (first| intro g| refine nd hn ?_| refine wi hx ?_| refine wi eS ?_| apply ca iB| apply ca E1| apply ca sR| refine st ?_| refine br ?_ ?_<;>intro hc| rfl| (simp only[List.append,dL,fZ,V.aw,V.al,Fa,bq,cond_true])) <;>conv=>whnf
 exact hQ _ _ _ _ _ su
def evI (w id Oa:Int):Event:=⟨2,if 1 <gC (4*w) then gC (4*w) else 1,id,Oa,0⟩
theorem VD {mv:V} {d id Oa:Int} {es rest:List V} {ids K:List Int} {evs:List Event} {f:aW} {g2 g5 gk ge k:Nat} {z1 z2 z3:Bool} {Q:aR→SS→Prop} (hx: (ids.map vi)[k]? =some (vi id)) (hk:k<ids.length) (hb:ids.length< 1000000) (hd: ¬d< 1) (eS:cW false .nilp es (vi id)= .done (.eptr f.v 0)) (hf:f.bG=d)
  (Fa:V.aw mv=true) (bq:V.al es=true) (eX:V.al rest=true) (hKl:K.length≤ids.length) (aiv:evs.length≤k)
  (iB:Ev E 149 [.lit 1 (ids.map vi)] ⟨.own 1 (ids.map vi),[]⟩)
  (E1:Ev E 505 [.msl 1 (ids.map vi) 0 (ids.map vi).length,.fn 506 [.eptr mv 0,.eptr (.mlit es) 0,.eptr (vi id) 0]] ⟨.sl 0 0 0 K.length,[(0,K.map vi++rest)]⟩)
  (sR:Ev E 508 [.lit 1 (K.map vi),.fn 507 [.eptr mv 0,.eptr (vi id) 0]] ⟨.tuple [vi Oa,.bool true],[]⟩)
  (hQ: ∀T' O' z1 z2 z3 ge,(Fe mv (vi d) es ids (evs++[evI f.weight id Oa]) g2 g5 gk ge (k+1) z1 z2 z3).Sub ⟨T',O'⟩→Q .normal ⟨T',O'⟩):kW E zl (Fe mv (vi d) es ids evs g2 g5 gk ge k z1 z2 z3) Q:=by
 have hw:aG (K.map vi++rest) 0 K.length=K.map vi:=rP abW
 rw[←hw] at sR
 have hn:True∧True∧0+K.length≤(K.map vi++rest).length∧V.al (aG (K.map vi++rest) 0 K.length)=true:=⟨trivial,trivial,abW,by rw[hw];exact dw _⟩
 have sO:evs.length< 1000000:=abV
 conv=>whnf
 repeat' (first| intro g| refine nd hn ?_| refine wi hx ?_| refine wi eS ?_| apply ca iB| apply ca E1| apply ca sR| refine st ?_| refine br ?_ ?_<;>intro hc| rfl| (simp only[List.append,dL,fZ,V.aw,V.al,Fa,bq,cond_true])) <;>conv=>whnf
 exact hQ _ _ _ _ _ _ su
end Go.AM
namespace Go.AM
def UC (m:aI) (id:Int):List Int:=la (cz m) fun o=>decide (tM m id o≠0)
noncomputable def R1 (m:aI) (d id:Int):Option Event:=
 if d< 1 then none else match findF m.an id with
  | none=>none
  | some i=>match m.an[i]? with
    | none=>none
    | some f=>if f.bG=d then(if 0 < (UC m id).length then some (evI f.weight id (Mo (brd m.aB id) (UC m id))) else none) else none
noncomputable def KA (m:aI) (d:Int) (k:Nat):List Event:=((cz m).take k).filterMap (R1 m d)
noncomputable def Zg (m:aI) (d:Int):List Event:=KA m d (cz m).length
theorem Ob {m:aI} {d:Int} {k:Nat} {id:Int} (h: (cz m)[k]? =some id):KA m d (k+1)=KA m d k++(R1 m d id).toList:=by
 unfold KA
 rw[ajt,h,Option.toList_some,List.filterMap_append]
 cases hh:R1 m d id<;>simp[hh]
theorem AS (m:aI) (d:Int) (k:Nat): (KA m d k).length≤k:=by
 unfold KA
 exact ajb (akW ..) (by simp;omega)
theorem Od {m:aI} {d id:Int} (h:d< 1):R1 m d id=none:=by unfold R1;rw[if_pos h]
theorem Oe {m:aI} {d id:Int} (h: ¬d< 1) {i:Nat} {f:aW} (hi:findF m.an id=some i) (hf:m.an[i]? =some f) (hd: ¬f.bG=d):R1 m d id=none:=by
 unfold R1;rw[if_neg h];simp only[hi,hf,if_neg hd]
theorem R2 {m:aI} {d id:Int} (h: ¬d< 1) {i:Nat} {f:aW} (hi:findF m.an id=some i) (hf:m.an[i]? =some f) (hd:f.bG=d) (hn: ¬0 < (UC m id).length):R1 m d id=none:=by
 unfold R1;rw[if_neg h];simp only[hi,hf,if_pos hd,if_neg hn]
theorem R3 {m:aI} {d id:Int} (h: ¬d< 1) {i:Nat} {f:aW} (hi:findF m.an id=some i) (hf:m.an[i]? =some f) (hd:f.bG=d) (hn:0 < (UC m id).length):R1 m d id=some (evI f.weight id (Mo (brd m.aB id) (UC m id))):=by
 unfold R1;rw[if_neg h];simp only[hi,hf,if_pos hd,if_pos hn]
theorem Ff {m:aI} {k:Nat} {id:Int} (h: (cz m)[k]? =some id): ∃ (i:Nat) (f:aW),findF m.an id=some i∧m.an[i]? =some f:=by
 obtain⟨j,g,_,hj,hg⟩:=(HI m id).1 (List.mem_of_getElem? h)
 cases hq:findF m.an id with
 | none=>exact absurd hg (J1 hq j g hj)
 | some i=>
   obtain⟨f,hf,_⟩:=ej hq
   exact⟨i,f,rfl,hf⟩
def ag8 (m:aI):Prop:=Zb m.aB∧m.an.length< 1000000
theorem VE {m:aI} (jg:ag8 m) (d:Int):Ev E 492 [m.v,vi d] ⟨.own 5 ((Zg m d).map Event.v),[]⟩:=by
 have hs:qz m:=⟨jg.1.1,jg.2⟩
 have hk:=qy false hs.2
 have hm:bz E 500=[]:=rfl
 have h0:V.aw m.v=true:=aI.qA false m
 have hp:V.al [m.v]=true:=by simp only[V.al,h0];rfl
 refine Ev.aD rfl rfl rfl ?_
 conv=>whnf
 repeat' (first| refine fB hm hp hk (ki ..) ?_| intro g| refine st ?_| refine br ?_ ?_<;>intro hc| rfl) <;>conv=>whnf
 rename_i g2 g4 g5 g6
 refine all_keys hs (d:=d) (g2:=g2) (g5:=g5) (g6:=g6) (gi:=g) ?_ rfl rfl fun gk=> ?_
 ·exact su
 clear hk hm hp
 have Cw:=yu m
 have Fc:=hs.2
 conv=>whnf
 repeat' (first| intro g| refine st ?_| refine br ?_ ?_<;>intro hc| rfl) <;>conv=>whnf
 refine aL.by (fun ((k,ge,z1,z2,z3):Nat×Nat×Bool×Bool×Bool)=>Fe m.v (vi d) (bK false m.an m.an.length) (cz m) (KA m d k) g2 g5 gk ge k z1 z2 z3) (fun (k,_)=>k≤(cz m).length) (fun (k,_)=> (cz m).length - k) (0,g,false,false,false) ?_ abW ?_
 ·exact su
 rintro⟨k,ge,z1,z2,z3⟩ hk
 try dsimp only at hk
 by_cases bl:k< (cz m).length
 ·obtain⟨id,PL⟩: ∃id,(cz m)[k]? =some id:=⟨_,aH bl⟩
  have VF: ((cz m).map vi)[k]? =some (vi id):=by simp[PL]
  have Zh: (cz m).length< 1000000:=abV
  have eW:=Ob (d:=d) PL
  obtain⟨i,f,hi,hf⟩:=Ff PL
  have eS:=bN (k:=false) hi hf
  have sO:=AS m d k
  by_cases hd:d< 1
  ·rw[Od hd] at eW
   refine RZ VF bl Zh hd fun T' O' z1 z2 z3 hq=>aK.mk (k+1,ge,z1,z2,z3) om abV ?_
   simp only[eW,Option.toList_none,ajq]
   exact hq
  by_cases hfd:f.bG=d
  ·obtain⟨rest,hr,E1⟩:=Y7 Zh (Zf hs id)
   have Xr:Ev E 505 [.msl 1 ((cz m).map vi) 0 ((cz m).map vi).length,.fn 506 [.eptr m.v 0,.eptr (qD m) 0,.eptr (vi id) 0]] ⟨.sl 0 0 0 (UC m id).length,[(0,(UC m id).map vi++rest)]⟩:=by rw[List.length_map];exact E1
   have hnl: (UC m id).length≤(cz m).length:=N9 ..
   have sR:=Kz (l:=UC m id) abV (Ze jg.1 id)
   by_cases hn:0 < (UC m id).length
   ·rw[R3 hd hi hf hfd hn] at eW
    simp only[hn,decide_true] at sR
    refine VD VF bl Zh hd eS hfd h0 (iZ ..) hr hnl sO (DL Zh) Xr sR fun T' O' z1 z2 z3 ge hq=>aK.mk (k+1,ge,z1,z2,z3) om abV ?_
    simp only[eW,Option.toList_some]
    exact hq
   ·rw[R2 hd hi hf hfd hn] at eW
    simp only[hn,decide_false] at sR
    refine VC VF bl Zh hd eS hfd h0 (iZ ..) hr hnl (DL Zh) Xr sR fun T' O' z1 z2 z3 hq=>aK.mk (k+1,ge,z1,z2,z3) om abV ?_
    simp only[eW,Option.toList_none,ajq]
    exact hq
  ·rw[Oe hd hi hf hfd] at eW
   refine R0 VF bl Zh hd eS hfd fun T' O' z1 z2 z3 hq=>aK.mk (k+1,ge,z1,z2,z3) om abV ?_
   simp only[eW,Option.toList_none,ajq]
   exact hq
 ·obtain rfl:k=(cz m).length:=abV
  have sO:=AS m d (cz m).length
  conv=>whnf
  repeat' (first| intro g| refine st ?_| refine br ?_ ?_<;>intro hc| rfl) <;>conv=>whnf
  trace_state
end Go.AM
namespace Go.AM
theorem aI.Bd.fit {m:aI} (h:m.Bd):m.Fit:=by
 have h1:=h.e;have h2:=h.f;have h3:=h.w;have h4:=h.p
 exact⟨abV,abV,abV,abV,fun e he=>by have:=h.el e he;omega,fun w hw=>by have:=(h.wl w hw).2;omega⟩
theorem aI.Bd.acP {m:aI} (h:m.Bd):Y2 m:=by
 have h1:=h.e;have h2:=h.f;have h3:=h.w;have h4:=h.p
 exact⟨abV,abV,abV,abV,fun e he=>by have:=h.el e he;omega,fun w hw=>by have:=(h.wl w hw).2;omega⟩
theorem aI.Bd.small {m:aI} (h:m.Bd):qz m:=⟨by have:=h.e;omega,by have:=h.f;omega⟩
theorem KB {m:aI} (h:m.Bd) (id n:Int):vp 524 [m.v,vi id,vi n]:=by
 obtain⟨v,M,c,h1,h2,h3⟩:=Dr.NT h.fit id n
 refine⟨v,M,c,h1,h2,?_⟩
 rcases h3 with rfl| ⟨q,rfl⟩
 ·exact vn
 ·refine⟨by show (m.aB.set _ _).length≤18;rw[List.length_set];exact h.e,fun e he=> ?_,h.f,h.w,h.wl,h.p⟩
  rcases aje he with he| rfl
  ·exact h.el e he
  ·have:=h.el _ (List.mem_of_getElem? q.he)
   show q.rest.length< 10
   unfold Dr.y7.rest
   rw[ajV]
   split<;>omega
theorem R4 {m:aI} (h:m.Bd) (d:Int): ∃l:List Event,l.length≤126∧Ev E 529 [m.v,vi d] ⟨.own 5 (l.map Event.v),[]⟩:=by
 have he:=h.e
 obtain⟨l,h1,h2⟩:=Dr.Vs h.fit abV h.el d
 exact⟨l,abV,h2⟩
theorem R5 {fs:List aW} {a b:Int} {i j:Nat} (Gh:a≠b) (hi:findF fs a=some i) (hj:findF fs b=some j):i≠j:=fun h=>by
 obtain⟨f,h1,h2,_⟩:=ej hi
 obtain⟨g,h3,h4,_⟩:=ej hj
 subst h
 rw[h1] at h3;injection h3 with h3;subst h3
 exact Gh (h2.symm.trans h4)
theorem Xs (sz:Nat) (l:List V):oL sz l= .lit sz l∨oL sz l= .own sz l:=by
 cases l<;>simp[oL]
theorem R6 (m:aI) (es:List Edge) (fs:List aW):PT (Kv m es fs) (.tuple [(aI.mk es fs m.ways m.az).v,vi 0]):=by
 refine YK (m:=⟨es,fs,m.ways,m.az⟩) ?_ (.inl rfl) ?_ (.inl rfl)
 ·exact(Xs 4 _).symm
 ·exact(Xs 8 _).symm
theorem pd {es:List Edge} {a b:Int} {e:Edge}: ∀ {n:Nat},e ∈ eB es a b n→ ∃e' ∈ es,e.line=e'.line
 | 0,h=>by simp[eB] at h
 | n+1,h=>by
   cases hx:es[n]? with
   | none=>rw[eB,hx] at h;exact pd h
   | some x=>
     rw[eB,hx] at h
     simp only at h
     split at h
     ·exact pd h
     ·rcases ai6.1 h with h| h
      ·exact pd h
      ·have:e=iy a b x:=by simpa using h
       exact⟨x,List.mem_of_getElem? hx,by rw[this];rfl⟩
theorem KC {m:aI} (h:m.Bd) (a b:Int):vp 485 [m.v,vi a,vi b]:=by
 by_cases hc:tM m a b=0
 case neg=>exact⟨_,aI.zero,_,Kw h.acP a b hc,fun _ _=>rfl,vn⟩
 have main: ∀ {i j:Nat} {f g:aW},findF m.an a=some i→m.an[i]? =some f→findF m.an b=some j→m.an[j]? =some g→a≠b→vp 485 [m.v,vi a,vi b]:=by
  intro i j f g h1 h2 h3 h4 h5
  refine⟨_,_,0,N7 h.acP a b hc h1 h2 h3 h4 (R5 h5 h1 h3) h5,R6 m _ _,⟨?_,?_,?_,h.w,h.wl,h.p⟩⟩
  ·exact ajb (pc m.aB a b _) h.e
  ·intro e he
   obtain⟨e',h6,h7⟩:=pd he
   rw[h7];exact h.el e' h6
  ·exact ajb (mq m.an i j f _) h.f
 cases AP hc with
 | ok1 h1 h2 h3 h4 h5=>exact main h1 h2 h3 h4 h5
 | ok2 h1 h2 h3 h4 h5=>exact main h1 h2 h3 h4 h5
 | ok3 h1 h2 h3 h4 h5=>exact main h1 h2 h3 h4 h5
theorem R7 {m:aI} (h:m.Bd) (d:Int): ∃l:List Event,l.length≤36∧Ev E 492 [m.v,vi d] ⟨.own 5 (l.map Event.v),[]⟩:=by
 have hf:=h.f
 refine⟨Zg m d,?_,VE ⟨⟨by have:=h.e;omega,fun e he=>by have:=h.el e he;omega⟩,abV⟩ d⟩
 have:=AS m d (cz m).length
 have h2:=yu m
 unfold Zg
 omega
theorem KD {m:aI} (h:m.Bd) (a b:Int):vp 7 [m.v,vi a,vi b]:=by
 have:=QQ h.fit a b
 by_cases hc:qj m.az a b=0
 ·rw[if_pos hc] at this
  refine⟨_,⟨m.aB,m.an,m.ways,o8 m.az a b⟩,0,this,YK (m:=⟨m.aB,m.an,m.ways,o8 m.az a b⟩) (.inl rfl) (.inl rfl) (.inl rfl) (.inl rfl),⟨h.e,h.el,h.f,h.w,h.wl,?_⟩⟩
  show (o8 m.az a b).length≤6
  have hp:=h.p
  unfold o8
  split
  ·rw[ajV,List.length_set]
   split<;>omega
  ·simp
 ·rw[if_neg hc] at this
  exact⟨_,aI.zero,_,this,fun _ _=>rfl,vn⟩
theorem R8 {m:aI} (h:m.Bd) (d:Int): ∃l:List Event,l.length≤6∧Ev E 9 [m.v,vi d] ⟨.own 5 (l.map Event.v),[]⟩:=by
 have hp:=h.p
 have hl:=tL m.az d m.az.length
 obtain⟨l',h1,h2⟩:=JX (m:=m) abV d
 exact⟨l',by rw[h1.length_eq];omega,h2⟩
end Go.AM
namespace Go.AM
theorem Zi {L:List Event} {ia ib:Int} {p q:Nat} (ha:ia=(p:Int)) (hb:ib=(q:Int)) (x y:Event): (⟨0,5,true,false,some (((L.map Event.v).set ia.toNat y.v).set ib.toNat x.v)⟩:Obj)=⟨0,5,true,false,some (((L.set p y).set q x).map Event.v)⟩:=by
 subst ha;subst hb
 rw[ajH,ajH];rfl
theorem Zj {L:List Event} {ia ib:Int} {p q:Nat} (ha:ia=(p:Int)) (hb:ib=(q:Int)) (y:Event) (hq:q<L.length): ∃z:Event,((L.map Event.v).set ia.toNat y.v)[ib.toNat]? =some z.v:=by
 subst ha;subst hb
 refine⟨(L.set p y)[q]'(by simpa using hq),?_⟩
 have: (L.map Event.v).set ((p:Nat):Int).toNat y.v=(L.set p y).map Event.v:=by rw[ajH];rfl
 rw[this,Int.toNat_natCast,List.getElem?_map,aiW (by simpa using hq)];rfl
theorem AT {l:List Event} (hlen:l.length< 1000000) {a b k f:Nat} (ha:a+k≤l.length) (hb:b+k≤l.length):
  ∃l':List Event,l'.length=l.length∧Ev E 705 [.msl 5 (l.map Event.v) 0 l.length,av a,av b,av k,.fn f []] ⟨.tuple [],[(0,l'.map Event.v)]⟩:=by
 have key:=Ev.bD (R:=fun r=> ∃l':List Event,l'.length=l.length∧r=⟨.tuple [],[(0,l'.map Event.v)]⟩) ab9 (aca [.msl 5 (l.map Event.v) 0 l.length,av a,av b,av k,.fn f []]) rfl ?_
 ·obtain⟨res,h1,l',h2,rfl⟩:=key
  exact⟨l',h2,h1⟩
 conv=>whnf
 repeat' (first| intro g| refine st ?_| refine br ?_ ?_<;>intro hc| rfl) <;>conv=>whnf
 refine aL.by (fun ((i,L):Nat×List Event)=> ⟨[(0,.sl 0 0 0 l.length),(1,av a),(2,av b),(3,av k),(10,av i)],[(0,⟨0,5,true,false,some (L.map Event.v)⟩)]⟩)
  (fun p=>p.1≤k∧p.2.length=l.length) (fun p=>k - p.1) (0,l) su ⟨abW,rfl⟩ ?_
 rintro⟨i,L⟩ ⟨hi,hL⟩
 dsimp only at hi hL
 by_cases bl:i<k
 ·have wa:IntKind.i64.wrap ((a:Int)+(i:Int))=((a+i:Nat):Int):=wt
  have wb:IntKind.i64.wrap ((b:Int)+(i:Int))=((b+i:Nat):Int):=wt
  obtain⟨x,hx⟩: ∃x,L[a+i]? =some x:=⟨_,aH abV⟩
  obtain⟨y,hy⟩: ∃x,L[b+i]? =some x:=⟨_,aH abV⟩
  obtain⟨z,hz⟩:=Zj wa wb y (L:=L) abV
  have na:0≤IntKind.i64.wrap ((a:Int)+(i:Int)):=by rw[wa];omega
  have nb:0≤IntKind.i64.wrap ((b:Int)+(i:Int)):=by rw[wb];omega
  have e2:=Zi (L:=L) wa wb x y
  conv=>whnf
  repeat' (first| intro g| refine wi (aq hx wa) ?_| refine wi (aq hy wb) ?_| refine wi hz ?_| refine st ?_| refine br ?_ ?_<;>intro hc| rfl) <;>conv=>whnf
  exact aK.mk (i+1,(L.set (a+i) y).set (b+i) x) om ⟨abV,by simp[hL]⟩ (by(refine⟨?_,?_⟩ <;>repeat' (first| exact True.intro| refine And.intro (e2) ?_| refine ai ?_| refine And.intro ?_ ?_)))
 ·conv=>whnf
  repeat' (first| intro g| refine st ?_| refine br ?_ ?_<;>intro hc| rfl) <;>conv=>whnf
  exact⟨L,hL,rfl⟩
theorem ju {x:Int} {n:Nat} (h:x=(n:Int)):av n=vi x:=by rw[h]
theorem zx {l:List Event} (hlen:l.length< 1000000) {a m b f:Nat} (ha:a<m) (hm:m<b) (hb:b≤l.length):
  ∃l':List Event,l'.length=l.length∧Ev E 700 [.msl 5 (l.map Event.v) 0 l.length,av a,av m,av b,.fn f []] ⟨.tuple [],[(0,l'.map Event.v)]⟩:=by
 have key:=Ev.bD (R:=fun r=> ∃l':List Event,l'.length=l.length∧r=⟨.tuple [],[(0,l'.map Event.v)]⟩) ab7 (ab8 [.msl 5 (l.map Event.v) 0 l.length,av a,av m,av b,.fn f []]) rfl ?_
 ·obtain⟨res,h1,l',h2,rfl⟩:=key
  exact⟨l',h2,h1⟩
 have w0:IntKind.i64.wrap ((m:Int) - (a:Int))=((m - a:Nat):Int):=wt
 have w1:IntKind.i64.wrap ((b:Int) - (m:Int))=((b - m:Nat):Int):=wt
 conv=>whnf
 repeat' (first| intro g| refine st ?_| refine br ?_ ?_<;>intro hc| rfl) <;>conv=>whnf
 refine aL.by (fun ((i,j,L):Nat×Nat×List Event)=> ⟨[(0,.sl 0 0 0 l.length),(2,av m),(4,.fn f []),(10,av i),(11,av j)],[(0,⟨0,5,true,false,some (L.map Event.v)⟩)]⟩)
  (fun p=>0 <p.1∧0 <p.2.1∧p.1≤m∧m+p.2.1≤b∧p.2.2.length=l.length) (fun p=>p.1+p.2.1) (m - a,b - m,l) (by(refine⟨?_,?_⟩ <;>repeat' (first| exact True.intro| refine And.intro (congrArg vi w0) ?_| refine And.intro (congrArg vi w1) ?_| refine ai ?_| refine And.intro ?_ ?_))) ⟨om,om,om,om,rfl⟩ ?_
 rintro⟨i,j,L⟩ ⟨hi,hj,him,hjb,hL⟩
 dsimp only at hi hj him hjb hL
 have wm:IntKind.i64.wrap ((m:Int) - (i:Int))=((m - i:Nat):Int):=wt
 have wj:IntKind.i64.wrap (IntKind.i64.wrap ((m:Int)+(j:Int)) - (i:Int))=((m+j:Nat):Int) - (i:Int):=by
  rw[wrap64 (n:=(m:Int)+(j:Int)) abV abV]
  exact wt
 have hn:l.length=L.length:=hL.symm
 by_cases he:i=j
 ·subst he
  obtain⟨l1,k1,c1⟩:=AT (l:=L) abV (a:=m - i) (b:=m) (k:=i) (f:=f) abV abV
  rw[ju wm,hL] at c1
  conv=>whnf
  repeat' (first| intro g| refine nd ⟨rfl,rfl,rfl,by simp[hL],Event.aN _⟩ ?_| refine nd ⟨rfl,rfl,Event.aN _⟩ ?_| apply ca c1| refine st ?_| refine br ?_ ?_<;>intro hc| rfl) <;>conv=>whnf
  exact⟨l1,abV,rfl⟩
 ·have lD: ¬ (i:Int)=(j:Int):=abV
  by_cases hg:j<i
  ·obtain⟨l1,k1,c1⟩:=AT (l:=L) abV (a:=m - i) (b:=m) (k:=j) (f:=f) abV abV
   have ws:IntKind.i64.wrap ((i:Int) - (j:Int))=((i - j:Nat):Int):=wt
   rw[ju wm,hL] at c1
   conv=>whnf
   repeat' (first| ((exfalso;omega)) | intro g| refine nd ⟨rfl,rfl,rfl,by simp[hL],Event.aN _⟩ ?_| refine nd ⟨rfl,rfl,Event.aN _⟩ ?_| apply ca c1| refine st ?_| refine br ?_ ?_<;>intro hc| rfl) <;>conv=>whnf
   exact aK.mk (i - j,j,l1) om ⟨om,hj,om,hjb,om⟩ (by(refine⟨?_,?_⟩ <;>repeat' (first| exact True.intro| refine And.intro (congrArg vi ws) ?_| refine ai ?_| refine And.intro ?_ ?_)))
  ·obtain⟨l1,k1,c1⟩:=AT (l:=L) abV (a:=m - i) (b:=m+j - i) (k:=i) (f:=f) abV abV
   have ws:IntKind.i64.wrap ((j:Int) - (i:Int))=((j - i:Nat):Int):=wt
   have wj2:IntKind.i64.wrap (IntKind.i64.wrap ((m:Int)+(j:Int)) - (i:Int))=((m+j - i:Nat):Int):=by rw[wj];omega
   rw[ju wm,ju wj2,hL] at c1
   conv=>whnf
   repeat' (first| ((exfalso;omega)) | intro g| refine nd ⟨rfl,rfl,rfl,by simp[hL],Event.aN _⟩ ?_| refine nd ⟨rfl,rfl,Event.aN _⟩ ?_| apply ca c1| refine st ?_| refine br ?_ ?_<;>intro hc| rfl) <;>conv=>whnf
   exact aK.mk (i,j - i,l1) om ⟨hi,om,him,om,om⟩ (by(refine⟨?_,?_⟩ <;>repeat' (first| exact True.intro| refine And.intro (congrArg vi ws) ?_| refine ai ?_| refine And.intro ?_ ?_)))
end Go.AM
