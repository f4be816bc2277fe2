/- Texts of the proof. -/
import Derived.Test.YtdldmebldkgcnaaGreatGai
set_option maxRecDepth 20000
set_option maxHeartbeats 4000000
set_option linter.unusedSimpArgs false
set_option linter.unusedVariables false
namespace Go.AM
theorem Fk {α:Type} (p:α→Bool) (l:List α): (firstIdx p l= -1∧ ∀ (i:Nat) (x:α),l[i]? =some x→p x=false)∨ ∃ (i:Nat) (x:α),firstIdx p l=(i:Int)∧l[i]? =some x∧p x=true∧ ∀ (j:Nat) (y:α),j<i→l[j]? =some y→p y=false:=by
 rcases cI p l with h| ⟨i,x,h1,h2,h3⟩
 ·exact .inl h
 ·refine .inr ⟨i,x,h1,h2,h3,?_⟩
  unfold firstIdx at h1
  cases h:l.findIdx? p with
  | none=>rw[h] at h1;simp at h1
  | some k=>
    rw[h] at h1
    rw[ajM] at h
    obtain⟨hl,hp,ij⟩:=h
    intro j y hj hy
    obtain⟨E2,rfl⟩:=aiS.1 hy
    have:k=i:=by simp at h1;omega
    subst this
    simpa using ij j hj
theorem A6 {l:List Place} {i:Nat} {x:Place} (h:l[i]? =some x):named (l.take (i+1))=named (l.take i)++(if x.name=[] then [] else [x]):=by
 rw[jv h]
 by_cases hx:x.name=[]
 ·rw[Ss hx,if_pos hx,ajq]
 ·rw[Ov hx,if_neg hx]
theorem DU {l:List Place} (h: ∀ (i:Nat) x,l[i]? =some x→x.name≠[]):named l=l:=by
 unfold named
 rw[akw]
 intro x hx
 obtain⟨i,hi⟩:=aji.1 hx
 exact decide_eq_true (h i x hi)
theorem ahf {l:List Place} (hlen:l.length< 1000): ∃rest,V.al rest=true∧Ev E 630 [.msl 7 (l.map Place.v) 0 l.length,.fn 631 []] ⟨.sl 0 0 0 (named l).length,[(0,(named l).map Place.v++rest)]⟩:=by
 have key:=Ev.bD (R:=fun r=> ∃rest:List V,V.al rest=true∧r=⟨.sl 0 0 0 (named l).length,[(0,(named l).map Place.v++rest)]⟩) abM (abN [.msl 7 (l.map Place.v) 0 l.length,.fn 631 []]) rfl ?_
 ·obtain⟨_,h1,rest,h2,rfl⟩:=key
  exact⟨rest,h2,h1⟩
 have hi:=u6 (l:=l) (g:=631) (caps:=[]) (p:=fun p=>decide (p.name=[])) rfl abV (fun x=>DP x) rfl
 rcases Fk (fun p:Place=>decide (p.name=[])) l with⟨h1,h2⟩ | ⟨i0,x0,h1,h2,h3,h4⟩
 ·rw[h1] at hi
  have hn:named l=l:=DU fun i x h=>by simpa using h2 i x h
  rw[hn]
  conv=>whnf
  repeat' (first| ((exfalso;omega)) | intro g| refine nd ⟨rfl,rfl,Place.aN _⟩ ?_| apply ca hi| refine st ?_| refine br ?_ ?_<;>intro hc| rfl) <;>conv=>whnf
  exact⟨[],rfl,abW⟩
 rw[h1] at hi
 conv=>whnf
 repeat' (first| ((exfalso;omega)) | intro g| refine nd ⟨rfl,rfl,Place.aN _⟩ ?_| apply ca hi| refine st ?_| refine br ?_ ?_<;>intro hc| rfl) <;>conv=>whnf
 have hi0:=(aiS.1 h2).1
 have Zw:x0.name=[]:=by simpa using h3
 have vy:named (l.take i0)=l.take i0:=DU fun j y hj=>by
  have Y8:j<i0:=by
   have:=(aiS.1 hj).1
   simp at this;omega
  rw[List.getElem?_take_of_lt Y8] at hj
  simpa using h4 j y Y8 hj
 refine aL.by (fun ((j,i,es):Nat×Nat×List Place)=> ⟨[(0,.sl 0 0 0 l.length),(1,.fn 631 []),(5,vi i),(6,vi j)],[(0,⟨0,7,true,false,some (es.map Place.v)⟩)]⟩)
  (fun (j,i,es)=>j≤l.length∧i<j∧es.length=l.length∧es.take i=named (l.take j)∧es.drop j=l.drop j) (fun (j,_,_)=>l.length - j) (i0+1,i0,l) su ?_ ?_
 ·refine⟨abV,abV,rfl,?_,rfl⟩
  rw[A6 h2,vy];simp[Zw]
 rintro⟨j,i,es⟩ ⟨hj,Jm,bq,y9,RU⟩
 try dsimp only at hj Jm bq y9 RU
 have lm: (es.map Place.v).length=es.length:=List.length_map ..
 by_cases bl:j<l.length
 ·have hx:l[j]? =some l[j]:=aH bl
  generalize l[j]=x at hx
  have hxe:es[j]? =some x:=by
   have h5: (es.drop j)[0]? =(l.drop j)[0]? :=by rw[RU]
   simpa [aki,hx] using h5
  have hot:=A6 hx
  have hk:=DP x
  have RV:es.drop (j+1)=l.drop (j+1):=by
   have h5: (es.drop j).drop 1=(l.drop j).drop 1:=by rw[RU]
   simpa [aj9,Nat.add_comm] using h5
  by_cases Jn:x.name=[]
  ·have Zx:decide (x.name=[])=true:=decide_eq_true Jn
   rw[Zx] at hk
   conv=>whnf
   repeat' (first| ((exfalso;omega)) | intro g| refine wi (aq hxe rfl) ?_| apply ca hk| refine st ?_| refine br ?_ ?_<;>intro hc| rfl) <;>conv=>whnf
   exact aK.mk (j+1,i,es) om ⟨abV,abV,bq,by rw[y9,hot];simp[Jn],RV⟩ su
  ·have Zx:decide (x.name=[])=false:=decide_eq_false Jn
   rw[Zx] at hk
   have pS: (es.set i x).take (i+1)=named (l.take (j+1)):=by
    rw[hot,←y9,if_neg Jn]
    rw[ajt,List.take_set_of_le abV]
    simp[ajQ,show i<es.length by omega]
   have Y9: (es.set i x).drop (j+1)=l.drop (j+1):=by
    rw[List.drop_set_of_lt abV,RV]
   have e1: (⟨0,7,true,false,some ((es.map Place.v).set ((i:Nat):Int).toNat x.v)⟩:Obj)=⟨0,7,true,false,some ((es.set i x).map Place.v)⟩:=by simp[ajH]
   conv=>whnf
   repeat' (first| ((exfalso;omega)) | intro g| refine wi (aq hxe rfl) ?_| apply ca hk| refine st ?_| refine br ?_ ?_<;>intro hc| rfl) <;>conv=>whnf
   exact aK.mk (j+1,i+1,es.set i x) om ⟨abV,abV,by simp[bq],pS,Y9⟩ (by(refine⟨?_,?_⟩ <;>repeat' (first| exact True.intro| refine And.intro (e1) ?_| refine ai ?_| refine And.intro ?_ ?_)))
 ·obtain rfl:j=l.length:=abV
  rw[ajP] at y9
  have hol: (named l).length=i:=by rw[←y9];simp;omega
  have Za:V.al (es.map Place.v)=true:=Place.aN es
  conv=>whnf
  repeat' (first| intro g| refine nd (by first| ((and_intros<;>first| rfl| exact bj Za (bE rfl) | exact eH (bj Za (bE rfl)) | (simp only[overwrite,List.length_append,ajg,aj3,aju,List.length_map];omega) | omega)) | fail) ?_| refine st ?_| refine br ?_ ?_<;>intro hc| rfl) <;>conv=>whnf
  simp only[Int.toNat_natCast,ajF,Nat.sub_zero,overwrite,ajR]
  rw[hol,←List.map_take,y9]
  exact⟨_,bC (bE rfl) (cR fun y hy=>dW Za y (ajz hy)),rfl⟩
theorem DV {m:aI} (hm:m.az.length< 20):Ev E 615 [m.v] ⟨.own 7 ((bX m.az).map Place.v),[]⟩:=by
 have hc:=lP m.az abV
 obtain⟨rest,eX,hd⟩:=ahf (l:=m.az) abV
 have pj:Ev E 630 [.msl 7 (m.az.map Place.v) 0 (m.az.map Place.v).length,.fn 631 []] ⟨.sl 0 0 0 (named m.az).length,[(0,(named m.az).map Place.v++rest)]⟩:=by rw[List.length_map];exact hd
 have hs:=acW (l0:=named m.az) (rest:=rest) eX (by have: (named m.az).length≤m.az.length:=List.length_filter_le _ _;omega)
 have Xv: (bX m.az).length=(named m.az).length:=eD fm _
 have e1:fq fm (named m.az)=bX m.az:=rfl
 rw[e1] at hs
 rw[←Xv] at pj hs
 generalize bX m.az=qs at*
 refine Ev.aD rfl rfl rfl ?_
 have lm: (qs.map Place.v).length=qs.length:=List.length_map ..
 have hw:aG (qs.map Place.v++rest) 0 qs.length=qs.map Place.v:=by unfold aG;rw[List.drop_zero,List.take_append_of_le_length abW,List.take_of_length_le abW]
 conv=>whnf
 repeat' (first| intro g| refine nd (by first| ((and_intros<;>first| rfl| exact bC (Place.aN _) eX| exact eH (bC (Place.aN _) eX) | omega| (simp only[List.length_append,List.length_map];omega))) | fail) ?_| apply ca hc| apply ca pj| apply ca hs| refine st ?_| refine br ?_ ?_<;>intro hc| rfl) <;>conv=>whnf
 rw[hw]
theorem qH {m:aI} (hm:m.az.length< 20) {l:List dn} (hl:l.length< 4000) (kY: ∀h ∈ l,h.evs.length< 1000000):Ev E 596 [m.v,.lit 2 (l.map dn.v)] ⟨.own 6 ((cn l (bX m.az)).map dj.v),[]⟩:=
 VX (DV hm) (by have:=A0 m.az;omega) hl kY
end Go.AM
namespace Go.AM
theorem SD {m:aI} (hm:m.az.length< 20):Ev E 600 [m.v] ⟨.own 1 (((bX m.az).map Place.id).map vi),[]⟩:=by
 have hs:=DV hm
 have hql:=A0 m.az
 generalize bX m.az=qs at*
 refine Ev.aD rfl rfl rfl ?_
 conv=>whnf
 repeat' (first| intro g| apply ca hs| refine st ?_| refine br ?_ ?_<;>intro hc| rfl) <;>conv=>whnf
 refine aL.by (fun ((k,L,g):Nat×List Int×Nat)=> ⟨[(2,.sl 49 g 0 L.length),(6,.lit 7 (qs.map Place.v)),(7,av (qs.map Place.v).length),(8,av k)],[(49,⟨g,1,true,false,some (L.map vi)⟩)]⟩) (fun (k,L,_)=>k≤qs.length∧L=(qs.take k).map Place.id) (fun (k,_)=>qs.length - k) (0,[],g) su ⟨abW,abW⟩ ?_
 clear g
 rintro⟨k,L,gl⟩ ⟨hk,hL⟩
 try dsimp only at hk hL
 have hlen:L.length≤k:=by rw[hL];simp;omega
 by_cases bl:k<qs.length
 case neg=>
  rw[List.take_of_length_le abV] at hL
  rw[←hL]
  exact aiN
 obtain⟨y,hy⟩: ∃x,qs[k]? =some x:=⟨_,aH bl⟩
 conv=>whnf
 repeat' (first| intro g| refine wi (aq hy rfl) ?_| refine st ?_| refine br ?_ ?_<;>intro hc| rfl) <;>conv=>whnf
 exact aK.mk (k+1,L++[y.id],g) om ⟨abV,by rw[jv hy,hL];simp⟩ su
end Go.AM
namespace Go.AM
end Go.AM
namespace Go.AM
theorem gr (i j:Int): ∃p:Pt,Ev E 120 [vi i,vi j] ⟨p.v,[]⟩:=by
 refine a8 (Ev.bD rfl rfl rfl ?_)
 conv=>whnf
 repeat' (first| intro g| refine st ?_| (refine bZ.bU ?_;intro s) | refine br ?_ ?_<;>intro hc| rfl) <;>conv=>whnf
 exact⟨⟨_,_⟩,rfl⟩
def xn (ws:List Way) (n:Nat):Prop:=ws.length≤n∧ ∀w ∈ ws,kf w.line
theorem xn.snoc {es:List Way} {n:Nat} {e:Way} (h:xn es n) (k:kf e.line):xn (es++[e]) (n+1):=
 ⟨by have:=h.1;simp;omega,fun x hx=>by
   rcases ai6.1 hx with hx| hx
   ·exact h.2 x hx
   · have:x=e:=by simpa using hx
     subst this;exact k⟩
theorem xn.mono {es:List Way} {n m:Nat} (h:xn es n) (k:n≤m):xn es m:=⟨ajb h.1 k,h.2⟩
theorem qI {l:List Int} (hl:l.length< 9223372036854775808) {ws:List Way} {n:Nat} (hw:xn ws n) (hn:n< 1000) (p q:Pt) (level:Int) (a0:Nat):
  ∃res,Ev E 119 [.msl 8 (ws.map Way.v) 0 ws.length,p.v,q.v,vi level,.mptr 2 [dq l a0] 0 0] res∧ ∃ (Gl:List Way) (a b:Nat),xn Gl (n+1)∧res=⟨.sl 0 b 0 Gl.length,[(b,Gl.map Way.v),(0,[dq l a])]⟩:=by
 refine Ev.bD rfl rfl rfl ?_
 have o9:=hw.1
 have nx:=fun k a (h:0 <k) (h2:k< 1000)=>cw hl k (a:=a) h abV
 have hb:=eI (l:=l) (a:=a0) (n:=3) abV abV
 have n3:=nx 3 a0 abV abV
 generalize hm:dN l a0 3=many at hb n3
 have e1:IntKind.i64.wrap ((many:Int)+1)=((many+1:Nat):Int):=wt
 have QE:IntKind.i64.wrap (41+(ws.length:Int))=41+(ws.length:Int):=wrap64 abV abV
 conv=>whnf
 repeat' (first| intro g| apply ca n3| refine st ?_| (refine bZ.bU ?_;intro s) | refine br ?_ ?_<;>intro hc| rfl) <;>conv=>whnf
 rename_i g6 g7 gb
 refine aL.by (fun ((k,L,a,gb):Nat×List Pt×Nat×Nat)=> ⟨[(0,.sl 0 0 0 ws.length),(4,.ptr 4 0 0 0),(6,.ptr 112 g6 0 0),(7,.ptr 128 g7 0 0),(11,.ptr 192 g 0 0),(12,av many),(13,av k)],
   [(0,⟨0,8,true,false,some (ws.map Way.v)⟩),(4,⟨0,2,false,false,some [dq l a]⟩),(112,⟨g6,2,false,false,some [p.v]⟩),(128,⟨g7,2,false,false,some [q.v]⟩),
    (192,⟨g,8,false,false,some [.agg [vi (41+(ws.length:Int)),.sl 352 gb 0 L.length,vi level,.str [],.str [],.bool false,vi 0,vi 0]]⟩),(352,⟨gb,2,true,false,some (L.map Pt.v)⟩)]⟩)
  (fun (k,L,_,_)=>1≤k∧k≤many+1∧L.length=k) (fun (k,_)=>many+1 - k) (1,[p],ba l a0,gb) ?_ ⟨abW,abW,abW⟩ ?_
 ·rw[QE];exact su
 rintro⟨k,L,a,gb⟩ ⟨Aw,Mv,hL⟩
 try dsimp only at Aw Mv hL
 by_cases bl:k≤many
 ·have n17:=nx 17 a abV abV
  conv=>whnf
  repeat' (first| intro g| apply ca n17| refine st ?_| (refine bZ.bU ?_;intro s) | refine br ?_ ?_<;>intro hc| rfl) <;>conv=>whnf
  all_goals exact aK.mk (k+1,L++[⟨_,_⟩],ba l a,g) om ⟨om,om,by simp[hL]⟩ su
 ·have n2:=fun a=>cw hl 2 (a:=a) abV abV
  have n3:=fun a=>cw hl 3 (a:=a) abV abV
  have n4:=fun a=>cw hl 4 (a:=a) abV abV
  have n60:=fun a=>cw hl 60 (a:=a) abV abV
  conv=>whnf
  repeat' (first| intro g| apply ca (n2 _) | apply ca (n3 _) | apply ca (n4 _) | apply ca (n60 _) | refine st ?_| (refine bZ.bU ?_;intro s) | refine br ?_ ?_<;>intro hc| rfl) <;>conv=>whnf
  have hLF:kf (L++[q]):=⟨by simp;omega,by simp;omega⟩
  exact⟨ws++[⟨_,L++[q],_,_,_,_,_,_⟩],_,_,hw.snoc hLF,by
   simp only[ajk,List.map_cons,akj,List.length_append,ai5,ajc,List.length_map,Way.v,iP]
   rfl⟩
end Go.AM
namespace Go.AM
theorem V0 {l:List Int} (hl:l.length< 9223372036854775808): ∃res,Ev E 86 [.lit 1 (l.map vi)] res∧ ∃ws:List Way,xn ws 12∧res=⟨.own 8 (ws.map Way.v),[]⟩:=by
 refine Ev.bD rfl rfl rfl ?_
 have n2:=fun a=>cw hl 2 (a:=a) abV abV
 have n3:=fun a=>cw hl 3 (a:=a) abV abV
 have n4:=fun a=>cw hl 4 (a:=a) abV abV
 conv=>whnf
 repeat' (first| intro g| refine st ?_| (refine bZ.bU ?_;intro s) | refine br ?_ ?_<;>intro hc| rfl) <;>conv=>whnf
 rename_i gd
 refine aL.by (fun ((j,ws,a,g):Nat×List Way×Nat×Nat)=> ⟨[(3,.ptr 176 gd 0 0),(4,.sl 81 g 0 ws.length),(5,av j)],[(176,⟨gd,2,false,false,some [dq l a]⟩),(81,⟨g,8,true,false,some (ws.map Way.v)⟩)]⟩)
  (fun (j,ws,_,_)=>j≤2∧xn ws (3*j)) (fun (j,_)=>2 - j) (0,[],0,g) su ⟨abW,abW,abW⟩ ?_
 rintro⟨j,ws,a,g⟩ ⟨hj,DW⟩
 try dsimp only at hj DW
 by_cases bl:j< 2
 ·conv=>whnf
  repeat' (first| intro g| refine st ?_| (refine bZ.bU ?_;intro s) | refine br ?_ ?_<;>intro hc| rfl) <;>conv=>whnf
  refine aL.by (fun ((i,ws,a,g):Nat×List Way×Nat×Nat)=> ⟨[(3,.ptr 176 gd 0 0),(4,.sl 81 g 0 ws.length),(5,av j),(6,av i)],[(176,⟨gd,2,false,false,some [dq l a]⟩),(81,⟨g,8,true,false,some (ws.map Way.v)⟩)]⟩)
   (fun (i,ws,_,_)=>i≤3∧xn ws (3*j+i)) (fun (i,_)=>3 - i) (0,ws,a,g) su ⟨abW,DW⟩ ?_
  clear DW
  rintro⟨i,ws,a,g⟩ ⟨hi,DW⟩
  try dsimp only at hi DW
  by_cases jU:i< 3
  ·obtain⟨p,hp⟩:=gr i j
   obtain⟨q,hq⟩:=gr (IntKind.i64.wrap ((i:Int)+1)) j
   conv=>whnf
   repeat' (first| intro g| apply ca (n2 _) | apply ca hp| apply ca hq| refine st ?_| (refine bZ.bU ?_;intro s) | refine br ?_ ?_<;>intro hc| rfl) <;>conv=>whnf
   ·refine aC.ex (qI hl DW abV p q 0 (ba l a)) ?_
    rintro _ ⟨Gl,a',b,lH,rfl⟩
    conv=>whnf
    repeat' (first| intro g| refine st ?_| (refine bZ.bU ?_;intro s) | refine br ?_ ?_<;>intro hc| rfl) <;>conv=>whnf
    exact aK.mk (i+1,Gl,a',g+b) om ⟨om,lH⟩ su
   ·exact aK.mk (i+1,ws,ba l a,g) om ⟨om,DW.mono abV⟩ su
  ·conv=>whnf
   repeat' (first| intro g| refine st ?_| (refine bZ.bU ?_;intro s) | refine br ?_ ?_<;>intro hc| rfl) <;>conv=>whnf
   exact aK.mk (j+1,ws,a,g) om ⟨om,DW.mono abV⟩ su
 ·conv=>whnf
  repeat' (first| intro g| refine st ?_| (refine bZ.bU ?_;intro s) | refine br ?_ ?_<;>intro hc| rfl) <;>conv=>whnf
  refine aL.by (fun ((i,ws,a,g):Nat×List Way×Nat×Nat)=> ⟨[(3,.ptr 176 gd 0 0),(4,.sl 81 g 0 ws.length),(7,av i)],[(176,⟨gd,2,false,false,some [dq l a]⟩),(81,⟨g,8,true,false,some (ws.map Way.v)⟩)]⟩)
   (fun (i,ws,_,_)=>i≤4∧xn ws (6+i)) (fun (i,_)=>4 - i) (0,ws,a,g) su ⟨abW,DW.mono abV⟩ ?_
  clear DW
  rintro⟨i,ws,a,g⟩ ⟨hi,DW⟩
  try dsimp only at hi DW
  by_cases jU:i< 4
  ·by_cases aiw:ws.length< 5
   ·obtain⟨p,hp⟩:=gr i 0
    obtain⟨q,hq⟩:=gr i 1
    conv=>whnf
    repeat' (first| intro g| apply ca (n2 _) | apply ca hp| apply ca hq| refine st ?_| (refine bZ.bU ?_;intro s) | refine br ?_ ?_<;>intro hc| rfl) <;>conv=>whnf
    ·  refine aC.ex (qI hl DW abV p q 0 (ba l a)) ?_
       rintro _ ⟨Gl,a',b,lH,rfl⟩
       conv=>whnf
       repeat' (first| intro g| refine st ?_| (refine bZ.bU ?_;intro s) | refine br ?_ ?_<;>intro hc| rfl) <;>conv=>whnf
       exact aK.mk (i+1,Gl,a',g+b) om ⟨om,lH⟩ su
    ·exact aK.mk (i+1,ws,ba l a,g) om ⟨om,DW.mono abV⟩ su
   ·obtain⟨p00,V1⟩:=gr 0 0
    obtain⟨p11,V2⟩:=gr 1 1
    obtain⟨p30,Fm⟩:=gr 3 0
    obtain⟨p21,V3⟩: ∃f:Int→Pt,∀x,Ev E 120 [vi x,vi 1] ⟨(f x).v,[]⟩:=⟨fun x=> (gr x 1).choose,fun x=> (gr x 1).choose_spec⟩
    conv=>whnf
    repeat' (first| intro g| apply ca (n2 _) | apply ca (n3 _) | apply ca (n4 _) | apply ca V1| apply ca V2| apply ca Fm| apply ca (V3 _) | refine st ?_| (refine bZ.bU ?_;intro s) | refine br ?_ ?_<;>intro hc| rfl) <;>conv=>whnf
    ·  refine aC.ex (qI hl DW abV _ _ _ _) ?_
       rintro _ ⟨Gl,a',b,lH,rfl⟩
       conv=>whnf
       repeat' (first| intro g| apply ca (n2 _) | apply ca (n3 _) | apply ca (n4 _) | apply ca V1| apply ca V2| apply ca Fm| apply ca (V3 _) | refine st ?_| (refine bZ.bU ?_;intro s) | refine br ?_ ?_<;>intro hc| rfl) <;>conv=>whnf
       ·refine aC.ex (qI hl lH abV _ _ _ _) ?_
        rintro _ ⟨ws2,a2,b2,Jl,rfl⟩
        conv=>whnf
        repeat' (first| intro g| apply ca (n2 _) | apply ca (n3 _) | apply ca (n4 _) | apply ca V1| apply ca V2| apply ca Fm| apply ca (V3 _) | refine st ?_| (refine bZ.bU ?_;intro s) | refine br ?_ ?_<;>intro hc| rfl) <;>conv=>whnf
        exact⟨ws2,Jl.mono abV,rfl⟩
       ·exact⟨Gl,lH.mono abV,rfl⟩
    ·  refine aC.ex (qI hl DW abV _ _ _ _) ?_
       rintro _ ⟨Gl,a',b,lH,rfl⟩
       conv=>whnf
       repeat' (first| intro g| apply ca (n2 _) | apply ca (n3 _) | apply ca (n4 _) | apply ca V1| apply ca V2| apply ca Fm| apply ca (V3 _) | refine st ?_| (refine bZ.bU ?_;intro s) | refine br ?_ ?_<;>intro hc| rfl) <;>conv=>whnf
       exact⟨Gl,lH.mono abV,rfl⟩
    ·exact⟨ws,DW.mono abV,rfl⟩
  ·obtain⟨p00,V1⟩:=gr 0 0
   obtain⟨p11,V2⟩:=gr 1 1
   obtain⟨p30,Fm⟩:=gr 3 0
   obtain⟨p21,V3⟩: ∃f:Int→Pt,∀x,Ev E 120 [vi x,vi 1] ⟨(f x).v,[]⟩:=⟨fun x=> (gr x 1).choose,fun x=> (gr x 1).choose_spec⟩
   conv=>whnf
   repeat' (first| intro g| apply ca (n2 _) | apply ca (n3 _) | apply ca (n4 _) | apply ca V1| apply ca V2| apply ca Fm| apply ca (V3 _) | refine st ?_| (refine bZ.bU ?_;intro s) | refine br ?_ ?_<;>intro hc| rfl) <;>conv=>whnf
   ·refine aC.ex (qI hl DW abV _ _ _ _) ?_
    rintro _ ⟨Gl,a',b,lH,rfl⟩
    conv=>whnf
    repeat' (first| intro g| apply ca (n2 _) | apply ca (n3 _) | apply ca (n4 _) | apply ca V1| apply ca V2| apply ca Fm| apply ca (V3 _) | refine st ?_| (refine bZ.bU ?_;intro s) | refine br ?_ ?_<;>intro hc| rfl) <;>conv=>whnf
    ·  refine aC.ex (qI hl lH abV _ _ _ _) ?_
       rintro _ ⟨ws2,a2,b2,Jl,rfl⟩
       conv=>whnf
       repeat' (first| intro g| apply ca (n2 _) | apply ca (n3 _) | apply ca (n4 _) | apply ca V1| apply ca V2| apply ca Fm| apply ca (V3 _) | refine st ?_| (refine bZ.bU ?_;intro s) | refine br ?_ ?_<;>intro hc| rfl) <;>conv=>whnf
       exact⟨ws2,Jl.mono abV,rfl⟩
    ·exact⟨Gl,lH.mono abV,rfl⟩
   ·refine aC.ex (qI hl DW abV _ _ _ _) ?_
    rintro _ ⟨Gl,a',b,lH,rfl⟩
    conv=>whnf
    repeat' (first| intro g| apply ca (n2 _) | apply ca (n3 _) | apply ca (n4 _) | apply ca V1| apply ca V2| apply ca Fm| apply ca (V3 _) | refine st ?_| (refine bZ.bU ?_;intro s) | refine br ?_ ?_<;>intro hc| rfl) <;>conv=>whnf
    exact⟨Gl,lH.mono abV,rfl⟩
   ·exact⟨ws,DW.mono abV,rfl⟩
end Go.AM
namespace Go.AM
structure Fo where
 x:Int
 y:Int
 z:Int
def Fo.v (s:Fo):V:= .agg [vi s.x,vi s.y,vi s.z]
structure fF where
 id:Int
 pM:List Fo
 left:Int
 right:Int
def fF.v (t:fF):V:= .agg [vi t.id,.lit 3 (t.pM.map Fo.v),vi t.left,vi t.right]
theorem Fo.aN (l:List Fo):V.al (l.map Fo.v)=true:=AM.aN (fun _=>rfl) l
theorem fF.aN (l:List fF):V.al (l.map fF.v)=true:=AM.aN (fun _=>rfl) l
def acY (ts:List fF):Prop:=ts.length< 1000∧ ∀t ∈ ts,t.pM.length≤5
theorem OG {es:List Edge} {n:Nat} (he:jR es n) (hn:n< 1000): ∃res,Ev E 164 [.lit 4 (es.map Edge.v)] res∧ ∃ts:List fF,acY ts∧res=⟨.own 4 (ts.map fF.v),[]⟩:=by
 refine Ev.bD rfl rfl rfl ?_
 have sO:=he.1
 conv=>whnf
 repeat' (first| intro g| refine st ?_| refine br ?_ ?_<;>intro hc| rfl) <;>conv=>whnf
 refine aL.by (fun ((k,ts,g):Nat×List fF×Nat)=> ⟨[(0,.lit 4 (es.map Edge.v)),(3,.sl 65 g 0 ts.length),(4,av k)],[(65,⟨g,4,true,false,some (ts.map fF.v)⟩)]⟩)
  (fun (k,ts,g)=>k≤es.length∧ts.length=k∧ ∀t ∈ ts,t.pM.length≤5) (fun (k,_)=>es.length - k) (0,[],g) su ⟨abW,abW,abW⟩ ?_
 rintro⟨k,ts,g⟩ ⟨hk,ht,hts⟩
 try dsimp only at hk ht hts
 by_cases bl:k<es.length
 ·obtain⟨e,lD⟩: ∃e,es[k]? =some e:=⟨_,aH bl⟩
  have hlf:=he.2 e (List.mem_of_getElem? lD)
  have Fb:=hlf.1
  have Cj:=hlf.2
  conv=>whnf
  repeat' (first| intro g| refine wi (aq lD rfl) ?_| refine st ?_| refine br ?_ ?_<;>intro hc| rfl) <;>conv=>whnf
  rename_i g5
  refine aL.by (fun ((i,ss,og):Nat×List Fo×Option Nat)=> ⟨[(0,.lit 4 (es.map Edge.v)),(3,.sl 65 g5 0 ts.length),(4,av k),(5,.ptr 96 g 0 0),(6,av i)],
   match og with
   | none=> [(65,⟨g5,4,true,false,some (ts.map fF.v)⟩),(96,⟨g,4,false,false,some [.agg [vi e.id,.nils,vi e.left,vi e.right]]⟩)]
   | some g9=> [(65,⟨g5,4,true,false,some (ts.map fF.v)⟩),(96,⟨g,4,false,false,some [.agg [vi e.id,.sl 99 g9 0 ss.length,vi e.left,vi e.right]]⟩),(99,⟨g9,3,true,false,some (ss.map Fo.v)⟩)]⟩)
   (fun (i,ss,og)=>i≤e.line.length∧ss.length=i∧(og=none→ss=[])) (fun (i,_)=>e.line.length - i) (0,[],none) ?_ ⟨abW,abW,abW⟩ ?_
  ·exact su
  rintro⟨i,ss,og⟩ ⟨hi,hs,tK⟩
  try dsimp only at hi hs tK
  by_cases Jp:i<e.line.length
  ·obtain⟨x,hx⟩: ∃x,e.line[i]? =some x:=⟨_,aH Jp⟩
   have vD:Ev E 199 [x.v] ⟨.agg [vi x.x,vi x.y,vi 1],[]⟩:=rW x.x x.y
   cases og with
   | none=>
     obtain rfl:=tK rfl
     conv=>whnf
     repeat' (first| intro g| refine wi (aq lD rfl) ?_| refine wi (aq hx rfl) ?_| apply ca vD| refine st ?_| refine br ?_ ?_<;>intro hc| rfl) <;>conv=>whnf
     exact aK.mk (i+1,[⟨x.x,x.y,1⟩],some g) om ⟨om,by simp at hs ⊢;omega,abW⟩ su
   | some g9=>
     conv=>whnf
     repeat' (first| intro g| refine wi (aq lD rfl) ?_| refine wi (aq hx rfl) ?_| apply ca vD| refine st ?_| refine br ?_ ?_<;>intro hc| rfl) <;>conv=>whnf
     exact aK.mk (i+1,ss++[⟨x.x,x.y,1⟩],some g) om ⟨om,by simp;omega,abW⟩ su
  ·cases og with
   | none=>
     obtain rfl:=tK rfl
     simp at hs
     omega
   | some g9=>
     conv=>whnf
     repeat' (first| intro g| refine wi (aq lD rfl) ?_| refine st ?_| refine br ?_ ?_<;>intro hc| rfl) <;>conv=>whnf
     refine aK.mk (k+1,ts++[⟨e.id,ss,e.left,e.right⟩],g) om ⟨om,by simp;omega,?_⟩ su
     intro t h
     rcases ai6.1 h with h| h
     ·exact hts t h
     ·have:t=⟨e.id,ss,e.left,e.right⟩:=by simpa using h
      subst this;dsimp only;omega
 ·conv=>whnf
  repeat' (first| intro g| refine st ?_| refine br ?_ ?_<;>intro hc| rfl) <;>conv=>whnf
  exact⟨ts,⟨abV,hts⟩,rfl⟩
end Go.AM
namespace Go.AM
theorem Fq {ts:List fF} (ht:acY ts) (p:Pt): ∃ (r:Int) (b:Bool),Ev E 163 [.lit 4 (ts.map fF.v),p.v] ⟨.tuple [vi r,.bool b],[]⟩:=by
 have key:=Ev.bD (R:=fun res=> ∃ (r:Int) (b:Bool),res=⟨.tuple [vi r,.bool b],[]⟩) ab1 (ab2 [.lit 4 (ts.map fF.v),p.v]) rfl ?_
 ·obtain⟨res,h1,r,b,rfl⟩:=key
  exact⟨r,b,h1⟩
 have vD:Ev E 199 [p.v] ⟨.agg [vi p.x,vi p.y,vi 1],[]⟩:=rW p.x p.y
 have htl:=ht.1
 conv=>whnf
 repeat' (first| intro g| apply ca vD| apply ca (Ax _ _ _) | refine st ?_| refine br ?_ ?_<;>intro hc| rfl) <;>conv=>whnf
 ·exact⟨_,_,rfl⟩
 refine aL.by (fun (k:Nat)=> ⟨[(0,.lit 4 (ts.map fF.v)),(3,.ptr 64 g 0 0),(6,av k)],[(64,⟨g,2,false,false,some [p.v]⟩)]⟩)
  (fun k=>k≤ts.length) (fun k=>ts.length - k) 0 su om ?_
 intro k hk
 by_cases bl:k<ts.length
 ·obtain⟨t,he⟩: ∃t,ts[k]? =some t:=⟨_,aH bl⟩
  have htf:=ht.2 t (List.mem_of_getElem? he)
  conv=>whnf
  repeat' (first| intro g| refine st ?_| refine br ?_ ?_<;>intro hc| rfl) <;>conv=>whnf
  refine aL.by (fun (i:Nat)=> ⟨[(0,.lit 4 (ts.map fF.v)),(3,.ptr 64 g 0 0),(6,av k),(7,av i)],[(64,⟨g,2,false,false,some [p.v]⟩)]⟩)
   (fun i=>i≤t.pM.length) (fun i=>t.pM.length - i) 0 su om ?_
  intro i hi
  by_cases Jp:i<t.pM.length
  ·obtain⟨s,hs⟩: ∃s,t.pM[i]? =some s:=⟨_,aH Jp⟩
   have hb:Ev E 198 [s.v] ⟨.bool (G2 s.x s.y s.z),[]⟩:=Ax s.x s.y s.z
   conv=>whnf
   repeat' (first| intro g| refine wi (aq he rfl) ?_| refine wi (aq hs rfl) ?_| apply ca hb| refine st ?_| refine br ?_ ?_<;>intro hc| rfl) <;>conv=>whnf
   ·exact⟨_,_,rfl⟩
   ·exact aK.mk (i+1) om om su
  ·conv=>whnf
   repeat' (first| intro g| refine wi (aq he rfl) ?_| refine st ?_| refine br ?_ ?_<;>intro hc| rfl) <;>conv=>whnf
   exact aK.mk (k+1) om om su
 ·conv=>whnf
  repeat' (first| intro g| refine st ?_| refine br ?_ ?_<;>intro hc| rfl) <;>conv=>whnf
  rename_i g3
  refine aL.by (fun ((k,found,a1,a2,a3,a4,a5,a6,a7):Nat×Bool×Int×Int×Int×Int×Int×Int×Int)=> ⟨[(0,.lit 4 (ts.map fF.v)),(3,.ptr 64 g3 0 0),(8,.bool found),(9,.ptr 160 g 0 0),(10,av k)],[(64,⟨g3,2,false,false,some [p.v]⟩),(160,⟨g,7,false,false,some [.agg [vi a1,vi a2,vi a3,vi a4,vi a5,vi a6,vi a7]]⟩)]⟩)
   (fun (k,_)=>k≤ts.length) (fun (k,_)=>ts.length - k) (0,false,0,0,0,0,0,0,0) su om ?_
  rintro⟨k,found,a1,a2,a3,a4,a5,a6,a7⟩ hk
  try dsimp only at hk
  by_cases bl:k<ts.length
  ·obtain⟨t,he⟩: ∃t,ts[k]? =some t:=⟨_,aH bl⟩
   have htf:=ht.2 t (List.mem_of_getElem? he)
   conv=>whnf
   repeat' (first| intro g| refine st ?_| refine br ?_ ?_<;>intro hc| rfl) <;>conv=>whnf
   refine aL.by (fun ((j,found,a1,a2,a3,a4,a5,a6,a7):Nat×Bool×Int×Int×Int×Int×Int×Int×Int)=> ⟨[(0,.lit 4 (ts.map fF.v)),(3,.ptr 64 g3 0 0),(8,.bool found),(9,.ptr 160 g 0 0),(10,av k),(11,av j)],[(64,⟨g3,2,false,false,some [p.v]⟩),(160,⟨g,7,false,false,some [.agg [vi a1,vi a2,vi a3,vi a4,vi a5,vi a6,vi a7]]⟩)]⟩)
    (fun (j,_)=>j≤t.pM.length) (fun (j,_)=>t.pM.length - j) (0,found,a1,a2,a3,a4,a5,a6,a7) su om ?_
   rintro⟨j,found,a1,a2,a3,a4,a5,a6,a7⟩ hj
   try dsimp only at hj
   have e1:IntKind.i64.wrap ((j:Int)+1)=((j+1:Nat):Int):=wt
   by_cases hlj:j+1 <t.pM.length
   ·obtain⟨x,hx⟩: ∃s,t.pM[j]? =some s:=⟨_,aH abV⟩
    obtain⟨y,hy⟩: ∃s,t.pM[j+1]? =some s:=⟨_,aH hlj⟩
    have hon:Ev E 200 [x.v,y.v,p.v] ⟨.bool (onF x.x x.y x.z y.x y.y y.z p.x p.y),[]⟩:=acv _ _ _ _ _ _ _ _
    have acZ:Ev E 201 [x.v,y.v,p.v] ⟨vi (G4 x.x x.y x.z y.x y.y y.z p.x p.y),[]⟩:=J8 _ _ _ _ _ _ _ _
    cases found
    ·  conv=>whnf
       repeat' (first| intro g| refine wi (aq he rfl) ?_| refine wi (aq hx rfl) ?_| refine wi (aq hy e1) ?_| apply ca hon| apply ca acZ| apply ca (Dm _ _ _ _ _ _ _ _ _ _ _ _ _ _) | refine st ?_| refine br ?_ ?_<;>intro hc| rfl) <;>conv=>whnf
       ·exact⟨_,_,rfl⟩
       ·exact aK.mk (j+1,true,y.x,y.y,y.z,x.x,x.y,x.z,t.left) om om su
       ·exact aK.mk (j+1,true,x.x,x.y,x.z,y.x,y.y,y.z,t.right) om om su
       ·exact aK.mk (j+1,false,a1,a2,a3,a4,a5,a6,a7) om om su
    ·  conv=>whnf
       repeat' (first| intro g| refine wi (aq he rfl) ?_| refine wi (aq hx rfl) ?_| refine wi (aq hy e1) ?_| apply ca hon| apply ca acZ| apply ca (Dm _ _ _ _ _ _ _ _ _ _ _ _ _ _) | refine st ?_| refine br ?_ ?_<;>intro hc| rfl) <;>conv=>whnf
       ·exact⟨_,_,rfl⟩
       ·exact aK.mk (j+1,true,y.x,y.y,y.z,x.x,x.y,x.z,t.left) om om su
       ·exact aK.mk (j+1,true,a1,a2,a3,a4,a5,a6,a7) om om su
       ·exact aK.mk (j+1,true,x.x,x.y,x.z,y.x,y.y,y.z,t.right) om om su
       ·exact aK.mk (j+1,true,a1,a2,a3,a4,a5,a6,a7) om om su
       ·exact aK.mk (j+1,true,a1,a2,a3,a4,a5,a6,a7) om om su
   ·conv=>whnf
    repeat' (first| intro g| refine wi (aq he rfl) ?_| refine st ?_| refine br ?_ ?_<;>intro hc| rfl) <;>conv=>whnf
    exact aK.mk (k+1,found,a1,a2,a3,a4,a5,a6,a7) om om su
  ·conv=>whnf
   repeat' (first| intro g| refine st ?_| refine br ?_ ?_<;>intro hc| rfl) <;>conv=>whnf
   exact⟨_,_,rfl⟩
end Go.AM
namespace Go.AM
theorem Zy {es:List Edge} {n:Nat} (he:jR es n) (hn:n< 1000) (p:Pt): ∃ (r:Int) (b:Bool),Ev E 121 [.lit 4 (es.map Edge.v),p.v] ⟨.tuple [vi r,.bool b],[]⟩:=by
 have key:=Ev.bD (R:=fun res=> ∃ (r:Int) (b:Bool),res=⟨.tuple [vi r,.bool b],[]⟩) abT (abU [.lit 4 (es.map Edge.v),p.v]) rfl ?_
 ·obtain⟨res,h1,r,b,rfl⟩:=key
  exact⟨r,b,h1⟩
 conv=>whnf
 repeat' (first| intro g| refine st ?_| refine br ?_ ?_<;>intro hc| rfl) <;>conv=>whnf
 refine aC.ex (OG he hn) ?_
 rintro _ ⟨ts,ht,rfl⟩
 obtain⟨r,b,hr⟩:=Fq ht p
 conv=>whnf
 repeat' (first| intro g| apply ca hr| refine st ?_| refine br ?_ ?_<;>intro hc| rfl) <;>conv=>whnf
 exact⟨_,_,rfl⟩
theorem vE (m:aI) (hf:m.an.length< 1000) (id:Int): ∃r:Int,Ev E 122 [m.v,vi id] ⟨vi r,[]⟩:=by
 refine a8 (Ev.bD rfl rfl rfl ?_)
 conv=>whnf
 repeat' (first| intro g| refine st ?_| refine br ?_ ?_<;>intro hc| rfl) <;>conv=>whnf
 refine aL.by (fun (k:Nat)=> ⟨[(1,vi id),(2,.ptr 48 g 0 0),(5,av k)],[(48,⟨g,4,false,false,some [m.v]⟩)]⟩)
  (fun k=>k≤m.an.length) (fun k=>m.an.length - k) 0 su om ?_
 intro k hk
 by_cases bl:k<m.an.length
 ·obtain⟨f,hx⟩: ∃f,m.an[k]? =some f:=⟨_,aH bl⟩
  conv=>whnf
  repeat' (first| intro g| refine wi (aq hx rfl) ?_| refine st ?_| refine br ?_ ?_<;>intro hc| rfl) <;>conv=>whnf
  ·exact⟨_,rfl⟩
  ·exact aK.mk (k+1) om om su
 ·conv=>whnf
  repeat' (first| intro g| refine st ?_| refine br ?_ ?_<;>intro hc| rfl) <;>conv=>whnf
  exact⟨_,rfl⟩
end Go.AM
namespace Go.AM
def OH (p:Place):Prop:=(-16384≤p.x∧p.x≤16384∧ -16384≤p.y∧p.y≤16384)∧0≤p.weight∧p.weight≤1073741824
def A8 (ps:List Place) (n:Nat):Prop:=ps.length≤n∧(∀ (i:Nat) (p:Place),ps[i]? =some p→p.id=61+(i:Int))∧ ∀p ∈ ps,OH p
theorem Xw {b a:Nat} (hb:b< 10) (ha:a< 3): -16384≤IntKind.i64.wrap (IntKind.i64.wrap (90+IntKind.i64.wrap (100*(a:Int)))+IntKind.i64.wrap (16+(b:Int)))∧IntKind.i64.wrap (IntKind.i64.wrap (90+IntKind.i64.wrap (100*(a:Int)))+IntKind.i64.wrap (16+(b:Int)))≤16384:=by
 rw[wrap64 (n:=100*(a:Int)) abV abV,wrap64 (n:=90+100*(a:Int)) abV abV,wrap64 (n:=16+(b:Int)) abV abV,wrap64 abV abV]
 omega
theorem Xx {b a:Nat} (hb:b< 10) (ha:a< 3): -16384≤IntKind.i64.wrap (IntKind.i64.wrap (90+IntKind.i64.wrap (100*(a:Int)))+IntKind.i64.wrap (0 - IntKind.i64.wrap (16+(b:Int))))∧IntKind.i64.wrap (IntKind.i64.wrap (90+IntKind.i64.wrap (100*(a:Int)))+IntKind.i64.wrap (0 - IntKind.i64.wrap (16+(b:Int))))≤16384:=by
 rw[wrap64 (n:=100*(a:Int)) abV abV,wrap64 (n:=90+100*(a:Int)) abV abV,wrap64 (n:=16+(b:Int)) abV abV,wrap64 (n:=0 - (16+(b:Int))) abV abV,wrap64 abV abV]
 omega
theorem V4 {a b:Nat} (ha:a< 2) (hb:b< 51): -16384≤IntKind.i64.wrap (IntKind.i64.wrap (IntKind.i64.wrap (90+IntKind.i64.wrap (100*(a:Int)))+(b:Int)) - 25)∧IntKind.i64.wrap (IntKind.i64.wrap (IntKind.i64.wrap (90+IntKind.i64.wrap (100*(a:Int)))+(b:Int)) - 25)≤16384:=by
 rw[wrap64 (n:=100*(a:Int)) abV abV,wrap64 (n:=90+100*(a:Int)) abV abV,wrap64 (n:=90+100*(a:Int)+(b:Int)) abV abV,wrap64 abV abV]
 omega
theorem ac0 {a:Nat} (ha:a< 60):0≤IntKind.i64.wrap (1+(a:Int))∧IntKind.i64.wrap (1+(a:Int))≤1073741824:=by
 rw[wrap64 abV abV]
 omega
theorem A8.snoc {ps:List Place} {n:Nat} {p:Place} (h:A8 ps n) (k:p.id=61+(ps.length:Int)) (q:OH p):A8 (ps++[p]) (n+1):=by
 refine⟨by have:=h.1;simp;omega,fun i x hx=> ?_,fun x hx=>by
  rcases ai6.1 hx with hx| hx
  ·exact h.2.2 x hx
  ·rw[ajC.1 hx];exact q⟩
 by_cases hi:i<ps.length
 ·rw[ajw hi] at hx
  exact h.2.1 i x hx
 ·rw[ajp abV] at hx
  have hl:i - ps.length=0:=by
   have:=(aiS.1 hx).1
   simp at this;omega
  rw[hl] at hx
  obtain rfl:p=x:=by simpa using hx
  rw[k];congr 1;omega
theorem A8.mono {ps:List Place} {n m:Nat} (h:A8 ps n) (k:n≤m):A8 ps m:=⟨ajb h.1 k,h.2⟩
theorem OI {l:List Int} (hl:l.length< 9223372036854775808) {m:aI} {n:Nat} (he:jR m.aB n) (hn:n< 1000) (hf:m.an.length< 1000): ∃res,Ev E 87 [m.v,.lit 1 (l.map vi)] res∧ ∃ps:List Place,A8 ps 6∧res=⟨.own 7 (ps.map Place.v),[]⟩:=by
 refine Ev.bD rfl rfl rfl ?_
 have n2:=fun a=>cw hl 2 (a:=a) abV abV
 have n3:=fun a=>cw hl 3 (a:=a) abV abV
 have n5:=fun a=>cw hl 5 (a:=a) abV abV
 have n10:=fun a=>cw hl 10 (a:=a) abV abV
 have n51:=fun a=>cw hl 51 (a:=a) abV abV
 have n60:=fun a=>cw hl 60 (a:=a) abV abV
 have n7:=cw hl 7 (a:=0) abV abV
 have hb:=eI (l:=l) (a:=0) (n:=7) abV abV
 generalize dN l 0 7=many at hb n7
 have kj: ∀x y,∃rb:Int×Bool,Ev E 121 [.lit 4 (m.aB.map Edge.v),.agg [vi x,vi y]] ⟨.tuple [vi rb.1,.bool rb.2],[]⟩:=by
  intro x y
  obtain⟨r,b,h⟩:=Zy he hn ⟨x,y⟩
  exact⟨(r,b),h⟩
 obtain⟨fr,kj⟩: ∃f:Int→Int→Int×Bool,∀x y,Ev E 121 [.lit 4 (m.aB.map Edge.v),.agg [vi x,vi y]] ⟨.tuple [vi (f x y).1,.bool (f x y).2],[]⟩:=⟨fun x y=> (kj x y).choose,fun x y=> (kj x y).choose_spec⟩
 obtain⟨fd,hd⟩: ∃f:Int→Int,∀x,Ev E 122 [m.v,vi x] ⟨vi (f x),[]⟩:=⟨fun x=> (vE m hf x).choose,fun x=> (vE m hf x).choose_spec⟩
 conv=>whnf
 repeat' (first| intro g| apply ca n7| refine st ?_| (refine bZ.bU ?_;intro s) | refine br ?_ ?_<;>intro hc| rfl) <;>conv=>whnf
 rename_i g2 _ gd
 refine aL.by (fun ((k,ps,a,g):Nat×List Place×Nat×Nat)=> ⟨[(2,.ptr 48 g2 0 0),(5,.ptr 256 gd 0 0),(6,.sl 113 g 0 ps.length),(7,av many),(8,av k)],
   [(48,⟨g2,4,false,false,some [m.v]⟩),(256,⟨gd,2,false,false,some [dq l a]⟩),(113,⟨g,7,true,false,some (ps.map Place.v)⟩)]⟩)
  (fun (k,ps,a,g)=>k≤many∧A8 ps k) (fun (k,_)=>many - k) (0,[],ba l 0,g) su ⟨abW,abW,abW,abW⟩ ?_
 rintro⟨k,ps,a,g⟩ ⟨hk,hp⟩
 try dsimp only at hk hp
 by_cases bl:k<many
 ·have xf:=hp.1
  have QE:IntKind.i64.wrap (61+(ps.length:Int))=61+(ps.length:Int):=wrap64 abV abV
  have b10:=eI (l:=l) (a:=a) (n:=10) abV abV
  have b3:=eI (l:=l) (a:=(ba l (ba l a))) (n:=3) abV abV
  have b2:=eI (l:=l) (a:=(ba l (ba l (ba l a)))) (n:=2) abV abV
  have b51:=eI (l:=l) (a:=(ba l (ba l (ba l (ba l a))))) (n:=51) abV abV
  have b60:=eI (l:=l) (a:=(ba l (ba l (ba l (ba l (ba l a)))))) (n:=60) abV abV
  conv=>whnf
  repeat' (first| intro g| apply ca (n2 _) | apply ca (n3 _) | apply ca (n5 _) | apply ca (n10 _) | apply ca (n51 _) | apply ca (n60 _) | apply ca (kj _ _) | apply ca (hd _) | refine st ?_| (refine bZ.bU ?_;intro s) | refine br ?_ ?_<;>intro hc| rfl) <;>conv=>whnf
  ·exact aK.mk (k+1,ps++[⟨IntKind.i64.wrap (61+(ps.length:Int)),IntKind.i64.wrap (IntKind.i64.wrap (90+IntKind.i64.wrap (100*((dN l (ba l (ba l a)) 3:Nat):Int)))+IntKind.i64.wrap (0 - IntKind.i64.wrap (16+((dN l a 10:Nat):Int)))),IntKind.i64.wrap (IntKind.i64.wrap (IntKind.i64.wrap (90+IntKind.i64.wrap (100*((dN l (ba l (ba l (ba l a))) 2:Nat):Int)))+((dN l (ba l (ba l (ba l (ba l a)))) 51:Nat):Int)) - 25),_,_,IntKind.i64.wrap (1+((dN l (ba l (ba l (ba l (ba l (ba l a))))) 60:Nat):Int)),_⟩],_,g) om ⟨om,hp.snoc QE ⟨⟨(Xx b10 b3).1,(Xx b10 b3).2,(V4 b2 b51).1,(V4 b2 b51).2⟩,ac0 b60⟩⟩ su
  ·exact aK.mk (k+1,ps,_,_) om ⟨om,hp.mono abV⟩ su
  ·exact aK.mk (k+1,ps,_,_) om ⟨om,hp.mono abV⟩ su
  ·exact aK.mk (k+1,ps++[⟨IntKind.i64.wrap (61+(ps.length:Int)),IntKind.i64.wrap (IntKind.i64.wrap (90+IntKind.i64.wrap (100*((dN l (ba l (ba l a)) 3:Nat):Int)))+IntKind.i64.wrap (16+((dN l a 10:Nat):Int))),IntKind.i64.wrap (IntKind.i64.wrap (IntKind.i64.wrap (90+IntKind.i64.wrap (100*((dN l (ba l (ba l (ba l a))) 2:Nat):Int)))+((dN l (ba l (ba l (ba l (ba l a)))) 51:Nat):Int)) - 25),_,_,IntKind.i64.wrap (1+((dN l (ba l (ba l (ba l (ba l (ba l a))))) 60:Nat):Int)),_⟩],_,g) om ⟨om,hp.snoc QE ⟨⟨(Xw b10 b3).1,(Xw b10 b3).2,(V4 b2 b51).1,(V4 b2 b51).2⟩,ac0 b60⟩⟩ su
  ·exact aK.mk (k+1,ps,_,_) om ⟨om,hp.mono abV⟩ su
  ·exact aK.mk (k+1,ps,_,_) om ⟨om,hp.mono abV⟩ su
 ·conv=>whnf
  repeat' (first| intro g| refine st ?_| (refine bZ.bU ?_;intro s) | refine br ?_ ?_<;>intro hc| rfl) <;>conv=>whnf
  exact⟨ps,hp.mono abV,rfl⟩
end Go.AM
namespace Go.AM
theorem Ft {ls:List (List Int)} (hs:qf ls) (i:Nat) (hi:i< 1000): ∃l:List Int,l.length< 9223372036854775808∧Ev E 84 [eQ ls,av i] ⟨gq l,[]⟩:=by
 have hl:=hs.1
 by_cases h:i<ls.length
 ·obtain⟨l,hx⟩: ∃l,ls[i]? =some l:=⟨_,aH h⟩
  refine⟨l,hs.2 _ (List.mem_of_getElem? hx),?_⟩
  refine Ev.aD rfl rfl rfl ?_
  conv=>whnf
  repeat' (first| intro g| refine wi (jS hx) ?_| refine st ?_| (refine bZ.bU ?_;intro s) | refine br ?_ ?_<;>intro hc| rfl) <;>conv=>whnf
 ·refine⟨[],abW,?_⟩
  refine Ev.aD rfl rfl rfl ?_
  exact aiN
theorem HX {α:Type} {f:α→V} {l:List α} {k n:Nat} (h:n=min k l.length):aG (l.map f) 0 n=(l.take k).map f:=by
 subst h
 unfold aG
 rw[List.drop_zero,←List.map_take,List.take_eq_take_min (i:=k)]
theorem ahg {α:Type} {f:α→V} {l:List α} {k:Nat} {a b c:V} (x:α): (((((l.map f).set ((k:Int)).toNat a).set ((k:Int)).toNat b).set ((k:Int)).toNat c).set ((k:Int)).toNat (f x))=(l.set k x).map f:=by
 simp only[List.set_set,ajH,Int.toNat_natCast]
theorem ahh (n:Nat): (if (3:Int) < (n:Int) then(3:Int) else(n:Int)).toNat=min 3 n:=by
 split<;>omega
structure aI.ahi (m:aI):Prop where
 aB:jR m.aB 18
 an:m.an.length≤36
 ways:xn m.ways 12
 az:A8 m.az 6
def aI.vo (m:aI):V:= .agg [.lit 4 (m.aB.map Edge.v),.lit 5 (m.an.map aW.v),.lit 8 (m.ways.map Way.v),.own 7 (m.az.map Place.v)]
theorem OJ {ls:List (List Int)} (hs:qf ls): ∃res,Ev E 77 [eQ ls] res∧ ∃m:aI,aI.ahi m∧res=⟨m.vo,[]⟩:=by
 refine Ev.bD rfl rfl rfl ?_
 have Cn:qf (ls.take 3):=⟨by have:=hs.1;simp;omega,fun l h=>hs.2 l (ajh h)⟩
 obtain⟨l3,h3,p3⟩:=Ft hs 3 abV
 obtain⟨l4,h4,p4⟩:=Ft hs 4 abV
 obtain⟨l5,h5,p5⟩:=Ft hs 5 abV
 have n2:=fun a=>cw h3 2 (a:=a) abV abV
 have n3:=fun a=>cw h3 3 (a:=a) abV abV
 have n4:=fun a=>cw h3 4 (a:=a) abV abV
 have n6:=fun a=>cw h3 6 (a:=a) abV abV
 have n60:=fun a=>cw h3 60 (a:=a) abV abV
 have hl:=hs.1
 conv=>whnf
 repeat' (first| intro g| refine wi (HX (k:=3) (by rw[List.length_map];exact ahh _)) ?_| refine st ?_| (refine bZ.bU ?_;intro s) | refine br ?_ ?_<;>intro hc| rfl) <;>conv=>whnf
 refine aC.ex (No Cn) ?_
 rintro _ ⟨es,fs,he,hf,rfl⟩
 conv=>whnf
 repeat' (first| intro g| apply ca p3| refine st ?_| (refine bZ.bU ?_;intro s) | refine br ?_ ?_<;>intro hc| rfl) <;>conv=>whnf
 rename_i g2 g3 gf
 obtain⟨n,hn⟩: ∃n,fs.length=n:=⟨_,rfl⟩
 refine aL.by (fun ((k,fs,a):Nat×List aW×Nat)=> ⟨[(0,eQ ls),(2,.ptr 48 g2 0 0),(3,.ptr 64 g3 0 0),(4,.ptr 352 g 0 0),(5,av k)],
   [(48,⟨g2,4,false,false,some [.agg [.lit 4 [],.lit 5 [],.lit 8 [],.lit 7 []]]⟩),(64,⟨g3,4,false,false,some [.agg [.lit 4 (es.map Edge.v),.sl 232 gf 0 n,.lit 8 [],.lit 7 []]]⟩),(232,⟨gf,5,true,false,some (fs.map aW.v)⟩),(352,⟨g,2,false,false,some [dq l3 a]⟩)]⟩)
  (fun (k,fs,a)=>k≤n∧fs.length=n) (fun (k,fs,_)=>n - k) (0,fs,0) (by subst hn;exact su) ⟨abW,hn⟩ ?_
 rw[hn] at hf;clear hn
 rintro⟨k,fs,a⟩ ⟨hk,mS⟩
 try dsimp only at hk mS
 by_cases bl:k<n
 ·obtain⟨f,hx⟩: ∃f,fs[k]? =some f:=⟨_,aH abV⟩
  conv=>whnf
  repeat' (first| intro g| refine wi (lC (lC (lC (aq hx rfl)))) ?_| refine wi (lC (lC (aq hx rfl))) ?_| refine wi (lC (aq hx rfl)) ?_| refine wi (aq hx rfl) ?_| apply ca (n2 _) | apply ca (n3 _) | apply ca (n4 _) | apply ca (n6 _) | apply ca (n60 _) | refine st ?_| (refine bZ.bU ?_;intro s) | refine br ?_ ?_<;>intro hc| rfl) <;>conv=>whnf
  have pS: ∀c nm w d (x y z:V),((((fs.map aW.v).set ((k:Int)).toNat x).set ((k:Int)).toNat y).set ((k:Int)).toNat z).set ((k:Int)).toNat (aW.v ⟨f.id,c,nm,w,d⟩)=(fs.set k ⟨f.id,c,nm,w,d⟩).map aW.v:=fun c nm w d x y z=>ahg (f:=aW.v) _
  rename_i cl
  exact aK.mk (k+1,fs.set k ⟨f.id,cl,s,IntKind.i64.wrap (1+((dN l3 (ba l3 (ba l3 a)) 60:Nat):Int)),IntKind.i64.wrap (1+(IntKind.i64.wrap (((dN l3 (ba l3 (ba l3 (ba l3 a))) 4:Nat):Int)*((dN l3 (ba l3 (ba l3 (ba l3 (ba l3 a)))) 2:Nat):Int))).tmod 3)⟩,(ba l3 (ba l3 (ba l3 (ba l3 (ba l3 a)))))) om ⟨om,by simp[mS]⟩ (by(refine⟨?_,?_⟩ <;>repeat' (first| exact True.intro| refine And.intro (congrArg (fun L=> (⟨gf,5,true,false,some L⟩:Obj)) (pS cl s (IntKind.i64.wrap (1+((dN l3 (ba l3 (ba l3 a)) 60:Nat):Int))) (IntKind.i64.wrap (1+(IntKind.i64.wrap (((dN l3 (ba l3 (ba l3 (ba l3 a))) 4:Nat):Int)*((dN l3 (ba l3 (ba l3 (ba l3 (ba l3 a)))) 2:Nat):Int))).tmod 3)) _ _ _)) ?_| refine ai ?_| refine And.intro ?_ ?_)))
 ·obtain rfl:k=n:=abV
  conv=>whnf
  repeat' (first| intro g| apply ca p4| refine st ?_| (refine bZ.bU ?_;intro s) | refine br ?_ ?_<;>intro hc| rfl) <;>conv=>whnf
  refine aC.ex (V0 h4) ?_
  rintro _ ⟨ws,hw,rfl⟩
  conv=>whnf
  repeat' (first| intro g| apply ca p5| refine st ?_| (refine bZ.bU ?_;intro s) | refine br ?_ ?_<;>intro hc| rfl) <;>conv=>whnf
  refine aC.ex (OI h5 (m:=⟨es,fs,ws,[]⟩) he abV om) ?_
  rintro _ ⟨ps,hp,rfl⟩
  conv=>whnf
  repeat' (first| intro g| refine st ?_| (refine bZ.bU ?_;intro s) | refine br ?_ ?_<;>intro hc| rfl) <;>conv=>whnf
  exact⟨⟨es,fs,ws,ps⟩,⟨he,om,hw,hp⟩,rfl⟩
end Go.AM
namespace Go.AM
def my (a b:dj) (q:Int):Bool:=CG a b && (decide (0≤q∧q≤2097152) &&decide (Gk a b<q*fp a b*fp a b))
theorem ox {α:Type} {P:List α→Prop} (h0:P []) (h1: ∀l x,P l→P (l++[x])) (l:List α):P l:=by
 have: ∀l:List α,P l.reverse:=by
  intro l
  induction l with
  | nil=>exact h0
  | cons x l ih=>rw[List.reverse_cons];exact h1 _ _ ih
 rw[←akK l];exact this _
theorem ni (l:List dn) (ps:List Place) (p:Place):cn l (ps++[p])=cn l ps++[yw l (cn l ps) p]:=by
 unfold cn;rw[List.foldl_append];rfl
theorem DX (l:List dn) (ps:List Place): (cn l ps).map dj.id=ps.map Place.id:=by
 refine ox (P:=fun ps=> (cn l ps).map dj.id=ps.map Place.id) rfl (fun ps p ih=> ?_) ps
 rw[ni,ajk,ajk,ih];rfl
end Go.AM
