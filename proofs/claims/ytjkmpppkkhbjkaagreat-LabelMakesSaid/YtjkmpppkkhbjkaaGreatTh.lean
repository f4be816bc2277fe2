/-
  Texts of the proof: LtO, LtL.
-/
import Derived.Test.YtjkmpppkkhbjkaaGreatDd
import Derived.Test.YtjkmpppkkhbjkaaGreatTc
import Derived.Test.YtjkmpppkkhbjkaaGreatTg
set_option maxRecDepth 20000
set_option maxHeartbeats 4000000
set_option linter.unusedSimpArgs false
set_option linter.unusedVariables false
namespace Go.AM
theorem Ci {α:Type} {L:List α} {i n:Nat} (hi:n=i) (hl:n<L.length): (L.take (n+1)).eraseIdx i=(L.take n).eraseIdx i:=by
 subst hi
 have hn: (L.take n).length=n:=by simp;omega
 rw[List.take_succ_eq_append_getElem hl,List.eraseIdx_append_of_length_le (by omega),hn,Nat.sub_self,List.eraseIdx_of_length_le (l:=L.take n) (by omega)]
 simp
theorem vD {α:Type} {L:List α} {i n:Nat} {x:α} (hi:n≠i) (hx:L[n]? =some x): (L.take (n+1)).eraseIdx i=(L.take n).eraseIdx i++[x]:=by
 obtain⟨hl,rfl⟩:=List.getElem?_eq_some_iff.1 hx
 rw[List.take_succ_eq_append_getElem hl]
 by_cases h:i<n
 · rw[List.eraseIdx_append_of_lt_length (by simp;omega)]
 · have hn: (L.take n).length=n:=by simp;omega
   rw[List.eraseIdx_of_length_le (l:=L.take n++[L[n]]) (by simp[hn];omega),List.eraseIdx_of_length_le (l:=L.take n) (by omega)]
def na (m:bk) (pv:V):V:= .agg [.lit 4 (m.aU.map Edge.v),.lit 5 (m.ba.map bu.v),.lit 8 (m.ways.map Way.v),pv]
theorem EL {m:bk} (h:m.Fit) (place ec:Int):Ev E 88 [m.v,vi place,vi ec] ⟨if nQ m.au place ec=0 then
    .tuple [na m (.own 7 ((nz m.au place ec).map Place.v)),vi 0]
  else .tuple [bk.zero.v,vi (nQ m.au place ec)],[]⟩:=by
 have FJ:=xM h.p place ec
 have Nq:=iQ h.p place
 have ET:=iQ h.p ec
 by_cases eB:nQ m.au place ec=0
 case neg=>
  rw[if_neg eB]
  refine Ev.aT VL (VM _) rfl ?_
  (conv=>whnf);repeat' ((first| intro g| refine ah.mk _ (FJ) ?_| refine st ?_| (first| refine b1 ?_ ?_| refine b2 ?_ ?_| refine Br.mk ?_ ?_) <;>intro hc| exact rfl) <;>conv=>whnf)
 rw[if_pos eB]
 rw[eB] at FJ
 rcases gI m.au place with h1| ⟨i,a,h1,ha,Ph⟩
 · exact absurd eB (by simp[nQ,h1])
 rcases gI m.au ec with h2| ⟨k,b,h2,hb,ZG⟩
 · exact absurd eB (by simp[nQ,h2])
 rw[h1] at Nq
 rw[h2] at ET
 have Zc:i<m.au.length:=(List.getElem?_eq_some_iff.1 ha).1
 have Nn:k<m.au.length:=(List.getElem?_eq_some_iff.1 hb).1
 have D1:i≠k:=by
  intro e;subst e
  rw[ha] at hb;injection hb with hb;subst hb
  have:ze place ec a a=1:=by simp[ze,←Ph,←ZG]
  simp[nQ,h1,h2,ha,this] at eB
 have hp:=h.p
 have Em:nz m.au place ec=(m.au.set k (uk a b)).eraseIdx i:=by simp[nz,h1,h2,ha,hb]
 rw[Em]
 have hj:uk a b={b with weight:=if 255 <IntKind.i64.wrap (a.weight+b.weight) then 255 else IntKind.i64.wrap (a.weight+b.weight),name:=if b.name=[] then a.name else b.name}:=by
  unfold uk orS c9;rw[Int.add_comm]
 generalize ru:uk a b=b' at hj
 generalize hL:m.au.set k b'=L
 have hLl:L.length=m.au.length:=by rw[←hL];simp
 have hLk:L[k]? =some b':=by rw[←hL];simp[Nn]
 have Im: ∀n,n≠k→L[n]? =m.au[n]? :=fun n hn=>by rw[←hL,List.getElem?_set_ne (Ne.symm hn)]
 refine Ev.aT VL (VM _) rfl ?_
 (conv=>whnf);repeat' ((first| intro g| refine aN.mk _ (al ha rfl) ?_| refine aN.mk _ (al hb rfl) ?_| refine ah.mk _ (FJ) ?_| refine ah.mk _ (Nq) ?_| refine ah.mk _ (ET) ?_| refine st ?_| (first| refine b1 ?_ ?_| refine b2 ?_ ?_| refine Br.mk ?_ ?_) <;>intro hc| exact rfl) <;>conv=>whnf)
 all_goals
  rename_i g3 g6 fL
  first| rw[if_pos hc] at hj| rw[if_neg hc] at hj
  refine aI.by (fun ((n,og):Nat×Option Nat)=> ⟨[(3,.ptr 64 g3 0 0),(6,.ptr 112 g6 0 0),(9,aC i),(10,aC k),(11,.ptr 192 fL 0 0),(12,.ptr 208 g 0 0),(13,aC n)],
    match og with
    | none=> [(64,⟨g3,4,false,false,some [m.v]⟩),(112,⟨g6,4,false,false,some [bk.zero.v]⟩),(192,⟨fL,7,false,false,some [b'.v]⟩),(208,⟨g,4,false,false,some [na m .nils]⟩)]
    | some g'=> [(64,⟨g3,4,false,false,some [m.v]⟩),(112,⟨g6,4,false,false,some [bk.zero.v]⟩),(192,⟨fL,7,false,false,some [b'.v]⟩),(208,⟨g,4,false,false,some [na m (.sl 213 g' 0 ((L.take n).eraseIdx i).length)]⟩),(213,⟨g',7,true,false,some (((L.take n).eraseIdx i).map Place.v)⟩)]⟩)
    (fun (n,og)=>n≤m.au.length∧(og=none→(L.take n).eraseIdx i=[])) (fun (n,_)=>m.au.length - n) (0,none) ?_ ⟨by simp,by simp⟩ ?_
  · (refine⟨?_,?_⟩ <;>repeat' (first| exact True.intro| refine And.intro ((by(conv=>whnf);rw[hj];rfl)) ?_| refine ai ?_| refine And.intro ?_ ?_))
  rintro⟨n,og⟩ ⟨hn,Cw⟩
  try dsimp only at hn Cw
  have hAl: ((L.take n).eraseIdx i).length≤n:=Nat.le_trans (List.length_eraseIdx_le _ _) (by rw[List.length_take];omega)
  by_cases bp:n<m.au.length
  · have hnw:IntKind.i64.wrap ((n:Int)+1)=((n+1:Nat):Int):=(wrap64 (by omega) (by omega)).trans (by omega)
    by_cases hnk:n=k
    · subst hnk
      have dX:=vD (i:=i) (Ne.symm D1) hLk
      cases og with
      | none=>
        have hA:=Cw rfl
        rw[hA] at dX
        (conv=>whnf);repeat' ((first| intro g| refine st ?_| (first| refine b1 ?_ ?_| refine b2 ?_ ?_| refine Br.mk ?_ ?_) <;>intro hc| exact rfl) <;>conv=>whnf)
        refine aE.mk (n+1,some g) (by first| omega| (dsimp only;omega)) ⟨(by first| omega| (dsimp only;omega)),by simp⟩ ?_
        (refine⟨?_,?_⟩ <;>repeat' (first| exact True.intro| refine And.intro ((by(conv=>whnf);rw[dX];rfl)) ?_| refine ai ?_| refine And.intro ?_ ?_))
      | some g'=>
        (conv=>whnf);repeat' ((first| intro g| refine st ?_| (first| refine b1 ?_ ?_| refine b2 ?_ ?_| refine Br.mk ?_ ?_) <;>intro hc| exact rfl) <;>conv=>whnf)
        refine aE.mk (n+1,some g) (by first| omega| (dsimp only;omega)) ⟨(by first| omega| (dsimp only;omega)),by simp⟩ ?_
        (refine⟨?_,?_⟩ <;>repeat' (first| exact True.intro| refine And.intro ((by(conv=>whnf);rw[dX];simp[na])) ?_| refine ai ?_| refine And.intro ?_ ?_))
    by_cases hni:n=i
    · have dX:=Ci hni (L:=L) (by omega)
      cases og with
      | none=>
        have hA:=Cw rfl
        rw[hA] at dX
        (conv=>whnf);repeat' ((first| intro g| refine st ?_| (first| refine b1 ?_ ?_| refine b2 ?_ ?_| refine Br.mk ?_ ?_) <;>intro hc| exact rfl) <;>conv=>whnf)
        exact aE.mk (n+1,none) (by first| omega| (dsimp only;omega)) ⟨(by first| omega| (dsimp only;omega)),fun _=>dX⟩ (by(refine⟨?_,?_⟩ <;>repeat' (first| exact True.intro| refine ai ?_| refine And.intro ?_ ?_)))
      | some g'=>
        (conv=>whnf);repeat' ((first| intro g| refine st ?_| (first| refine b1 ?_ ?_| refine b2 ?_ ?_| refine Br.mk ?_ ?_) <;>intro hc| exact rfl) <;>conv=>whnf)
        refine aE.mk (n+1,some g') (by first| omega| (dsimp only;omega)) ⟨(by first| omega| (dsimp only;omega)),by simp⟩ ?_
        (refine⟨?_,?_⟩ <;>repeat' (first| exact True.intro| refine And.intro ((by(conv=>whnf);rw[dX])) ?_| refine ai ?_| refine And.intro ?_ ?_))
    obtain⟨x,hx⟩: ∃x,m.au[n]? =some x:=⟨_,aD bp⟩
    have dX:=vD (i:=i) hni (by rw[Im n hnk];exact hx)
    cases og with
    | none=>
      have hA:=Cw rfl
      rw[hA] at dX
      (conv=>whnf);repeat' ((first| intro g| refine aN.mk _ (al hx rfl) ?_| refine st ?_| (first| refine b1 ?_ ?_| refine b2 ?_ ?_| refine Br.mk ?_ ?_) <;>intro hc| exact rfl) <;>conv=>whnf)
      refine aE.mk (n+1,some g) (by first| omega| (dsimp only;omega)) ⟨(by first| omega| (dsimp only;omega)),by simp⟩ ?_
      (refine⟨?_,?_⟩ <;>repeat' (first| exact True.intro| refine And.intro ((by(conv=>whnf);rw[dX];rfl)) ?_| refine ai ?_| refine And.intro ?_ ?_))
    | some g'=>
      (conv=>whnf);repeat' ((first| intro g| refine aN.mk _ (al hx rfl) ?_| refine st ?_| (first| refine b1 ?_ ?_| refine b2 ?_ ?_| refine Br.mk ?_ ?_) <;>intro hc| exact rfl) <;>conv=>whnf)
      refine aE.mk (n+1,some g) (by first| omega| (dsimp only;omega)) ⟨(by first| omega| (dsimp only;omega)),by simp⟩ ?_
      (refine⟨?_,?_⟩ <;>repeat' (first| exact True.intro| refine And.intro ((by(conv=>whnf);rw[dX];simp[na])) ?_| refine ai ?_| refine And.intro ?_ ?_))
  · obtain rfl:n=m.au.length:=by omega
    have si:L.take m.au.length=L:=List.take_of_length_le (by omega)
    rw[si] at Cw hAl
    cases og with
    | none=>
      have:=Cw rfl
      have h9:=congrArg List.length this
      rw[List.length_eraseIdx,if_pos (by omega),List.length_nil] at h9
      omega
    | some g'=>
      (conv=>whnf);repeat' ((first| intro g| refine aN.mk _ (jg (by simp)) ?_| refine st ?_| (first| refine b1 ?_ ?_| refine b2 ?_ ?_| refine Br.mk ?_ ?_) <;>intro hc| exact rfl) <;>conv=>whnf)
      rw[si];rfl
theorem AG (l:List Place) (a b:Int): (nz l a b).length≤l.length:=by
 unfold nz
 repeat' split
 all_goals first| (simp[List.length_eraseIdx];split<;>omega) | simp
theorem H0 {m:bk} (h:m.Sm) (a b:Int):oC 88 [m.v,vi a,vi b]:=by
 have hf:m.Fit:=⟨by have:=h.e;omega,by have:=h.f;omega,by have:=h.w;omega,by have:=h.p;omega,fun e he=>by have:=h.el e he;omega,fun w hw=>by have:=h.wl w hw;omega⟩
 have hr:=EL hf a b
 by_cases hc:nQ m.au a b=0
 · rw[if_pos hc] at hr
   refine⟨_,⟨m.aU,m.ba,m.ways,nz m.au a b⟩,0,hr,Nb (.inr rfl) (.inr rfl) (.inr rfl) (.inl rfl),⟨h.e,h.f,h.w,?_,h.el,h.wl⟩⟩
   have:=AG m.au a b
   have:=h.p
   dsimp only;omega
 · rw[if_neg hc] at hr
   exact⟨_,bk.zr,_,hr,fun _ _=>rfl,xk⟩
end Go.AM
set_option maxHeartbeats 4000000
namespace Go.AM
theorem yJ {m:bk} {a b c:Int} (h4:Ev E 488 [m.v,vi a,vi b] ⟨vi c,[]⟩) (hz:c≠0):oC 486 [m.v,vi a,vi b]:=by
 refine .mk (Ev.bz KB (KC _) rfl ?_)
 (conv=>whnf);repeat' ((first| contradiction| intro g| refine ah.mk _ (h4) ?_| refine st ?_| (first| refine b1 ?_ ?_| refine b2 ?_ ?_| refine Br.mk ?_ ?_) <;>intro hc| exact rfl) <;>conv=>whnf)
 exact⟨bk.zr,c,xk,rfl⟩
theorem H2 {m:bk} (h:m.Sm) (a b:Int):oC 486 [m.v,vi a,vi b]:=by
 obtain⟨c,h4⟩:=pd h a b
 by_cases hz:c=0
 case neg=>exact yJ h4 hz
 subst hz
 obtain⟨F,hF⟩:=nL h
 have f1:=hF a
 generalize F a=x at f1
 obtain⟨f,c1⟩:=x
 dsimp only at f1
 obtain⟨_,h2,e,w,he,hw,rfl⟩:=EJ h
 have MK:c6 E 92=[]:=rfl
 have ET:V.aq [m.v]=true:=rfl
 have i2:=Dh he (.inl rfl) hw (.inl rfl)
 have Y4:=h.e
 have Ju:=h.f
 suffices hh: ∃res,Ev E 486 [m.v,vi a,vi b] res∧ ∃ (es:List Edge) (fs:List bu) (ev fv:V),es.length< 1000∧fs.length< 1000∧(∀e ∈ es,e.line.length< 1000)∧v8 4 (es.map Edge.v) ev∧v8 5 (fs.map bu.v) fv∧res=⟨.tuple [.agg [ev,fv,.lit 8 (m.ways.map Way.v),.lit 7 (m.au.map Place.v)],vi 0],[]⟩ by
   obtain⟨_,k1,es,fs,ev,fv,k2,k3,k4,k5,k6,rfl⟩:=hh
   exact⟨_,⟨es,fs,m.ways,m.au⟩,0,k1,Nb k5 k6 (.inr rfl) (.inr rfl),⟨k2,k3,h.w,h.p,k4,h.wl⟩⟩
 refine Ev.bz KB (KC _) rfl ?_
 (conv=>whnf);repeat' ((first| refine er MK ET h2 i2 ?_| intro g| refine ah.mk _ (h4) ?_| refine ah.mk _ (f1) ?_| refine st ?_| (first| refine b1 ?_ ?_| refine b2 ?_ ?_| refine Br.mk ?_ ?_) <;>intro hc| exact rfl) <;>conv=>whnf)
 rename_i pj g6 g9 fL
 obtain⟨gR,YB⟩: ∃x,x=g:=⟨_,rfl⟩
 rw[←YB];clear YB
 refine aI.by (fun ((k,L,ce):Nat×List Edge×Option Nat)=>match ce with
   | none=> ⟨[(1,vi a),(2,vi b),(6,.ptr 112 g6 0 0),(9,.ptr 160 g9 0 0),(11,.ptr 192 fL 0 0),(12,.ptr 208 gR 0 0),(13,aC (k))],[(112,⟨g6,4,false,false,some [.agg [.lit 4 [],.lit 5 [],.lit 8 [],.lit 7 []]]⟩),(160,⟨g9,5,false,false,some [f.v]⟩),(192,⟨fL,4,false,false,some [m.v]⟩),(208,⟨gR,4,false,false,some [.agg [.nils,.nils,.lit 8 (m.ways.map Way.v),.lit 7 (m.au.map Place.v)]]⟩)]⟩
   | some ge=> ⟨[(1,vi a),(2,vi b),(6,.ptr 112 g6 0 0),(9,.ptr 160 g9 0 0),(11,.ptr 192 fL 0 0),(12,.ptr 208 gR 0 0),(13,aC (k))],[(112,⟨g6,4,false,false,some [.agg [.lit 4 [],.lit 5 [],.lit 8 [],.lit 7 []]]⟩),(160,⟨g9,5,false,false,some [f.v]⟩),(192,⟨fL,4,false,false,some [m.v]⟩),(208,⟨gR,4,false,false,some [.agg [.sl 210 ge 0 (L).length,.nils,.lit 8 (m.ways.map Way.v),.lit 7 (m.au.map Place.v)]]⟩),(210,⟨ge,4,true,false,some ((L).map Edge.v)⟩)]⟩)
   (fun (k,L,ce)=>k≤m.aU.length∧L.length≤k∧(∀e ∈ L,e.line.length< 1000)∧(ce=none→L=[])) (fun (k,_)=>m.aU.length - k) (0,[],none) (by(refine⟨?_,?_⟩ <;>repeat' (first| exact True.intro| refine ai ?_| refine And.intro ?_ ?_))) ⟨by simp,by simp,by simp,by simp⟩ ?_
 rintro⟨k,L,ce⟩ ⟨hk,hL,Lh,vz⟩
 try dsimp only at hk hL Lh vz
 by_cases bp:k<m.aU.length
 · obtain⟨u,hu⟩: ∃x,m.aU[k]? =some x:=⟨_,aD bp⟩
   have yh:=h.el u (List.mem_of_getElem? hu)
   have BN: ∀l r,∀x ∈ L++[Edge.mk u.id u.line l r],x.line.length< 1000:=fun l r x hx=>by
     rcases List.mem_append.1 hx with hx| hx
     · exact Lh x hx
     · rw[List.mem_singleton.1 hx];exact yh
   cases ce with
   | none=>
     obtain rfl:=vz rfl
     exact aaR (ge:=0) (gf:=0) (K:=[]) (p:=true) (q:=true) hu Y4 hL (fun T O hs=>aE.mk (k+1,[],none) (by dsimp only;omega) ⟨by omega,by simp,Lh,by simp⟩ hs) (fun T O g l r hs=>aE.mk (k+1,[Edge.mk u.id u.line l r],some g) (by dsimp only;omega) ⟨by omega,by simp,BN _ _,by simp⟩ hs)
   | some ge=>
     exact aaS (gf:=0) (K:=[]) (p:=true) (q:=true) hu Y4 hL (fun T O hs=>aE.mk (k+1,L,some ge) (by dsimp only;omega) ⟨by omega,by omega,Lh,by simp⟩ hs) (fun T O g l r hs=>aE.mk (k+1,L++[Edge.mk u.id u.line l r],some g) (by dsimp only;omega) ⟨by omega,by simp;omega,BN _ _,by simp⟩ hs)
 cases ce with
 | none=>
   (conv=>whnf);repeat' ((first| intro g| refine st ?_| (first| refine b1 ?_ ?_| refine b2 ?_ ?_| refine Br.mk ?_ ?_) <;>intro hc| exact rfl) <;>conv=>whnf)
   refine aI.by (fun ((k,K,c,p,q):Nat×List bu×Option Nat×Bool×Bool)=>match c with
     | none=> ⟨[(1,vi a),(2,vi b),(6,.ptr 112 g6 0 0),(9,.ptr 160 g9 0 0),(11,.ptr 192 fL 0 0),(12,.ptr 208 gR 0 0),(15,.bool p),(16,.bool q),(17,aC (k))],[(112,⟨g6,4,false,false,some [.agg [.lit 4 [],.lit 5 [],.lit 8 [],.lit 7 []]]⟩),(160,⟨g9,5,false,false,some [f.v]⟩),(192,⟨fL,4,false,false,some [m.v]⟩),(208,⟨gR,4,false,false,some [.agg [.nils,.nils,.lit 8 (m.ways.map Way.v),.lit 7 (m.au.map Place.v)]]⟩)]⟩
     | some gf=> ⟨[(1,vi a),(2,vi b),(6,.ptr 112 g6 0 0),(9,.ptr 160 g9 0 0),(11,.ptr 192 fL 0 0),(12,.ptr 208 gR 0 0),(15,.bool p),(16,.bool q),(17,aC (k))],[(112,⟨g6,4,false,false,some [.agg [.lit 4 [],.lit 5 [],.lit 8 [],.lit 7 []]]⟩),(160,⟨g9,5,false,false,some [f.v]⟩),(192,⟨fL,4,false,false,some [m.v]⟩),(208,⟨gR,4,false,false,some [.agg [.nils,.sl 211 gf 0 (K).length,.lit 8 (m.ways.map Way.v),.lit 7 (m.au.map Place.v)]]⟩),(211,⟨gf,5,true,false,some ((K).map bu.v)⟩)]⟩)
     (fun (k,K,c,_,_)=>k≤m.ba.length∧K.length≤k∧(c=none→K=[])) (fun (k,_)=>m.ba.length - k) (0,[],none,false,false) (by(refine⟨?_,?_⟩ <;>repeat' (first| exact True.intro| refine ai ?_| refine And.intro ?_ ?_))) ⟨by simp,by simp,by simp⟩ ?_
   rintro⟨k,K,c,p,q⟩ ⟨IZ,hK,eB⟩
   try dsimp only at IZ hK eB
   by_cases No:k<m.ba.length
   case neg=>
     cases c with
     | none=>
       (conv=>whnf);repeat' ((first| intro g| refine st ?_| (first| refine b1 ?_ ?_| refine b2 ?_ ?_| refine Br.mk ?_ ?_) <;>intro hc| exact rfl) <;>conv=>whnf)
       exact⟨L,K,_,_,by omega,by omega,Lh,.inr (by rw[vz rfl];rfl),.inr (by rw[eB rfl];rfl),rfl⟩
     | some gf=>
       (conv=>whnf);repeat' ((first| intro g| refine st ?_| (first| refine b1 ?_ ?_| refine b2 ?_ ?_| refine Br.mk ?_ ?_) <;>intro hc| exact rfl) <;>conv=>whnf)
       exact⟨L,K,_,_,by omega,by omega,Lh,.inr (by rw[vz rfl];rfl),.inl rfl,rfl⟩
   obtain⟨u,hu⟩: ∃x,m.ba[k]? =some x:=⟨_,aD No⟩
   cases c with
   | none=>
     obtain rfl:=eB rfl
     exact Yx (ge:=0) (L:=[]) (gf:=0) hu Ju hK (fun T O p q hs=>aE.mk (k+1,[],none,p,q) (by dsimp only;omega) ⟨by omega,by simp,by simp⟩ hs) (fun T O g p q x1 x2 x3 x4 x5 hs=>aE.mk (k+1,[bu.mk x1 x2 x3 x4 x5],some g,p,q) (by dsimp only;omega) ⟨by omega,by simp,by simp⟩ hs)
   | some gf=>
     exact Yy (ge:=0) (L:=[]) hu Ju hK (fun T O p q hs=>aE.mk (k+1,K,some gf,p,q) (by dsimp only;omega) ⟨by omega,by omega,by simp⟩ hs) (fun T O g p q x1 x2 x3 x4 x5 hs=>aE.mk (k+1,K++[bu.mk x1 x2 x3 x4 x5],some g,p,q) (by dsimp only;omega) ⟨by omega,by simp;omega,by simp⟩ hs)
 | some ge=>
   (conv=>whnf);repeat' ((first| intro g| refine st ?_| (first| refine b1 ?_ ?_| refine b2 ?_ ?_| refine Br.mk ?_ ?_) <;>intro hc| exact rfl) <;>conv=>whnf)
   refine aI.by (fun ((k,K,c,p,q):Nat×List bu×Option Nat×Bool×Bool)=>match c with
     | none=> ⟨[(1,vi a),(2,vi b),(6,.ptr 112 g6 0 0),(9,.ptr 160 g9 0 0),(11,.ptr 192 fL 0 0),(12,.ptr 208 gR 0 0),(15,.bool p),(16,.bool q),(17,aC (k))],[(112,⟨g6,4,false,false,some [.agg [.lit 4 [],.lit 5 [],.lit 8 [],.lit 7 []]]⟩),(160,⟨g9,5,false,false,some [f.v]⟩),(192,⟨fL,4,false,false,some [m.v]⟩),(208,⟨gR,4,false,false,some [.agg [.sl 210 ge 0 (L).length,.nils,.lit 8 (m.ways.map Way.v),.lit 7 (m.au.map Place.v)]]⟩),(210,⟨ge,4,true,false,some ((L).map Edge.v)⟩)]⟩
     | some gf=> ⟨[(1,vi a),(2,vi b),(6,.ptr 112 g6 0 0),(9,.ptr 160 g9 0 0),(11,.ptr 192 fL 0 0),(12,.ptr 208 gR 0 0),(15,.bool p),(16,.bool q),(17,aC (k))],[(112,⟨g6,4,false,false,some [.agg [.lit 4 [],.lit 5 [],.lit 8 [],.lit 7 []]]⟩),(160,⟨g9,5,false,false,some [f.v]⟩),(192,⟨fL,4,false,false,some [m.v]⟩),(208,⟨gR,4,false,false,some [.agg [.sl 210 ge 0 (L).length,.sl 211 gf 0 (K).length,.lit 8 (m.ways.map Way.v),.lit 7 (m.au.map Place.v)]]⟩),(210,⟨ge,4,true,false,some ((L).map Edge.v)⟩),(211,⟨gf,5,true,false,some ((K).map bu.v)⟩)]⟩)
     (fun (k,K,c,_,_)=>k≤m.ba.length∧K.length≤k∧(c=none→K=[])) (fun (k,_)=>m.ba.length - k) (0,[],none,false,false) (by(refine⟨?_,?_⟩ <;>repeat' (first| exact True.intro| refine ai ?_| refine And.intro ?_ ?_))) ⟨by simp,by simp,by simp⟩ ?_
   rintro⟨k,K,c,p,q⟩ ⟨IZ,hK,eB⟩
   try dsimp only at IZ hK eB
   by_cases No:k<m.ba.length
   case neg=>
     cases c with
     | none=>
       (conv=>whnf);repeat' ((first| intro g| refine st ?_| (first| refine b1 ?_ ?_| refine b2 ?_ ?_| refine Br.mk ?_ ?_) <;>intro hc| exact rfl) <;>conv=>whnf)
       exact⟨L,K,_,_,by omega,by omega,Lh,.inl rfl,.inr (by rw[eB rfl];rfl),rfl⟩
     | some gf=>
       (conv=>whnf);repeat' ((first| intro g| refine st ?_| (first| refine b1 ?_ ?_| refine b2 ?_ ?_| refine Br.mk ?_ ?_) <;>intro hc| exact rfl) <;>conv=>whnf)
       exact⟨L,K,_,_,by omega,by omega,Lh,.inl rfl,.inl rfl,rfl⟩
   obtain⟨u,hu⟩: ∃x,m.ba[k]? =some x:=⟨_,aD No⟩
   cases c with
   | none=>
     obtain rfl:=eB rfl
     exact Yz (gf:=0) hu Ju hK (fun T O p q hs=>aE.mk (k+1,[],none,p,q) (by dsimp only;omega) ⟨by omega,by simp,by simp⟩ hs) (fun T O g p q x1 x2 x3 x4 x5 hs=>aE.mk (k+1,[bu.mk x1 x2 x3 x4 x5],some g,p,q) (by dsimp only;omega) ⟨by omega,by simp,by simp⟩ hs)
   | some gf=>
     exact YA hu Ju hK (fun T O p q hs=>aE.mk (k+1,K,some gf,p,q) (by dsimp only;omega) ⟨by omega,by omega,by simp⟩ hs) (fun T O g p q x1 x2 x3 x4 x5 hs=>aE.mk (k+1,K++[bu.mk x1 x2 x3 x4 x5],some g,p,q) (by dsimp only;omega) ⟨by omega,by simp;omega,by simp⟩ hs)
end Go.AM
