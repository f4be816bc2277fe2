/- Texts of the proof. -/
import Derived.Test.YtdldmebldkgcnaaGreatGaj
import Derived.Test.YtdldmebldkgcnaaGreatLy
set_option maxRecDepth 20000
set_option maxHeartbeats 4000000
set_option linter.unusedSimpArgs false
set_option linter.unusedVariables false
namespace Go.AM
section
variable {α:Type} {c:α→α→Bool}
end
def vF (ps:List Place):Prop:=ps.Pairwise fun a b=>a.id≠b.id
theorem vF.ne {ps:List Place} (h:vF ps) {a b:Place} (ha:a ∈ ps) (hb:b ∈ ps) (Gh:a≠b):a.id≠b.id:=by
 induction ps with
 | nil=>simp at ha
 | cons p ps ih=>
   obtain⟨h1,h2⟩:=ajW.1 h
   rcases ai0.1 ha with e1| ha'<;>rcases ai0.1 hb with e2| kK
   ·exact absurd (e1.trans e2.symm) Gh
   ·rw[e1];exact h1 b kK
   ·rw[e2];exact aj4 (h1 a ha')
   ·exact ih h2 ha' kK
theorem nj {ps:List Place} (hn: ∀p ∈ ps,p.name≠[]): (bX ps).length=ps.length:=by
 unfold bX
 rw[eD]
 unfold named
 rw[akw.2 (fun p hp=>by simpa using hn p hp)]
def CJ (yx:List Int):List Int→Nat→Nat
 | [],k=>k
 | x::lI,k=>CJ yx lI (if yx[k]? =some x then k+1 else k)
theorem OL (yx lI:List Int) (x:Int) (k:Nat):CJ yx (lI++[x]) k=if yx[CJ yx lI k]? =some x then CJ yx lI k+1 else CJ yx lI k:=by
 induction lI generalizing k with
 | nil=>rfl
 | cons y lI ih=>exact ih _
theorem SL {yx lI:List Int}: ∀ {k:Nat},k≤yx.length→(yx.drop k).Sublist lI→CJ yx lI k=yx.length:=by
 induction lI with
 | nil=>
   intro k hk h
   have:=List.sublist_nil.1 h
   rw[List.drop_eq_nil_iff] at this
   show k=_
   omega
 | cons x lI ih=>
   intro k hk h
   show CJ yx lI (if yx[k]? =some x then k+1 else k)=_
   by_cases bl:k<yx.length
   ·rw[ajf bl] at h
    split
    ·rename_i he
     rw[aiW bl] at he
     injection he with he
     refine ih abV ?_
     cases h with
     | cons _ h=>exact(List.sublist_cons_self _ _).trans h
     | cons_cons _ h=>exact h
    ·rename_i he
     refine ih hk ?_
     cases h with
     | cons _ h=>rw[ajf bl];exact h
     | cons_cons _ h=>exact absurd (aiW bl) he
   ·have hn:yx[k]? =none:=ajN abV
    rw[hn,if_neg abW]
    refine ih hk ?_
    rw[ai7 abV]
    exact List.nil_sublist _
theorem SM {l:List dj} {a b:Int} (h:a≤b):CJ (cY l b) (cY l a) 0=(cY l b).length:=SL (ajG _) (by rw[List.drop_zero];exact SF l h)
end Go.AM
namespace Go.AM
theorem ac1 (n:Nat): (if (10:Int) < (n:Int) then(10:Int) else(n:Int)).toNat=min 10 n:=by
 split<;>omega
def ZA:V:= .agg [.str [69,108,109],.str [79,97,107],.str [65],.str [84,104,101,32,108,111,110,103,32,98,114,105,100,103,101],.str [80,111,110,100],.str [77,105,108,108]]
structure ZB (m:aI):Prop where
 bd:m.Bd
 ids:vF m.az
 ok: ∀p ∈ m.az,OH p
 named: ∀p ∈ m.az,p.name≠[]
structure Nm (ps:List Place) (i:Nat) (L:List Place):Prop where
 len:L.length=ps.length
 at_: ∀ (j:Nat) (p:Place),L[j]? =some p→ ∃q,ps[j]? =some q∧p.id=q.id∧p.x=q.x∧p.y=q.y∧p.weight=q.weight∧(j<i→p.name≠[])
theorem Nm.bS {ps:List Place} {i:Nat} {L:List Place} {p:Place} (h:Nm ps i L) (hp:L[i]? =some p) (hn:p.name≠[]):Nm ps (i+1) L:=⟨h.len,fun j x hx=>by
 obtain⟨q,h1,h2,h3,h4,h5,h6⟩:=h.at_ j x hx
 refine⟨q,h1,h2,h3,h4,h5,fun hj=> ?_⟩
 by_cases e:j=i
 ·subst e;rw[hp] at hx;injection hx with hx;rw[←hx];exact hn
 ·exact h6 abV⟩
theorem Nm.put {ps:List Place} {i:Nat} {L:List Place} {p:Place} (h:Nm ps i L) (hp:L[i]? =some p) {nm:Ah} (hn:nm≠[]):Nm ps (i+1) (L.set i {p with name:=nm}):=⟨by rw[List.length_set];exact h.len,fun j x hx=>by
 by_cases e:j=i
 ·subst e
  rw[List.getElem?_set_self (aiS.1 hp).1] at hx
  injection hx with hx;subst hx
  obtain⟨q,h1,h2,h3,h4,h5,h6⟩:=h.at_ j p hp
  exact⟨q,h1,h2,h3,h4,h5,fun _=>hn⟩
 ·rw[akr (fun h=>e h.symm)] at hx
  obtain⟨q,h1,h2,h3,h4,h5,h6⟩:=h.at_ j x hx
  exact⟨q,h1,h2,h3,h4,h5,fun hj=>h6 abV⟩⟩
theorem Nm.ids {ps:List Place} {i n:Nat} {L:List Place} (h:Nm ps i L) (hf:A8 ps n):vF L:=by
 unfold vF
 rw[akp]
 intro a b ha hb Gh
 obtain⟨q,h1,h2,_⟩:=h.at_ a _ (aiW ha)
 obtain⟨r,k1,k2,_⟩:=h.at_ b _ (aiW hb)
 rw[h2,k2,hf.2.1 a q h1,hf.2.1 b r k1]
 omega
theorem Nm.ok {ps:List Place} {i n:Nat} {L:List Place} (h:Nm ps i L) (hf:A8 ps n): ∀p ∈ L,OH p:=fun p hp=>by
 obtain⟨j,hj⟩:=ajL hp
 obtain⟨q,h1,h2,h3,h4,h5,h6⟩:=h.at_ j p hj
 have:=hf.2.2 q (List.mem_of_getElem? h1)
 unfold OH at*
 rw[h3,h4,h5];exact this
theorem Nm.named {ps:List Place} {L:List Place} (h:Nm ps ps.length L): ∀p ∈ L,p.name≠[]:=fun p hp=>by
 obtain⟨j,hj⟩:=ajL hp
 obtain⟨q,h1,h2,h3,h4,h5,h6⟩:=h.at_ j p hj
 exact h6 (aiS.1 h1).1
theorem vG {ls:List (List Int)} (hs:qf ls): ∃m:aI,ZB m∧Ev E 592 [eQ ls,.bool true] ⟨m.vo,[]⟩:=by
 suffices h: ∃res,Ev E 592 [eQ ls,.bool true] res∧ ∃m:aI,ZB m∧res=⟨m.vo,[]⟩ by
  obtain⟨_,h1,m,h2,rfl⟩:=h
  exact⟨m,h2,h1⟩
 have ahj:qf (ls.take 10):=⟨by have:=hs.1;simp;omega,fun l h=>hs.2 l (ajh h)⟩
 obtain⟨_,hm,m,hf,rfl⟩:=OJ ahj
 have hl:=hs.1
 refine Ev.bD rfl rfl rfl ?_
 obtain⟨es,fs,ws,ps⟩:=m
 have hbd: ∀L:List Place,Nm ps ps.length L→ZB ⟨es,fs,ws,L⟩:=fun L hL=>by
  have xf:=hf.az
  dsimp only at xf
  refine⟨⟨hf.aB.1,fun e he=>by have:=(hf.aB.2 e he).2;omega,hf.an,hf.ways.1,fun w hw=>by have:=hf.ways.2 w hw;exact⟨by have:=this.1;omega,by have:=this.2;omega⟩,?_⟩,hL.ids xf,hL.ok xf,hL.named⟩
  have:=xf.1
  rw[←hL.len] at this
  exact this
 have hp6:ps.length≤6:=hf.az.1
 unfold aI.vo at hm
 dsimp only at hm
 conv=>whnf
 repeat' (first| intro g| refine wi (HX (k:=10) (by rw[List.length_map];exact ac1 _)) ?_| apply ca hm| refine st ?_| refine br ?_ ?_<;>intro hc| rfl) <;>conv=>whnf
 rename_i Mj gp xg
 obtain⟨gK,hg⟩: ∃x,x=g:=⟨_,rfl⟩
 rw[←hg];clear hg g
 refine aL.by (fun ((i,L):Nat×List Place)=> ⟨[(1,.bool true),(4,.ptr 80 Mj 0 0),(5,.ptr 96 xg 0 0),(6,.ptr 112 gK 0 0),(7,av i)],
   [(80,⟨Mj,4,false,false,some [aI.v ⟨[],[],[],[]⟩]⟩),(96,⟨xg,4,false,false,some [.agg [.lit 4 (es.map Edge.v),.lit 5 (fs.map aW.v),.lit 8 (ws.map Way.v),.sl 227 gp 0 ps.length]]⟩),(227,⟨gp,7,true,false,some (L.map Place.v)⟩),(112,⟨gK,6,false,false,some [ZA]⟩)]⟩)
   (fun (i,L)=>i≤ps.length∧Nm ps i L) (fun (i,_)=>ps.length - i) (0,ps) su ⟨abV,⟨rfl,fun j p hp=> ⟨p,hp,rfl,rfl,rfl,rfl,fun h=>abV⟩⟩⟩ ?_
 rintro⟨i,L⟩ ⟨hi,hN⟩
 try dsimp only at hi hN
 have hL:=hN.len
 by_cases bl:i<ps.length
 case neg=>
  obtain rfl:i=ps.length:=abV
  have VQ:=hbd L hN
  clear hbd
  conv=>whnf
  repeat' (first| ((exfalso;omega)) | intro g| refine st ?_| refine br ?_ ?_<;>intro hc| rfl) <;>conv=>whnf
  all_goals exact⟨⟨es,fs,ws,L⟩,VQ,rfl⟩
 obtain⟨p,hp⟩: ∃x,L[i]? =some x:=⟨_,aH abV⟩
 have pS: ∀nm:Ah,(⟨gp,7,true,false,some ((L.map Place.v).set ((i:Nat):Int).toNat (Place.v {p with name:=nm}))⟩:Obj)=⟨gp,7,true,false,some ((L.set i {p with name:=nm}).map Place.v)⟩:=fun nm=>by simp[ajH]
 clear hbd
 by_cases Qq:p.name=[]
 case neg=>
  conv=>whnf
  repeat' (first| ((exfalso;omega)) | intro g| refine wi (aq hp rfl) ?_| refine st ?_| refine br ?_ ?_<;>intro hc| rfl) <;>conv=>whnf
  exact aK.mk (i+1,L) om ⟨abV,hN.bS hp Qq⟩ su
 rcases(by omega:i=0∨i=1∨i=2∨i=3∨i=4∨i=5) with rfl| rfl| rfl| rfl| rfl| rfl
 ·conv=>whnf
  repeat' (first| ((exfalso;omega)) | intro g| refine wi (aq hp rfl) ?_| refine st ?_| refine br ?_ ?_<;>intro hc| rfl) <;>conv=>whnf
  exact aK.mk (1,L.set 0 {p with name:=[69,108,109]}) om ⟨abV,hN.put hp abW⟩ (by(refine⟨?_,?_⟩ <;>repeat' (first| exact True.intro| refine And.intro (pS [69,108,109]) ?_| refine ai ?_| refine And.intro ?_ ?_)))
 ·conv=>whnf
  repeat' (first| ((exfalso;omega)) | intro g| refine wi (aq hp rfl) ?_| refine st ?_| refine br ?_ ?_<;>intro hc| rfl) <;>conv=>whnf
  exact aK.mk (2,L.set 1 {p with name:=[79,97,107]}) om ⟨abV,hN.put hp abW⟩ (by(refine⟨?_,?_⟩ <;>repeat' (first| exact True.intro| refine And.intro (pS [79,97,107]) ?_| refine ai ?_| refine And.intro ?_ ?_)))
 ·conv=>whnf
  repeat' (first| ((exfalso;omega)) | intro g| refine wi (aq hp rfl) ?_| refine st ?_| refine br ?_ ?_<;>intro hc| rfl) <;>conv=>whnf
  exact aK.mk (3,L.set 2 {p with name:=[65]}) om ⟨abV,hN.put hp abW⟩ (by(refine⟨?_,?_⟩ <;>repeat' (first| exact True.intro| refine And.intro (pS [65]) ?_| refine ai ?_| refine And.intro ?_ ?_)))
 ·conv=>whnf
  repeat' (first| ((exfalso;omega)) | intro g| refine wi (aq hp rfl) ?_| refine st ?_| refine br ?_ ?_<;>intro hc| rfl) <;>conv=>whnf
  exact aK.mk (4,L.set 3 {p with name:=[84,104,101,32,108,111,110,103,32,98,114,105,100,103,101]}) om ⟨abV,hN.put hp abW⟩ (by(refine⟨?_,?_⟩ <;>repeat' (first| exact True.intro| refine And.intro (pS [84,104,101,32,108,111,110,103,32,98,114,105,100,103,101]) ?_| refine ai ?_| refine And.intro ?_ ?_)))
 ·conv=>whnf
  repeat' (first| ((exfalso;omega)) | intro g| refine wi (aq hp rfl) ?_| refine st ?_| refine br ?_ ?_<;>intro hc| rfl) <;>conv=>whnf
  exact aK.mk (5,L.set 4 {p with name:=[80,111,110,100]}) om ⟨abV,hN.put hp abW⟩ (by(refine⟨?_,?_⟩ <;>repeat' (first| exact True.intro| refine And.intro (pS [80,111,110,100]) ?_| refine ai ?_| refine And.intro ?_ ?_)))
 ·conv=>whnf
  repeat' (first| ((exfalso;omega)) | intro g| refine wi (aq hp rfl) ?_| refine st ?_| refine br ?_ ?_<;>intro hc| rfl) <;>conv=>whnf
  exact aK.mk (6,L.set 5 {p with name:=[77,105,108,108]}) om ⟨abV,hN.put hp abW⟩ (by(refine⟨?_,?_⟩ <;>repeat' (first| exact True.intro| refine And.intro (pS [77,105,108,108]) ?_| refine ai ?_| refine And.intro ?_ ?_)))
end Go.AM
namespace Go.AM
theorem vu (a b:dj) (q:Int):Ev E 609 [a.v,b.v,vi q] ⟨.bool (my a b q),[]⟩:=by
 obtain⟨n,hn,h1⟩:=DR a b
 have h2:=HV a b
 have hr:=xj a b
 have hm:my a b q=(CG a b && (decide (0≤q∧q≤2097152) &&decide (n<q*fp a b*fp a b))):=by
  unfold my
  cases vC:CG a b
  ·rfl
  ·rw[hn vC]
 rw[hm]
 clear hm hn
 generalize CG a b=ok at*
 generalize fp a b=r at*
 cases ok
 ·refine Ev.aD rfl rfl rfl ?_
  exact aiN
 by_cases q0:0≤q
 case neg=>
  rw[decide_eq_false (fun h=>q0 h.1)]
  refine Ev.aD rfl rfl rfl ?_
  exact dr1
 by_cases q1:q≤2097152
 case neg=>
  rw[decide_eq_false (fun h=>q1 h.2)]
  refine Ev.aD rfl rfl rfl ?_
  exact dr1
 rw[decide_eq_true ⟨q0,q1⟩]
 have k1:0≤q*r:=ajE q0 hr.1
 have k2:q*r≤2097152*2000:=aka q1 hr.2 hr.1 abV
 have k3:0≤q*r*r:=ajE k1 hr.1
 have k4:q*r*r≤2097152*2000*2000:=aka k2 hr.2 hr.1 abV
 have w1:IntKind.i64.wrap (IntKind.i64.wrap (q*r)*r)=q*r*r:=by
  rw[wrap64 (n:=q*r) abV abV,wrap64 abV abV]
 generalize hz:q*r*r=z at*
 have hb: (true && (true &&decide (n<z)))=decide (n<IntKind.i64.wrap (IntKind.i64.wrap (q*r)*r)):=by rw[w1];rfl
 rw[hb]
 refine Ev.aD rfl rfl rfl ?_
 exact dr1
end Go.AM
namespace Go.AM
theorem SN {a:Int} (a0:0≤a) (a1:a< 4294967296): (IntKind.i64.wrap a).tmod 1100000=a % 1100000:=by
 rw[wrap64 abV abV,akH a0]
theorem KI {ls:List (List Int)} (hs:qf ls) {a b:Int} (a0:0≤a) (a1:a< 4294967296) (b0:0≤b) (b1:b< 4294967296):Ev E 588 [eQ ls,.int .u32 a,.int .u32 b] ⟨.bool true,[]⟩:=by
 have Fv:=r4
 obtain⟨m,hN,oy⟩:=vG hs
 obtain⟨l,hl,kY,iO⟩:=zA hN.bd
 have hP:=hN.bd.p
 have Bj:=qH (m:=m) abV (l:=l) abV (fun h hx=>by have:=(kY h hx).1;omega)
 have hlen: (cn l (bX m.az)).length=m.az.length:=by rw[lS];exact nj hN.named
 have CH:=AW l (bX m.az)
 have ha:=SN a0 a1
 have hb:=SN b0 b1
 have ha9:a % 1100000 < 1100000:=Int.emod_lt_of_pos _ abV
 have hb9:b % 1100000 < 1100000:=Int.emod_lt_of_pos _ abV
 generalize a % 1100000=x at*
 generalize b % 1100000=y at*
 obtain⟨L,hL⟩: ∃L,L=cn l (bX m.az):=⟨_,rfl⟩
 rw[←hL] at Bj hlen CH
 clear hL
 obtain⟨es,fs,ws,ps⟩:=m
 dsimp only at hP hlen Bj
 have iv:=A7 (l:=L) abV CH (q:=x) abV
 have mn:=A7 (l:=L) abV CH (q:=y) abV
 refine Ev.EM rfl rfl rfl ?_
 suffices H: ∀u v:Int,u≤v→Ev E 602 [.lit 6 (L.map dj.v),vi u] ⟨.own 1 ((cY L u).map vi),[]⟩→Ev E 602 [.lit 6 (L.map dj.v),vi v] ⟨.own 1 ((cY L v).map vi),[]⟩→WS E (Da 6 Yn) ⟨[(7,.bool true),(9,.lit 6 (L.map dj.v)),(10,vi u),(11,vi v)],[]⟩ (yW aeo.results [eQ ls,.int .u32 a,.int .u32 b] fun r=>r=⟨.bool true,[]⟩) by
  refine WS.cut 6 (fun (p:Int×Int)=> ⟨[(7,.bool true),(9,.lit 6 (L.map dj.v)),(10,vi p.1),(11,vi p.2)],[]⟩) (fun p=> (p=(x,y)∧x≤y)∨(p=(y,x)∧y≤x)) ?_ ?_
  ·unfold aI.vo at oy
   conv=>whnf
   repeat' (first| intro g| refine nd ⟨rfl,aiO⟩ ?_| apply ca Fv| apply ca oy| apply ca iO| apply ca Bj| refine st ?_| refine br ?_ ?_<;>intro hc| rfl| rw[ha,hb]) <;>conv=>whnf
   ·exact oX.mk (y,x) (.inr ⟨rfl,abV⟩) su
   ·exact oX.mk (x,y) (.inl ⟨rfl,abV⟩) su
  rintro⟨u,v⟩ h
  rcases h with⟨h,h1⟩ | ⟨h,h1⟩
  ·cases h;exact H _ _ h1 iv mn
  ·cases h;exact H _ _ h1 mn iv
 intro u v huv k1 k2
 have ac2:=SM (l:=L) huv
 have hN1: (cY L u).length< 1000000:=by have:=pg L u;omega
 have hF1: (cY L v).length< 1000000:=by have:=pg L v;omega
 generalize cY L u=lI at*
 generalize cY L v=yx at*
 refine WS.of ?_
 conv=>whnf
 repeat' (first| intro g| apply ca k1| apply ca k2| refine st ?_| refine br ?_ ?_<;>intro hc| rfl) <;>conv=>whnf
 refine aL.by (fun ((i,k):Nat×Nat)=> ⟨[(7,.bool true),(12,.lit 1 (lI.map vi)),(13,.lit 1 (yx.map vi)),(14,av k),(15,av i)],[]⟩)
  (fun (i,k)=>i≤lI.length∧k≤yx.length∧k=CJ yx (lI.take i) 0) (fun (i,_)=>lI.length - i) (0,0) su ⟨abV,abV,rfl⟩ ?_
 rintro⟨i,k⟩ ⟨hi,hk,hkm⟩
 try dsimp only at hi hk hkm
 have xu: ¬ (i<lI.length∧k<yx.length)→k=yx.length:=fun h=>by
  by_cases e:i<lI.length
  ·omega
  ·rw[List.take_of_length_le abV,ac2] at hkm;exact hkm
 by_cases h1:i<lI.length
 case neg=>
  obtain rfl:=xu abV
  conv=>whnf
  repeat' (first| ((exfalso;omega)) | intro g| refine st ?_| refine br ?_ ?_<;>intro hc| rfl) <;>conv=>whnf
  rw[List.length_map,decide_eq_true rfl]
 by_cases h2:k<yx.length
 case neg=>
  obtain rfl:=xu abV
  conv=>whnf
  repeat' (first| ((exfalso;omega)) | intro g| refine st ?_| refine br ?_ ?_<;>intro hc| rfl) <;>conv=>whnf
  rw[List.length_map,decide_eq_true rfl]
 obtain⟨x,hx⟩: ∃x,lI[i]? =some x:=⟨_,aH h1⟩
 obtain⟨y,hy⟩: ∃x,yx[k]? =some x:=⟨_,aH h2⟩
 have jt:CJ yx (lI.take (i+1)) 0=if y=x then k+1 else k:=by
  rw[jv hx,OL,←hkm,hy]
  by_cases e:y=x
  ·rw[if_pos e,e,if_pos rfl]
  ·rw[if_neg e,if_neg (fun h=>e (Option.some.inj h))]
 clear xu ac2
 by_cases e:y=x
 ·subst e
  rw[if_pos rfl] at jt
  conv=>whnf
  repeat' (first| ((exfalso;omega)) | intro g| refine wi (aq hx rfl) ?_| refine wi (aq hy rfl) ?_| refine st ?_| refine br ?_ ?_<;>intro hc| rfl) <;>conv=>whnf
  exact aK.mk (i+1,k+1) om ⟨abV,abV,jt.symm⟩ su
 ·rw[if_neg e] at jt
  conv=>whnf
  repeat' (first| ((exfalso;omega)) | intro g| refine wi (aq hx rfl) ?_| refine wi (aq hy rfl) ?_| refine st ?_| refine br ?_ ?_<;>intro hc| rfl) <;>conv=>whnf
  exact aK.mk (i+1,k) om ⟨abV,abV,jt.symm⟩ su
end Go.AM
