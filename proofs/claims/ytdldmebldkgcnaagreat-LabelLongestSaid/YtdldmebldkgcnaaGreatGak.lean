/- Texts of the proof. -/
import Derived.Test.YtdldmebldkgcnaaGreatGaj
import Derived.Test.YtdldmebldkgcnaaGreatLy
set_option maxRecDepth 20000
set_option maxHeartbeats 4000000
set_option linter.unusedSimpArgs false
set_option linter.unusedVariables false
namespace Go.AM
theorem SH {α:Type} {p:α→Bool}: ∀ {l:List α} {x:α},x ∈ l.takeWhile p→p x=true
 | [],x,h=>by simp at h
 | y::l,x,h=>by
   rw[List.takeWhile_cons] at h
   split at h
   ·rename_i hy
    rcases ai0.1 h with rfl| h
    ·exact hy
    ·exact SH h
   ·simp at h
section
variable {α:Type} {c:α→α→Bool}
theorem Bb (x:α) (l:List α): ∃pre mid,l=pre++mid∧xl c x l=pre++x::mid∧(∀y ∈ mid,c x y=true)∧ ∀y,pre.getLast?=some y→c x y=false:=by
 refine⟨(l.reverse.dropWhile (c x)).reverse,(l.reverse.takeWhile (c x)).reverse,?_,rfl,?_,?_⟩
 ·rw[←List.reverse_append,List.takeWhile_append_dropWhile,akK]
 ·intro y hy
  rw[List.mem_reverse] at hy
  exact SH hy
 ·intro y hy
  rw[List.getLast?_reverse] at hy
  have h:=List.head?_dropWhile_not (c x) l.reverse
  rw[hy] at h
  simpa using h
theorem OK (x:α) (l:List α): (xl c x l).Perm (x::l):=by
 obtain⟨pre,mid,h1,h2,_⟩:=Bb (c:=c) x l
 rw[h2,h1]
 exact List.perm_middle
theorem jW (l:List α): (fq c l).Perm l:=by
 refine ox (P:=fun l=> (fq c l).Perm l) (.refl _) (fun l x ih=> ?_) l
 rw[tT]
 exact(OK x _).trans ((ih.cons x).trans (List.perm_append_singleton x l).symm)
end
def vF (ps:List Place):Prop:=ps.Pairwise fun a b=>a.id≠b.id
theorem vF.ne {ps:List Place} (h:vF ps) {a b:Place} (ha:a ∈ ps) (hb:b ∈ ps) (Gh:a≠b):a.id≠b.id:=by
 induction ps with
 | nil=>simp at ha
 | cons p ps ih=>
   obtain⟨h1,h2⟩:=ajW.1 h
   rcases ai0.1 ha with e1| ha'<;>rcases ai0.1 hb with e2| kK
   ·exact absurd (e1.trans e2.symm) Gh
   ·rw[e1];exact h1 b kK
   ·rw[e2];exact aj4 (h1 a ha')
   ·exact ih h2 ha' kK
theorem Bg {ps:List Place} (hn: ∀p ∈ ps,p.name≠[]) (p:Place):p ∈ bX ps↔p ∈ ps:=by
 unfold bX
 rw[(jW _).mem_iff]
 unfold named
 rw[ake]
 exact⟨fun h=>h.1,fun h=> ⟨h,by simpa using hn p h⟩⟩
theorem nj {ps:List Place} (hn: ∀p ∈ ps,p.name≠[]): (bX ps).length=ps.length:=by
 unfold bX
 rw[eD]
 unfold named
 rw[akw.2 (fun p hp=>by simpa using hn p hp)]
end Go.AM
namespace Go.AM
theorem ac1 (n:Nat): (if (10:Int) < (n:Int) then(10:Int) else(n:Int)).toNat=min 10 n:=by
 split<;>omega
def ZA:V:= .agg [.str [69,108,109],.str [79,97,107],.str [65],.str [84,104,101,32,108,111,110,103,32,98,114,105,100,103,101],.str [80,111,110,100],.str [77,105,108,108]]
structure ZB (m:aI):Prop where
 bd:m.Bd
 ids:vF m.az
 ok: ∀p ∈ m.az,OH p
 named: ∀p ∈ m.az,p.name≠[]
structure Nm (ps:List Place) (i:Nat) (L:List Place):Prop where
 len:L.length=ps.length
 at_: ∀ (j:Nat) (p:Place),L[j]? =some p→ ∃q,ps[j]? =some q∧p.id=q.id∧p.x=q.x∧p.y=q.y∧p.weight=q.weight∧(j<i→p.name≠[])
theorem Nm.bS {ps:List Place} {i:Nat} {L:List Place} {p:Place} (h:Nm ps i L) (hp:L[i]? =some p) (hn:p.name≠[]):Nm ps (i+1) L:=⟨h.len,fun j x hx=>by
 obtain⟨q,h1,h2,h3,h4,h5,h6⟩:=h.at_ j x hx
 refine⟨q,h1,h2,h3,h4,h5,fun hj=> ?_⟩
 by_cases e:j=i
 ·subst e;rw[hp] at hx;injection hx with hx;rw[←hx];exact hn
 ·exact h6 abV⟩
theorem Nm.put {ps:List Place} {i:Nat} {L:List Place} {p:Place} (h:Nm ps i L) (hp:L[i]? =some p) {nm:Ah} (hn:nm≠[]):Nm ps (i+1) (L.set i {p with name:=nm}):=⟨by rw[List.length_set];exact h.len,fun j x hx=>by
 by_cases e:j=i
 ·subst e
  rw[List.getElem?_set_self (aiS.1 hp).1] at hx
  injection hx with hx;subst hx
  obtain⟨q,h1,h2,h3,h4,h5,h6⟩:=h.at_ j p hp
  exact⟨q,h1,h2,h3,h4,h5,fun _=>hn⟩
 ·rw[akr (fun h=>e h.symm)] at hx
  obtain⟨q,h1,h2,h3,h4,h5,h6⟩:=h.at_ j x hx
  exact⟨q,h1,h2,h3,h4,h5,fun hj=>h6 abV⟩⟩
theorem Nm.ids {ps:List Place} {i n:Nat} {L:List Place} (h:Nm ps i L) (hf:A8 ps n):vF L:=by
 unfold vF
 rw[akp]
 intro a b ha hb Gh
 obtain⟨q,h1,h2,_⟩:=h.at_ a _ (aiW ha)
 obtain⟨r,k1,k2,_⟩:=h.at_ b _ (aiW hb)
 rw[h2,k2,hf.2.1 a q h1,hf.2.1 b r k1]
 omega
theorem Nm.ok {ps:List Place} {i n:Nat} {L:List Place} (h:Nm ps i L) (hf:A8 ps n): ∀p ∈ L,OH p:=fun p hp=>by
 obtain⟨j,hj⟩:=ajL hp
 obtain⟨q,h1,h2,h3,h4,h5,h6⟩:=h.at_ j p hj
 have:=hf.2.2 q (List.mem_of_getElem? h1)
 unfold OH at*
 rw[h3,h4,h5];exact this
theorem Nm.named {ps:List Place} {L:List Place} (h:Nm ps ps.length L): ∀p ∈ L,p.name≠[]:=fun p hp=>by
 obtain⟨j,hj⟩:=ajL hp
 obtain⟨q,h1,h2,h3,h4,h5,h6⟩:=h.at_ j p hj
 exact h6 (aiS.1 h1).1
theorem vG {ls:List (List Int)} (hs:qf ls): ∃m:aI,ZB m∧Ev E 592 [eQ ls,.bool true] ⟨m.vo,[]⟩:=by
 suffices h: ∃res,Ev E 592 [eQ ls,.bool true] res∧ ∃m:aI,ZB m∧res=⟨m.vo,[]⟩ by
  obtain⟨_,h1,m,h2,rfl⟩:=h
  exact⟨m,h2,h1⟩
 have ahj:qf (ls.take 10):=⟨by have:=hs.1;simp;omega,fun l h=>hs.2 l (ajh h)⟩
 obtain⟨_,hm,m,hf,rfl⟩:=OJ ahj
 have hl:=hs.1
 refine Ev.bD rfl rfl rfl ?_
 obtain⟨es,fs,ws,ps⟩:=m
 have hbd: ∀L:List Place,Nm ps ps.length L→ZB ⟨es,fs,ws,L⟩:=fun L hL=>by
  have xf:=hf.az
  dsimp only at xf
  refine⟨⟨hf.aB.1,fun e he=>by have:=(hf.aB.2 e he).2;omega,hf.an,hf.ways.1,fun w hw=>by have:=hf.ways.2 w hw;exact⟨by have:=this.1;omega,by have:=this.2;omega⟩,?_⟩,hL.ids xf,hL.ok xf,hL.named⟩
  have:=xf.1
  rw[←hL.len] at this
  exact this
 have hp6:ps.length≤6:=hf.az.1
 unfold aI.vo at hm
 dsimp only at hm
 conv=>whnf
 repeat' (first| intro g| refine wi (HX (k:=10) (by rw[List.length_map];exact ac1 _)) ?_| apply ca hm| refine st ?_| refine br ?_ ?_<;>intro hc| rfl) <;>conv=>whnf
 rename_i Mj gp xg
 obtain⟨gK,hg⟩: ∃x,x=g:=⟨_,rfl⟩
 rw[←hg];clear hg g
 refine aL.by (fun ((i,L):Nat×List Place)=> ⟨[(1,.bool true),(4,.ptr 80 Mj 0 0),(5,.ptr 96 xg 0 0),(6,.ptr 112 gK 0 0),(7,av i)],
   [(80,⟨Mj,4,false,false,some [aI.v ⟨[],[],[],[]⟩]⟩),(96,⟨xg,4,false,false,some [.agg [.lit 4 (es.map Edge.v),.lit 5 (fs.map aW.v),.lit 8 (ws.map Way.v),.sl 227 gp 0 ps.length]]⟩),(227,⟨gp,7,true,false,some (L.map Place.v)⟩),(112,⟨gK,6,false,false,some [ZA]⟩)]⟩)
   (fun (i,L)=>i≤ps.length∧Nm ps i L) (fun (i,_)=>ps.length - i) (0,ps) su ⟨abV,⟨rfl,fun j p hp=> ⟨p,hp,rfl,rfl,rfl,rfl,fun h=>abV⟩⟩⟩ ?_
 rintro⟨i,L⟩ ⟨hi,hN⟩
 try dsimp only at hi hN
 have hL:=hN.len
 by_cases bl:i<ps.length
 case neg=>
  obtain rfl:i=ps.length:=abV
  have VQ:=hbd L hN
  clear hbd
  conv=>whnf
  repeat' (first| ((exfalso;omega)) | intro g| refine st ?_| refine br ?_ ?_<;>intro hc| rfl) <;>conv=>whnf
  all_goals exact⟨⟨es,fs,ws,L⟩,VQ,rfl⟩
 obtain⟨p,hp⟩: ∃x,L[i]? =some x:=⟨_,aH abV⟩
 have pS: ∀nm:Ah,(⟨gp,7,true,false,some ((L.map Place.v).set ((i:Nat):Int).toNat (Place.v {p with name:=nm}))⟩:Obj)=⟨gp,7,true,false,some ((L.set i {p with name:=nm}).map Place.v)⟩:=fun nm=>by simp[ajH]
 clear hbd
 by_cases Qq:p.name=[]
 case neg=>
  conv=>whnf
  repeat' (first| ((exfalso;omega)) | intro g| refine wi (aq hp rfl) ?_| refine st ?_| refine br ?_ ?_<;>intro hc| rfl) <;>conv=>whnf
  exact aK.mk (i+1,L) om ⟨abV,hN.bS hp Qq⟩ su
 rcases(by omega:i=0∨i=1∨i=2∨i=3∨i=4∨i=5) with rfl| rfl| rfl| rfl| rfl| rfl
 ·conv=>whnf
  repeat' (first| ((exfalso;omega)) | intro g| refine wi (aq hp rfl) ?_| refine st ?_| refine br ?_ ?_<;>intro hc| rfl) <;>conv=>whnf
  exact aK.mk (1,L.set 0 {p with name:=[69,108,109]}) om ⟨abV,hN.put hp abW⟩ (by(refine⟨?_,?_⟩ <;>repeat' (first| exact True.intro| refine And.intro (pS [69,108,109]) ?_| refine ai ?_| refine And.intro ?_ ?_)))
 ·conv=>whnf
  repeat' (first| ((exfalso;omega)) | intro g| refine wi (aq hp rfl) ?_| refine st ?_| refine br ?_ ?_<;>intro hc| rfl) <;>conv=>whnf
  exact aK.mk (2,L.set 1 {p with name:=[79,97,107]}) om ⟨abV,hN.put hp abW⟩ (by(refine⟨?_,?_⟩ <;>repeat' (first| exact True.intro| refine And.intro (pS [79,97,107]) ?_| refine ai ?_| refine And.intro ?_ ?_)))
 ·conv=>whnf
  repeat' (first| ((exfalso;omega)) | intro g| refine wi (aq hp rfl) ?_| refine st ?_| refine br ?_ ?_<;>intro hc| rfl) <;>conv=>whnf
  exact aK.mk (3,L.set 2 {p with name:=[65]}) om ⟨abV,hN.put hp abW⟩ (by(refine⟨?_,?_⟩ <;>repeat' (first| exact True.intro| refine And.intro (pS [65]) ?_| refine ai ?_| refine And.intro ?_ ?_)))
 ·conv=>whnf
  repeat' (first| ((exfalso;omega)) | intro g| refine wi (aq hp rfl) ?_| refine st ?_| refine br ?_ ?_<;>intro hc| rfl) <;>conv=>whnf
  exact aK.mk (4,L.set 3 {p with name:=[84,104,101,32,108,111,110,103,32,98,114,105,100,103,101]}) om ⟨abV,hN.put hp abW⟩ (by(refine⟨?_,?_⟩ <;>repeat' (first| exact True.intro| refine And.intro (pS [84,104,101,32,108,111,110,103,32,98,114,105,100,103,101]) ?_| refine ai ?_| refine And.intro ?_ ?_)))
 ·conv=>whnf
  repeat' (first| ((exfalso;omega)) | intro g| refine wi (aq hp rfl) ?_| refine st ?_| refine br ?_ ?_<;>intro hc| rfl) <;>conv=>whnf
  exact aK.mk (5,L.set 4 {p with name:=[80,111,110,100]}) om ⟨abV,hN.put hp abW⟩ (by(refine⟨?_,?_⟩ <;>repeat' (first| exact True.intro| refine And.intro (pS [80,111,110,100]) ?_| refine ai ?_| refine And.intro ?_ ?_)))
 ·conv=>whnf
  repeat' (first| ((exfalso;omega)) | intro g| refine wi (aq hp rfl) ?_| refine st ?_| refine br ?_ ?_<;>intro hc| rfl) <;>conv=>whnf
  exact aK.mk (6,L.set 5 {p with name:=[77,105,108,108]}) om ⟨abV,hN.put hp abW⟩ (by(refine⟨?_,?_⟩ <;>repeat' (first| exact True.intro| refine And.intro (pS [77,105,108,108]) ?_| refine ai ?_| refine And.intro ?_ ?_)))
end Go.AM
namespace Go.AM
theorem vu (a b:dj) (q:Int):Ev E 609 [a.v,b.v,vi q] ⟨.bool (my a b q),[]⟩:=by
 obtain⟨n,hn,h1⟩:=DR a b
 have h2:=HV a b
 have hr:=xj a b
 have hm:my a b q=(CG a b && (decide (0≤q∧q≤2097152) &&decide (n<q*fp a b*fp a b))):=by
  unfold my
  cases vC:CG a b
  ·rfl
  ·rw[hn vC]
 rw[hm]
 clear hm hn
 generalize CG a b=ok at*
 generalize fp a b=r at*
 cases ok
 ·refine Ev.aD rfl rfl rfl ?_
  exact aiN
 by_cases q0:0≤q
 case neg=>
  rw[decide_eq_false (fun h=>q0 h.1)]
  refine Ev.aD rfl rfl rfl ?_
  exact dr1
 by_cases q1:q≤2097152
 case neg=>
  rw[decide_eq_false (fun h=>q1 h.2)]
  refine Ev.aD rfl rfl rfl ?_
  exact dr1
 rw[decide_eq_true ⟨q0,q1⟩]
 have k1:0≤q*r:=ajE q0 hr.1
 have k2:q*r≤2097152*2000:=aka q1 hr.2 hr.1 abV
 have k3:0≤q*r*r:=ajE k1 hr.1
 have k4:q*r*r≤2097152*2000*2000:=aka k2 hr.2 hr.1 abV
 have w1:IntKind.i64.wrap (IntKind.i64.wrap (q*r)*r)=q*r*r:=by
  rw[wrap64 (n:=q*r) abV abV,wrap64 abV abV]
 generalize hz:q*r*r=z at*
 have hb: (true && (true &&decide (n<z)))=decide (n<IntKind.i64.wrap (IntKind.i64.wrap (q*r)*r)):=by rw[w1];rfl
 rw[hb]
 refine Ev.aD rfl rfl rfl ?_
 exact dr1
end Go.AM
namespace Go.AM
end Go.AM
