/- Texts of the proof. -/
import Derived.Test.YtdldmebldkgcnaaGreatGaj
import Derived.Test.YtdldmebldkgcnaaGreatLy
set_option maxRecDepth 20000
set_option maxHeartbeats 4000000
set_option linter.unusedSimpArgs false
set_option linter.unusedVariables false
namespace Go.AM
theorem SH {α:Type} {p:α→Bool}: ∀ {l:List α} {x:α},x ∈ l.takeWhile p→p x=true
 | [],x,h=>by simp at h
 | y::l,x,h=>by
   rw[List.takeWhile_cons] at h
   split at h
   ·rename_i hy
    rcases ai0.1 h with rfl| h
    ·exact hy
    ·exact SH h
   ·simp at h
section
variable {α:Type} {c:α→α→Bool}
theorem Bb (x:α) (l:List α): ∃pre mid,l=pre++mid∧xl c x l=pre++x::mid∧(∀y ∈ mid,c x y=true)∧ ∀y,pre.getLast?=some y→c x y=false:=by
 refine⟨(l.reverse.dropWhile (c x)).reverse,(l.reverse.takeWhile (c x)).reverse,?_,rfl,?_,?_⟩
 ·rw[←List.reverse_append,List.takeWhile_append_dropWhile,akK]
 ·intro y hy
  rw[List.mem_reverse] at hy
  exact SH hy
 ·intro y hy
  rw[List.getLast?_reverse] at hy
  have h:=List.head?_dropWhile_not (c x) l.reverse
  rw[hy] at h
  simpa using h
theorem OK (x:α) (l:List α): (xl c x l).Perm (x::l):=by
 obtain⟨pre,mid,h1,h2,_⟩:=Bb (c:=c) x l
 rw[h2,h1]
 exact List.perm_middle
theorem jW (l:List α): (fq c l).Perm l:=by
 refine ox (P:=fun l=> (fq c l).Perm l) (.refl _) (fun l x ih=> ?_) l
 rw[tT]
 exact(OK x _).trans ((ih.cons x).trans (List.perm_append_singleton x l).symm)
def Zz (c:α→α→Bool) (l:List α):Prop:=l.Pairwise fun a b=>c b a=false
theorem SJ (hn: ∀a b d,c a b=true→c a d=true∨c d b=true) (ha: ∀a b,c a b=true→c b a=false) (x:α) {l:List α} (h:Zz c l):Zz c (xl c x l):=by
 obtain⟨pre,mid,h1,h2,h3,h4⟩:=Bb (c:=c) x l
 unfold Zz at*
 rw[h2]
 rw[h1,akO] at h
 obtain⟨k1,k2,k3⟩:=h
 rw[akO,ajW]
 have vy: ∀p ∈ pre,c x p=false:=by
  rcases List.eq_nil_or_concat pre with rfl| ⟨q,z,rfl⟩
  ·simp
  rw[List.concat_eq_append] at*
  have hz:=h4 z abW
  intro p hp
  rcases ai6.1 hp with hp| hp
  ·rw[akO] at k1
   have:=k1.2.2 p hp z abW
   cases hc:c x p with
   | false=>rfl
   | true=>rcases hn x p z hc with e| e
           ·rw[hz] at e;exact absurd e abW
           ·rw[this] at e;exact absurd e abW
  ·rw[ajC.1 hp];exact hz
 refine⟨k1,⟨fun m hm=>ha x m (h3 m hm),k2⟩,fun p hp m hm=> ?_⟩
 rcases ai0.1 hm with rfl| hm
 ·exact vy p hp
 ·exact k3 p hp m hm
theorem xp (hn: ∀a b d,c a b=true→c a d=true∨c d b=true) (ha: ∀a b,c a b=true→c b a=false) (l:List α):Zz c (fq c l):=by
 refine ox (P:=fun l=>Zz c (fq c l)) (List.Pairwise.nil) (fun l x ih=> ?_) l
 rw[tT]
 exact SJ hn ha x ih
theorem My: ∀ {l k:List α},l.Perm k→Zz c l→Zz c k→(∀a ∈ l,∀b ∈ l,a≠b→c a b=true∨c b a=true)→l=k
 | [],k,h,_,_,_=>by rw[h.symm.eq_nil]
 | a::l,[],h,_,_,_=>by exact absurd h.eq_nil abW
 | a::l,b::k,h,h1,h2,ht=>by
   by_cases e:a=b
   ·subst e
    rw[My h.cons_inv (ajW.1 h1).2 (ajW.1 h2).2 (fun x hx y hy=>ht x (by simp[hx]) y (by simp[hy]))]
   ·exfalso
    have ha:a ∈ k:=by
     have:a ∈ b::k:=h.mem_iff.1 abW
     rcases ai0.1 this with h| h
     ·exact absurd h e
     ·exact h
    have hb:b ∈ l:=by
     have:b ∈ a::l:=h.mem_iff.2 abW
     rcases ai0.1 this with h| h
     ·exact absurd h.symm e
     ·exact h
    have k1:=(ajW.1 h1).1 b hb
    have k2:=(ajW.1 h2).1 a ha
    rcases ht a abW b (by simp[hb]) e with h| h
    ·rw[k2] at h;exact absurd h abW
    ·rw[k1] at h;exact absurd h abW
end
theorem Bf (a b d:Place) (h:fm a b=true):fm a d=true∨fm d b=true:=by
 simp only[fm,ajX,Bool.and_eq_true,decide_eq_true_eq] at*
 omega
theorem Fu (a b:Place) (h:fm a b=true):fm b a=false:=by
 cases hb:fm b a with
 | false=>rfl
 | true=>
   simp only[fm,ajX,Bool.and_eq_true,decide_eq_true_eq] at*
   omega
def vF (ps:List Place):Prop:=ps.Pairwise fun a b=>a.id≠b.id
theorem vF.ne {ps:List Place} (h:vF ps) {a b:Place} (ha:a ∈ ps) (hb:b ∈ ps) (Gh:a≠b):a.id≠b.id:=by
 induction ps with
 | nil=>simp at ha
 | cons p ps ih=>
   obtain⟨h1,h2⟩:=ajW.1 h
   rcases ai0.1 ha with e1| ha'<;>rcases ai0.1 hb with e2| kK
   ·exact absurd (e1.trans e2.symm) Gh
   ·rw[e1];exact h1 b kK
   ·rw[e2];exact aj4 (h1 a ha')
   ·exact ih h2 ha' kK
theorem DZ {p:Place} {ps:List Place} (h:p ∈ named ps):p ∈ ps:=by
 unfold named at h
 exact(ake.1 h).1
theorem HZ {ps qs:List Place} (h:ps.Perm qs) (hi:vF ps):bX ps=bX qs:=by
 unfold bX
 have hn: (named ps).Perm (named qs):=h.filter _
 refine My ((jW _).trans (hn.trans (jW _).symm)) (xp Bf Fu _) (xp Bf Fu _) fun a ha b hb Gh=> ?_
 have m1:a ∈ ps:=DZ ((jW (c:=fm) _).mem_iff.1 ha)
 have m2:b ∈ ps:=DZ ((jW (c:=fm) _).mem_iff.1 hb)
 have:=hi.ne m1 m2 Gh
 simp only[fm,ajX,Bool.and_eq_true,decide_eq_true_eq]
 omega
theorem H0 {ps:List Place} (hi:vF ps) (n:Nat):bX (ps.drop n++ps.take n)=bX ps:=by
 refine(HZ ?_ hi).symm
 have h: (ps.take n++ps.drop n).Perm (ps.drop n++ps.take n):=List.perm_append_comm
 rwa [List.take_append_drop] at h
theorem Bg {ps:List Place} (hn: ∀p ∈ ps,p.name≠[]) (p:Place):p ∈ bX ps↔p ∈ ps:=by
 unfold bX
 rw[(jW _).mem_iff]
 unfold named
 rw[ake]
 exact⟨fun h=>h.1,fun h=> ⟨h,by simpa using hn p h⟩⟩
theorem nj {ps:List Place} (hn: ∀p ∈ ps,p.name≠[]): (bX ps).length=ps.length:=by
 unfold bX
 rw[eD]
 unfold named
 rw[akw.2 (fun p hp=>by simpa using hn p hp)]
theorem H2 {ps:List Place} {i j:Nat} {p q:Place} (hp: (bX ps)[i]? =some p) (hq: (bX ps)[j]? =some q) (Jm:i<j):q.weight≤p.weight:=by
 have h:=xp (c:=fm) Bf Fu (named ps)
 have h1:=(akp.1 h) i j (aiS.1 hp).1 (aiS.1 hq).1 Jm
 have e1: (fq fm (named ps))[i]'(aiS.1 hp).1=p:=(aiS.1 hp).2
 have e2: (fq fm (named ps))[j]'(aiS.1 hq).1=q:=(aiS.1 hq).2
 rw[e1,e2] at h1
 by_cases bl:p.weight<q.weight
 ·exfalso
  unfold fm at h1
  rw[decide_eq_true bl] at h1
  simp at h1
 ·omega
def sU (ps:List Place) (id:Int):Int:=ps.foldl (fun w p=>if p.id=id then p.weight else w) (-1)
theorem Bh (ps:List Place) (p:Place) (id:Int):sU (ps++[p]) id=if p.id=id then p.weight else sU ps id:=by unfold sU;rw[List.foldl_append];rfl
theorem SK {ps:List Place} (hi:vF ps) {p:Place} (hp:p ∈ ps):sU ps p.id=p.weight:=by
 revert hi hp
 refine ox (P:=fun ps=>vF ps→p ∈ ps→sU ps p.id=p.weight) (fun _ h=>by simp at h) (fun ps q ih=> ?_) ps
 intro hi hp
 unfold vF at hi
 rw[akO] at hi
 rw[Bh]
 rcases ai6.1 hp with h| h
 ·rw[if_neg (fun e=>hi.2.2 p h q abW e.symm)]
  exact ih hi.1 h
 ·rw[ajC.1 h,if_pos rfl]
end Go.AM
namespace Go.AM
theorem ac1 (n:Nat): (if (10:Int) < (n:Int) then(10:Int) else(n:Int)).toNat=min 10 n:=by
 split<;>omega
def ZA:V:= .agg [.str [69,108,109],.str [79,97,107],.str [65],.str [84,104,101,32,108,111,110,103,32,98,114,105,100,103,101],.str [80,111,110,100],.str [77,105,108,108]]
structure ZB (m:aI):Prop where
 bd:m.Bd
 ids:vF m.az
 ok: ∀p ∈ m.az,OH p
 named: ∀p ∈ m.az,p.name≠[]
structure Nm (ps:List Place) (i:Nat) (L:List Place):Prop where
 len:L.length=ps.length
 at_: ∀ (j:Nat) (p:Place),L[j]? =some p→ ∃q,ps[j]? =some q∧p.id=q.id∧p.x=q.x∧p.y=q.y∧p.weight=q.weight∧(j<i→p.name≠[])
theorem Nm.bS {ps:List Place} {i:Nat} {L:List Place} {p:Place} (h:Nm ps i L) (hp:L[i]? =some p) (hn:p.name≠[]):Nm ps (i+1) L:=⟨h.len,fun j x hx=>by
 obtain⟨q,h1,h2,h3,h4,h5,h6⟩:=h.at_ j x hx
 refine⟨q,h1,h2,h3,h4,h5,fun hj=> ?_⟩
 by_cases e:j=i
 ·subst e;rw[hp] at hx;injection hx with hx;rw[←hx];exact hn
 ·exact h6 abV⟩
theorem Nm.put {ps:List Place} {i:Nat} {L:List Place} {p:Place} (h:Nm ps i L) (hp:L[i]? =some p) {nm:Ah} (hn:nm≠[]):Nm ps (i+1) (L.set i {p with name:=nm}):=⟨by rw[List.length_set];exact h.len,fun j x hx=>by
 by_cases e:j=i
 ·subst e
  rw[List.getElem?_set_self (aiS.1 hp).1] at hx
  injection hx with hx;subst hx
  obtain⟨q,h1,h2,h3,h4,h5,h6⟩:=h.at_ j p hp
  exact⟨q,h1,h2,h3,h4,h5,fun _=>hn⟩
 ·rw[akr (fun h=>e h.symm)] at hx
  obtain⟨q,h1,h2,h3,h4,h5,h6⟩:=h.at_ j x hx
  exact⟨q,h1,h2,h3,h4,h5,fun hj=>h6 abV⟩⟩
theorem Nm.ids {ps:List Place} {i n:Nat} {L:List Place} (h:Nm ps i L) (hf:A8 ps n):vF L:=by
 unfold vF
 rw[akp]
 intro a b ha hb Gh
 obtain⟨q,h1,h2,_⟩:=h.at_ a _ (aiW ha)
 obtain⟨r,k1,k2,_⟩:=h.at_ b _ (aiW hb)
 rw[h2,k2,hf.2.1 a q h1,hf.2.1 b r k1]
 omega
theorem Nm.ok {ps:List Place} {i n:Nat} {L:List Place} (h:Nm ps i L) (hf:A8 ps n): ∀p ∈ L,OH p:=fun p hp=>by
 obtain⟨j,hj⟩:=ajL hp
 obtain⟨q,h1,h2,h3,h4,h5,h6⟩:=h.at_ j p hj
 have:=hf.2.2 q (List.mem_of_getElem? h1)
 unfold OH at*
 rw[h3,h4,h5];exact this
theorem Nm.named {ps:List Place} {L:List Place} (h:Nm ps ps.length L): ∀p ∈ L,p.name≠[]:=fun p hp=>by
 obtain⟨j,hj⟩:=ajL hp
 obtain⟨q,h1,h2,h3,h4,h5,h6⟩:=h.at_ j p hj
 exact h6 (aiS.1 h1).1
theorem vG {ls:List (List Int)} (hs:qf ls): ∃m:aI,ZB m∧Ev E 592 [eQ ls,.bool true] ⟨m.vo,[]⟩:=by
 suffices h: ∃res,Ev E 592 [eQ ls,.bool true] res∧ ∃m:aI,ZB m∧res=⟨m.vo,[]⟩ by
  obtain⟨_,h1,m,h2,rfl⟩:=h
  exact⟨m,h2,h1⟩
 have ahj:qf (ls.take 10):=⟨by have:=hs.1;simp;omega,fun l h=>hs.2 l (ajh h)⟩
 obtain⟨_,hm,m,hf,rfl⟩:=OJ ahj
 have hl:=hs.1
 refine Ev.bD rfl rfl rfl ?_
 obtain⟨es,fs,ws,ps⟩:=m
 have hbd: ∀L:List Place,Nm ps ps.length L→ZB ⟨es,fs,ws,L⟩:=fun L hL=>by
  have xf:=hf.az
  dsimp only at xf
  refine⟨⟨hf.aB.1,fun e he=>by have:=(hf.aB.2 e he).2;omega,hf.an,hf.ways.1,fun w hw=>by have:=hf.ways.2 w hw;exact⟨by have:=this.1;omega,by have:=this.2;omega⟩,?_⟩,hL.ids xf,hL.ok xf,hL.named⟩
  have:=xf.1
  rw[←hL.len] at this
  exact this
 have hp6:ps.length≤6:=hf.az.1
 unfold aI.vo at hm
 dsimp only at hm
 conv=>whnf
 repeat' (first| intro g| refine wi (HX (k:=10) (by rw[List.length_map];exact ac1 _)) ?_| apply ca hm| refine st ?_| refine br ?_ ?_<;>intro hc| rfl) <;>conv=>whnf
 rename_i Mj gp xg
 obtain⟨gK,hg⟩: ∃x,x=g:=⟨_,rfl⟩
 rw[←hg];clear hg g
 refine aL.by (fun ((i,L):Nat×List Place)=> ⟨[(1,.bool true),(4,.ptr 80 Mj 0 0),(5,.ptr 96 xg 0 0),(6,.ptr 112 gK 0 0),(7,av i)],
   [(80,⟨Mj,4,false,false,some [aI.v ⟨[],[],[],[]⟩]⟩),(96,⟨xg,4,false,false,some [.agg [.lit 4 (es.map Edge.v),.lit 5 (fs.map aW.v),.lit 8 (ws.map Way.v),.sl 227 gp 0 ps.length]]⟩),(227,⟨gp,7,true,false,some (L.map Place.v)⟩),(112,⟨gK,6,false,false,some [ZA]⟩)]⟩)
   (fun (i,L)=>i≤ps.length∧Nm ps i L) (fun (i,_)=>ps.length - i) (0,ps) su ⟨abV,⟨rfl,fun j p hp=> ⟨p,hp,rfl,rfl,rfl,rfl,fun h=>abV⟩⟩⟩ ?_
 rintro⟨i,L⟩ ⟨hi,hN⟩
 try dsimp only at hi hN
 have hL:=hN.len
 by_cases bl:i<ps.length
 case neg=>
  obtain rfl:i=ps.length:=abV
  have VQ:=hbd L hN
  clear hbd
  conv=>whnf
  repeat' (first| ((exfalso;omega)) | intro g| refine st ?_| refine br ?_ ?_<;>intro hc| rfl) <;>conv=>whnf
  all_goals exact⟨⟨es,fs,ws,L⟩,VQ,rfl⟩
 obtain⟨p,hp⟩: ∃x,L[i]? =some x:=⟨_,aH abV⟩
 have pS: ∀nm:Ah,(⟨gp,7,true,false,some ((L.map Place.v).set ((i:Nat):Int).toNat (Place.v {p with name:=nm}))⟩:Obj)=⟨gp,7,true,false,some ((L.set i {p with name:=nm}).map Place.v)⟩:=fun nm=>by simp[ajH]
 clear hbd
 by_cases Qq:p.name=[]
 case neg=>
  conv=>whnf
  repeat' (first| ((exfalso;omega)) | intro g| refine wi (aq hp rfl) ?_| refine st ?_| refine br ?_ ?_<;>intro hc| rfl) <;>conv=>whnf
  exact aK.mk (i+1,L) om ⟨abV,hN.bS hp Qq⟩ su
 rcases(by omega:i=0∨i=1∨i=2∨i=3∨i=4∨i=5) with rfl| rfl| rfl| rfl| rfl| rfl
 ·conv=>whnf
  repeat' (first| ((exfalso;omega)) | intro g| refine wi (aq hp rfl) ?_| refine st ?_| refine br ?_ ?_<;>intro hc| rfl) <;>conv=>whnf
  exact aK.mk (1,L.set 0 {p with name:=[69,108,109]}) om ⟨abV,hN.put hp abW⟩ (by(refine⟨?_,?_⟩ <;>repeat' (first| exact True.intro| refine And.intro (pS [69,108,109]) ?_| refine ai ?_| refine And.intro ?_ ?_)))
 ·conv=>whnf
  repeat' (first| ((exfalso;omega)) | intro g| refine wi (aq hp rfl) ?_| refine st ?_| refine br ?_ ?_<;>intro hc| rfl) <;>conv=>whnf
  exact aK.mk (2,L.set 1 {p with name:=[79,97,107]}) om ⟨abV,hN.put hp abW⟩ (by(refine⟨?_,?_⟩ <;>repeat' (first| exact True.intro| refine And.intro (pS [79,97,107]) ?_| refine ai ?_| refine And.intro ?_ ?_)))
 ·conv=>whnf
  repeat' (first| ((exfalso;omega)) | intro g| refine wi (aq hp rfl) ?_| refine st ?_| refine br ?_ ?_<;>intro hc| rfl) <;>conv=>whnf
  exact aK.mk (3,L.set 2 {p with name:=[65]}) om ⟨abV,hN.put hp abW⟩ (by(refine⟨?_,?_⟩ <;>repeat' (first| exact True.intro| refine And.intro (pS [65]) ?_| refine ai ?_| refine And.intro ?_ ?_)))
 ·conv=>whnf
  repeat' (first| ((exfalso;omega)) | intro g| refine wi (aq hp rfl) ?_| refine st ?_| refine br ?_ ?_<;>intro hc| rfl) <;>conv=>whnf
  exact aK.mk (4,L.set 3 {p with name:=[84,104,101,32,108,111,110,103,32,98,114,105,100,103,101]}) om ⟨abV,hN.put hp abW⟩ (by(refine⟨?_,?_⟩ <;>repeat' (first| exact True.intro| refine And.intro (pS [84,104,101,32,108,111,110,103,32,98,114,105,100,103,101]) ?_| refine ai ?_| refine And.intro ?_ ?_)))
 ·conv=>whnf
  repeat' (first| ((exfalso;omega)) | intro g| refine wi (aq hp rfl) ?_| refine st ?_| refine br ?_ ?_<;>intro hc| rfl) <;>conv=>whnf
  exact aK.mk (5,L.set 4 {p with name:=[80,111,110,100]}) om ⟨abV,hN.put hp abW⟩ (by(refine⟨?_,?_⟩ <;>repeat' (first| exact True.intro| refine And.intro (pS [80,111,110,100]) ?_| refine ai ?_| refine And.intro ?_ ?_)))
 ·conv=>whnf
  repeat' (first| ((exfalso;omega)) | intro g| refine wi (aq hp rfl) ?_| refine st ?_| refine br ?_ ?_<;>intro hc| rfl) <;>conv=>whnf
  exact aK.mk (6,L.set 5 {p with name:=[77,105,108,108]}) om ⟨abV,hN.put hp abW⟩ (by(refine⟨?_,?_⟩ <;>repeat' (first| exact True.intro| refine And.intro (pS [77,105,108,108]) ?_| refine ai ?_| refine And.intro ?_ ?_)))
end Go.AM
namespace Go.AM
theorem vu (a b:dj) (q:Int):Ev E 609 [a.v,b.v,vi q] ⟨.bool (my a b q),[]⟩:=by
 obtain⟨n,hn,h1⟩:=DR a b
 have h2:=HV a b
 have hr:=xj a b
 have hm:my a b q=(CG a b && (decide (0≤q∧q≤2097152) &&decide (n<q*fp a b*fp a b))):=by
  unfold my
  cases vC:CG a b
  ·rfl
  ·rw[hn vC]
 rw[hm]
 clear hm hn
 generalize CG a b=ok at*
 generalize fp a b=r at*
 cases ok
 ·refine Ev.aD rfl rfl rfl ?_
  exact aiN
 by_cases q0:0≤q
 case neg=>
  rw[decide_eq_false (fun h=>q0 h.1)]
  refine Ev.aD rfl rfl rfl ?_
  exact dr1
 by_cases q1:q≤2097152
 case neg=>
  rw[decide_eq_false (fun h=>q1 h.2)]
  refine Ev.aD rfl rfl rfl ?_
  exact dr1
 rw[decide_eq_true ⟨q0,q1⟩]
 have k1:0≤q*r:=ajE q0 hr.1
 have k2:q*r≤2097152*2000:=aka q1 hr.2 hr.1 abV
 have k3:0≤q*r*r:=ajE k1 hr.1
 have k4:q*r*r≤2097152*2000*2000:=aka k2 hr.2 hr.1 abV
 have w1:IntKind.i64.wrap (IntKind.i64.wrap (q*r)*r)=q*r*r:=by
  rw[wrap64 (n:=q*r) abV abV,wrap64 abV abV]
 generalize hz:q*r*r=z at*
 have hb: (true && (true &&decide (n<z)))=decide (n<IntKind.i64.wrap (IntKind.i64.wrap (q*r)*r)):=by rw[w1];rfl
 rw[hb]
 refine Ev.aD rfl rfl rfl ?_
 exact dr1
end Go.AM
namespace Go.AM
end Go.AM
