/- Texts of the proof. -/
import Derived.Test.YtdifmldbllaeiaaGreatGaa
import Derived.Test.YtdifmldbllaeiaaGreatMk
set_option maxRecDepth 20000
set_option maxHeartbeats 4000000
set_option linter.unusedSimpArgs false
set_option linter.unusedVariables false
namespace Go.AM
def mk0:a8:=match Kc with
 | .seq a _=>a
 | _=> .skip
def mk1:a8:=match Kc with
 | .seq _ (.seq a _)=>a
 | _=> .skip
def mk5:a8:=match Kc with
 | .seq _ (.seq _ (.seq _ (.seq a _)))=>a
 | _=> .skip
theorem tq {α:Type} {c:a8} {S:SS} {σ:St} (Sh:α->SS) (P:α->Prop) (h:mf AE c S (aa8 (fun _ _=>False) Sh P)) (a:S.On σ): ∃N σ' x,exec AE N c σ=some (.normal,σ')/\P x/\(Sh x).On σ':=by
 obtain⟨N,e,σ',h1,S',h3,h4⟩:=cO h a;cases e with
 | normal=>
   obtain⟨x,h5,h6⟩:=h4;exact⟨N,σ',x,h1,h5,h6.on h3⟩
 | exit=>exact h4.elim
 | ret=>exact h4.elim
theorem ny {σ:St}:SS.On ⟨[],[]⟩ σ:=⟨fun t v h=>by simp[lk] at h,fun r o h=>by simp[lk] at h⟩
theorem yC {σ:St} {T:List (Nat×V)} {O:List (Nat×Obj)} {t:Nat} {v:V} (h:σ.T t=v) (b:SS.On ⟨T,O⟩ σ):SS.On ⟨(t,v)::T,O⟩ σ:=by
 refine⟨fun c v' a=> ?_,b.2⟩;rw[show (⟨(t,v)::T,O⟩:SS).T=(t,v)::T from rfl,fB] at a;split at a
 .rename_i e;injection a with a;rw[<-a,<-e];exact h
 exact b.1 c v' a
theorem vk {σ:St} {O:List (Nat×Obj)} {r:Nat} {o:Obj} (h:σ.O r=o) (b:SS.On ⟨[],O⟩ σ):SS.On ⟨[],(r,o)::O⟩ σ:=by
 refine⟨fun t v h=>by simp[lk] at h,fun r' c a=> ?_⟩;rw[show (⟨[],(r,o)::O⟩:SS).O=(r,o)::O from rfl,fB] at a;split at a
 .rename_i e;injection a with a;rw[<-a,<-e];exact h
 exact b.2 r' c a
theorem uk {S:SS} {σ:St} (h:S.On σ) {t:Nat} {v:V} (hl:lk S.T t=some v):σ.T t=v:=h.1 t v hl
theorem ox {S:SS} {σ:St} (h:S.On σ) {r:Nat} {o:Obj} (hl:lk S.O r=some o):σ.O r=o:=h.2 r o hl
theorem ad6 {σ:St} {a b c e:Nat} {l0 f h i:List V} {d:Int} (h0:σ.T 0= .agg [.lit a l0,.lit b f,.lit c h,.lit e i]) (h1:σ.T 1=vi d): ∃N σ' x,exec AE N mk0 σ=some (.normal,σ')/\True/\
  SS.On ((fun p:Nat×Nat=> ⟨[(1,vi d),(2,.ptr 48 p.1 0 0),(4,.ptr 80 p.2 0 0)],[(48,⟨p.1,4,false,false,some [.agg [.lit a l0,.lit b f,.lit c h,.lit e i]]⟩),(80,⟨p.2,2,false,false,some [.agg [.int .i64 0,.lit 5 []]]⟩)]⟩) x) σ':=by
 refine tq (S:=⟨[(0,.agg [.lit a l0,.lit b f,.lit c h,.lit e i]),(1,vi d)],[]⟩) _ _ ?_ ?_
 ·(conv=>whnf);repeat' ((first| intro g| refine st ?_| refine br ?_ ?_<;>intro hc| exact rfl) <;>conv=>whnf)
  rename_i D5;exact uQ.mk (D5,g) trivial su
 exact yC h0 (yC h1 ny)
theorem ad7 {σ:St} {g2 g4:Nat} {d:Int} {a Qi:Obj} (h1:σ.T 1=vi d) (h2:σ.T 2= .ptr 48 g2 0 0) (h4:σ.T 4= .ptr 80 g4 0 0) (b:σ.O 48=a) (Yh:σ.O 80=Qi): ∃N σ' x,exec AE N mk1 σ=some (.normal,σ')/\True/\
  SS.On ((fun g:Nat=> ⟨[(1,vi d),(2,.ptr 48 g2 0 0),(4,.ptr 80 g4 0 0),(5,.ptr 96 g 0 0)],[(48,a),(80,Qi),(96,⟨g,2,false,false,some [.agg [vi d,.nils]]⟩)]⟩) x) σ':=by
 refine tq (S:=⟨[(1,vi d),(2,.ptr 48 g2 0 0),(4,.ptr 80 g4 0 0)],[(48,a),(80,Qi)]⟩) _ _ ?_ ⟨(yC h1 (yC h2 (yC h4 ny))).1,(vk b (vk Yh ny)).2⟩
 (conv=>whnf);repeat' ((first| intro g| refine st ?_| refine br ?_ ?_<;>intro hc| exact rfl) <;>conv=>whnf)
 exact uQ.mk g trivial su
def pM (d:Int) (g:Nat) (evs:List V):V:= .agg [vi d,if evs=[] then .nils else .sl 304 g 0 evs.length]
theorem aai {σ:St} {c0 a c2 c3 c4:Int} {v5:V} {Qi b Lr:Obj} (c:σ.T 12= .agg [.int .i64 c0,.int .i64 a,.int .i64 c2,.int .i64 c3,.int .i64 c4]) (h5:σ.T 5=v5) (Yh:σ.O 80=Qi) (d:σ.O 96=b) (TH:σ.O 304=Lr): ∃N σ' x,exec AE N Af σ=some (.normal,σ')/\True/\
  SS.On ((fun g:Nat=> ⟨[(5,v5),(6,.ptr 112 g 0 0)],[(80,Qi),(96,b),(304,Lr),(112,⟨g,5,false,false,some [.agg [.int .i64 c0,.int .i64 a,.int .i64 c2,.int .i64 c3,.int .i64 c4]]⟩)]⟩) x) σ':=by
 refine tq (S:=⟨[(12,.agg [.int .i64 c0,.int .i64 a,.int .i64 c2,.int .i64 c3,.int .i64 c4]),(5,v5)],[(80,Qi),(96,b),(304,Lr)]⟩) _ _ ?_ ⟨(yC c (yC h5 ny)).1,(vk Yh (vk d (vk TH ny))).2⟩
 (conv=>whnf);repeat' ((first| intro g| refine st ?_| refine br ?_ ?_<;>intro hc| exact rfl) <;>conv=>whnf)
 exact uQ.mk g trivial su
theorem Xg {σ:St} {c0 a c2 c3 c4 d:Int} {g5 g6 gs:Nat} {evs:List V} {Qi:Obj} (hp:V.al evs=true) (hb:evs.all (bj · 5)=true) (hl:evs.length< 1000)
  (h5:σ.T 5= .ptr 96 g5 0 0) (h6:σ.T 6= .ptr 112 g6 0 0) (b:σ.O 112=⟨g6,5,false,false,some [.agg [.int .i64 c0,.int .i64 a,.int .i64 c2,.int .i64 c3,.int .i64 c4]]⟩)
  (Yh:σ.O 80=Qi) (c:σ.O 96=⟨g5,2,false,false,some [pM d gs evs]⟩) (TH:evs≠[]->σ.O 304=⟨gs,5,true,false,some evs⟩): ∃N σ' x,exec AE N Ag σ=some (.normal,σ')/\True/\
  SS.On ((fun g:Nat=> ⟨[],[(80,Qi),(96,⟨g5,2,false,false,some [pM d g (evs++[.agg [.int .i64 c0,.int .i64 a,.int .i64 c2,.int .i64 c3,.int .i64 c4]])]⟩),(304,⟨g,5,true,false,some (evs++[.agg [.int .i64 c0,.int .i64 a,.int .i64 c2,.int .i64 c3,.int .i64 c4]])⟩)]⟩) x) σ':=by
 by_cases h:evs=[]
 .subst h;have hv: ∀g,pM d g ([]++[.agg [.int .i64 c0,.int .i64 a,.int .i64 c2,.int .i64 c3,.int .i64 c4]])= .agg [vi d,.sl 304 g 0 1]:=fun g=>by unfold pM;rw[if_neg ajl];rfl
  refine tq (S:=⟨[(5,.ptr 96 g5 0 0),(6,.ptr 112 g6 0 0)],[(112,⟨g6,5,false,false,some [.agg [.int .i64 c0,.int .i64 a,.int .i64 c2,.int .i64 c3,.int .i64 c4]]⟩),(80,Qi),(96,⟨g5,2,false,false,some [.agg [vi d,.nils]]⟩)]⟩) _ _ ?_ ?_
  ·(conv=>whnf);repeat' ((first| intro g| refine st ?_| refine br ?_ ?_<;>intro hc| exact rfl) <;>conv=>whnf)
   exact uQ.mk g trivial (by simp only[hv];exact su)
  exact⟨(yC h5 (yC h6 ny)).1,(vk b (vk Yh (vk c ny))).2⟩
 refine tq (S:=⟨[(5,.ptr 96 g5 0 0),(6,.ptr 112 g6 0 0)],[(112,⟨g6,5,false,false,some [.agg [.int .i64 c0,.int .i64 a,.int .i64 c2,.int .i64 c3,.int .i64 c4]]⟩),(80,Qi),(96,⟨g5,2,false,false,some [.agg [vi d,.sl 304 gs 0 evs.length]]⟩),(304,⟨gs,5,true,false,some evs⟩)]⟩) _ _ ?_ ?_
 .have hv: ∀g,pM d g (evs++[.agg [.int .i64 c0,.int .i64 a,.int .i64 c2,.int .i64 c3,.int .i64 c4]])= .agg [vi d,.sl 304 g 0 (evs.length+1)]:=fun g=>by unfold pM;rw[if_neg ajl];simp
  (conv=>whnf);repeat' ((first| intro g| refine st ?_| refine br ?_ ?_<;>intro hc| exact rfl) <;>conv=>whnf)
  exact uQ.mk g trivial (by simp only[hv];exact su)
 have e:σ.O 96=⟨g5,2,false,false,some [.agg [vi d,.sl 304 gs 0 evs.length]]⟩:=by rw[c];unfold pM;rw[if_neg h]
 exact⟨(yC h5 (yC h6 ny)).1,(vk b (vk Yh (vk e (vk (TH h) ny)))).2⟩
theorem ad9 {σ:St} {g4 g5 g:Nat} {d:Int} {evs:List V} {Lr:Obj} (h4:σ.T 4= .ptr 80 g4 0 0) (h5:σ.T 5= .ptr 96 g5 0 0) (Yh:σ.O 80=⟨g4,2,false,false,some [.agg [.int .i64 0,.lit 5 []]]⟩) (a:σ.O 96=⟨g5,2,false,false,some [pM d g evs]⟩) (TH:σ.O 304=Lr): ∃N σ' z,exec AE N mk5 σ=some (.normal,σ')/\True/\
  SS.On ((fun _:Unit=> ⟨[(4,.ptr 80 g4 0 0)],[(80,⟨g4,2,false,false,some [pM d g evs]⟩),(304,Lr)]⟩) z) σ':=by
 refine tq (S:=⟨[(4,.ptr 80 g4 0 0),(5,.ptr 96 g5 0 0)],[(80,⟨g4,2,false,false,some [.agg [.int .i64 0,.lit 5 []]]⟩),(96,⟨g5,2,false,false,some [pM d g evs]⟩),(304,Lr)]⟩) _ _ ?_ ?_
 .unfold pM;split
  ·(conv=>whnf);repeat' ((first| intro g| refine st ?_| refine br ?_ ?_<;>intro hc| exact rfl) <;>conv=>whnf)
   exact uQ.mk () trivial su
  (conv=>whnf);repeat' ((first| intro g| refine st ?_| refine br ?_ ?_<;>intro hc| exact rfl) <;>conv=>whnf)
  exact uQ.mk () trivial su
 exact⟨(yC h4 (yC h5 ny)).1,(vk Yh (vk a (vk TH ny))).2⟩
open Go Go.RowKit Go.Proofs Go.Proofs.YtdifmldbllaeiaaGreat
noncomputable def IW:a8->St->Option (aW×St):=fun c σ=>by
 classical exact if h: ∃r N,exec AE N c σ=some r then some h.choose else none
theorem Na {c:a8} {σ:St} {r:aW×St} {N:Nat} (h:exec AE N c σ=some r):IW c σ=some r:=by have hx: ∃r N,exec AE N c σ=some r:=⟨r,N,h⟩;unfold IW;rw[dif_pos hx];obtain⟨N',b⟩:=hx.choose_spec;have d:=cN (aj3 N N') _ _ _ h;have a:=cN (ajU N N') _ _ _ b;rw[d] at a;injection a with a;rw[<-a]
theorem Xh {c:a8} {σ:St} {r:aW×St} (h:IW c σ=some r): ∃N,exec AE N c σ=some r:=by
 unfold IW at h;split at h
 .rename_i hx;injection h with h;subst h;exact hx.choose_spec
 simp at h
def Nb:Hints:={lits:=[(4,[0,5])],n:=21}
structure EI (X:TrEnv) (fn:Func):Prop where
 body: ∃i0 i1 i2 i5 ib Gq Ls A B ja o1 o2 o3,fn.body=some (.seq (.region i0 Gq false) (.seq (.region i1 Ls false) (.seq (.seq (.region i2 #[o1,o2,o3] false) (.block ib (.rangeFunc (.tmp 11) #[12,13] A B))) (.seq (.region i5 ja false) .ret))))/\
  cM X Nb (.region i0 Gq false)=some mk0/\cM X Nb (.region i1 Ls false)=some mk1/\cM X Nb A=some Af/\cM X Nb B=some Ag/\cM X Nb (.region i5 ja false)=some mk5/\
  oY X Nb #[o1,o2,o3] o1=some ⟨some 9,.load true 4 (.tmp 2),none,[]⟩/\oY X Nb #[o1,o2,o3] o2=some ⟨some 10,.move (.tmp 1),none,[]⟩/\o3.dst=some 11/\o3.guard=none/\
  (∀c,o3.op≠ .defer c)/\ ∀ (a:Go.Act) (w:World),(execOp a.eval o3).run X.P w= .ok (.enter 57 #[a.eval (.tmp 9),a.eval (.tmp 10)]) w
 res:kD X fn.results.toList=some [.cell 4 true 2]
 tmps:fn.ntmps=21
theorem Nc {Y:Ctx}:Nf Y AE:=fun g F caps xs h=>by simp[AE] at h
def PkO (g4 g5:Nat) (d:Int) (r:List V) (k:Nat) (O:Nat->Obj):Prop:=
 ∃a,O 80=⟨g4,2,false,false,some [.agg [.int .i64 0,.lit 5 []]]⟩/\O 96=⟨g5,2,false,false,some [pM d a (r.take k)]⟩/\(r.take k≠[]->O 304=⟨a,5,true,false,some (r.take k)⟩)/\(r.take k=[]->(O 304).es=none)/\ ∀x,x≠80->x≠96->x≠304->(O x).es=none
def pK (O:Nat->Obj):Nat->Obj:=fun x=>if x=80\/x=96\/x=304 then O x else {O x with es:=none}
def pN (O:Nat->Obj):Nat->Obj:=fun x=>if x=80\/x=96 then O x else {O x with es:=none}
theorem Xi (O:Nat->Obj):iZ O (pK O):=fun r=>by
 unfold pK;split
 .exact .inl rfl
 exact .inr rfl
theorem Ng (O:Nat->Obj):iZ O (pN O):=fun r=>by
 unfold pN;split
 .exact .inl rfl
 exact .inr rfl
def TJ (e:V):Prop:= ∃c0 a c2 c3 c4,e=IQ c0 a c2 c3 c4
theorem EJ {C:Nat->List V->Option fu} {d:Int}: ∀ {n:Nat} {m:V} {b:Int} {evs r:List V},iu C d n m b evs=some r->(∀e ∈ evs,TJ e)->(∀e ∈ r,TJ e)/\r.length<=evs.length+n
 | 0,_,_,evs,r,h,he=>by
   simp only[iu,ajq] at h;subst h;exact⟨he,ajk⟩
 | n+1,m,b,evs,r,h,he=>by
   obtain⟨c0,a,c2,c3,c4,ok,h1,h2⟩:=Ca h;rcases h2 with⟨_,rfl⟩ | ⟨_,m',err,_,_,h3⟩
   .exact⟨he,ajk⟩
   rcases h3 with⟨_,h3⟩ | ⟨_,rfl⟩
   .have:=EJ h3 (by
     intro e hm;rcases ajD.1 hm with hm| hm
     .exact he e hm
     .simp only[ajX] at hm;exact⟨_,_,_,_,_,hm⟩)
    refine⟨this.1,?_⟩;have:=this.2;simp at this;omega
   exact⟨he,ajk⟩
theorem rZ: ∀ {l:List V},(∀e ∈ l,TJ e)->V.al l=true/\l.all (bj · 5)=true/\V.ou l=true
 | [],_=> ⟨rfl,rfl,rfl⟩
 | e::l,h=>by
   obtain⟨c0,a,c2,c3,c4,rfl⟩:=h e ajl;obtain⟨h1,h2,h3⟩:=rZ (l:=l) fun e he=>h e (by simp[he]);refine⟨?_,?_,?_⟩
   .simp only[V.al,h1,aj9];rfl
   .simp only[ajM,h2,aj9];rfl
   simp only[V.ou,h3,aj9];rfl
theorem Xj {g4 g5:Nat} {d:Int} {r:List V} (hr: ∀e ∈ r,TJ e) (k:Nat) (O:Nat->Obj) (h:PkO g4 g5 d r k O):M6 O:=by
 obtain⟨f,h1,h2,h3,h4,h5⟩:=h;intro x es bC;by_cases a:x=80
 .subst a;rw[h1] at bC ⊢;simp only[ajq] at bC;subst bC;exact⟨by show 0 < 2;decide,rfl⟩
 by_cases b:x=96
 .subst b;rw[h2] at bC ⊢;simp only[ajq] at bC;subst bC;refine⟨by show 0 < 2;decide,?_⟩;unfold pM;split<;>rfl
 by_cases c:x=304
 .subst c;by_cases he:r.take k=[]
  .rw[h4 he] at bC;simp at bC
  rw[h3 he] at bC ⊢;simp only[ajq] at bC;subst bC;exact⟨by show 0 < 5;decide,(rZ fun e hm=>hr e (ajN hm)).2.2⟩
 rw[h5 x a b c] at bC;simp at bC
theorem aea {g4 g5:Nat} {d:Int} {r:List V} (k:Nat) (O:Nat->Obj) (h:PkO g4 g5 d r k O): ∀x,(O x).es.isSome=true->(O x).fz=false:=by
 obtain⟨e,h1,h2,h3,h4,h5⟩:=h;intro x hx;by_cases a:x=80
 .subst a;rw[h1]
 by_cases b:x=96
 .subst b;rw[h2]
 by_cases c:x=304
 .subst c;by_cases he:r.take k=[]
  .rw[h4 he] at hx;simp at hx
  rw[h3 he]
 rw[h5 x a b c] at hx;simp at hx
theorem TL {g4 g5:Nat} {d:Int} {r:List V} (hr: ∀e ∈ r,TJ e) (hl:r.length< 1000) {T:Nat->V} (c:T 5= .ptr 96 g5 0 0) (k:Nat) (x:List V) (O:Nat->Obj) (hx: (r.map fun e=> [e,V.any])[k]? =some x) (h:PkO g4 g5 d r k O):
  ∃σ1 σ2 O',IW Af ⟨kr T [12,13] x,O⟩=some (.normal,σ1)/\IW Ag σ1=some (.normal,σ2)/\iZ σ2.O O'/\PkO g4 g5 d r (k+1) O':=by
 obtain⟨gs,h1,h2,h3,h4,h5⟩:=h;rw[ajF,ajr] at hx;obtain⟨e,he,rfl⟩:=hx;obtain⟨c0,a,c2,c3,c4,rfl⟩:=hr e (List.mem_of_getElem? he);have f:r.take (k+1)=r.take k++[IQ c0 a c2 c3 c4]:=by rw[aj6,he];rfl
 obtain⟨N1,σ1,g6,j,_,b⟩:=aai (σ:=⟨kr T [12,13] [IQ c0 a c2 c3 c4,.any],O⟩) (c0:=c0) (a:=a) (c2:=c2) (c3:=c3) (c4:=c4) (v5:= .ptr 96 g5 0 0) rfl (by simpa [kr,dh] using c) h1 h2 rfl;obtain⟨N2,σ2,g,l,_,i⟩:=Xg (σ:=σ1) (c0:=c0) (a:=a) (c2:=c2) (c3:=c3) (c4:=c4) (d:=d) (gs:=gs) (evs:=r.take k) (g5:=g5) (g6:=g6) (rZ fun e hm=>hr e (ajN hm)).1 (rZ fun e hm=>hr e (ajN hm)).2.1 (by simp;omega)
  (uk b rfl) (uk b rfl) (ox b rfl) (ox b (r:=80) rfl) (ox b rfl) (fun bW=>by rw[ox b (r:=304) rfl];exact h3 bW)
 have bW:r.take (k+1)≠[]:=by rw[f];simp
 refine⟨σ1,σ2,pK σ2.O,Na j,Na l,Xi _,g,?_,?_,?_,fun h=>absurd h bW,?_⟩
 .show σ2.O 80=_;exact ox i rfl
 .show σ2.O 96=_;rw[f];exact ox i rfl
 .intro _;show σ2.O 304=_;rw[f];exact ox i rfl
 intro x m n o;unfold pK;rw[if_neg (by simp[m,n,o])]
theorem Cc {w:World} {φ:Nat->Row} {O:Nat->Obj}:Le ⟨w,φ,O⟩ ⟨w,φ,pN O⟩:=(Ng O).le w φ
theorem aaj {X:Ctx} {μ:Mu} (a:bq X μ): ∀b,Mu.own μ b->b<μ.w.heap.size:=by rintro b ⟨r,h1,h2,h3,h4⟩;have:=vg a h1 h3;omega
theorem Xk {X:Ctx} {μ:Mu} {d:Int} {v:Value} (h:aj X μ (.int .i64 d) v):v= .int .i64 d:=by simpa [aj] using h
theorem Pj {X:TrEnv} (M:X.P=Tryz.prog) (F7:X.P.follows .mixedOrders=true) (Q: ∀t1 t2 k,X.r5 t1=some k->X.r5 t2=some k->t1=t2) (hsh:EI X Tryz.f20) (h74:X.gA 14=some 644) (h75:X.gA 15=some 645)
   {C:bB} (hC: ∀f F vs res,X.gA F=some f->C f vs=some res->bL X F vs res) {args:List V} {res:fu} (h:AQ C args=some res):bL X 20 args res:=by
 obtain⟨⟨i0,i1,i2,i5,ib,Gq,Ls,cA,cB,ja,o1,o2,o3,ij,t0,t1,tA,tB,t5,to1,to2,z,Xl,ah2,hx3⟩,jK,II⟩:=hsh;unfold AQ at h;split at h
 rotate_left
 .simp at h
 rename_i m d;split at h
 rotate_left
 .simp at h
 rename_i hm;rw[ajr] at h;obtain⟨r,ah,rfl⟩:=h;obtain⟨xH,hrl⟩:=EJ ah ajl;have ah3:r.length< 1000:=by simp at hrl;omega
 have R:V.al [m,.int .i64 d]=true:=by simp[V.al,V.az,jw hm]
 intro B K w φ0 vals Ez hv ho;have hO: (enter [m,.int .i64 d]).O=kj:=zp R;have S: (enter [m,.int .i64 d]).T 0=m:=by rw[eF R];rfl
 have Z4: (enter [m,.int .i64 d]).T 1= .int .i64 d:=by rw[eF R];rfl
 have nr:X.P.funcs[20]? =some Tryz.f20:=by rw[M];exact Tryz.func20
 rw[qu nr ajn ij];simp only[vl];refine(callsIn_wide (n:=0)).1 (callsIn_of_wp_marks (F:=Fr none) nr ij trivial ?_ rfl);have bM:vals.toArray.size<=Tryz.f20.ntmps:=by rw[II];simp[Ez]
 have lA:kB ⟨X,B,K⟩ ⟨w,φ0,(enter [m,.int .i64 d]).O⟩ ⟨Tryz.f20.ntmps,w.heap.size,none⟩ (enter [m,.int .i64 d]) {tmps:=vals.toArray++Array.replicate (Tryz.f20.ntmps - vals.toArray.size) undef,defers:=[]} w:=by
   refine⟨Marks.nil (ajw _) ajl,by simp at bM ⊢;omega,φ0,⟨fun t=> ?_,ho⟩,Le.refl _⟩;by_cases ht:t<vals.length
   . have p: (vals.toArray++Array.replicate (Tryz.f20.ntmps - vals.toArray.size) undef).getD t undef=vals[t]:=by simp[akM,ht]
     rw[p];exact hv t _ (aju ht)
   have p: (vals.toArray++Array.replicate (Tryz.f20.ntmps - vals.toArray.size) undef).getD t undef=undef:=by simp[akM,ht,alh];split<;>rfl
   have U: (enter [m,.int .i64 d]).T t=ee:=by have: [m,V.int .i64 d][t]? =none:=akm ajk;simp[enter,this]
   rw[p,U];exact tu
 generalize hσ0:enter [m,.int .i64 d]=σ0 at lA S Z4 hO hv ho;generalize ({tmps:=vals.toArray++Array.replicate (Tryz.f20.ntmps - vals.toArray.size) undef,defers:=[]}:Go.Act)=a0 at lA ⊢;have H:=Nh (Y:=⟨X,B,K⟩) Q;have Xm: (⟨X,B,K⟩:Ctx).P.follows .mixedOrders=true:=F7;obtain⟨z0,l0,z1,l1,z2,l2,z3,l3,FE⟩:=vj hm;obtain⟨N0,σ1,⟨D5,Tc⟩,e0,_,G⟩:=ad6 (σ:=σ0) (S.trans FE) Z4;refine wpIn_seq (wpIn_mono (nz (X:=⟨X,B,K⟩) Xm Nc (h:=Nb) N0 (fun k _=>Gr Q k) (n:=⟨Tryz.f20.ntmps,w.heap.size,none⟩) II.symm _ _ _ _ _ _ _ t0 e0 lA) ?_);rintro ex a1 w1 ⟨rfl,jT⟩;obtain⟨N1,σ2,Aw,p,_,y⟩:=ad7 (σ:=σ1) (uk G rfl) (uk G rfl) (uk G rfl) (ox G (r:=48) rfl) (ox G (r:=80) rfl);refine wpIn_seq (wpIn_mono (nz (X:=⟨X,B,K⟩) Xm Nc (h:=Nb) N1 (fun k _=>Gr Q k) (n:=⟨Tryz.f20.ntmps,w.heap.size,none⟩) II.symm _ _ _ _ _ _ _ t1 p jT) ?_);rintro ex a2 w2 ⟨rfl,qj⟩;have k2:σ2.T 2= .ptr 48 D5 0 0:=uk y rfl;have k1:σ2.T 1=vi d:=uk y rfl;have k4:σ2.T 4= .ptr 80 Tc 0 0:=uk y rfl;have k5:σ2.T 5= .ptr 96 Aw 0 0:=uk y rfl;have Z:σ2.O 48=⟨D5,4,false,false,some [m]⟩:=by rw[FE];exact ox y rfl
 have k80:σ2.O 80=⟨Tc,2,false,false,some [.agg [.int .i64 0,.lit 5 []]]⟩:=ox y rfl;have k96:σ2.O 96=⟨Aw,2,false,false,some [.agg [vi d,.nils]]⟩:=ox y rfl;clear G y e0 p;refine wpIn_seq (wpIn_seq (wpIn_region ?_));have aeb:List.range (#[o1,o2,o3]:Array Oper).size=[0,1,2]:=rfl;rw[aeb,wpOpsIn_cons];have ah4:ew AE C00 ⟨some 9,.load true 4 (.tmp 2),none,[]⟩ σ2=some (σ2.put (some 9) m):=by rw[FE] at Z ⊢;simp[ew,cX,aQ,ev,fi,Act.run,bE,k2,Z,part]
 refine nA H (n:=⟨Tryz.f20.ntmps,w.heap.size,none⟩) (h:=Nb) (o:=o1) rfl to1 II.symm qj ah4 fun a3 w3 Er=> ?_;rw[wpOpsIn_cons];have ah5:ew AE C00 ⟨some 10,.move (.tmp 1),none,[]⟩ (σ2.put (some 9) m)=some ((σ2.put (some 9) m).put (some 10) (vi d)):=by rw[<-k1];rfl
 refine nA H (n:=⟨Tryz.f20.ntmps,w.heap.size,none⟩) (h:=Nb) (o:=o2) rfl to2 II.symm Er ah5 fun q i hs4=> ?_;rw[wpOpsIn_cons];have IX: (#[o1,o2,o3]:Array Oper)[2]? =some o3:=rfl;simp only[wpOpIn,IX];rw[if_pos (by simp[Region.wanted,Xl])];refine tp ah2 ?_;unfold Oper.wp;rw[hx3,Oper.upon_enter];obtain⟨aec,A,φ4,j,ah6⟩:=hs4;obtain⟨s0,s1,s2,s3,FP⟩:=EF hm (j.tmps 9);have hdv:=Xk (j.tmps 10);have hmr:aj ⟨X,B,K⟩ ⟨i,φ4,σ2.O⟩ m (mapVal s0 s1 s2 s3):=by rw[<-FP];exact j.tmps 9
 have ea: (#[q.eval (.tmp 9),q.eval (.tmp 10)]:Array Value)= #[.agg #[.slice s0.a s0.n s0.c,.slice s1.a s1.n s1.c,.slice s2.a s2.n s2.c,.slice s3.a s3.n s3.c],.int .i64 d]:=by
   have p:q.eval (.tmp 9)=mapVal s0 s1 s2 s3:=by simpa [Go.Act.eval] using FP
   have U:q.eval (.tmp 10)= .int .i64 d:=by simpa [Go.Act.eval] using hdv
   rw[p,U];rfl
 rw[ea,M];refine Calls.mono (Lm i _ _ _ _ d) ?_;rintro e I ⟨rfl,s⟩;rw[<-M];simp only[wpOpsIn];have Ve: ∀ (W:World) (o:Go.Obj),(W.alloc o).heap.size=W.heap.size+1:=fun W o=>World.size_alloc _ _;have aed:i.grownBy I none:=by rw[s];have J:=World.grownBy_alloc i (.cells #[.slice s0.a s0.n s0.c,.slice s1.a s1.n s1.c,.slice s2.a s2.n s2.c,.slice s3.a s3.n s3.c] 30) none;have g2:=World.grownBy_alloc (i.alloc (.cells #[.slice s0.a s0.n s0.c,.slice s1.a s1.n s1.c,.slice s2.a s2.n s2.c,.slice s3.a s3.n s3.c] 30)) (.cells #[.int .i64 d] 3) none;exact⟨g2.os.trans J.os,g2.tape.trans J.tape,g2.output.trans J.output,ajQ J.size g2.size,fun k hk h=> (g2.block k (ajB hk J.size) h).trans (J.block k hk h)⟩
 have IB:I.heap[i.heap.size]? =some (.cells #[.slice s0.a s0.n s0.c,.slice s1.a s1.n s1.c,.slice s2.a s2.n s2.c,.slice s3.a s3.n s3.c] 30):=by rw[s];exact((World.grownBy_alloc (i.alloc _) _ none).block _ (by rw[Ve];omega) ajl).trans (World.alloc_heap_new _ _)
 have Qh:I.heap[i.heap.size+1]? =some (.cells #[.int .i64 d] 3):=by rw[s,<-Ve i];exact World.alloc_heap_new _ _
 have hs5:I.heap.size=i.heap.size+2:=by rw[s,Ve,Ve]
 have E:bq ⟨X,B,K⟩ ⟨i,φ4,pN σ2.O⟩:=(Ng _).bp j.bp;obtain⟨Yi,aee⟩:=Ni (μ:=⟨i,φ4,pN σ2.O⟩) aed E;have hU:=aaj E;obtain⟨T',YS⟩: ∃T':Nat->V,T'=fun t=>if t=4 then .ptr 80 Tc 0 0 else if t=5 then .ptr 96 Aw 0 0 else .any:=⟨_,rfl⟩;have Yj:=qw (X:=⟨X,B,K⟩) (dst:=o3.dst) (v:= .any) (val:= .func (.func 101) #[] #[.pointer (some ⟨i.heap.size,0,none⟩),.pointer (some ⟨i.heap.size+1,0,none⟩)]) j (Cc.trans Yi) aee (by simp[aj]) (by rw[z];simp;rw[A];show 11 <Tryz.f20.ntmps;rw[II];decide) (pN σ2.O);have e11: (q.put o3.dst (.func (.func 101) #[] #[.pointer (some ⟨i.heap.size,0,none⟩),.pointer (some ⟨i.heap.size+1,0,none⟩)])).eval (.tmp 11)= .func (.func 101) #[] #[.pointer (some ⟨i.heap.size,0,none⟩),.pointer (some ⟨i.heap.size+1,0,none⟩)]:=by
   rw[z];have:11 <q.tmps.size:=by rw[A];show 11 <Tryz.f20.ntmps;rw[II];decide
   simp[Go.Act.eval,Go.Act.put,this]
 have aef:Marks ⟨Tryz.f20.ntmps,w.heap.size,none⟩ i (q.put o3.dst (.func (.func 101) #[] #[.pointer (some ⟨i.heap.size,0,none⟩),.pointer (some ⟨i.heap.size+1,0,none⟩)])).defers:=by rw[put_defers];exact aec
 have ah7: (q.put o3.dst (.func (.func 101) #[] #[.pointer (some ⟨i.heap.size,0,none⟩),.pointer (some ⟨i.heap.size+1,0,none⟩)])).tmps.size=Tryz.f20.ntmps:=by rw[nB];exact A
 generalize q.put o3.dst (.func (.func 101) #[] #[.pointer (some ⟨i.heap.size,0,none⟩),.pointer (some ⟨i.heap.size+1,0,none⟩)])=a5 at*;have aeg:Rel ⟨X,B,K⟩ T' a5 ⟨I,φ4,pN σ2.O⟩:=by
   refine⟨fun t=> ?_,aee⟩;rw[YS];have h4:=Yj.tmps 4;have h5:=Yj.tmps 5;rw[z] at h4 h5;by_cases e4:t=4
   . subst e4
     have: (St.put ⟨((σ2.put (some 9) m).put (some 10) (vi d)).T,pN σ2.O⟩ (some 11) .any).T 4= .ptr 80 Tc 0 0:=k4;rw[this] at h4;exact h4
   by_cases L:t=5
   .subst L;have: (St.put ⟨((σ2.put (some 9) m).put (some 10) (vi d)).T,pN σ2.O⟩ (some 11) .any).T 5= .ptr 96 Aw 0 0:=k5;rw[this] at h5;exact h5
   simp only[if_neg e4,if_neg L];simp[aj]
 have hP0:PkO Tc Aw d r 0 (pN σ2.O):=by refine⟨0,k80,k96,fun h=>absurd rfl h,fun _=>rfl,fun x p U e3=> ?_⟩;unfold pN;rw[if_neg (by simp[p,U])]
 have cok: ∀ {c:Code} {ac:a8},cM X Nb c=some ac-> ∀l,B6 ⟨X,B,K⟩ ⟨Tryz.f20.ntmps,0,some l⟩ c IW ac:=fun {c ac} ht l σ σ' e μ0 a w hx hs=>by obtain⟨N,hN⟩:=Xh hx;exact nz (X:=⟨X,B,K⟩) Xm Nc (h:=Nb) N (fun k _=>Gr Q k) (n:=⟨Tryz.f20.ntmps,0,some l⟩) II.symm c ac σ σ' e a w ht hN hs
 have rX:=IV (X:=X) M hC h74 h75 (B:=B) (K:=K) (w0:=i) (d:=d) (m:=m) (s0:=s0) (s1:=s1) (s2:=s2) (s3:=s3) (r:=r) hm ah (φ:=φ4) (O0:=pN σ2.O) (aj.mono Cc hmr) hU (w:=I) (Bm:=i.heap.size) (Bd:=i.heap.size+1) (ajw _) ajk IB Qh (fun b hb=>aed.block b hb ajl);refine wpIn_block (wpIn_mono (Gi (X:=⟨X,B,K⟩) (n:=⟨Tryz.f20.ntmps,w.heap.size,none⟩) (g:= .tmp 11) (ps:= #[12,13]) (rec:=IW) (ta:=Af) (tb:=Ag) (cok tA) (cok tB) (μ0:=⟨i,φ4,pN σ2.O⟩) (T:=T') (Pk:=PkO Tc Aw d r) hP0 aef E rfl ah7 aeg Yi
   (by rw[show (⟨Tryz.f20.ntmps,w.heap.size,none⟩:Fp).tm=21 from II];simp) e11 (fun args w=>qu (by rw[M];exact Tryz.func101) ajn rfl args w) (by intro x hx;simp at hx;obtain⟨e,_,rfl⟩:=hx;rfl)
   (by intro t;rw[YS];by_cases e4:t=4 <;>by_cases L:t=5 <;>simp[e4,L,V.flat]) (Xj xH) (fun k x O hx hp=>TL xH ah3 (by rw[YS];rfl) k x O hx hp)
   (by rintro b (rfl| rfl);exact⟨ajk,fun h=>by have:=hU _ h;exact absurd this (Nat.lt_irrefl _),ajw _⟩;exact⟨ajk,fun h=>by have:=hU _ h;have h9:i.heap.size+1 <i.heap.size:=this;omega,Nat.le_succ _⟩) aea rX) ?_)
 rintro ex a6 w6 ⟨rfl,O6,hp6,hs6⟩;obtain⟨aeh,ah8,φ6,hr6,ah9⟩:=hs6;have aia:kB ⟨X,B,K⟩ ⟨w,φ0,σ0.O⟩ ⟨Tryz.f20.ntmps,w.heap.size,none⟩ ⟨T',O6⟩ a6 w6:=⟨aeh,ah8,φ6,hr6,ah6.trans (Cc.trans ah9)⟩;obtain⟨gs,p80,p96,aei,_,_⟩:=hp6;rw[show r.take (r.map fun e=> [e,V.any]).length=r by simp] at p96 aei;obtain⟨N5,σ7,_,L,_,q5⟩:=ad9 (σ:=⟨T',O6⟩) (g4:=Tc) (g5:=Aw) (by rw[YS];rfl) (by rw[YS];rfl) p80 p96 rfl;refine wpIn_seq (wpIn_mono (nz (X:=⟨X,B,K⟩) Xm Nc (h:=Nb) N5 (fun k _=>Gr Q k) (n:=⟨Tryz.f20.ntmps,w.heap.size,none⟩) II.symm _ _ _ _ _ _ _ t5 L aia) ?_);rintro ex a7 w7 ⟨rfl,hs7⟩;refine wpIn_ret ?_;obtain⟨aej,ajf,φ7,hr7,aib⟩:=hs7;have hro:eW σ7 [.cell 4 true 2]=some [pM d gs r]:=by have x1:σ7.T 4= .ptr 80 Tc 0 0:=uk q5 rfl;have x2:σ7.O 80=⟨Tc,2,false,false,some [pM d gs r]⟩:=ox q5 rfl;simp[eW,mT,x1,x2,part,pM]
 have aic:σ7.O 304=O6 304:=ox q5 (r:=304) rfl;show LeavesInM (Fr none) 0 X.P Tryz.f20 a7.tmps _ a7.defers .returning w7;refine r6 (fun w'=>Rel ⟨X,B,K⟩ σ7.T a7 ⟨w',φ7,σ7.O⟩/\Le ⟨w,φ0,σ0.O⟩ ⟨w',φ7,σ7.O⟩) (fun w1 D h1 h2 ⟨hr,hle⟩=> ⟨⟨fun t=>aj.cE (jv (μ:=⟨w1,φ7,σ7.O⟩) h2 rfl rfl) (hr.tmps t),yD hr.bp h2⟩,Gs hle h1⟩) (fun w' ⟨hr,r7⟩=> ?_) aej ⟨hr7,aib⟩;obtain⟨TM,r1,r2⟩:=uo hr jK hro
 match TM,r2 with
 | [u],r2=>
   simp only[ag,and_true] at r2;by_cases Tm:r=[]
   . refine⟨u,r1,φ7,σ7.T,σ7.O,.agg [.int .i64 d,.lit 5 []],[],r7,hr.bp,?_,.one (by rw[Tm];rfl),rfl,by rw[<-hσ0] at*;exact kY R⟩
     unfold pM at r2;rw[if_pos Tm] at r2;simp only[aj] at r2 ⊢;obtain⟨c1,vs,rfl,c2⟩:=r2;refine⟨rfl,vs,rfl,?_⟩;rcases vs with⟨vs⟩;rcases vs with _| ⟨v0,_| ⟨v1,_| ⟨v2,vs⟩⟩⟩ <;>simp only[ag,aj,and_true,and_false] at c2
     obtain⟨c2,ad,c3⟩:=c2;simp only[ag,aj,and_true];exact⟨c2,rfl,rfl,ad,0,[],c3,ajw _,by simp[ag],.inl trivial⟩
   refine⟨u,r1,φ7,σ7.T,σ7.O,pM d gs r,[304],r7,hr.bp,r2,.one ?_,rfl,kY R⟩;have hv:Hh d r= .agg [.int .i64 d,.own 5 r]:=by
    cases r with
    | nil=>exact absurd rfl Tm
    | cons a l=>rfl
   have hh:pM d gs r= .agg [vi d,.sl 304 gs 0 r.length]:=by unfold pM;rw[if_neg Tm]
   have x3:=aic.trans (aei Tm);have hw:aN r 0 r.length=r:=AN rfl;rw[hh];show ej 2 ⟨σ7.T,σ7.O⟩ _=some (Hh d r,[304]);rw[hv];simp[ej,V.az,V.al,cC,cQ,x3,hw,(rZ xH).1]
end Go.AM
