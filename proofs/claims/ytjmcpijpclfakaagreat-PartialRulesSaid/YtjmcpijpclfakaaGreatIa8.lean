/-
  Texts of the proof: PRuI.
-/
import Derived.Test.YtjmcpijpclfakaaGreatA
import Derived.Test.YtjmcpijpclfakaaGreatOpsC
set_option maxRecDepth 20000
set_option maxHeartbeats 8000000
set_option linter.unusedSimpArgs false
set_option linter.unusedVariables false
namespace Go.AM
theorem Cp {a n:Int} (h:n≠0):Ev E0 93 [vi a,vi n] ⟨vi (cR a n),[]⟩:=by
 refine Ev.aG (E:=E0) (f:=93) (af:=f93) rfl rfl rfl ?_
 (conv=>whnf);repeat' ((first| intro g| refine st ?_| (first| refine b1 ?_ ?_| refine b2 ?_ ?_| refine Br.mk ?_ ?_) <;>intro hc| exact rfl) <;>conv=>whnf)
abbrev afH (n:Int):V:= .agg [vi 1,vi 0,vi 1,vi n,.bool false,.str [],.lit 7 []]
theorem Cq (n:Int):Ev E0 355 [vi n] ⟨afH n,[]⟩:=by
 refine Ev.aG (E:=E0) (f:=355) (af:=Oz) rfl rfl rfl ?_
 (conv=>whnf);repeat' ((first| intro g| refine st ?_| (first| refine b1 ?_ ?_| refine b2 ?_ ?_| refine Br.mk ?_ ?_) <;>intro hc| exact rfl) <;>conv=>whnf)
theorem vL {E:Env} {v:V} {k:V→bR} {S:SS} {Q:KK} (hp:V.aj v=true) (h:eR E (k v) S Q):eR E (vq v k) S Q:=by
 unfold vq
 rw[hp];exact h
def dV (ws:List V) (k:Nat):List V:=(List.range k).map (rD ws)
theorem su (ws:List V) (k:Nat):dV ws (k+1)=dV ws k++[rD ws k]:=by
 unfold dV;rw[List.range_succ,List.map_append];rfl
theorem kV (ws:List V) (k:Nat): (dV ws k).length=k:=by simp[dV]
theorem F3: ∀k:Nat,k< 42→bytesOf [V.int .u8 (IntKind.u8.wrap (IntKind.i64.wrap (97+((k:Nat):Int).tmod 26))),V.int .u8 (IntKind.u8.wrap (IntKind.i64.wrap (97+IntKind.i64.wrap (((k:Nat):Int).tdiv 26))))]=some [UInt8.ofNat (97+k % 26),UInt8.ofNat (97+k / 26)]:=by
 decide+kernel
theorem Cr {E:Env} {ys:List V} {s:List UInt8} {S:SS} {Q:KK} (hb:bytesOf ys=some s) (h:eR E (.done (.str s)) S Q):eR E ((fun ys=>j6 (Option.map V.str (bytesOf ys))) ys) S Q:=by
 simp only[hb,Option.map_some];exact h
theorem nd (w0 w1 w2 w3 w4 w5 w6:V) (k:Nat):rD [w0,w1,w2,w3,w4,w5,w6] k= .agg [.str [109,UInt8.ofNat (97+k % 26),UInt8.ofNat (97+k / 26)],vi 0,w0,w1,w2,w3,w4,w5,w6,
 vi 1,vi 0,vi 1,vi 1,.bool false,.str [],.lit 7 [],vi 1,vi 0,vi 1,vi 1,.bool false,.str [],.lit 7 [],vi 1,vi 0,vi 1,vi 1,.bool false,.str [],.lit 7 []]:=rfl
def sV (vs ws:List V) (g n j:Nat):Nat×Bool×Nat×Nat→SS
 | (k,true,_,_)=> ⟨[(5,.sl 97 g 0 (vs.length+k)),(6,vi n),(7,.ptr 97 g j 0),(8,aO k)],[(97,⟨g,30,true,false,some (vs++dV ws k)⟩)]⟩
 | (k,false,g2,k0)=> ⟨[(5,.sl 98 g2 0 (vs.length+k)),(6,vi n),(7,.ptr 97 g j 0),(8,aO k)],[(97,⟨g,30,true,false,some (vs++dV ws k0)⟩),(98,⟨g2,30,true,false,some (vs++dV ws k)⟩)]⟩
abbrev P8 (n:Nat):Nat×Bool×Nat×Nat→Prop:=fun x=>x.1≤30+n
abbrev M8 (n:Nat):Nat×Bool×Nat×Nat→Nat:=fun x=>30+n - x.1
theorem aiY {vs:List V} {k n:Nat} {w0 w1 w2 w3 w4 w5 w6:V} (hk:k< 30+n) (hn:n< 12) (hp:V.ae [w0,w1,w2,w3,w4,w5,w6]=true): ∃a:V,a= .agg [.str ([109]++[UInt8.ofNat (97+k % 26),UInt8.ofNat (97+k / 26)]),vi 0,w0,w1,w2,w3,w4,w5,w6,
   vi 1,vi 0,vi 1,vi 1,.bool false,.str [],.lit 7 [],vi 1,vi 0,vi 1,vi 1,.bool false,.str [],.lit 7 [],vi 1,vi 0,vi 1,vi 1,.bool false,.str [],.lit 7 []]∧V.aj a=true∧
   vs++dV [w0,w1,w2,w3,w4,w5,w6] (k+1)=vs++dV [w0,w1,w2,w3,w4,w5,w6] k++[a]∧(vs++dV [w0,w1,w2,w3,w4,w5,w6] k).length=vs.length+k∧IntKind.i64.wrap (30+((n:Nat):Int))=30+n∧((k:Nat):Int) <IntKind.i64.wrap (30+((n:Nat):Int)):=by
 have hw:IntKind.i64.wrap (30+((n:Nat):Int))=30+n:=wrap64 (by omega) (by omega)
 refine⟨_,rfl,?_,?_,by rw[List.length_append,kV],hw,by omega⟩
 · simp only[V.ae,Bool.and_eq_true] at hp
   simp only[V.aj,V.ae,hp,vi,Bool.and_self]
 · rw[su,nd,List.append_assoc];rfl
section
variable {g2 k0:Nat} {vs:List V} {g k j n:Nat} {w0 w1 w2 w3 w4 w5 w6:V} {a0 a1 z0 z1 z2 z3 z4 z5 z6 z7 z8 z9 I7 I8 I9 Ja Jb Jc Jd Je Jf Jg Jh:V} {Q:bF→SS→Prop} (hk:k< 30+n) (hn:n< 12) (hv:0 <vs.length∧vs.length≤4) (hp:V.ae [w0,w1,w2,w3,w4,w5,w6]=true) (hx: ∀l,(vs++l)[j]? =some (.agg [a0,a1,w0,w1,w2,w3,w4,w5,w6,z0,z1,z2,z3,z4,z5,z6,z7,z8,z9,I7,I8,I9,Ja,Jb,Jc,Jd,Je,Jf,Jg,Jh]))
include hk hn hp hx
theorem Pj:qK E0 (Cc g (vs.length+k+1)) (sV vs [w0,w1,w2,w3,w4,w5,w6] g n j (k,true,g2,k0)) (pA Q (sV vs [w0,w1,w2,w3,w4,w5,w6] g n j) (P8 n) (M8 n) (k,true,g2,k0)):=by
 have yQ:=Cq 1
 have yR:=F3 k (by omega)
 obtain⟨a,rfl,hyp,bX,lv,hw,RC⟩:=aiY (vs:=vs) hk hn hp
 unfold sV
 simp only[]
 (conv=>whnf);repeat' ((first| refine Cr yR ?_| refine vL hyp ?_| intro g| refine bD.mk _ (hx _) ?_| refine av.mk _ (yQ) ?_| refine st ?_| (first| refine b1 ?_ ?_| refine b2 ?_ ?_| refine Br.mk ?_ ?_) <;>intro hc| exact rfl) <;>conv=>whnf)
 refine bk.mk (k+1,true,0,0) (by simp only[M8];omega) (by simp only[P8];omega) ?_
 simp only[sV,bX]
 (refine⟨?_,?_⟩ <;>repeat' (first| exact True.intro| refine ai ?_| refine And.intro ?_ ?_))
include hv
theorem Pk:qK E0 (Ce g (vs.length+k)) (sV vs [w0,w1,w2,w3,w4,w5,w6] g n j (k,true,g2,k0)) (pA Q (sV vs [w0,w1,w2,w3,w4,w5,w6] g n j) (P8 n) (M8 n) (k,true,g2,k0)):=by
 have yQ:=Cq 1
 have yR:=F3 k (by omega)
 obtain⟨a,rfl,hyp,bX,lv,hw,RC⟩:=aiY (vs:=vs) hk hn hp
 unfold sV
 simp only[]
 (conv=>whnf);repeat' ((first| refine Cr yR ?_| refine vL hyp ?_| intro g| refine bD.mk _ (hx _) ?_| refine av.mk _ (yQ) ?_| refine st ?_| (first| refine b1 ?_ ?_| refine b2 ?_ ?_| refine Br.mk ?_ ?_) <;>intro hc| exact rfl) <;>conv=>whnf)
 refine bk.mk (k+1,false,g,k) (by simp only[M8];omega) (by simp only[P8];omega) ?_
 simp only[sV,bX]
 (refine⟨?_,?_⟩ <;>repeat' (first| exact True.intro| refine ai ?_| refine And.intro ?_ ?_))
theorem Pl:qK E0 Ca (sV vs [w0,w1,w2,w3,w4,w5,w6] g n j (k,false,g2,k0)) (pA Q (sV vs [w0,w1,w2,w3,w4,w5,w6] g n j) (P8 n) (M8 n) (k,false,g2,k0)):=by
 have yQ:=Cq 1
 have yR:=F3 k (by omega)
 obtain⟨a,rfl,hyp,bX,lv,hw,RC⟩:=aiY (vs:=vs) hk hn hp
 unfold sV
 simp only[]
 (conv=>whnf);repeat' ((first| refine Cr yR ?_| refine vL hyp ?_| intro g| refine bD.mk _ (hx _) ?_| refine av.mk _ (yQ) ?_| refine st ?_| (first| refine b1 ?_ ?_| refine b2 ?_ ?_| refine Br.mk ?_ ?_) <;>intro hc| exact rfl) <;>conv=>whnf)
 refine bk.mk (k+1,false,g,k0) (by simp only[M8];omega) (by simp only[P8];omega) ?_
 simp only[sV,bX]
 (refine⟨?_,?_⟩ <;>repeat' (first| exact True.intro| refine ai ?_| refine And.intro ?_ ?_))
end
theorem WL {g2 k0:Nat} {vs ws:List V} {g j n:Nat} {Q:bF→SS→Prop} (hn:n< 12) (hQ: ∀S,(sV vs ws g n j (30+n,true,g2,k0)).Sub S→Q (.exit 1) S):
  qK E0 (Cc g (vs.length+(30+n)+1)) (sV vs ws g n j (30+n,true,g2,k0)) (pA Q (sV vs ws g n j) (P8 n) (M8 n) (30+n,true,g2,k0)):=by
 have hw:IntKind.i64.wrap (30+((n:Nat):Int))=30+n:=wrap64 (by omega) (by omega)
 have RC: ¬ (((30+n:Nat):Int) <IntKind.i64.wrap (30+((n:Nat):Int))):=by omega
 unfold sV at hQ ⊢
 simp only[] at hQ ⊢
 (conv=>whnf);repeat' ((first| intro g| refine st ?_| (first| refine b1 ?_ ?_| refine b2 ?_ ?_| refine Br.mk ?_ ?_) <;>intro hc| exact rfl) <;>conv=>whnf)
 all_goals first| (exact absurd (by assumption) RC) | skip
 exact hQ _ (by(refine⟨?_,?_⟩ <;>repeat' (first| exact True.intro| refine ai ?_| refine And.intro ?_ ?_)))
theorem WM {g2 k0:Nat} {vs ws:List V} {g j n:Nat} {Q:bF→SS→Prop} (hn:n< 12) (hQ: ∀S,(sV vs ws g n j (30+n,true,g2,k0)).Sub S→Q (.exit 1) S):
  qK E0 (Ce g (vs.length+(30+n))) (sV vs ws g n j (30+n,true,g2,k0)) (pA Q (sV vs ws g n j) (P8 n) (M8 n) (30+n,true,g2,k0)):=by
 have hw:IntKind.i64.wrap (30+((n:Nat):Int))=30+n:=wrap64 (by omega) (by omega)
 have RC: ¬ (((30+n:Nat):Int) <IntKind.i64.wrap (30+((n:Nat):Int))):=by omega
 unfold sV at hQ ⊢
 simp only[] at hQ ⊢
 (conv=>whnf);repeat' ((first| intro g| refine st ?_| (first| refine b1 ?_ ?_| refine b2 ?_ ?_| refine Br.mk ?_ ?_) <;>intro hc| exact rfl) <;>conv=>whnf)
 all_goals first| (exact absurd (by assumption) RC) | skip
 exact hQ _ (by(refine⟨?_,?_⟩ <;>repeat' (first| exact True.intro| refine ai ?_| refine And.intro ?_ ?_)))
theorem WN {g2 k0:Nat} {vs ws:List V} {g j n:Nat} {Q:bF→SS→Prop} (hn:n< 12) (hQ: ∀S,(sV vs ws g n j (30+n,false,g2,k0)).Sub S→Q (.exit 1) S):
  qK E0 Ca (sV vs ws g n j (30+n,false,g2,k0)) (pA Q (sV vs ws g n j) (P8 n) (M8 n) (30+n,false,g2,k0)):=by
 have hw:IntKind.i64.wrap (30+((n:Nat):Int))=30+n:=wrap64 (by omega) (by omega)
 have RC: ¬ (((30+n:Nat):Int) <IntKind.i64.wrap (30+((n:Nat):Int))):=by omega
 unfold sV at hQ ⊢
 simp only[] at hQ ⊢
 (conv=>whnf);repeat' ((first| intro g| refine st ?_| (first| refine b1 ?_ ?_| refine b2 ?_ ?_| refine Br.mk ?_ ?_) <;>intro hc| exact rfl) <;>conv=>whnf)
 all_goals first| (exact absurd (by assumption) RC) | skip
 exact hQ _ (by(refine⟨?_,?_⟩ <;>repeat' (first| exact True.intro| refine ai ?_| refine And.intro ?_ ?_)))
abbrev RD:aB:= .seq (.region [od 139 (.move (.tmp 5)),od 4 (.move (.tmp 139))]) .ret
theorem Lf {g2 k0:Nat} {vs ws:List V} {q0 q1 q2:Int} {g n j:Nat} (hP:V.ae (vs++dV ws (30+n))=true):qK E0 RD (sV vs ws g n j (30+n,true,g2,k0)) (IL FK.results [.lit 30 vs,.agg [vi q0,vi q1,vi q2]] (· =⟨.own 30 (vs++dV ws (30+n)),[]⟩)):=by
 have lv: (vs++dV ws (30+n)).length=vs.length+(30+n):=by rw[List.length_append,kV]
 have gT:0+(vs.length+(30+n))≤(vs++dV ws (30+n)).length∧V.ae (vs++dV ws (30+n))=true:=⟨by omega,hP⟩
 unfold sV
 simp only[]
 (conv=>whnf);repeat' ((first| intro g| refine bU.mk (gT) ?_| refine bD.mk _ (yE lv.symm) ?_| refine st ?_| (first| refine b1 ?_ ?_| refine b2 ?_ ?_| refine Br.mk ?_ ?_) <;>intro hc| exact rfl) <;>conv=>whnf)
theorem WO {g2 k0:Nat} {vs ws:List V} {q0 q1 q2:Int} {g n j:Nat} (hP:V.ae (vs++dV ws (30+n))=true):qK E0 RD (sV vs ws g n j (30+n,false,g2,k0)) (IL FK.results [.lit 30 vs,.agg [vi q0,vi q1,vi q2]] (· =⟨.own 30 (vs++dV ws (30+n)),[]⟩)):=by
 have lv: (vs++dV ws (30+n)).length=vs.length+(30+n):=by rw[List.length_append,kV]
 have gT:0+(vs.length+(30+n))≤(vs++dV ws (30+n)).length∧V.ae (vs++dV ws (30+n))=true:=⟨by omega,hP⟩
 unfold sV
 simp only[]
 (conv=>whnf);repeat' ((first| intro g| refine bU.mk (gT) ?_| refine bD.mk _ (yE lv.symm) ?_| refine st ?_| (first| refine b1 ?_ ?_| refine b2 ?_ ?_| refine Br.mk ?_ ?_) <;>intro hc| exact rfl) <;>conv=>whnf)
theorem F4 {ws:List V} (hp:V.ae ws=true): ∀k,V.ae (dV ws k)=true:=by
 have h1: ∀k,V.aj (rD ws k)=true:=fun k=>by
  have:=eK hp (b:=ID++(ID++ID)) rfl
  unfold rD
  simp only[V.aj,V.ae,this,Bool.and_self]
 intro k
 unfold dV
 exact AM.bq h1 _
theorem Lg {X:Ctx} {n0:Fp} (hR:Ht X E0) {h:Hints} {hI hJ:Nat→Nat→Hints} {c:Code} (t:T3 X.toTrEnv h hI hJ c Cb Cd Cf) (vc:h.n=n0.1) (hh:h.AY=[]∧h.full=[])
   (nI: ∀g N,(hI g N).n=n0.1∧(hI g N).AY=[(67,97,g,N)]∧(hI g N).full=[]) (nJ: ∀g N,(hJ g N).n=n0.1∧(hJ g N).AY=[]∧(hJ g N).full=[(67,98,97,g,N)])
   {vs:List V} {q0 q1 q2:Int} {j n:Nat} {w0 w1 w2 w3 w4 w5 w6 a0 a1 z0 z1 z2 z3 z4 z5 z6 z7 z8 z9 I7 I8 I9 Ja Jb Jc Jd Je Jf Jg Jh:V} (h8:cR q0 9=8) (hnq:cR q1 12=n) (hn:n< 12) (hv:0 <vs.length∧vs.length≤4) (Nz:V.ae vs=true) (oL: (vs.all fun x=>aZ x 30)=true)
   (hj:cR q2 vs.length=j) (Db:j<vs.length) (hp:V.ae [w0,w1,w2,w3,w4,w5,w6]=true) (hx: ∀l,(vs++l)[j]? =some (.agg [a0,a1,w0,w1,w2,w3,w4,w5,w6,z0,z1,z2,z3,z4,z5,z6,z7,z8,z9,I7,I8,I9,Ja,Jb,Jc,Jd,Je,Jf,Jg,Jh])) (ws:List V) (RB:ws=[w0,w1,w2,w3,w4,w5,w6]):
   rk X n0 c (yB [.lit 30 vs,.agg [vi q0,vi q1,vi q2]]) (IL FK.results [.lit 30 vs,.agg [vi q0,vi q1,vi q2]] (· =⟨.own 30 (vs++dV ws (30+n)),[]⟩)):=by
 have m0:=Cp (a:=q0) (n:=9) (by decide)
 rw[h8] at m0
 have m1:=Cp (a:=q1) (n:=12) (by decide)
 rw[hnq] at m1
 have e2: ((0+vs.length:Nat):Int)=((vs.length:Nat):Int):=by omega
 have m2:=Cp (a:=q2) (n:=((0+vs.length:Nat):Int)) (by omega)
 rw[show cR q2 ((0+vs.length:Nat):Int)=j by rw[e2];exact hj] at m2
 have Am:0 <vs.length:=hv.1
 obtain⟨x1,y1,rfl,t1,u1⟩:=T3.seq t rfl (fun _ _=>rfl) (fun _ _=>rfl)
 refine fv (ef hR vc hh t1.one ?_)
 (conv=>whnf);repeat' ((first| intro g| refine st ?_| (first| refine b1 ?_ ?_| refine b2 ?_ ?_| refine Br.mk ?_ ?_) <;>intro hc| exact rfl) <;>conv=>whnf)
 obtain⟨x2,y2,rfl,t2,u2⟩:=T3.seq u1 rfl (fun _ _=>rfl) (fun _ _=>rfl)
 refine fv (ef hR vc hh t2.one ?_)
 (conv=>whnf);repeat' ((first| refine Or.inl (bU.mk Nz ?_) | intro g| refine bU.mk (oL) ?_| refine st ?_| (first| refine b1 ?_ ?_| refine b2 ?_ ?_| refine Br.mk ?_ ?_) <;>intro hc| exact rfl) <;>conv=>whnf)
 obtain⟨x3,y3,rfl,t3,u3⟩:=T3.seq u2 rfl (fun _ _=>rfl) (fun _ _=>rfl)
 refine fv (ef hR vc hh t3.one ?_)
 (conv=>whnf);repeat' ((first| intro g| refine av.mk _ (m1) ?_| refine st ?_| (first| refine b1 ?_ ?_| refine b2 ?_ ?_| refine Br.mk ?_ ?_) <;>intro hc| exact rfl) <;>conv=>whnf)
 obtain⟨x4,y4,rfl,t4,u4⟩:=T3.seq u3 rfl (fun _ _=>rfl) (fun _ _=>rfl)
 refine fv (ef hR vc hh t4.one ?_)
 (conv=>whnf);repeat' ((first| intro g| refine st ?_| (first| refine b1 ?_ ?_| refine b2 ?_ ?_| refine Br.mk ?_ ?_) <;>intro hc| exact rfl) <;>conv=>whnf)
 all_goals first| (exfalso;omega) | skip
 obtain⟨x5,y5,rfl,t5,u5⟩:=T3.seq u4 rfl (fun _ _=>rfl) (fun _ _=>rfl)
 refine fv (ef hR vc hh t5.one ?_)
 (conv=>whnf);repeat' ((first| intro g| refine av.mk _ (m2) ?_| refine st ?_| (first| refine b1 ?_ ?_| refine b2 ?_ ?_| refine Br.mk ?_ ?_) <;>intro hc| exact rfl) <;>conv=>whnf)
 obtain⟨x6,y6,rfl,t6,u6⟩:=T3.seq u5 rfl (fun _ _=>rfl) (fun _ _=>rfl)
 refine fv ?_
 obtain⟨x7,y7,rfl,t7,u7⟩:=T3.seq t6 rfl (fun _ _=>rfl) (fun _ _=>rfl)
 refine fv (ef hR vc hh t7.one ?_)
 (conv=>whnf);repeat' ((first| intro g| refine av.mk _ (m0) ?_| refine st ?_| (first| refine b1 ?_ ?_| refine b2 ?_ ?_| refine Br.mk ?_ ?_) <;>intro hc| exact rfl) <;>conv=>whnf)
 obtain⟨b0,rfl,v0⟩:=T3.block u7
 refine AZ ?_
 obtain⟨p0,q0,rfl,r0,s0⟩:=T3.seq v0 rfl (fun _ _=>rfl) (fun _ _=>rfl)
 refine fv (ef hR vc hh r0.one ?_)
 (conv=>whnf);repeat' ((first| intro g| refine st ?_| (first| refine b1 ?_ ?_| refine b2 ?_ ?_| refine Br.mk ?_ ?_) <;>intro hc| exact rfl) <;>conv=>whnf)
 obtain⟨c0,d0,e0,rfl,o0,_,v1⟩:=T3.cond s0
 refine kf o0 rfl (fun h=>absurd h (by decide)) (fun _=> ?_)
 obtain⟨p1,q1,rfl,r1,s1⟩:=T3.seq v1 rfl (fun _ _=>rfl) (fun _ _=>rfl)
 refine fv (ef hR vc hh r1.one ?_)
 (conv=>whnf);repeat' ((first| intro g| refine st ?_| (first| refine b1 ?_ ?_| refine b2 ?_ ?_| refine Br.mk ?_ ?_) <;>intro hc| exact rfl) <;>conv=>whnf)
 obtain⟨c1,d1,e1,rfl,o1,_,v2⟩:=T3.cond s1
 refine kf o1 rfl (fun h=>absurd h (by decide)) (fun _=> ?_)
 obtain⟨p2,q2,rfl,r2,s2⟩:=T3.seq v2 rfl (fun _ _=>rfl) (fun _ _=>rfl)
 refine fv (ef hR vc hh r2.one ?_)
 (conv=>whnf);repeat' ((first| intro g| refine st ?_| (first| refine b1 ?_ ?_| refine b2 ?_ ?_| refine Br.mk ?_ ?_) <;>intro hc| exact rfl) <;>conv=>whnf)
 obtain⟨c2,d2,e2,rfl,o2,_,v3⟩:=T3.cond s2
 refine kf o2 rfl (fun h=>absurd h (by decide)) (fun _=> ?_)
 obtain⟨p3,q3,rfl,r3,s3⟩:=T3.seq v3 rfl (fun _ _=>rfl) (fun _ _=>rfl)
 refine fv (ef hR vc hh r3.one ?_)
 (conv=>whnf);repeat' ((first| intro g| refine st ?_| (first| refine b1 ?_ ?_| refine b2 ?_ ?_| refine Br.mk ?_ ?_) <;>intro hc| exact rfl) <;>conv=>whnf)
 obtain⟨c3,d3,e3,rfl,o3,_,v4⟩:=T3.cond s3
 refine kf o3 rfl (fun h=>absurd h (by decide)) (fun _=> ?_)
 obtain⟨p4,q4,rfl,r4,s4⟩:=T3.seq v4 rfl (fun _ _=>rfl) (fun _ _=>rfl)
 refine fv (ef hR vc hh r4.one ?_)
 (conv=>whnf);repeat' ((first| intro g| refine st ?_| (first| refine b1 ?_ ?_| refine b2 ?_ ?_| refine Br.mk ?_ ?_) <;>intro hc| exact rfl) <;>conv=>whnf)
 obtain⟨c4,d4,e4,rfl,o4,_,v5⟩:=T3.cond s4
 refine kf o4 rfl (fun h=>absurd h (by decide)) (fun _=> ?_)
 obtain⟨p5,q5,rfl,r5,s5⟩:=T3.seq v5 rfl (fun _ _=>rfl) (fun _ _=>rfl)
 refine fv (ef hR vc hh r5.one ?_)
 (conv=>whnf);repeat' ((first| intro g| refine st ?_| (first| refine b1 ?_ ?_| refine b2 ?_ ?_| refine Br.mk ?_ ?_) <;>intro hc| exact rfl) <;>conv=>whnf)
 obtain⟨c5,d5,e5,rfl,o5,_,v6⟩:=T3.cond s5
 refine kf o5 rfl (fun h=>absurd h (by decide)) (fun _=> ?_)
 obtain⟨p6,q6,rfl,r6,s6⟩:=T3.seq v6 rfl (fun _ _=>rfl) (fun _ _=>rfl)
 refine fv (ef hR vc hh r6.one ?_)
 (conv=>whnf);repeat' ((first| intro g| refine st ?_| (first| refine b1 ?_ ?_| refine b2 ?_ ?_| refine Br.mk ?_ ?_) <;>intro hc| exact rfl) <;>conv=>whnf)
 obtain⟨c6,d6,e6,rfl,o6,_,v7⟩:=T3.cond s6
 refine kf o6 rfl (fun h=>absurd h (by decide)) (fun _=> ?_)
 obtain⟨p7,q7,rfl,r7,s7⟩:=T3.seq v7 rfl (fun _ _=>rfl) (fun _ _=>rfl)
 refine fv (ef hR vc hh r7.one ?_)
 (conv=>whnf);repeat' ((first| intro g| refine st ?_| (first| refine b1 ?_ ?_| refine b2 ?_ ?_| refine Br.mk ?_ ?_) <;>intro hc| exact rfl) <;>conv=>whnf)
 obtain⟨c7,d7,e7,rfl,o7,_,v8⟩:=T3.cond s7
 refine kf o7 rfl (fun h=>absurd h (by decide)) (fun _=> ?_)
 obtain⟨p8,q8,rfl,r8,s8⟩:=T3.seq v8 rfl (fun _ _=>rfl) (fun _ _=>rfl)
 refine fv (ef hR vc hh r8.one ?_)
 (conv=>whnf);repeat' ((first| intro g| refine st ?_| (first| refine b1 ?_ ?_| refine b2 ?_ ?_| refine Br.mk ?_ ?_) <;>intro hc| exact rfl) <;>conv=>whnf)
 obtain⟨b1,rfl,v9⟩:=T3.block s8
 refine AZ ?_
 obtain⟨b2,rfl,v10⟩:=T3.loop v9
 have hpw:V.ae ws=true:=by rw[RB];exact hp
 have hP:V.ae (vs++dV ws (30+n))=true:=eK Nz (F4 hpw _)
 have e0:vs++dV ws 0=[]++vs:=by simp[dV]
 have e1:vs.length+0=0+vs.length:=by omega
 refine Lh (sV vs ws g n j) (P8 n) (M8 n) (0,true,0,0) ?_ (Nat.zero_le _) ?_
 · simp only[sV,e0,e1]
   (refine⟨?_,?_⟩ <;>repeat' (first| exact True.intro| refine ai ?_| refine And.intro ?_ ?_))
 rintro⟨k,ip,g2,k0⟩ hk
 have Hu:k≤30+n:=hk
 have lv: (vs++dV ws k).length=vs.length+k:=by rw[List.length_append,kV]
 by_cases bY:k< 30+n
 · cases ip with
   | true=>
     refine DU (L:=vs++dV ws k) (r:=97) hR v10 (by decide) rfl rfl (nI g) (nJ g) ?_ ?_
     · rw[lv,RB];exact Pj bY hn hp hx
     · rw[lv,RB];exact Pk bY hn hv hp hx
   | false=>
     refine ef hR vc hh v10.one ?_
     rw[RB];exact Pl bY hn hv hp hx
 · obtain rfl:k=30+n:=by omega
   cases ip with
   | true=>
     refine DU (L:=vs++dV ws (30+n)) (r:=97) hR v10 (by decide) rfl rfl (nI g) (nJ g) ?_ ?_
     · rw[lv];exact WL hn fun S hS=>xO hS (ef hR vc hh u6.one (Lf hP))
     · rw[lv];exact WM hn fun S hS=>xO hS (ef hR vc hh u6.one (Lf hP))
   | false=>
     exact ef hR vc hh v10.one (WN hn fun S hS=>xO hS (ef hR vc hh u6.one (WO hP)))
end Go.AM
