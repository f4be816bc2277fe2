/-
  Texts of the proof, joined by program: QaH, QaI, QaK. Own work.
-/
import Derived.Test.YtgkdgapmmkkcaaaGreatXc
import Derived.Test.YtgkdgapmmkkcaaaGreatXd
set_option linter.unusedSimpArgs false
set_option linter.unusedVariables false
set_option maxRecDepth 20000
namespace Go.AM
def eZ (l:List eX):Nat→List eX
 | 0=> []
 | k+1=>jA (eZ l k) (l.getD k [])
theorem DY (l:List eX) (s:eX): (jA l s).length≤l.length+1:=by
 unfold jA;split
 · omega
 · have:=tI l s l.length
   simp;omega
theorem qE (l:List eX): ∀k,(eZ l k).length≤k
 | 0=>Nat.le_refl _
 | k+1=>by
   have:=qE l k
   have:=DY (eZ l k) (l.getD k [])
   unfold eZ;omega
def outs (A:List En) (k i j:Nat):List Kn:=
 [⟨1,gj (A.map En.kind) k,dA (A.map En.kind) k,[]⟩,⟨2,0,0,eZ (A.map En.cls) i⟩,⟨3,0,0,eZ (A.map En.name) j⟩,⟨4,gj (A.map En.weight) k,dA (A.map En.weight) k,[]⟩,
   ⟨5,gj (A.map En.level) k,dA (A.map En.level) k,[]⟩,⟨6,gj (A.map fun x=>zt x.cZ) k,dA (A.map fun x=>zt x.cZ) k,[]⟩]
def mid (A:List En) (k n:Nat):List Kn:=(outs A (k+1) k k).take n++(outs A k k k).drop n
theorem Ut {A:List En} {f:En→Int} {x:En} {k:Nat} (hx:A[k]? =some x):gj (A.map f) (k+1)=if k=0∨f x<gj (A.map f) k then f x else gj (A.map f) k:=by
 rw[gj,ko (l:=A.map f) (x:=f x) (by simp[hx])]
theorem LY {A:List En} {f:En→Int} {x:En} {k:Nat} (hx:A[k]? =some x):dA (A.map f) (k+1)=if k=0∨dA (A.map f) k<f x then f x else dA (A.map f) k:=by
 rw[dA,ko (l:=A.map f) (x:=f x) (by simp[hx])]
theorem Aq (A:List En) (k n:Nat) (h:n≤6): (mid A k n).length=6:=by
 simp[mid,outs];omega
theorem He {A:List En} {x:En} {k n:Nat} {lo hi:Int} (hx:A[k]? =some x) (hn:n< 6)
   (h1:lo=(if k=0∨[x.kind,0,0,x.weight,x.level,zt x.cZ].getD n 0 < ((mid A k n).getD n kd).low then [x.kind,0,0,x.weight,x.level,zt x.cZ].getD n 0 else((mid A k n).getD n kd).low))
   (h2:hi=(if k=0∨((mid A k n).getD n kd).high< [x.kind,0,0,x.weight,x.level,zt x.cZ].getD n 0 then [x.kind,0,0,x.weight,x.level,zt x.cZ].getD n 0 else((mid A k n).getD n kd).high)):
   (mid A k n).set n ⟨((mid A k n).getD n kd).var,lo,hi,((mid A k n).getD n kd).texts⟩=mid A k (n+1):=by
 have e: ∀f:En→Int,_:=fun f=>Ut (f:=f) hx
 have e': ∀f:En→Int,_:=fun f=>LY (f:=f) hx
 rcases(by omega:n=0∨n=1∨n=2∨n=3∨n=4∨n=5) with rfl| rfl| rfl| rfl| rfl| rfl
 · subst h1;subst h2
   simp only[mid,outs,e,e'];rfl
 · have tU:lo=0:=by rw[h1];simp[mid,outs]
   have yL:hi=0:=by rw[h2];simp[mid,outs]
   rw[tU,yL];rfl
 · have tU:lo=0:=by rw[h1];simp[mid,outs]
   have yL:hi=0:=by rw[h2];simp[mid,outs]
   rw[tU,yL];rfl
 · subst h1;subst h2
   simp only[mid,outs,e,e'];rfl
 · subst h1;subst h2
   simp only[mid,outs,e,e'];rfl
 · subst h1;subst h2
   simp only[mid,outs,e,e'];rfl
set_option maxHeartbeats 4000000 in
theorem LZ {A:List En} {x:En} {k g5 G0 rX:Nat} {ns:Obj} {Q:aY→SS→Prop} (hx:A[k]? =some x) (hk:k<A.length) (LX:A.length< 1000000)
   (hQ: ∀T' O' Uu,SS.Sub ⟨[(5,.sl 97 g5 0 A.length),(10,.sl 177 G0 0 3),(11,.sl 193 Uu 0 6),(12,aT (k+1))],
     [(97,⟨g5,9,true,false,some (A.map En.v)⟩),(177,ns),(193,⟨Uu,4,true,false,some ((outs A (k+1) (k+1) (k+1)).map Kn.v)⟩)]⟩ ⟨T',O'⟩→Q .normal ⟨T',O'⟩):
   oE E zH ⟨[(5,.sl 97 g5 0 A.length),(10,.sl 177 G0 0 3),(11,.sl 193 rX 0 6),(12,aT k)],
     [(97,⟨g5,9,true,false,some (A.map En.v)⟩),(177,ns),(193,⟨rX,4,true,false,some ((outs A k k k).map Kn.v)⟩)]⟩ Q:=by
 have Fo:=Ap (l:=eZ (A.map En.cls) k) x.cls (by have:=qE (A.map En.cls) k;omega)
 have Fq:=Ap (l:=eZ (A.map En.name) k) x.name (by have:=qE (A.map En.name) k;omega)
 have e1:eZ (A.map En.cls) (k+1)=jA (eZ (A.map En.cls) k) x.cls:=by rw[eZ,Gh (x:=x.cls) (by simp[hx])]
 have e2:eZ (A.map En.name) (k+1)=jA (eZ (A.map En.name) k) x.name:=by rw[eZ,Gh (x:=x.name) (by simp[hx])]
 cases mh:x.cZ
 · have hb:zt x.cZ=0:=by rw[mh];rfl
   (conv=>whnf);repeat' ((first| intro g| refine aL.mk _ (au hx rfl) ?_| refine st ?_| (first| refine b1 ?_ ?_| refine b2 ?_ ?_| refine Br.mk ?_ ?_) <;>intro hc| exact rfl) <;>conv=>whnf)
   rename_i DZ
   refine ba.by (fun ((n,K):Nat×List Kn)=> ⟨[(5,.sl 97 g5 0 A.length),(10,.sl 177 G0 0 3),(11,.sl 193 rX 0 6),(12,aT k),(13,.ptr 224 DZ 0 0),(14,.ptr 240 g 0 0),(15,aT n)],
     [(97,⟨g5,9,true,false,some (A.map En.v)⟩),(177,ns),(193,⟨rX,4,true,false,some (K.map Kn.v)⟩),(224,⟨DZ,9,false,false,some [x.v]⟩),(240,⟨g,6,false,false,some [.agg [vi x.kind,vi 0,vi 0,vi x.weight,vi x.level,vi 0]]⟩)]⟩)
     (fun (n,K)=>n≤6∧K=mid A k n) (fun (n,_)=>6 - n) (0,outs A k k k) (by(refine⟨?_,?_⟩ <;>repeat' (first| exact True.intro| refine ai ?_| refine And.intro ?_ ?_))) ⟨by simp,rfl⟩ ?_
   rintro⟨n,K⟩ ⟨hn,hK⟩
   try dsimp only at hn hK
   subst hK
   by_cases bA:n< 6
   · exact DX (Aq A k n hn) bA _ fun T' O' lo hi h1 h2 hs=>bI.mk (n+1,(mid A k n).set n ⟨((mid A k n).getD n kd).var,lo,hi,((mid A k n).getD n kd).texts⟩) (by first| omega| (dsimp only;omega)) ⟨(by first| omega| (dsimp only;omega)),He hx bA (by rw[hb];exact h1) (by rw[hb];exact h2)⟩ hs
   obtain rfl:n=6:=by omega
   have hm:mid A k 6=outs A (k+1) k k:=rfl
   rw[hm]
   clear hm bA hn
   dsimp only[outs,List.map_cons,List.map_nil]
   dsimp only[outs,List.map_cons,List.map_nil] at hQ
   rw[e1,e2] at hQ
   split at Fo<;>split at Fq
   all_goals
     (conv=>whnf);repeat' ((first| intro g| refine dC.mk (dW _) ?_| refine ag.mk _ (Fo) ?_| refine ag.mk _ (Fq) ?_| refine st ?_| (first| refine b1 ?_ ?_| refine b2 ?_ ?_| refine Br.mk ?_ ?_) <;>intro hc| exact rfl) <;>conv=>whnf)
     exact hQ _ _ _ (by(refine⟨?_,?_⟩ <;>repeat' (first| exact True.intro| refine ai ?_| refine And.intro ?_ ?_)))
 · have hb:zt x.cZ=1:=by rw[mh];rfl
   (conv=>whnf);repeat' ((first| intro g| refine aL.mk _ (au hx rfl) ?_| refine st ?_| (first| refine b1 ?_ ?_| refine b2 ?_ ?_| refine Br.mk ?_ ?_) <;>intro hc| exact rfl) <;>conv=>whnf)
   rename_i DZ
   refine ba.by (fun ((n,K):Nat×List Kn)=> ⟨[(5,.sl 97 g5 0 A.length),(10,.sl 177 G0 0 3),(11,.sl 193 rX 0 6),(12,aT k),(13,.ptr 224 DZ 0 0),(14,.ptr 240 g 0 0),(15,aT n)],
     [(97,⟨g5,9,true,false,some (A.map En.v)⟩),(177,ns),(193,⟨rX,4,true,false,some (K.map Kn.v)⟩),(224,⟨DZ,9,false,false,some [x.v]⟩),(240,⟨g,6,false,false,some [.agg [vi x.kind,vi 0,vi 0,vi x.weight,vi x.level,vi 1]]⟩)]⟩)
     (fun (n,K)=>n≤6∧K=mid A k n) (fun (n,_)=>6 - n) (0,outs A k k k) (by(refine⟨?_,?_⟩ <;>repeat' (first| exact True.intro| refine ai ?_| refine And.intro ?_ ?_))) ⟨by simp,rfl⟩ ?_
   rintro⟨n,K⟩ ⟨hn,hK⟩
   try dsimp only at hn hK
   subst hK
   by_cases bA:n< 6
   · exact DX (Aq A k n hn) bA _ fun T' O' lo hi h1 h2 hs=>bI.mk (n+1,(mid A k n).set n ⟨((mid A k n).getD n kd).var,lo,hi,((mid A k n).getD n kd).texts⟩) (by first| omega| (dsimp only;omega)) ⟨(by first| omega| (dsimp only;omega)),He hx bA (by rw[hb];exact h1) (by rw[hb];exact h2)⟩ hs
   obtain rfl:n=6:=by omega
   have hm:mid A k 6=outs A (k+1) k k:=rfl
   rw[hm]
   clear hm bA hn
   dsimp only[outs,List.map_cons,List.map_nil]
   dsimp only[outs,List.map_cons,List.map_nil] at hQ
   rw[e1,e2] at hQ
   split at Fo<;>split at Fq
   all_goals
     (conv=>whnf);repeat' ((first| intro g| refine dC.mk (dW _) ?_| refine ag.mk _ (Fo) ?_| refine ag.mk _ (Fq) ?_| refine st ?_| (first| refine b1 ?_ ?_| refine b2 ?_ ?_| refine Br.mk ?_ ?_) <;>intro hc| exact rfl) <;>conv=>whnf)
     exact hQ _ _ _ (by(refine⟨?_,?_⟩ <;>repeat' (first| exact True.intro| refine ai ?_| refine And.intro ?_ ?_)))
end Go.AM
set_option maxRecDepth 20000
namespace Go.AM
noncomputable def zw (A:List En) (v:Vw):List Kn:=
 [⟨1,gj (A.map En.kind) A.length,dA (A.map En.kind) A.length,[]⟩,⟨2,0,0,eZ (A.map En.cls) A.length⟩,⟨3,0,0,eZ (A.map En.name) A.length⟩,⟨4,gj (A.map En.weight) A.length,Hd (dA (A.map En.weight) A.length),[]⟩,
   ⟨5,gj (A.map En.level) A.length,dA (A.map En.level) A.length,[]⟩,⟨6,gj (A.map fun x=>zt x.cZ) A.length,dA (A.map fun x=>zt x.cZ) A.length,[]⟩]++ie v
theorem W7 {v:Vw} (h: ¬zm v) {m:br}:Ev E 448 [m.v,v.v] ⟨.lit 4 [],[]⟩:=by
 have hs:=Am v
 rw[decide_eq_false h] at hs
 refine Ev.cY Gu (Gv _) rfl ?_
 (conv=>whnf);repeat' ((first| intro g| refine ag.mk _ (hs) ?_| refine st ?_| (first| refine b1 ?_ ?_| refine b2 ?_ ?_| refine Br.mk ?_ ?_) <;>intro hc| exact rfl) <;>conv=>whnf)
set_option maxHeartbeats 4000000 in
theorem LN {m:br} (v:Vw) (h1:m.bp.length< 10000) (h2:m.ways.length< 10000) (h3:m.aW.length< 10000) (hv:zm v):Ev E 448 [m.v,v.v] ⟨.own 4 ((if rN m=[] then ie v else zw (rN m) v).map Kn.v),[]⟩:=by
 have hs:=Am v
 rw[decide_eq_true hv] at hs
 obtain⟨⟨a1,a2,a3,a4⟩,a5,a6,a7,a8⟩:=hv
 have hq:=DS v.ux v.uy
 have hz:=BS (n:=Hc v.ux v.uy) (by omega) (by omega)
 refine Ev.cY Gu (Gv _) rfl ?_
 (conv=>whnf);repeat' ((first| intro g| refine ag.mk _ (hs) ?_| refine st ?_| (first| refine b1 ?_ ?_| refine b2 ?_ ?_| refine Br.mk ?_ ?_) <;>intro hc| exact rfl) <;>conv=>whnf)
 rename_i sI sJ
 refine ba.by (fun ((k,A,g):Nat×List En×Nat)=> ⟨[(2,.ptr 48 sI 0 0),(3,.ptr 64 sJ 0 0),(5,.sl 97 g 0 A.length),(6,aT k)],
    [(48,⟨sI,4,false,false,some [m.v]⟩),(64,⟨sJ,7,false,false,some [v.v]⟩),(97,⟨g,9,true,false,some (A.map En.v)⟩)]⟩)
   (fun (k,A,_)=>k≤m.bp.length∧A=(m.bp.map DQ).take k∧A.length≤0+k) (fun (k,_)=>m.bp.length - k) (0,[],g) (by(refine⟨?_,?_⟩ <;>repeat' (first| exact True.intro| refine ai ?_| refine And.intro ?_ ?_))) ⟨by simp,by simp,by simp⟩ ?_
 skip
 rintro⟨k,A,g⟩ ⟨hk,hA,hl⟩
 try dsimp only at hk hA hl
 by_cases bA:k<m.bp.length
 · obtain⟨f,hf⟩: ∃f,m.bp[k]? =some f:=⟨_,aJ bA⟩
   have he:=Ue f
   (conv=>whnf);repeat' ((first| intro g| refine aL.mk _ (au hf rfl) ?_| refine ag.mk _ (he) ?_| refine st ?_| (first| refine b1 ?_ ?_| refine b2 ?_ ?_| refine Br.mk ?_ ?_) <;>intro hc| exact rfl) <;>conv=>whnf)
   exact bI.mk (k+1,A++[DQ f],g) (by first| omega| (dsimp only;omega)) ⟨(by first| omega| (dsimp only;omega)),by rw[tk hf,hA],by simp;omega⟩ (by(refine⟨?_,?_⟩ <;>repeat' (first| exact True.intro| refine ai ?_| refine And.intro ?_ ?_)))
 obtain rfl:k=m.bp.length:=by omega
 rw[List.take_of_length_le (by simp)] at hA
 (conv=>whnf);repeat' ((first| intro g| refine st ?_| (first| refine b1 ?_ ?_| refine b2 ?_ ?_| refine Br.mk ?_ ?_) <;>intro hc| exact rfl) <;>conv=>whnf)
 refine ba.by (fun ((k,A,g):Nat×List En×Nat)=> ⟨[(2,.ptr 48 sI 0 0),(3,.ptr 64 sJ 0 0),(5,.sl 97 g 0 A.length),(7,aT k)],
    [(48,⟨sI,4,false,false,some [m.v]⟩),(64,⟨sJ,7,false,false,some [v.v]⟩),(97,⟨g,9,true,false,some (A.map En.v)⟩)]⟩)
   (fun (k,A,_)=>k≤m.ways.length∧A=m.bp.map DQ++(m.ways.map Ge).take k∧A.length≤10000+k) (fun (k,_)=>m.ways.length - k) (0,A,g) (by(refine⟨?_,?_⟩ <;>repeat' (first| exact True.intro| refine ai ?_| refine And.intro ?_ ?_))) ⟨by simp,by simp[hA],by(first| omega| (dsimp only;omega))⟩ ?_
 clear hA hl A g
 rintro⟨k,A,g⟩ ⟨hk,hA,hl⟩
 try dsimp only at hk hA hl
 by_cases bA:k<m.ways.length
 · obtain⟨f,hf⟩: ∃f,m.ways[k]? =some f:=⟨_,aJ bA⟩
   have he:=Uf f
   (conv=>whnf);repeat' ((first| intro g| refine aL.mk _ (au hf rfl) ?_| refine ag.mk _ (he) ?_| refine st ?_| (first| refine b1 ?_ ?_| refine b2 ?_ ?_| refine Br.mk ?_ ?_) <;>intro hc| exact rfl) <;>conv=>whnf)
   exact bI.mk (k+1,A++[Ge f],g) (by first| omega| (dsimp only;omega)) ⟨(by first| omega| (dsimp only;omega)),by rw[tk hf,hA];simp,by simp;omega⟩ (by(refine⟨?_,?_⟩ <;>repeat' (first| exact True.intro| refine ai ?_| refine And.intro ?_ ?_)))
 obtain rfl:k=m.ways.length:=by omega
 rw[List.take_of_length_le (by simp)] at hA
 (conv=>whnf);repeat' ((first| intro g| refine st ?_| (first| refine b1 ?_ ?_| refine b2 ?_ ?_| refine Br.mk ?_ ?_) <;>intro hc| exact rfl) <;>conv=>whnf)
 refine ba.by (fun ((k,A,g):Nat×List En×Nat)=> ⟨[(2,.ptr 48 sI 0 0),(3,.ptr 64 sJ 0 0),(5,.sl 97 g 0 A.length),(8,aT k)],
    [(48,⟨sI,4,false,false,some [m.v]⟩),(64,⟨sJ,7,false,false,some [v.v]⟩),(97,⟨g,9,true,false,some (A.map En.v)⟩)]⟩)
   (fun (k,A,_)=>k≤m.aW.length∧A=m.bp.map DQ++m.ways.map Ge++(m.aW.map LQ).take k∧A.length≤20000+k) (fun (k,_)=>m.aW.length - k) (0,A,g) (by(refine⟨?_,?_⟩ <;>repeat' (first| exact True.intro| refine ai ?_| refine And.intro ?_ ?_))) ⟨by simp,by simp[hA],by(first| omega| (dsimp only;omega))⟩ ?_
 clear hA hl A g
 rintro⟨k,A,g⟩ ⟨hk,hA,hl⟩
 try dsimp only at hk hA hl
 by_cases bA:k<m.aW.length
 · obtain⟨f,hf⟩: ∃f,m.aW[k]? =some f:=⟨_,aJ bA⟩
   have he:=Ug f
   (conv=>whnf);repeat' ((first| intro g| refine aL.mk _ (au hf rfl) ?_| refine ag.mk _ (he) ?_| refine st ?_| (first| refine b1 ?_ ?_| refine b2 ?_ ?_| refine Br.mk ?_ ?_) <;>intro hc| exact rfl) <;>conv=>whnf)
   exact bI.mk (k+1,A++[LQ f],g) (by first| omega| (dsimp only;omega)) ⟨(by first| omega| (dsimp only;omega)),by rw[tk hf,hA];simp,by simp;omega⟩ (by(refine⟨?_,?_⟩ <;>repeat' (first| exact True.intro| refine ai ?_| refine And.intro ?_ ?_)))
 obtain rfl:k=m.aW.length:=by omega
 rw[List.take_of_length_le (by simp)] at hA
 have G6:rN m=A:=hA.symm
 rw[G6]
 clear hA G6
 have LX:A.length< 1000000:=by omega
 clear hl h1 h2 h3 bA hk
 by_cases h0:A.length=0
 · have:A=[]:=List.length_eq_zero_iff.1 h0
   subst this
   rw[if_pos rfl]
   (conv=>whnf);repeat' ((first| intro g| refine ag.mk _ (hq) ?_| refine ag.mk _ (hz) ?_| refine st ?_| (first| refine b1 ?_ ?_| refine b2 ?_ ?_| refine Br.mk ?_ ?_) <;>intro hc| exact rfl) <;>conv=>whnf)
 rw[if_neg (fun h=>h0 (by rw[h];rfl))]
 (conv=>whnf);repeat' ((first| intro g| refine ag.mk _ (hq) ?_| refine ag.mk _ (hz) ?_| refine st ?_| (first| refine b1 ?_ ?_| refine b2 ?_ ?_| refine Br.mk ?_ ?_) <;>intro hc| exact rfl) <;>conv=>whnf)
 rename_i g5 _ Uv _
 refine ba.by (fun ((k,g):Nat×Nat)=> ⟨[(5,.sl 97 g5 0 A.length),(10,.sl 177 Uv 0 3),(11,.sl 193 g 0 6),(12,aT k)],
    [(97,⟨g5,9,true,false,some (A.map En.v)⟩),(177,⟨Uv,4,true,false,some ((ie v).map Kn.v)⟩),(193,⟨g,4,true,false,some ((outs A k k k).map Kn.v)⟩)]⟩)
   (fun (k,_)=>k≤A.length) (fun (k,_)=>A.length - k) (0,g) (by(refine⟨?_,?_⟩ <;>repeat' (first| exact True.intro| refine ai ?_| refine And.intro ?_ ?_))) (by simp) ?_
 rintro⟨k,g⟩ hk
 try dsimp only at hk
 by_cases bA:k<A.length
 · obtain⟨x,hx⟩: ∃x,A[k]? =some x:=⟨_,aJ bA⟩
   exact LZ hx bA LX fun T' O' g' hs=>bI.mk (k+1,g') (by first| omega| (dsimp only;omega)) (by first| omega| (dsimp only;omega)) hs
 obtain rfl:k=A.length:=by omega
 dsimp only[ie,outs,List.map_cons,List.map_nil]
 (conv=>whnf);repeat' ((first| intro g| refine dC.mk (dW _) ?_| refine st ?_| (first| refine b1 ?_ ?_| refine b2 ?_ ?_| refine Br.mk ?_ ?_) <;>intro hc| exact rfl) <;>conv=>whnf)
end Go.AM
set_option maxRecDepth 20000
namespace Go.AM
theorem D0: ∀ (x y:eX),Op.bytesLess x y=decide (x<y)
 | [],[]=>by simp[Op.bytesLess]
 | _::_,[]=>by simp[Op.bytesLess]
 | [],_::_=>by simp[Op.bytesLess]
 | a::x,b::y=>by
   rw[Op.bytesLess,D0 x y]
   simp only[List.cons_lt_cons_iff]
   by_cases h1:a<b<;>by_cases h2:a=b<;>by_cases h3:x<y<;>simp[h1,h2,h3]
abbrev um (l:List eX):Prop:=l.Pairwise (fun a b=>a<b)
theorem D1 (a:eX): ¬a<a:=List.lt_irrefl a
theorem D2 {a b c:eX} (h:a<b) (k:b<c):a<c:=List.lt_trans h k
theorem L0 {a b:eX} (h: ¬b<a) (k:a≠b):a<b:=by
 rcases Classical.em (a<b) with h1| h1
 · exact h1
 · exact absurd (List.le_antisymm h h1) k
theorem xS: ∀ {a b:List eX},um a→um b→(∀x,x ∈ a↔x ∈ b)→a=b
 | [],[],_,_,_=>rfl
 | [],y::ys,_,_,h=>absurd ((h y).2 (by simp)) (by simp)
 | x::xs,[],_,_,h=>absurd ((h x).1 (by simp)) (by simp)
 | x::xs,y::ys,ha,hb,h=>by
   rw[um,List.pairwise_cons] at ha hb
   have e:x=y:=by
     rcases List.mem_cons.1 ((h x).1 (by simp)) with e| h1
     · exact e
     · rcases List.mem_cons.1 ((h y).2 (by simp)) with e| h2
       · exact e.symm
       · exact absurd (D2 (ha.1 y h2) (hb.1 x h1)) (D1 x)
   subst e
   congr 1
   refine xS ha.2 hb.2 fun z=> ⟨fun hz=> ?_,fun hz=> ?_⟩
   · rcases List.mem_cons.1 ((h z).1 (by simp[hz])) with e| h1
     · subst e;exact absurd (ha.1 z hz) (D1 z)
     · exact h1
   · rcases List.mem_cons.1 ((h z).2 (by simp[hz])) with e| h1
     · subst e;exact absurd (hb.1 z hz) (D1 z)
     · exact h1
theorem xU (l:List eX) (s:eX): ∀k i,putAt l s k≤i→i<k→ ¬l.getD i [] <s
 | 0,i,_,h=>by omega
 | k+1,i,h,hi=>by
   unfold putAt at h
   rw[D0] at h
   split at h
   · omega
   · rename_i hk
     by_cases e:i=k
     · subst e;simpa using hk
     · exact xU l s k i h (by omega)
theorem xV (l:List eX) (s:eX): ∀k,0 <putAt l s k→l.getD (putAt l s k - 1) [] <s
 | 0,h=>by simp[putAt] at h
 | k+1,h=>by
   unfold putAt at h ⊢
   rw[D0] at h ⊢
   split
   · rename_i hk;simpa using hk
   · rename_i hk
     rw[if_neg hk] at h
     exact xV l s k h
theorem Ar {l:List eX} (h:um l) {i j:Nat} (UO:i<j) (hj:j<l.length):l.getD i [] <l.getD j []:=by
 have:=List.pairwise_iff_getElem.1 h i j (by omega) hj UO
 simpa [List.getD_eq_getElem?_getD,show i<l.length by omega,hj] using this
theorem wj {l:List eX} {x:eX} (h:x ∈ l): ∃i,i<l.length∧l.getD i []=x:=by
 obtain⟨i,hi,rfl⟩:=List.getElem_of_mem h
 exact⟨i,hi,by simp[List.getD_eq_getElem?_getD,hi]⟩
theorem D3 {l:List eX} {s:eX} (h:um l):um (jA l s)∧ ∀x,x ∈ jA l s↔x ∈ l∨x=s:=by
 unfold jA
 generalize hp:putAt l s l.length=p
 have hle:p≤l.length:=by rw[←hp];exact tI l s _
 have pR: ∀i,p≤i→i<l.length→ ¬l.getD i [] <s:=fun i h1 h2=>xU l s l.length i (by omega) h2
 have bA:0 <p→l.getD (p - 1) [] <s:=fun h0=>by have:=xV l s l.length (by omega);rwa [hp] at this
 split
 · rename_i hs
   refine⟨h,fun x=> ⟨.inl,fun h=>h.elim id fun e=> ?_⟩⟩
   subst e;exact List.mem_of_getElem? hs
 · rename_i hs
   have ht: ∀x ∈ l.take p,x<s:=fun x hx=>by
     obtain⟨i,hi,rfl⟩:=wj hx
     simp only[List.length_take] at hi
     have Uw: (l.take p).getD i []=l.getD i []:=by simp[List.getD_eq_getElem?_getD,List.getElem?_take,show i<p by omega]
     rw[Uw]
     by_cases e:i=p - 1
     · subst e;exact bA (by omega)
     · exact D2 (Ar h (show i<p - 1 by omega) (by omega)) (bA (by omega))
   have hd: ∀x ∈ l.drop p,s<x:=fun x hx=>by
     obtain⟨i,hi,rfl⟩:=wj hx
     simp only[List.length_drop] at hi
     have Uw: (l.drop p).getD i []=l.getD (p+i) []:=by simp[List.getD_eq_getElem?_getD,List.getElem?_drop]
     rw[Uw]
     have QD:s<l.getD p []:=L0 (pR p (Nat.le_refl _) (by omega)) fun e=>hs (by
       rw[e];simp[List.getD_eq_getElem?_getD,show p<l.length by omega])
     by_cases e:i=0
     · subst e;exact QD
     · exact D2 QD (Ar h (show p<p+i by omega) (by omega))
   refine⟨?_,fun x=> ?_⟩
   · rw[um,List.append_assoc,List.pairwise_append]
     refine⟨h.sublist (List.take_sublist _ _),?_,fun a ha b hb=> ?_⟩
     · simp only[List.singleton_append,List.pairwise_cons]
       exact⟨hd,h.sublist (List.drop_sublist _ _)⟩
     · simp only[List.singleton_append,List.mem_cons] at hb
       rcases hb with rfl| hb
       · exact ht a ha
       · exact D2 (ht a ha) (hd b hb)
   · have e:x ∈ l↔x ∈ l.take p∨x ∈ l.drop p:=by rw[←List.mem_append,List.take_append_drop]
     rw[e]
     simp only[List.mem_append,List.mem_cons,List.not_mem_nil,or_false]
     constructor
     · rintro((h| h) | h)
       · exact .inl (.inl h)
       · exact .inr h
       · exact .inl (.inr h)
     · rintro((h| h) | h)
       · exact .inl (.inl h)
       · exact .inr h
       · exact .inl (.inr h)
theorem vd (l:List eX): ∀k,k≤l.length→um (eZ l k)∧ ∀x,x ∈ eZ l k↔x ∈ l.take k
 | 0,_=> ⟨List.Pairwise.nil,fun x=>by simp[eZ]⟩
 | k+1,hk=>by
   have ih:=vd l k (by omega)
   have h:=D3 (s:=l.getD k []) ih.1
   refine⟨h.1,fun x=> ?_⟩
   have hx:l.take (k+1)=l.take k++[l.getD k []]:=by
    rw[List.take_add_one,List.getElem?_eq_getElem (show k<l.length by omega)]
    simp[List.getD_eq_getElem?_getD,show k<l.length by omega]
   rw[eZ,h.2,ih.2,hx,List.mem_append,List.mem_singleton]
theorem xW {S:List eX} (h:S.Pairwise (fun a b=>xZ a b=true)): ∀t,t≤S.length→um (iD S t)∧ ∀x,x ∈ iD S t↔x ∈ S.take t
 | 0,_=> ⟨List.Pairwise.nil,fun x=>by simp[iD]⟩
 | t+1,ht=>by
   have ih:=xW h t (by omega)
   have hx:S.take (t+1)=S.take t++[S.getD t []]:=by
     rw[List.take_add_one,List.getElem?_eq_getElem (show t<S.length by omega)]
     simp[List.getD_eq_getElem?_getD,show t<S.length by omega]
   have le: ∀i j,i<j→j<S.length→ ¬S.getD j [] <S.getD i []:=fun i j UO hj=>by
     have:=List.pairwise_iff_getElem.1 h i j (by omega) hj UO
     simp only[xZ,decide_eq_true_eq] at this
     simpa [List.getD_eq_getElem?_getD,show i<S.length by omega,hj] using this
   rw[iD]
   split
   · rename_i hc
     refine⟨ih.1,fun x=> ?_⟩
     rw[ih.2,hx,List.mem_append]
     refine⟨.inl,fun h=>h.elim id fun h=> ?_⟩
     have e:x=S.getD t []:=by simpa using h
     rw[e,hc.2]
     have: (S.take t).getD (t - 1) []=S.getD (t - 1) []:=by simp[List.getD_eq_getElem?_getD,List.getElem?_take,show t - 1 <t by omega]
     rw[←this,List.getD_eq_getElem?_getD,List.getElem?_eq_getElem (show t - 1 < (S.take t).length by simp;omega)]
     exact List.getElem_mem _
   · rename_i hc
     refine⟨?_,fun x=>by rw[List.mem_append,ih.2,hx,List.mem_append]⟩
     rw[um,List.pairwise_append]
     refine⟨ih.1,List.pairwise_singleton _ _,fun a ha b hb=> ?_⟩
     have eb:b=S.getD t []:=by simpa using hb
     subst eb
     obtain⟨i,hi,rfl⟩:=wj ((ih.2 a).1 ha)
     simp only[List.length_take] at hi
     have Uw: (S.take t).getD i []=S.getD i []:=by simp[List.getD_eq_getElem?_getD,List.getElem?_take,show i<t by omega]
     rw[Uw]
     have q7:S.getD (t - 1) [] <S.getD t []:=L0 (le _ _ (by omega) (by omega)) fun e=>hc ⟨by omega,e.symm⟩
     by_cases e:i=t - 1
     · subst e;exact q7
     · have h1:=le i (t - 1) (by omega) (by omega)
       by_cases e2:S.getD i []=S.getD (t - 1) []
       · rw[e2];exact q7
       · exact D2 (L0 h1 e2) q7
theorem xX (l:List eX):eZ l l.length=Mt l:=by
 have hp:=vd l l.length (Nat.le_refl _)
 have hs:=xW (S:=iV l) (kB ur uu l) (iV l).length (Nat.le_refl _)
 refine xS hp.1 hs.1 fun x=> ?_
 show x ∈ eZ l l.length↔x ∈ iD (iV l) (iV l).length
 rw[hp.2,hs.2,List.take_length,List.take_length]
 exact((kA xZ l).mem_iff (a:=x)).symm
theorem BP (A:List En) (v:Vw):zw A v=vc A v:=by
 unfold zw vc
 have e1:=xX (A.map En.cls)
 have e2:=xX (A.map En.name)
 rw[List.length_map] at e1 e2
 rw[e1,e2]
end Go.AM
