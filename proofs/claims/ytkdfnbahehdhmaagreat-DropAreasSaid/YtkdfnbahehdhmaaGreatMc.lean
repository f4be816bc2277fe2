/-
  Texts of the proof, joined by program: SMadeH, SMadeI, SMadeJ. Own work.
-/
import Derived.Test.YtkdfnbahehdhmaaGreatMb
set_option linter.unusedSimpArgs false
set_option linter.unusedVariables false
set_option maxRecDepth 20000
namespace Go.AM
def pU (ls:List (List Int)):Prop:=ls.length< 9223372036854775808∧ ∀l ∈ ls,l.length< 9223372036854775808
theorem fC {ls:List (List Int)} {k:Nat} {l:List Int} (h:ls[k]? =some l): (ls.map dM)[((k:Nat):Int).toNat]? =some (dM l):=by simp[h]
def lN (r:eS):Prop:= ∃ (es:List Edge) (fs:List df),fB es 18∧fs.length≤36∧r=⟨.tuple [.lit 4 (es.map Edge.v),.own 5 (fs.map df.v)],[]⟩
set_option maxHeartbeats 4000000 in
theorem pV (ls:List (List Int)) {first second dk:List Int} (h1:first.length< 9223372036854775808) (h2:second.length< 9223372036854775808) (h3:dk.length< 9223372036854775808) {w h:Nat} (hw:w≤3) (hh:h≤2) (QP:1≤w) (hh1:1≤h) (S:SS) (gd go a0:Nat) (KY:List Int) (h6:KY.length=6)
   (hS:SS.Sub ⟨[(5,dM second),(6,dM dk),(7,.ptr 672 gd 0 0),(8,aM w),(9,aM h),(10,.ptr 176 go 0 0),(11,aM 0)],[(672,⟨gd,2,false,false,some [cz first a0]⟩),(176,⟨go,6,false,false,some [.agg (KY.map vi)]⟩)]⟩ S):
   a9 E u7 S (Cz 0 (thenS (v7 f83.results [dI ls] lN) fun S'=>oT E (yJ CI 11) S' (v7 f83.results [dI ls] lN))):=by
 refine QL h1 hw hh S gd go a0 KY h6 hS _ ?_
 intro a cs jc
 match cs,jc with
 | [x0,x1,x2,x3,x4,x5],_=>
   (conv=>whnf);repeat' ((first| intro g| refine st ?_| (refine bd.bo ?_;intro s) | (first| refine b1 ?_ ?_| refine b2 ?_ ?_| refine Br.mk ?_ ?_) <;>intro hc| exact rfl) <;>conv=>whnf)
   rename_i ge
   refine QM (gd:=gd) (go:=go) (ge:=ge) (ad:=a) (first:=first) (x0:=x0) (x1:=x1) (x2:=x2) (x3:=x3) (x4:=x4) (x5:=x5) h2 h3 hw hh _ 0 g (by(refine⟨?_,?_⟩ <;>repeat' (first| exact True.intro| refine ai ?_| refine And.intro ?_ ?_))) _ ?_
   intro es ae g7 he
   (conv=>whnf);repeat' ((first| intro g| refine st ?_| (refine bd.bo ?_;intro s) | (first| refine b1 ?_ ?_| refine b2 ?_ ?_| refine Br.mk ?_ ?_) <;>intro hc| exact rfl) <;>conv=>whnf)
   refine QO (gd:=gd) (go:=go) (ge:=ge) (ad:=a) (first:=first) (x0:=x0) (x1:=x1) (x2:=x2) (x3:=x3) (x4:=x4) (x5:=x5) h2 h3 hw hh _ es he ae g7 (by(refine⟨?_,?_⟩ <;>repeat' (first| exact True.intro| refine ai ?_| refine And.intro ?_ ?_))) _ ?_
   clear he es ae g7
   intro es ae g7 he
   have oV:=he.1
   have n2:=bI h1 2 (a:=a) (by omega) (by omega)
   have nw:=bI h1 w (a:=bF first a) (by omega) (by omega)
   have nh:=bI h1 h (a:=bF first (bF first a)) (by omega) (by omega)
   have bw:=dX (l:=first) (a:=bF first a) (n:=w) (by omega) (by omega)
   have bh:=dX (l:=first) (a:=bF first (bF first a)) (n:=h) (by omega) (by omega)
   generalize dp first (bF first a) w=i at nw bw
   generalize dp first (bF first (bF first a)) h=j at nh bh
   by_cases Xy:dp first a 2=1
   · rcases(by omega:i=0∨i=1∨i=2) with rfl| rfl| rfl<;>rcases(by omega:j=0∨j=1) with rfl| rfl
     all_goals
      (conv=>whnf);repeat' ((first| intro g| refine ak.mk _ (n2) ?_| refine ak.mk _ (nw) ?_| refine ak.mk _ (nh) ?_| refine st ?_| (refine bd.bo ?_;intro s) | (first| refine b1 ?_ ?_| refine b2 ?_ ?_| refine Br.mk ?_ ?_) <;>intro hc| exact rfl) <;>conv=>whnf)
      refine ak.ex (AU h3 he (by omega) ⟨_,_⟩ (by constructor<;>constructor<;>decide) _ _) ?_
      rintro _ ⟨es',ae',b,tL,rfl⟩
      have YT:=tL.1
      (conv=>whnf);repeat' ((first| intro g| refine st ?_| (refine bd.bo ?_;intro s) | (first| refine b1 ?_ ?_| refine b2 ?_ ?_| refine Br.mk ?_ ?_) <;>intro hc| exact rfl) <;>conv=>whnf)
      refine ak.ex (wi (es:=es') (by omega)) ?_
      rintro _ ⟨fs,YU,rfl⟩
      (conv=>whnf);repeat' ((first| intro g| refine st ?_| (refine bd.bo ?_;intro s) | (first| refine b1 ?_ ?_| refine b2 ?_ ?_| refine Br.mk ?_ ?_) <;>intro hc| exact rfl) <;>conv=>whnf)
      exact⟨es',fs,tL,by omega,rfl⟩
   · (conv=>whnf);repeat' ((first| intro g| refine ak.mk _ (n2) ?_| refine st ?_| (refine bd.bo ?_;intro s) | (first| refine b1 ?_ ?_| refine b2 ?_ ?_| refine Br.mk ?_ ?_) <;>intro hc| exact rfl) <;>conv=>whnf)
     refine ak.ex (wi (es:=es) (by omega)) ?_
     rintro _ ⟨fs,YU,rfl⟩
     (conv=>whnf);repeat' ((first| intro g| refine st ?_| (refine bd.bo ?_;intro s) | (first| refine b1 ?_ ?_| refine b2 ?_ ?_| refine Br.mk ?_ ?_) <;>intro hc| exact rfl) <;>conv=>whnf)
     exact⟨es,fs,he.mono (by omega),by omega,rfl⟩
set_option maxHeartbeats 4000000 in
theorem AV {ls:List (List Int)} (hs:pU ls): ∃res,Ev E 83 [dI ls] res∧lN res:=by
 refine Ev.bT U4 (U5 _) rfl ?_
 have hl:=hs.1
 have key: ∀k,k<ls.length→ ∃l,ls[k]? =some l∧l.length< 9223372036854775808:=fun k hk=> ⟨_,bu hk,hs.2 _ (List.getElem_mem hk)⟩
 have gen: ∀ (first second dk:List Int),first.length< 9223372036854775808→second.length< 9223372036854775808→dk.length< 9223372036854775808→
    (0 <ls.length→ls[0]? =some first)→(1 <ls.length→ls[1]? =some second)→(2 <ls.length→ls[2]? =some dk)→(ls.length≤0→first=[])→(ls.length≤1→second=[])→(ls.length≤2→dk=[])→
    oT E f83.body (u4 [dI ls]) (v7 f83.results [dI ls] lN):=by
  intro first second dk h1 h2 h3 k1 k2 k3 e1 e2 e3
  have n3:=bI h1 3 (a:=0) (by omega) (by omega)
  have n2:=bI h1 2 (a:=bF first 0) (by omega) (by omega)
  have b3:=dX (l:=first) (a:=0) (n:=3) (by omega) (by omega)
  have b2:=dX (l:=first) (a:=bF first 0) (n:=2) (by omega) (by omega)
  generalize dp first 0 3=r3 at n3 b3
  generalize dp first (bF first 0) 2=r2 at n2 b2
  have w3:IntKind.i64.wrap (1+(r3:Int))=((1+r3:Nat):Int):=(wrap64 (by omega) (by omega)).trans (by omega)
  have w2:IntKind.i64.wrap (1+(r2:Int))=((1+r2:Nat):Int):=(wrap64 (by omega) (by omega)).trans (by omega)
  have f3:V.int .i64 (IntKind.i64.wrap (1+(r3:Int)))=aM (1+r3):=by rw[w3]
  have f2:V.int .i64 (IntKind.i64.wrap (1+(r2:Int)))=aM (1+r2):=by rw[w2]
  have fin: ∀ (S:SS) (gd go:Nat),SS.Sub ⟨[(5,dM second),(6,dM dk),(7,.ptr 672 gd 0 0),(8,V.int .i64 (IntKind.i64.wrap (1+(r3:Int)))),(9,if IntKind.i64.wrap (1+(r3:Int))=3 then vi 1 else V.int .i64 (IntKind.i64.wrap (1+(r2:Int)))),(10,.ptr 176 go 0 0),(11,vi 0)],
      [(672,⟨gd,2,false,false,some [cz first (bF first (bF first 0))]⟩),(176,⟨go,6,false,false,some [.agg [vi 0,vi 0,vi 0,vi 0,vi 0,vi 0]]⟩)]⟩ S→
      a9 E u7 S (Cz 0 (thenS (v7 f83.results [dI ls] lN) fun S'=>oT E (yJ CI 11) S' (v7 f83.results [dI ls] lN))):=by
    intro S gd go hS
    by_cases hc:IntKind.i64.wrap (1+(r3:Int))=3
    · rw[f3,if_pos hc] at hS
      exact pV (w:=1+r3) (h:=1) ls h1 h2 h3 (by omega) (by omega) (by omega) (by omega) S gd go _ [0,0,0,0,0,0] rfl hS
    · rw[f3,if_neg hc,f2] at hS
      exact pV (w:=1+r3) (h:=1+r2) ls h1 h2 h3 (by omega) (by omega) (by omega) (by omega) S gd go _ [0,0,0,0,0,0] rfl hS
  rcases(by omega:ls.length=0∨ls.length=1∨ls.length=2∨2 <ls.length) with hz| hz| hz| hz
  · obtain rfl:=e1 (by omega)
    obtain rfl:=e2 (by omega)
    obtain rfl:=e3 (by omega)
    (conv=>whnf);repeat' ((first| intro g| refine ak.mk _ (n3) ?_| refine ak.mk _ (n2) ?_| refine st ?_| (refine bd.bo ?_;intro s) | (first| refine b1 ?_ ?_| refine b2 ?_ ?_| refine Br.mk ?_ ?_) <;>intro hc| exact rfl) <;>conv=>whnf)
    all_goals (rename_i gd;refine fin _ gd g ?_)
    all_goals first| rw[if_pos hc] | rw[if_neg hc]
    all_goals (refine⟨?_,?_⟩ <;>repeat' (first| exact True.intro| refine ai ?_| refine And.intro ?_ ?_))
  · obtain rfl:=e2 (by omega)
    obtain rfl:=e3 (by omega)
    (conv=>whnf);repeat' ((first| intro g| refine bd.mk _ (fC (k1 (by omega))) ?_| refine ak.mk _ (n3) ?_| refine ak.mk _ (n2) ?_| refine st ?_| (refine bd.bo ?_;intro s) | (first| refine b1 ?_ ?_| refine b2 ?_ ?_| refine Br.mk ?_ ?_) <;>intro hc| exact rfl) <;>conv=>whnf)
    all_goals (rename_i gd;refine fin _ gd g ?_)
    all_goals first| rw[if_pos hc] | rw[if_neg hc]
    all_goals (refine⟨?_,?_⟩ <;>repeat' (first| exact True.intro| refine ai ?_| refine And.intro ?_ ?_))
  · obtain rfl:=e3 (by omega)
    (conv=>whnf);repeat' ((first| intro g| refine bd.mk _ (fC (k1 (by omega))) ?_| refine bd.mk _ (fC (k2 (by omega))) ?_| refine ak.mk _ (n3) ?_| refine ak.mk _ (n2) ?_| refine st ?_| (refine bd.bo ?_;intro s) | (first| refine b1 ?_ ?_| refine b2 ?_ ?_| refine Br.mk ?_ ?_) <;>intro hc| exact rfl) <;>conv=>whnf)
    all_goals (rename_i gd;refine fin _ gd g ?_)
    all_goals first| rw[if_pos hc] | rw[if_neg hc]
    all_goals (refine⟨?_,?_⟩ <;>repeat' (first| exact True.intro| refine ai ?_| refine And.intro ?_ ?_))
  · (conv=>whnf);repeat' ((first| intro g| refine bd.mk _ (fC (k1 (by omega))) ?_| refine bd.mk _ (fC (k2 (by omega))) ?_| refine bd.mk _ (fC (k3 (by omega))) ?_| refine ak.mk _ (n3) ?_| refine ak.mk _ (n2) ?_| refine st ?_| (refine bd.bo ?_;intro s) | (first| refine b1 ?_ ?_| refine b2 ?_ ?_| refine Br.mk ?_ ?_) <;>intro hc| exact rfl) <;>conv=>whnf)
    all_goals (rename_i gd;refine fin _ gd g ?_)
    all_goals first| rw[if_pos hc] | rw[if_neg hc]
    all_goals (refine⟨?_,?_⟩ <;>repeat' (first| exact True.intro| refine ai ?_| refine And.intro ?_ ?_))
 have pick: ∀k,∃l:List Int,l.length< 9223372036854775808∧(k<ls.length→ls[k]? =some l)∧(ls.length≤k→l=[]):=by
  intro k
  by_cases hk:k<ls.length
  · obtain⟨l,a1,a2⟩:=key k hk
    exact⟨l,a2,fun _=>a1,fun h=>by omega⟩
  · exact⟨[],by simp,fun h=>by omega,fun _=>rfl⟩
 obtain⟨first,a1,b1,c1⟩:=pick 0
 obtain⟨second,a2,b2,c2⟩:=pick 1
 obtain⟨dk,a3,b3,c3⟩:=pick 2
 exact gen first second dk a1 a2 a3 b1 b2 b3 c1 c2 c3
end Go.AM
set_option maxRecDepth 20000
namespace Go.AM
theorem dN (i j:Int): ∃p:Pt,Ev E 120 [vi i,vi j] ⟨p.v,[]⟩:=by
 have key:=Ev.bT (R:=fun r=> ∃p:Pt,r=⟨p.v,[]⟩) OV (OW [vi i,vi j]) rfl ?_
 · obtain⟨res,h1,p,rfl⟩:=key
   exact⟨p,h1⟩
 (conv=>whnf);repeat' ((first| intro g| refine st ?_| (refine bd.bo ?_;intro s) | (first| refine b1 ?_ ?_| refine b2 ?_ ?_| refine Br.mk ?_ ?_) <;>intro hc| exact rfl) <;>conv=>whnf)
 exact⟨⟨_,_⟩,rfl⟩
def pw (ws:List Way) (n:Nat):Prop:=ws.length≤n∧ ∀w ∈ ws,fR w.line
theorem pw.snoc {es:List Way} {n:Nat} {e:Way} (h:pw es n) (k:fR e.line):pw (es++[e]) (n+1):=
 ⟨by have:=h.1;simp;omega,fun x hx=>by
   rcases List.mem_append.1 hx with hx| hx
   · exact h.2 x hx
   · have:x=e:=by simpa using hx
     subst this;exact k⟩
theorem pw.mono {es:List Way} {n m:Nat} (h:pw es n) (k:n≤m):pw es m:=⟨Nat.le_trans h.1 k,h.2⟩
set_option maxHeartbeats 4000000 in
theorem kH {l:List Int} (hl:l.length< 9223372036854775808) {ws:List Way} {n:Nat} (hw:pw ws n) (hn:n< 1000) (p q:Pt) (level:Int) (a0:Nat):
   ∃res,Ev E 119 [.msl 8 (ws.map Way.v) 0 ws.length,p.v,q.v,vi level,.mptr 2 [cz l a0] 0 0] res∧ ∃ (vP:List Way) (a b:Nat),pw vP (n+1)∧res=⟨.sl 0 b 0 vP.length,[(b,vP.map Way.v),(0,[cz l a])]⟩:=by
 refine Ev.bT OT (OU _) rfl ?_
 have mj:=hw.1
 have nx:=fun k a (h:0 <k) (h2:k< 1000)=>bI hl k (a:=a) h (by omega)
 have hb:=dX (l:=l) (a:=a0) (n:=3) (by omega) (by omega)
 have n3:=nx 3 a0 (by omega) (by omega)
 generalize hm:dp l a0 3=many at hb n3
 have e1:IntKind.i64.wrap ((many:Int)+1)=((many+1:Nat):Int):=(wrap64 (by omega) (by omega)).trans (by omega)
 have yG:IntKind.i64.wrap (41+(ws.length:Int))=41+(ws.length:Int):=wrap64 (by omega) (by omega)
 (conv=>whnf);repeat' ((first| intro g| refine ak.mk _ (n3) ?_| refine st ?_| (refine bd.bo ?_;intro s) | (first| refine b1 ?_ ?_| refine b2 ?_ ?_| refine Br.mk ?_ ?_) <;>intro hc| exact rfl) <;>conv=>whnf)
 rename_i g6 g7 gb
 refine a9.by (fun ((k,L,a,gb):Nat×List Pt×Nat×Nat)=> ⟨[(0,.sl 0 0 0 ws.length),(4,.ptr 4 0 0 0),(6,.ptr 112 g6 0 0),(7,.ptr 128 g7 0 0),(11,.ptr 192 g 0 0),(12,aM many),(13,aM k)],
    [(0,⟨0,8,true,false,some (ws.map Way.v)⟩),(4,⟨0,2,false,false,some [cz l a]⟩),(112,⟨g6,2,false,false,some [p.v]⟩),(128,⟨g7,2,false,false,some [q.v]⟩),
     (192,⟨g,8,false,false,some [.agg [vi (41+(ws.length:Int)),.sl 352 gb 0 L.length,vi level,.str [],.str [],.bool false,vi 0,vi 0]]⟩),(352,⟨gb,2,true,false,some (L.map Pt.v)⟩)]⟩)
   (fun (k,L,_,_)=>1≤k∧k≤many+1∧L.length=k) (fun (k,_)=>many+1 - k) (1,[p],bF l a0,gb) ?_ ⟨by simp,by simp,by simp⟩ ?_
 · rw[yG]; (refine⟨?_,?_⟩ <;>repeat' (first| exact True.intro| refine ai ?_| refine And.intro ?_ ?_))
 rintro⟨k,L,a,gb⟩ ⟨vQ,Cc,hL⟩
 try dsimp only at vQ Cc hL
 by_cases bJ:k≤many
 · have YV:=nx 17 a (by omega) (by omega)
   (conv=>whnf);repeat' ((first| intro g| refine ak.mk _ (YV) ?_| refine st ?_| (refine bd.bo ?_;intro s) | (first| refine b1 ?_ ?_| refine b2 ?_ ?_| refine Br.mk ?_ ?_) <;>intro hc| exact rfl) <;>conv=>whnf)
   all_goals exact br.mk (k+1,L++[⟨_,_⟩],bF l a,g) (by first| omega| (dsimp only;omega)) ⟨(by first| omega| (dsimp only;omega)),(by first| omega| (dsimp only;omega)),by simp[hL]⟩ (by(refine⟨?_,?_⟩ <;>repeat' (first| exact True.intro| refine ai ?_| refine And.intro ?_ ?_)))
 · have n2:=fun a=>bI hl 2 (a:=a) (by omega) (by omega)
   have n3:=fun a=>bI hl 3 (a:=a) (by omega) (by omega)
   have n4:=fun a=>bI hl 4 (a:=a) (by omega) (by omega)
   have QQ:=fun a=>bI hl 60 (a:=a) (by omega) (by omega)
   (conv=>whnf);repeat' ((first| intro g| refine ak.mk _ (n2 _) ?_| refine ak.mk _ (n3 _) ?_| refine ak.mk _ (n4 _) ?_| refine ak.mk _ (QQ _) ?_| refine st ?_| (refine bd.bo ?_;intro s) | (first| refine b1 ?_ ?_| refine b2 ?_ ?_| refine Br.mk ?_ ?_) <;>intro hc| exact rfl) <;>conv=>whnf)
   have YW:fR (L++[q]):=⟨by simp;omega,by simp;omega⟩
   exact⟨ws++[⟨_,L++[q],_,_,_,_,_,_⟩],_,_,hw.snoc YW,by
    simp only[List.map_append,List.map_cons,List.map_nil,List.length_append,List.length_cons,List.length_nil,List.length_map,Way.v,kj]
    rfl⟩
end Go.AM
set_option maxRecDepth 20000
namespace Go.AM
set_option maxHeartbeats 4000000 in
theorem FU {l:List Int} (hl:l.length< 9223372036854775808): ∃res,Ev E 86 [.lit 1 (l.map vi)] res∧ ∃ws:List Way,pw ws 12∧res=⟨.own 8 (ws.map Way.v),[]⟩:=by
 refine Ev.bT U6 (U7 _) rfl ?_
 have n2:=fun a=>bI hl 2 (a:=a) (by omega) (by omega)
 have n3:=fun a=>bI hl 3 (a:=a) (by omega) (by omega)
 have n4:=fun a=>bI hl 4 (a:=a) (by omega) (by omega)
 (conv=>whnf);repeat' ((first| intro g| refine st ?_| (refine bd.bo ?_;intro s) | (first| refine b1 ?_ ?_| refine b2 ?_ ?_| refine Br.mk ?_ ?_) <;>intro hc| exact rfl) <;>conv=>whnf)
 rename_i gd
 refine a9.by (fun ((j,ws,a,g):Nat×List Way×Nat×Nat)=> ⟨[(3,.ptr 176 gd 0 0),(4,.sl 81 g 0 ws.length),(5,aM j)],[(176,⟨gd,2,false,false,some [cz l a]⟩),(81,⟨g,8,true,false,some (ws.map Way.v)⟩)]⟩)
   (fun (j,ws,_,_)=>j≤2∧pw ws (3*j)) (fun (j,_)=>2 - j) (0,[],0,g) (by(refine⟨?_,?_⟩ <;>repeat' (first| exact True.intro| refine ai ?_| refine And.intro ?_ ?_))) ⟨by simp,by simp,by simp⟩ ?_
 rintro⟨j,ws,a,g⟩ ⟨hj,tM⟩
 try dsimp only at hj tM
 by_cases bJ:j< 2
 · (conv=>whnf);repeat' ((first| intro g| refine st ?_| (refine bd.bo ?_;intro s) | (first| refine b1 ?_ ?_| refine b2 ?_ ?_| refine Br.mk ?_ ?_) <;>intro hc| exact rfl) <;>conv=>whnf)
   refine a9.by (fun ((i,ws,a,g):Nat×List Way×Nat×Nat)=> ⟨[(3,.ptr 176 gd 0 0),(4,.sl 81 g 0 ws.length),(5,aM j),(6,aM i)],[(176,⟨gd,2,false,false,some [cz l a]⟩),(81,⟨g,8,true,false,some (ws.map Way.v)⟩)]⟩)
     (fun (i,ws,_,_)=>i≤3∧pw ws (3*j+i)) (fun (i,_)=>3 - i) (0,ws,a,g) (by(refine⟨?_,?_⟩ <;>repeat' (first| exact True.intro| refine ai ?_| refine And.intro ?_ ?_))) ⟨by simp,tM⟩ ?_
   clear tM
   rintro⟨i,ws,a,g⟩ ⟨hi,tM⟩
   try dsimp only at hi tM
   by_cases jd:i< 3
   · obtain⟨p,hp⟩:=dN i j
     obtain⟨q,hq⟩:=dN (IntKind.i64.wrap ((i:Int)+1)) j
     (conv=>whnf);repeat' ((first| intro g| refine ak.mk _ (n2 _) ?_| refine ak.mk _ (hp) ?_| refine ak.mk _ (hq) ?_| refine st ?_| (refine bd.bo ?_;intro s) | (first| refine b1 ?_ ?_| refine b2 ?_ ?_| refine Br.mk ?_ ?_) <;>intro hc| exact rfl) <;>conv=>whnf)
     · refine ak.ex (kH hl tM (by omega) p q 0 (bF l a)) ?_
       rintro _ ⟨vP,a',b,gJ,rfl⟩
       (conv=>whnf);repeat' ((first| intro g| refine st ?_| (refine bd.bo ?_;intro s) | (first| refine b1 ?_ ?_| refine b2 ?_ ?_| refine Br.mk ?_ ?_) <;>intro hc| exact rfl) <;>conv=>whnf)
       exact br.mk (i+1,vP,a',g+b) (by first| omega| (dsimp only;omega)) ⟨(by first| omega| (dsimp only;omega)),gJ⟩ (by(refine⟨?_,?_⟩ <;>repeat' (first| exact True.intro| refine ai ?_| refine And.intro ?_ ?_)))
     · exact br.mk (i+1,ws,bF l a,g) (by first| omega| (dsimp only;omega)) ⟨(by first| omega| (dsimp only;omega)),tM.mono (by omega)⟩ (by(refine⟨?_,?_⟩ <;>repeat' (first| exact True.intro| refine ai ?_| refine And.intro ?_ ?_)))
   · (conv=>whnf);repeat' ((first| intro g| refine st ?_| (refine bd.bo ?_;intro s) | (first| refine b1 ?_ ?_| refine b2 ?_ ?_| refine Br.mk ?_ ?_) <;>intro hc| exact rfl) <;>conv=>whnf)
     exact br.mk (j+1,ws,a,g) (by first| omega| (dsimp only;omega)) ⟨(by first| omega| (dsimp only;omega)),tM.mono (by omega)⟩ (by(refine⟨?_,?_⟩ <;>repeat' (first| exact True.intro| refine ai ?_| refine And.intro ?_ ?_)))
 · (conv => whnf);repeat' ((first| intro g| refine st ?_| (refine bd.bo ?_;intro s) | (first| refine b1 ?_ ?_| refine b2 ?_ ?_| refine Br.mk ?_ ?_) <;>intro hc| exact rfl) <;>conv=>whnf)
   refine a9.by (fun ((i,ws,a,g):Nat×List Way×Nat×Nat)=> ⟨[(3,.ptr 176 gd 0 0),(4,.sl 81 g 0 ws.length),(7,aM i)],[(176,⟨gd,2,false,false,some [cz l a]⟩),(81,⟨g,8,true,false,some (ws.map Way.v)⟩)]⟩)
     (fun (i,ws,_,_)=>i≤4∧pw ws (6+i)) (fun (i,_)=>4 - i) (0,ws,a,g) (by(refine⟨?_,?_⟩ <;>repeat' (first| exact True.intro| refine ai ?_| refine And.intro ?_ ?_))) ⟨by simp,tM.mono (by omega)⟩ ?_
   clear tM
   rintro⟨i,ws,a,g⟩ ⟨hi,tM⟩
   try dsimp only at hi tM
   by_cases jd:i< 4
   · by_cases YX:ws.length< 5
     · obtain⟨p,hp⟩:=dN i 0
       obtain⟨q,hq⟩:=dN i 1
       (conv=>whnf);repeat' ((first| intro g| refine ak.mk _ (n2 _) ?_| refine ak.mk _ (hp) ?_| refine ak.mk _ (hq) ?_| refine st ?_| (refine bd.bo ?_;intro s) | (first| refine b1 ?_ ?_| refine b2 ?_ ?_| refine Br.mk ?_ ?_) <;>intro hc| exact rfl) <;>conv=>whnf)
       · refine ak.ex (kH hl tM (by omega) p q 0 (bF l a)) ?_
         rintro _ ⟨vP,a',b,gJ,rfl⟩
         (conv=>whnf);repeat' ((first| intro g| refine st ?_| (refine bd.bo ?_;intro s) | (first| refine b1 ?_ ?_| refine b2 ?_ ?_| refine Br.mk ?_ ?_) <;>intro hc| exact rfl) <;>conv=>whnf)
         exact br.mk (i+1,vP,a',g+b) (by first| omega| (dsimp only;omega)) ⟨(by first| omega| (dsimp only;omega)),gJ⟩ (by(refine⟨?_,?_⟩ <;>repeat' (first| exact True.intro| refine ai ?_| refine And.intro ?_ ?_)))
       · exact br.mk (i+1,ws,bF l a,g) (by first| omega| (dsimp only;omega)) ⟨(by first| omega| (dsimp only;omega)),tM.mono (by omega)⟩ (by(refine⟨?_,?_⟩ <;>repeat' (first| exact True.intro| refine ai ?_| refine And.intro ?_ ?_)))
     · obtain⟨YY,FV⟩:=dN 0 0
       obtain⟨YZ,FW⟩:=dN 1 1
       obtain⟨Y0,vb⟩:=dN 3 0
       obtain⟨Y1,FX⟩: ∃f:Int→Pt,∀x,Ev E 120 [vi x,vi 1] ⟨(f x).v,[]⟩:=⟨fun x=> (dN x 1).choose,fun x=> (dN x 1).choose_spec⟩
       (conv=>whnf);repeat' ((first| intro g| refine ak.mk _ (n2 _) ?_| refine ak.mk _ (n3 _) ?_| refine ak.mk _ (n4 _) ?_| refine ak.mk _ (FV) ?_| refine ak.mk _ (FW) ?_| refine ak.mk _ (vb) ?_| refine ak.mk _ (FX _) ?_| refine st ?_| (refine bd.bo ?_;intro s) | (first| refine b1 ?_ ?_| refine b2 ?_ ?_| refine Br.mk ?_ ?_) <;>intro hc| exact rfl) <;>conv=>whnf)
       · refine ak.ex (kH hl tM (by omega) _ _ _ _) ?_
         rintro _ ⟨vP,a',b,gJ,rfl⟩
         (conv=>whnf);repeat' ((first| intro g| refine ak.mk _ (n2 _) ?_| refine ak.mk _ (n3 _) ?_| refine ak.mk _ (n4 _) ?_| refine ak.mk _ (FV) ?_| refine ak.mk _ (FW) ?_| refine ak.mk _ (vb) ?_| refine ak.mk _ (FX _) ?_| refine st ?_| (refine bd.bo ?_;intro s) | (first| refine b1 ?_ ?_| refine b2 ?_ ?_| refine Br.mk ?_ ?_) <;>intro hc| exact rfl) <;>conv=>whnf)
         · refine ak.ex (kH hl gJ (by omega) _ _ _ _) ?_
           rintro _ ⟨Vs,a2,b2,yh,rfl⟩
           (conv=>whnf);repeat' ((first| intro g| refine ak.mk _ (n2 _) ?_| refine ak.mk _ (n3 _) ?_| refine ak.mk _ (n4 _) ?_| refine ak.mk _ (FV) ?_| refine ak.mk _ (FW) ?_| refine ak.mk _ (vb) ?_| refine ak.mk _ (FX _) ?_| refine st ?_| (refine bd.bo ?_;intro s) | (first| refine b1 ?_ ?_| refine b2 ?_ ?_| refine Br.mk ?_ ?_) <;>intro hc| exact rfl) <;>conv=>whnf)
           exact⟨Vs,yh.mono (by omega),rfl⟩
         · exact⟨vP,gJ.mono (by omega),rfl⟩
       · refine ak.ex (kH hl tM (by omega) _ _ _ _) ?_
         rintro _ ⟨vP,a',b,gJ,rfl⟩
         (conv=>whnf);repeat' ((first| intro g| refine ak.mk _ (n2 _) ?_| refine ak.mk _ (n3 _) ?_| refine ak.mk _ (n4 _) ?_| refine ak.mk _ (FV) ?_| refine ak.mk _ (FW) ?_| refine ak.mk _ (vb) ?_| refine ak.mk _ (FX _) ?_| refine st ?_| (refine bd.bo ?_;intro s) | (first| refine b1 ?_ ?_| refine b2 ?_ ?_| refine Br.mk ?_ ?_) <;>intro hc| exact rfl) <;>conv=>whnf)
         exact⟨vP,gJ.mono (by omega),rfl⟩
       · exact⟨ws,tM.mono (by omega),rfl⟩
   · obtain⟨YY,FV⟩:=dN 0 0
     obtain⟨YZ,FW⟩:=dN 1 1
     obtain⟨Y0,vb⟩:=dN 3 0
     obtain⟨Y1,FX⟩: ∃f:Int→Pt,∀x,Ev E 120 [vi x,vi 1] ⟨(f x).v,[]⟩:=⟨fun x=> (dN x 1).choose,fun x=> (dN x 1).choose_spec⟩
     (conv=>whnf);repeat' ((first| intro g| refine ak.mk _ (n2 _) ?_| refine ak.mk _ (n3 _) ?_| refine ak.mk _ (n4 _) ?_| refine ak.mk _ (FV) ?_| refine ak.mk _ (FW) ?_| refine ak.mk _ (vb) ?_| refine ak.mk _ (FX _) ?_| refine st ?_| (refine bd.bo ?_;intro s) | (first| refine b1 ?_ ?_| refine b2 ?_ ?_| refine Br.mk ?_ ?_) <;>intro hc| exact rfl) <;>conv=>whnf)
     · refine ak.ex (kH hl tM (by omega) _ _ _ _) ?_
       rintro _ ⟨vP,a',b,gJ,rfl⟩
       (conv=>whnf);repeat' ((first| intro g| refine ak.mk _ (n2 _) ?_| refine ak.mk _ (n3 _) ?_| refine ak.mk _ (n4 _) ?_| refine ak.mk _ (FV) ?_| refine ak.mk _ (FW) ?_| refine ak.mk _ (vb) ?_| refine ak.mk _ (FX _) ?_| refine st ?_| (refine bd.bo ?_;intro s) | (first| refine b1 ?_ ?_| refine b2 ?_ ?_| refine Br.mk ?_ ?_) <;>intro hc| exact rfl) <;>conv=>whnf)
       · refine ak.ex (kH hl gJ (by omega) _ _ _ _) ?_
         rintro _ ⟨Vs,a2,b2,yh,rfl⟩
         (conv=>whnf);repeat' ((first| intro g| refine ak.mk _ (n2 _) ?_| refine ak.mk _ (n3 _) ?_| refine ak.mk _ (n4 _) ?_| refine ak.mk _ (FV) ?_| refine ak.mk _ (FW) ?_| refine ak.mk _ (vb) ?_| refine ak.mk _ (FX _) ?_| refine st ?_| (refine bd.bo ?_;intro s) | (first| refine b1 ?_ ?_| refine b2 ?_ ?_| refine Br.mk ?_ ?_) <;>intro hc| exact rfl) <;>conv=>whnf)
         exact⟨Vs,yh.mono (by omega),rfl⟩
       · exact⟨vP,gJ.mono (by omega),rfl⟩
     · refine ak.ex (kH hl tM (by omega) _ _ _ _) ?_
       rintro _ ⟨vP,a',b,gJ,rfl⟩
       (conv=>whnf);repeat' ((first| intro g| refine ak.mk _ (n2 _) ?_| refine ak.mk _ (n3 _) ?_| refine ak.mk _ (n4 _) ?_| refine ak.mk _ (FV) ?_| refine ak.mk _ (FW) ?_| refine ak.mk _ (vb) ?_| refine ak.mk _ (FX _) ?_| refine st ?_| (refine bd.bo ?_;intro s) | (first| refine b1 ?_ ?_| refine b2 ?_ ?_| refine Br.mk ?_ ?_) <;>intro hc| exact rfl) <;>conv=>whnf)
       exact⟨vP,gJ.mono (by omega),rfl⟩
     · exact⟨ws,tM.mono (by omega),rfl⟩
end Go.AM
