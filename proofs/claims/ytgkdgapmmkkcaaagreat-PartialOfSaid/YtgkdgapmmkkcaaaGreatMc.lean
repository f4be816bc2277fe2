/-
  Texts of the proof, joined by program: SMadeH, SMadeI, SMadeJ. Own work.
-/
import Derived.Test.YtgkdgapmmkkcaaaGreatMb
set_option linter.unusedSimpArgs false
set_option linter.unusedVariables false
set_option maxRecDepth 20000
namespace Go.AM
def sD (ls:List (List Int)):Prop:=ls.length< 9223372036854775808∧ ∀l ∈ ls,l.length< 9223372036854775808
theorem gA {ls:List (List Int)} {k:Nat} {l:List Int} (h:ls[k]? =some l): (ls.map eD)[((k:Nat):Int).toNat]? =some (eD l):=by simp[h]
def mY (r:fh):Prop:= ∃ (es:List Edge) (fs:List aK),gz es 18∧fs.length≤36∧r=⟨.tuple [.lit 4 (es.map Edge.v),.own 5 (fs.map aK.v)],[]⟩
set_option maxHeartbeats 4000000 in
theorem qP (ls:List (List Int)) {first second dO:List Int} (h1:first.length< 9223372036854775808) (h2:second.length< 9223372036854775808) (h3:dO.length< 9223372036854775808) {w h:Nat} (hw:w≤3) (hh:h≤2) (CC:1≤w) (hh1:1≤h) (S:SS) (gd go a0:Nat) (KB:List Int) (h6:KB.length=6)
   (hS:SS.Sub ⟨[(5,eD second),(6,eD dO),(7,.ptr 672 gd 0 0),(8,aT w),(9,aT h),(10,.ptr 176 go 0 0),(11,aT 0)],[(672,⟨gd,2,false,false,some [cT first a0]⟩),(176,⟨go,6,false,false,some [.agg (KB.map vi)]⟩)]⟩ S):
   ba E vz S (Cj 0 (thenS (yw f83.results [fR ls] mY) fun S'=>oE E (yB Cv 11) S' (yw f83.results [fR ls] mY))):=by
 refine Qe h1 hw hh S gd go a0 KB h6 hS _ ?_
 intro a cs c7
 match cs,c7 with
 | [x0,x1,x2,x3,x4,x5],_=>
   (conv=>whnf);repeat' ((first| intro g| refine st ?_| (refine aL.bK ?_;intro s) | (first| refine b1 ?_ ?_| refine b2 ?_ ?_| refine Br.mk ?_ ?_) <;>intro hc| exact rfl) <;>conv=>whnf)
   rename_i ge
   refine Qf (gd:=gd) (go:=go) (ge:=ge) (ad:=a) (first:=first) (x0:=x0) (x1:=x1) (x2:=x2) (x3:=x3) (x4:=x4) (x5:=x5) h2 h3 hw hh _ 0 g (by(refine⟨?_,?_⟩ <;>repeat' (first| exact True.intro| refine ai ?_| refine And.intro ?_ ?_))) _ ?_
   intro es ae g7 he
   (conv=>whnf);repeat' ((first| intro g| refine st ?_| (refine aL.bK ?_;intro s) | (first| refine b1 ?_ ?_| refine b2 ?_ ?_| refine Br.mk ?_ ?_) <;>intro hc| exact rfl) <;>conv=>whnf)
   refine Qh (gd:=gd) (go:=go) (ge:=ge) (ad:=a) (first:=first) (x0:=x0) (x1:=x1) (x2:=x2) (x3:=x3) (x4:=x4) (x5:=x5) h2 h3 hw hh _ es he ae g7 (by(refine⟨?_,?_⟩ <;>repeat' (first| exact True.intro| refine ai ?_| refine And.intro ?_ ?_))) _ ?_
   clear he es ae g7
   intro es ae g7 he
   have qO:=he.1
   have n2:=b0 h1 2 (a:=a) (by omega) (by omega)
   have nw:=b0 h1 w (a:=bW first a) (by omega) (by omega)
   have nh:=b0 h1 h (a:=bW first (bW first a)) (by omega) (by omega)
   have bw:=fP (l:=first) (a:=bW first a) (n:=w) (by omega) (by omega)
   have bh:=fP (l:=first) (a:=bW first (bW first a)) (n:=h) (by omega) (by omega)
   generalize eI first (bW first a) w=i at nw bw
   generalize eI first (bW first (bW first a)) h=j at nh bh
   by_cases Xj:eI first a 2=1
   · rcases(by omega:i=0∨i=1∨i=2) with rfl| rfl| rfl<;>rcases(by omega:j=0∨j=1) with rfl| rfl
     all_goals
      (conv=>whnf);repeat' ((first| intro g| refine ag.mk _ (n2) ?_| refine ag.mk _ (nw) ?_| refine ag.mk _ (nh) ?_| refine st ?_| (refine aL.bK ?_;intro s) | (first| refine b1 ?_ ?_| refine b2 ?_ ?_| refine Br.mk ?_ ?_) <;>intro hc| exact rfl) <;>conv=>whnf)
      refine ag.ex (AX h3 he (by omega) ⟨_,_⟩ _ _) ?_
      rintro _ ⟨es',ae',b,mW,rfl⟩
      have Yk:=mW.1
      (conv=>whnf);repeat' ((first| intro g| refine st ?_| (refine aL.bK ?_;intro s) | (first| refine b1 ?_ ?_| refine b2 ?_ ?_| refine Br.mk ?_ ?_) <;>intro hc| exact rfl) <;>conv=>whnf)
      refine ag.ex (wF (es:=es') (by omega)) ?_
      rintro _ ⟨fs,Yl,rfl⟩
      (conv=>whnf);repeat' ((first| intro g| refine st ?_| (refine aL.bK ?_;intro s) | (first| refine b1 ?_ ?_| refine b2 ?_ ?_| refine Br.mk ?_ ?_) <;>intro hc| exact rfl) <;>conv=>whnf)
      exact⟨es',fs,mW,by omega,rfl⟩
   · (conv=>whnf);repeat' ((first| intro g| refine ag.mk _ (n2) ?_| refine st ?_| (refine aL.bK ?_;intro s) | (first| refine b1 ?_ ?_| refine b2 ?_ ?_| refine Br.mk ?_ ?_) <;>intro hc| exact rfl) <;>conv=>whnf)
     refine ag.ex (wF (es:=es) (by omega)) ?_
     rintro _ ⟨fs,Yl,rfl⟩
     (conv=>whnf);repeat' ((first| intro g| refine st ?_| (refine aL.bK ?_;intro s) | (first| refine b1 ?_ ?_| refine b2 ?_ ?_| refine Br.mk ?_ ?_) <;>intro hc| exact rfl) <;>conv=>whnf)
     exact⟨es,fs,he.mono (by omega),by omega,rfl⟩
set_option maxHeartbeats 4000000 in
theorem AY {ls:List (List Int)} (hs:sD ls): ∃res,Ev E 83 [fR ls] res∧mY res:=by
 refine Ev.cQ Vk (Vl _) rfl ?_
 have hl:=hs.1
 have key: ∀k,k<ls.length→ ∃l,ls[k]? =some l∧l.length< 9223372036854775808:=fun k hk=> ⟨_,aJ hk,hs.2 _ (List.getElem_mem hk)⟩
 have gen: ∀ (first second dO:List Int),first.length< 9223372036854775808→second.length< 9223372036854775808→dO.length< 9223372036854775808→
    (0 <ls.length→ls[0]? =some first)→(1 <ls.length→ls[1]? =some second)→(2 <ls.length→ls[2]? =some dO)→(ls.length≤0→first=[])→(ls.length≤1→second=[])→(ls.length≤2→dO=[])→
    oE E f83.body (vt [fR ls]) (yw f83.results [fR ls] mY):=by
  intro first second dO h1 h2 h3 k1 k2 k3 e1 e2 e3
  have n3:=b0 h1 3 (a:=0) (by omega) (by omega)
  have n2:=b0 h1 2 (a:=bW first 0) (by omega) (by omega)
  have b3:=fP (l:=first) (a:=0) (n:=3) (by omega) (by omega)
  have b2:=fP (l:=first) (a:=bW first 0) (n:=2) (by omega) (by omega)
  generalize eI first 0 3=r3 at n3 b3
  generalize eI first (bW first 0) 2=r2 at n2 b2
  have w3:IntKind.i64.wrap (1+(r3:Int))=((1+r3:Nat):Int):=(wrap64 (by omega) (by omega)).trans (by omega)
  have w2:IntKind.i64.wrap (1+(r2:Int))=((1+r2:Nat):Int):=(wrap64 (by omega) (by omega)).trans (by omega)
  have f3:V.int .i64 (IntKind.i64.wrap (1+(r3:Int)))=aT (1+r3):=by rw[w3]
  have f2:V.int .i64 (IntKind.i64.wrap (1+(r2:Int)))=aT (1+r2):=by rw[w2]
  have fin: ∀ (S:SS) (gd go:Nat),SS.Sub ⟨[(5,eD second),(6,eD dO),(7,.ptr 672 gd 0 0),(8,V.int .i64 (IntKind.i64.wrap (1+(r3:Int)))),(9,if IntKind.i64.wrap (1+(r3:Int))=3 then vi 1 else V.int .i64 (IntKind.i64.wrap (1+(r2:Int)))),(10,.ptr 176 go 0 0),(11,vi 0)],
      [(672,⟨gd,2,false,false,some [cT first (bW first (bW first 0))]⟩),(176,⟨go,6,false,false,some [.agg [vi 0,vi 0,vi 0,vi 0,vi 0,vi 0]]⟩)]⟩ S→
      ba E vz S (Cj 0 (thenS (yw f83.results [fR ls] mY) fun S'=>oE E (yB Cv 11) S' (yw f83.results [fR ls] mY))):=by
    intro S gd go hS
    by_cases hc:IntKind.i64.wrap (1+(r3:Int))=3
    · rw[f3,if_pos hc] at hS
      exact qP (w:=1+r3) (h:=1) ls h1 h2 h3 (by omega) (by omega) (by omega) (by omega) S gd go _ [0,0,0,0,0,0] rfl hS
    · rw[f3,if_neg hc,f2] at hS
      exact qP (w:=1+r3) (h:=1+r2) ls h1 h2 h3 (by omega) (by omega) (by omega) (by omega) S gd go _ [0,0,0,0,0,0] rfl hS
  rcases(by omega:ls.length=0∨ls.length=1∨ls.length=2∨2 <ls.length) with hz| hz| hz| hz
  · obtain rfl:=e1 (by omega)
    obtain rfl:=e2 (by omega)
    obtain rfl:=e3 (by omega)
    (conv=>whnf);repeat' ((first| intro g| refine ag.mk _ (n3) ?_| refine ag.mk _ (n2) ?_| refine st ?_| (refine aL.bK ?_;intro s) | (first| refine b1 ?_ ?_| refine b2 ?_ ?_| refine Br.mk ?_ ?_) <;>intro hc| exact rfl) <;>conv=>whnf)
    all_goals (rename_i gd;refine fin _ gd g ?_)
    all_goals first| rw[if_pos hc] | rw[if_neg hc]
    all_goals (refine⟨?_,?_⟩ <;>repeat' (first| exact True.intro| refine ai ?_| refine And.intro ?_ ?_))
  · obtain rfl:=e2 (by omega)
    obtain rfl:=e3 (by omega)
    (conv=>whnf);repeat' ((first| intro g| refine aL.mk _ (gA (k1 (by omega))) ?_| refine ag.mk _ (n3) ?_| refine ag.mk _ (n2) ?_| refine st ?_| (refine aL.bK ?_;intro s) | (first| refine b1 ?_ ?_| refine b2 ?_ ?_| refine Br.mk ?_ ?_) <;>intro hc| exact rfl) <;>conv=>whnf)
    all_goals (rename_i gd;refine fin _ gd g ?_)
    all_goals first| rw[if_pos hc] | rw[if_neg hc]
    all_goals (refine⟨?_,?_⟩ <;>repeat' (first| exact True.intro| refine ai ?_| refine And.intro ?_ ?_))
  · obtain rfl:=e3 (by omega)
    (conv=>whnf);repeat' ((first| intro g| refine aL.mk _ (gA (k1 (by omega))) ?_| refine aL.mk _ (gA (k2 (by omega))) ?_| refine ag.mk _ (n3) ?_| refine ag.mk _ (n2) ?_| refine st ?_| (refine aL.bK ?_;intro s) | (first| refine b1 ?_ ?_| refine b2 ?_ ?_| refine Br.mk ?_ ?_) <;>intro hc| exact rfl) <;>conv=>whnf)
    all_goals (rename_i gd;refine fin _ gd g ?_)
    all_goals first| rw[if_pos hc] | rw[if_neg hc]
    all_goals (refine⟨?_,?_⟩ <;>repeat' (first| exact True.intro| refine ai ?_| refine And.intro ?_ ?_))
  · (conv=>whnf);repeat' ((first| intro g| refine aL.mk _ (gA (k1 (by omega))) ?_| refine aL.mk _ (gA (k2 (by omega))) ?_| refine aL.mk _ (gA (k3 (by omega))) ?_| refine ag.mk _ (n3) ?_| refine ag.mk _ (n2) ?_| refine st ?_| (refine aL.bK ?_;intro s) | (first| refine b1 ?_ ?_| refine b2 ?_ ?_| refine Br.mk ?_ ?_) <;>intro hc| exact rfl) <;>conv=>whnf)
    all_goals (rename_i gd;refine fin _ gd g ?_)
    all_goals first| rw[if_pos hc] | rw[if_neg hc]
    all_goals (refine⟨?_,?_⟩ <;>repeat' (first| exact True.intro| refine ai ?_| refine And.intro ?_ ?_))
 have pick: ∀k,∃l:List Int,l.length< 9223372036854775808∧(k<ls.length→ls[k]? =some l)∧(ls.length≤k→l=[]):=by
  intro k
  by_cases hk:k<ls.length
  · obtain⟨l,a1,a2⟩:=key k hk
    exact⟨l,a2,fun _=>a1,fun h=>by omega⟩
  · exact⟨[],by simp,fun h=>by omega,fun _=>rfl⟩
 obtain⟨first,a1,b1,c1⟩:=pick 0
 obtain⟨second,a2,b2,c2⟩:=pick 1
 obtain⟨dO,a3,b3,c3⟩:=pick 2
 exact gen first second dO a1 a2 a3 b1 b2 b3 c1 c2 c3
end Go.AM
set_option maxRecDepth 20000
namespace Go.AM
theorem eE (i j:Int): ∃p:Pt,Ev E 120 [vi i,vi j] ⟨p.v,[]⟩:=by
 have key:=Ev.cQ (R:=fun r=> ∃p:Pt,r=⟨p.v,[]⟩) Pg (Ph [vi i,vi j]) rfl ?_
 · obtain⟨res,h1,p,rfl⟩:=key
   exact⟨p,h1⟩
 (conv=>whnf);repeat' ((first| intro g| refine st ?_| (refine aL.bK ?_;intro s) | (first| refine b1 ?_ ?_| refine b2 ?_ ?_| refine Br.mk ?_ ?_) <;>intro hc| exact rfl) <;>conv=>whnf)
 exact⟨⟨_,_⟩,rfl⟩
def qk (ws:List Way) (n:Nat):Prop:=ws.length≤n∧ ∀w ∈ ws,gR w.line
theorem qk.snoc {es:List Way} {n:Nat} {e:Way} (h:qk es n) (k:gR e.line):qk (es++[e]) (n+1):=
 ⟨by have:=h.1;simp;omega,fun x hx=>by
   rcases List.mem_append.1 hx with hx| hx
   · exact h.2 x hx
   · have:x=e:=by simpa using hx
     subst this;exact k⟩
theorem qk.mono {es:List Way} {n m:Nat} (h:qk es n) (k:n≤m):qk es m:=⟨Nat.le_trans h.1 k,h.2⟩
set_option maxHeartbeats 4000000 in
theorem ma {l:List Int} (hl:l.length< 9223372036854775808) {ws:List Way} {n:Nat} (hw:qk ws n) (hn:n< 1000) (p q:Pt) (level:Int) (a0:Nat):
   ∃res,Ev E 119 [.msl 8 (ws.map Way.v) 0 ws.length,p.v,q.v,vi level,.mptr 2 [cT l a0] 0 0] res∧ ∃ (tL:List Way) (a b:Nat),qk tL (n+1)∧res=⟨.sl 0 b 0 tL.length,[(b,tL.map Way.v),(0,[cT l a])]⟩:=by
 refine Ev.cQ Pe (Pf _) rfl ?_
 have mZ:=hw.1
 have nx:=fun k a (h:0 <k) (h2:k< 1000)=>b0 hl k (a:=a) h (by omega)
 have hb:=fP (l:=l) (a:=a0) (n:=3) (by omega) (by omega)
 have n3:=nx 3 a0 (by omega) (by omega)
 generalize hm:eI l a0 3=many at hb n3
 have e1:IntKind.i64.wrap ((many:Int)+1)=((many+1:Nat):Int):=(wrap64 (by omega) (by omega)).trans (by omega)
 have CA:IntKind.i64.wrap (41+(ws.length:Int))=41+(ws.length:Int):=wrap64 (by omega) (by omega)
 (conv=>whnf);repeat' ((first| intro g| refine ag.mk _ (n3) ?_| refine st ?_| (refine aL.bK ?_;intro s) | (first| refine b1 ?_ ?_| refine b2 ?_ ?_| refine Br.mk ?_ ?_) <;>intro hc| exact rfl) <;>conv=>whnf)
 rename_i g6 g7 gb
 refine ba.by (fun ((k,L,a,gb):Nat×List Pt×Nat×Nat)=> ⟨[(0,.sl 0 0 0 ws.length),(4,.ptr 4 0 0 0),(6,.ptr 112 g6 0 0),(7,.ptr 128 g7 0 0),(11,.ptr 192 g 0 0),(12,aT many),(13,aT k)],
    [(0,⟨0,8,true,false,some (ws.map Way.v)⟩),(4,⟨0,2,false,false,some [cT l a]⟩),(112,⟨g6,2,false,false,some [p.v]⟩),(128,⟨g7,2,false,false,some [q.v]⟩),
     (192,⟨g,8,false,false,some [.agg [vi (41+(ws.length:Int)),.sl 352 gb 0 L.length,vi level,.str [],.str [],.bool false,vi 0,vi 0]]⟩),(352,⟨gb,2,true,false,some (L.map Pt.v)⟩)]⟩)
   (fun (k,L,_,_)=>1≤k∧k≤many+1∧L.length=k) (fun (k,_)=>many+1 - k) (1,[p],bW l a0,gb) ?_ ⟨by simp,by simp,by simp⟩ ?_
 · rw[CA]; (refine⟨?_,?_⟩ <;>repeat' (first| exact True.intro| refine ai ?_| refine And.intro ?_ ?_))
 rintro⟨k,L,a,gb⟩ ⟨vC,Vy,hL⟩
 try dsimp only at vC Vy hL
 by_cases bA:k≤many
 · have Ym:=nx 17 a (by omega) (by omega)
   (conv=>whnf);repeat' ((first| intro g| refine ag.mk _ (Ym) ?_| refine st ?_| (refine aL.bK ?_;intro s) | (first| refine b1 ?_ ?_| refine b2 ?_ ?_| refine Br.mk ?_ ?_) <;>intro hc| exact rfl) <;>conv=>whnf)
   all_goals exact bI.mk (k+1,L++[⟨_,_⟩],bW l a,g) (by first| omega| (dsimp only;omega)) ⟨(by first| omega| (dsimp only;omega)),(by first| omega| (dsimp only;omega)),by simp[hL]⟩ (by(refine⟨?_,?_⟩ <;>repeat' (first| exact True.intro| refine ai ?_| refine And.intro ?_ ?_)))
 · have n2:=fun a=>b0 hl 2 (a:=a) (by omega) (by omega)
   have n3:=fun a=>b0 hl 3 (a:=a) (by omega) (by omega)
   have n4:=fun a=>b0 hl 4 (a:=a) (by omega) (by omega)
   have n60:=fun a=>b0 hl 60 (a:=a) (by omega) (by omega)
   (conv=>whnf);repeat' ((first| intro g| refine ag.mk _ (n2 _) ?_| refine ag.mk _ (n3 _) ?_| refine ag.mk _ (n4 _) ?_| refine ag.mk _ (n60 _) ?_| refine st ?_| (refine aL.bK ?_;intro s) | (first| refine b1 ?_ ?_| refine b2 ?_ ?_| refine Br.mk ?_ ?_) <;>intro hc| exact rfl) <;>conv=>whnf)
   have Yn:gR (L++[q]):=⟨by simp;omega,by simp;omega⟩
   exact⟨ws++[⟨_,L++[q],_,_,_,_,_,_⟩],_,_,hw.snoc Yn,by
    simp only[List.map_append,List.map_cons,List.map_nil,List.length_append,List.length_cons,List.length_nil,List.length_map,Way.v,wB]
    rfl⟩
end Go.AM
set_option maxRecDepth 20000
namespace Go.AM
set_option maxHeartbeats 4000000 in
theorem Fs {l:List Int} (hl:l.length< 9223372036854775808): ∃res,Ev E 86 [.lit 1 (l.map vi)] res∧ ∃ws:List Way,qk ws 12∧res=⟨.own 8 (ws.map Way.v),[]⟩:=by
 refine Ev.cQ Vm (Vn _) rfl ?_
 have n2:=fun a=>b0 hl 2 (a:=a) (by omega) (by omega)
 have n3:=fun a=>b0 hl 3 (a:=a) (by omega) (by omega)
 have n4:=fun a=>b0 hl 4 (a:=a) (by omega) (by omega)
 (conv=>whnf);repeat' ((first| intro g| refine st ?_| (refine aL.bK ?_;intro s) | (first| refine b1 ?_ ?_| refine b2 ?_ ?_| refine Br.mk ?_ ?_) <;>intro hc| exact rfl) <;>conv=>whnf)
 rename_i gd
 refine ba.by (fun ((j,ws,a,g):Nat×List Way×Nat×Nat)=> ⟨[(3,.ptr 176 gd 0 0),(4,.sl 81 g 0 ws.length),(5,aT j)],[(176,⟨gd,2,false,false,some [cT l a]⟩),(81,⟨g,8,true,false,some (ws.map Way.v)⟩)]⟩)
   (fun (j,ws,_,_)=>j≤2∧qk ws (3*j)) (fun (j,_)=>2 - j) (0,[],0,g) (by(refine⟨?_,?_⟩ <;>repeat' (first| exact True.intro| refine ai ?_| refine And.intro ?_ ?_))) ⟨by simp,by simp,by simp⟩ ?_
 rintro⟨j,ws,a,g⟩ ⟨hj,uE⟩
 try dsimp only at hj uE
 by_cases bA:j< 2
 · (conv=>whnf);repeat' ((first| intro g| refine st ?_| (refine aL.bK ?_;intro s) | (first| refine b1 ?_ ?_| refine b2 ?_ ?_| refine Br.mk ?_ ?_) <;>intro hc| exact rfl) <;>conv=>whnf)
   refine ba.by (fun ((i,ws,a,g):Nat×List Way×Nat×Nat)=> ⟨[(3,.ptr 176 gd 0 0),(4,.sl 81 g 0 ws.length),(5,aT j),(6,aT i)],[(176,⟨gd,2,false,false,some [cT l a]⟩),(81,⟨g,8,true,false,some (ws.map Way.v)⟩)]⟩)
     (fun (i,ws,_,_)=>i≤3∧qk ws (3*j+i)) (fun (i,_)=>3 - i) (0,ws,a,g) (by(refine⟨?_,?_⟩ <;>repeat' (first| exact True.intro| refine ai ?_| refine And.intro ?_ ?_))) ⟨by simp,uE⟩ ?_
   clear uE
   rintro⟨i,ws,a,g⟩ ⟨hi,uE⟩
   try dsimp only at hi uE
   by_cases fJ:i< 3
   · obtain⟨p,hp⟩:=eE i j
     obtain⟨q,hq⟩:=eE (IntKind.i64.wrap ((i:Int)+1)) j
     (conv=>whnf);repeat' ((first| intro g| refine ag.mk _ (n2 _) ?_| refine ag.mk _ (hp) ?_| refine ag.mk _ (hq) ?_| refine st ?_| (refine aL.bK ?_;intro s) | (first| refine b1 ?_ ?_| refine b2 ?_ ?_| refine Br.mk ?_ ?_) <;>intro hc| exact rfl) <;>conv=>whnf)
     · refine ag.ex (ma hl uE (by omega) p q 0 (bW l a)) ?_
       rintro _ ⟨tL,a',b,iI,rfl⟩
       (conv=>whnf);repeat' ((first| intro g| refine st ?_| (refine aL.bK ?_;intro s) | (first| refine b1 ?_ ?_| refine b2 ?_ ?_| refine Br.mk ?_ ?_) <;>intro hc| exact rfl) <;>conv=>whnf)
       exact bI.mk (i+1,tL,a',g+b) (by first| omega| (dsimp only;omega)) ⟨(by first| omega| (dsimp only;omega)),iI⟩ (by(refine⟨?_,?_⟩ <;>repeat' (first| exact True.intro| refine ai ?_| refine And.intro ?_ ?_)))
     · exact bI.mk (i+1,ws,bW l a,g) (by first| omega| (dsimp only;omega)) ⟨(by first| omega| (dsimp only;omega)),uE.mono (by omega)⟩ (by(refine⟨?_,?_⟩ <;>repeat' (first| exact True.intro| refine ai ?_| refine And.intro ?_ ?_)))
   · (conv=>whnf);repeat' ((first| intro g| refine st ?_| (refine aL.bK ?_;intro s) | (first| refine b1 ?_ ?_| refine b2 ?_ ?_| refine Br.mk ?_ ?_) <;>intro hc| exact rfl) <;>conv=>whnf)
     exact bI.mk (j+1,ws,a,g) (by first| omega| (dsimp only;omega)) ⟨(by first| omega| (dsimp only;omega)),uE.mono (by omega)⟩ (by(refine⟨?_,?_⟩ <;>repeat' (first| exact True.intro| refine ai ?_| refine And.intro ?_ ?_)))
 · (conv => whnf);repeat' ((first| intro g| refine st ?_| (refine aL.bK ?_;intro s) | (first| refine b1 ?_ ?_| refine b2 ?_ ?_| refine Br.mk ?_ ?_) <;>intro hc| exact rfl) <;>conv=>whnf)
   refine ba.by (fun ((i,ws,a,g):Nat×List Way×Nat×Nat)=> ⟨[(3,.ptr 176 gd 0 0),(4,.sl 81 g 0 ws.length),(7,aT i)],[(176,⟨gd,2,false,false,some [cT l a]⟩),(81,⟨g,8,true,false,some (ws.map Way.v)⟩)]⟩)
     (fun (i,ws,_,_)=>i≤4∧qk ws (6+i)) (fun (i,_)=>4 - i) (0,ws,a,g) (by(refine⟨?_,?_⟩ <;>repeat' (first| exact True.intro| refine ai ?_| refine And.intro ?_ ?_))) ⟨by simp,uE.mono (by omega)⟩ ?_
   clear uE
   rintro⟨i,ws,a,g⟩ ⟨hi,uE⟩
   try dsimp only at hi uE
   by_cases fJ:i< 4
   · by_cases Qi:ws.length< 5
     · obtain⟨p,hp⟩:=eE i 0
       obtain⟨q,hq⟩:=eE i 1
       (conv=>whnf);repeat' ((first| intro g| refine ag.mk _ (n2 _) ?_| refine ag.mk _ (hp) ?_| refine ag.mk _ (hq) ?_| refine st ?_| (refine aL.bK ?_;intro s) | (first| refine b1 ?_ ?_| refine b2 ?_ ?_| refine Br.mk ?_ ?_) <;>intro hc| exact rfl) <;>conv=>whnf)
       · refine ag.ex (ma hl uE (by omega) p q 0 (bW l a)) ?_
         rintro _ ⟨tL,a',b,iI,rfl⟩
         (conv=>whnf);repeat' ((first| intro g| refine st ?_| (refine aL.bK ?_;intro s) | (first| refine b1 ?_ ?_| refine b2 ?_ ?_| refine Br.mk ?_ ?_) <;>intro hc| exact rfl) <;>conv=>whnf)
         exact bI.mk (i+1,tL,a',g+b) (by first| omega| (dsimp only;omega)) ⟨(by first| omega| (dsimp only;omega)),iI⟩ (by(refine⟨?_,?_⟩ <;>repeat' (first| exact True.intro| refine ai ?_| refine And.intro ?_ ?_)))
       · exact bI.mk (i+1,ws,bW l a,g) (by first| omega| (dsimp only;omega)) ⟨(by first| omega| (dsimp only;omega)),uE.mono (by omega)⟩ (by(refine⟨?_,?_⟩ <;>repeat' (first| exact True.intro| refine ai ?_| refine And.intro ?_ ?_)))
     · obtain⟨Yo,Ft⟩:=eE 0 0
       obtain⟨Yp,Fu⟩:=eE 1 1
       obtain⟨Yq,vD⟩:=eE 3 0
       obtain⟨Yr,Fv⟩: ∃f:Int→Pt,∀x,Ev E 120 [vi x,vi 1] ⟨(f x).v,[]⟩:=⟨fun x=> (eE x 1).choose,fun x=> (eE x 1).choose_spec⟩
       (conv=>whnf);repeat' ((first| intro g| refine ag.mk _ (n2 _) ?_| refine ag.mk _ (n3 _) ?_| refine ag.mk _ (n4 _) ?_| refine ag.mk _ (Ft) ?_| refine ag.mk _ (Fu) ?_| refine ag.mk _ (vD) ?_| refine ag.mk _ (Fv _) ?_| refine st ?_| (refine aL.bK ?_;intro s) | (first| refine b1 ?_ ?_| refine b2 ?_ ?_| refine Br.mk ?_ ?_) <;>intro hc| exact rfl) <;>conv=>whnf)
       · refine ag.ex (ma hl uE (by omega) _ _ _ _) ?_
         rintro _ ⟨tL,a',b,iI,rfl⟩
         (conv=>whnf);repeat' ((first| intro g| refine ag.mk _ (n2 _) ?_| refine ag.mk _ (n3 _) ?_| refine ag.mk _ (n4 _) ?_| refine ag.mk _ (Ft) ?_| refine ag.mk _ (Fu) ?_| refine ag.mk _ (vD) ?_| refine ag.mk _ (Fv _) ?_| refine st ?_| (refine aL.bK ?_;intro s) | (first| refine b1 ?_ ?_| refine b2 ?_ ?_| refine Br.mk ?_ ?_) <;>intro hc| exact rfl) <;>conv=>whnf)
         · refine ag.ex (ma hl iI (by omega) _ _ _ _) ?_
           rintro _ ⟨Vz,a2,b2,wk,rfl⟩
           (conv=>whnf);repeat' ((first| intro g| refine ag.mk _ (n2 _) ?_| refine ag.mk _ (n3 _) ?_| refine ag.mk _ (n4 _) ?_| refine ag.mk _ (Ft) ?_| refine ag.mk _ (Fu) ?_| refine ag.mk _ (vD) ?_| refine ag.mk _ (Fv _) ?_| refine st ?_| (refine aL.bK ?_;intro s) | (first| refine b1 ?_ ?_| refine b2 ?_ ?_| refine Br.mk ?_ ?_) <;>intro hc| exact rfl) <;>conv=>whnf)
           exact⟨Vz,wk.mono (by omega),rfl⟩
         · exact⟨tL,iI.mono (by omega),rfl⟩
       · refine ag.ex (ma hl uE (by omega) _ _ _ _) ?_
         rintro _ ⟨tL,a',b,iI,rfl⟩
         (conv=>whnf);repeat' ((first| intro g| refine ag.mk _ (n2 _) ?_| refine ag.mk _ (n3 _) ?_| refine ag.mk _ (n4 _) ?_| refine ag.mk _ (Ft) ?_| refine ag.mk _ (Fu) ?_| refine ag.mk _ (vD) ?_| refine ag.mk _ (Fv _) ?_| refine st ?_| (refine aL.bK ?_;intro s) | (first| refine b1 ?_ ?_| refine b2 ?_ ?_| refine Br.mk ?_ ?_) <;>intro hc| exact rfl) <;>conv=>whnf)
         exact⟨tL,iI.mono (by omega),rfl⟩
       · exact⟨ws,uE.mono (by omega),rfl⟩
   · obtain⟨Yo,Ft⟩:=eE 0 0
     obtain⟨Yp,Fu⟩:=eE 1 1
     obtain⟨Yq,vD⟩:=eE 3 0
     obtain⟨Yr,Fv⟩: ∃f:Int→Pt,∀x,Ev E 120 [vi x,vi 1] ⟨(f x).v,[]⟩:=⟨fun x=> (eE x 1).choose,fun x=> (eE x 1).choose_spec⟩
     (conv=>whnf);repeat' ((first| intro g| refine ag.mk _ (n2 _) ?_| refine ag.mk _ (n3 _) ?_| refine ag.mk _ (n4 _) ?_| refine ag.mk _ (Ft) ?_| refine ag.mk _ (Fu) ?_| refine ag.mk _ (vD) ?_| refine ag.mk _ (Fv _) ?_| refine st ?_| (refine aL.bK ?_;intro s) | (first| refine b1 ?_ ?_| refine b2 ?_ ?_| refine Br.mk ?_ ?_) <;>intro hc| exact rfl) <;>conv=>whnf)
     · refine ag.ex (ma hl uE (by omega) _ _ _ _) ?_
       rintro _ ⟨tL,a',b,iI,rfl⟩
       (conv=>whnf);repeat' ((first| intro g| refine ag.mk _ (n2 _) ?_| refine ag.mk _ (n3 _) ?_| refine ag.mk _ (n4 _) ?_| refine ag.mk _ (Ft) ?_| refine ag.mk _ (Fu) ?_| refine ag.mk _ (vD) ?_| refine ag.mk _ (Fv _) ?_| refine st ?_| (refine aL.bK ?_;intro s) | (first| refine b1 ?_ ?_| refine b2 ?_ ?_| refine Br.mk ?_ ?_) <;>intro hc| exact rfl) <;>conv=>whnf)
       · refine ag.ex (ma hl iI (by omega) _ _ _ _) ?_
         rintro _ ⟨Vz,a2,b2,wk,rfl⟩
         (conv=>whnf);repeat' ((first| intro g| refine ag.mk _ (n2 _) ?_| refine ag.mk _ (n3 _) ?_| refine ag.mk _ (n4 _) ?_| refine ag.mk _ (Ft) ?_| refine ag.mk _ (Fu) ?_| refine ag.mk _ (vD) ?_| refine ag.mk _ (Fv _) ?_| refine st ?_| (refine aL.bK ?_;intro s) | (first| refine b1 ?_ ?_| refine b2 ?_ ?_| refine Br.mk ?_ ?_) <;>intro hc| exact rfl) <;>conv=>whnf)
         exact⟨Vz,wk.mono (by omega),rfl⟩
       · exact⟨tL,iI.mono (by omega),rfl⟩
     · refine ag.ex (ma hl uE (by omega) _ _ _ _) ?_
       rintro _ ⟨tL,a',b,iI,rfl⟩
       (conv=>whnf);repeat' ((first| intro g| refine ag.mk _ (n2 _) ?_| refine ag.mk _ (n3 _) ?_| refine ag.mk _ (n4 _) ?_| refine ag.mk _ (Ft) ?_| refine ag.mk _ (Fu) ?_| refine ag.mk _ (vD) ?_| refine ag.mk _ (Fv _) ?_| refine st ?_| (refine aL.bK ?_;intro s) | (first| refine b1 ?_ ?_| refine b2 ?_ ?_| refine Br.mk ?_ ?_) <;>intro hc| exact rfl) <;>conv=>whnf)
       exact⟨tL,iI.mono (by omega),rfl⟩
     · exact⟨ws,uE.mono (by omega),rfl⟩
end Go.AM
