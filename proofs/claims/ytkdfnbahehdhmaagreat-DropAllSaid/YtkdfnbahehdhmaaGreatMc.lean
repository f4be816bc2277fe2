/-
  Texts of the proof, joined by program: SMadeH, SMadeI, SMadeJ. Own work.
-/
import Derived.Test.YtkdfnbahehdhmaaGreatMb
set_option linter.unusedSimpArgs false
set_option linter.unusedVariables false
set_option maxRecDepth 20000
namespace Go.AM
def sJ (ls:List (List Int)):Prop:=ls.length< 9223372036854775808∧ ∀l ∈ ls,l.length< 9223372036854775808
theorem ik {ls:List (List Int)} {k:Nat} {l:List Int} (h:ls[k]? =some l): (ls.map fb)[((k:Nat):Int).toNat]? =some (fb l):=by simp[h]
def oh (r:fL):Prop:= ∃ (es:List Edge) (fs:List aI),ij es 18∧fs.length≤36∧r=⟨.tuple [.lit 4 (es.map Edge.v),.own 5 (fs.map aI.v)],[]⟩
set_option maxHeartbeats 4000000 in
theorem sK (ls:List (List Int)) {first second ej:List Int} (h1:first.length< 9223372036854775808) (h2:second.length< 9223372036854775808) (h3:ej.length< 9223372036854775808) {w h:Nat} (hw:w≤3) (hh:h≤2) (Xa:1≤w) (hh1:1≤h) (S:SS) (gd go a0:Nat) (Q7:List Int) (h6:Q7.length=6)
   (hS:SS.Sub ⟨[(5,fb second),(6,fb ej),(7,.ptr 672 gd 0 0),(8,aD w),(9,aD h),(10,.ptr 176 go 0 0),(11,aD 0)],[(672,⟨gd,2,false,false,some [c8 first a0]⟩),(176,⟨go,6,false,false,some [.agg (Q7.map vi)]⟩)]⟩ S):
   aV E xX S (Gc 0 (thenS (v9 f83.results [fU ls] oh) fun S'=>oN E (Bv Gn 11) S' (v9 f83.results [fU ls] oh))):=by
 refine W6 h1 hw hh S gd go a0 Q7 h6 hS _ ?_
 intro a cs db
 match cs,db with
 | [x0,x1,x2,x3,x4,x5],_=>
   (conv=>whnf);repeat' ((first| intro g| refine st ?_| (refine aL.bP ?_;intro s) | (first| refine b1 ?_ ?_| refine b2 ?_ ?_| refine Br.mk ?_ ?_) <;>intro hc| exact rfl) <;>conv=>whnf)
   rename_i ge
   refine W7 (gd:=gd) (go:=go) (ge:=ge) (ad:=a) (first:=first) (x0:=x0) (x1:=x1) (x2:=x2) (x3:=x3) (x4:=x4) (x5:=x5) h2 h3 hw hh _ 0 g (by(refine⟨?_,?_⟩ <;>repeat' (first| exact True.intro| refine ai ?_| refine And.intro ?_ ?_))) _ ?_
   intro es ae g7 he
   (conv=>whnf);repeat' ((first| intro g| refine st ?_| (refine aL.bP ?_;intro s) | (first| refine b1 ?_ ?_| refine b2 ?_ ?_| refine Br.mk ?_ ?_) <;>intro hc| exact rfl) <;>conv=>whnf)
   refine W9 (gd:=gd) (go:=go) (ge:=ge) (ad:=a) (first:=first) (x0:=x0) (x1:=x1) (x2:=x2) (x3:=x3) (x4:=x4) (x5:=x5) h2 h3 hw hh _ es he ae g7 (by(refine⟨?_,?_⟩ <;>repeat' (first| exact True.intro| refine ai ?_| refine And.intro ?_ ?_))) _ ?_
   clear he es ae g7
   intro es ae g7 he
   have oO:=he.1
   have n2:=b8 h1 2 (a:=a) (by omega) (by omega)
   have nw:=b8 h1 w (a:=b5 first a) (by omega) (by omega)
   have nh:=b8 h1 h (a:=b5 first (b5 first a)) (by omega) (by omega)
   have bw:=gH (l:=first) (a:=b5 first a) (n:=w) (by omega) (by omega)
   have bh:=gH (l:=first) (a:=b5 first (b5 first a)) (n:=h) (by omega) (by omega)
   generalize fm first (b5 first a) w=i at nw bw
   generalize fm first (b5 first (b5 first a)) h=j at nh bh
   by_cases hn2:fm first a 2=1
   · rcases(by omega:i=0∨i=1∨i=2) with rfl| rfl| rfl<;>rcases(by omega:j=0∨j=1) with rfl| rfl
     all_goals
      (conv=>whnf);repeat' ((first| intro g| refine ag.mk _ (n2) ?_| refine ag.mk _ (nw) ?_| refine ag.mk _ (nh) ?_| refine st ?_| (refine aL.bP ?_;intro s) | (first| refine b1 ?_ ?_| refine b2 ?_ ?_| refine Br.mk ?_ ?_) <;>intro hc| exact rfl) <;>conv=>whnf)
      refine ag.ex (Ek h3 he (by omega) ⟨_,_⟩ _ _) ?_
      rintro _ ⟨es',ae',b,wP,rfl⟩
      have acW:=wP.1
      (conv=>whnf);repeat' ((first| intro g| refine st ?_| (refine aL.bP ?_;intro s) | (first| refine b1 ?_ ?_| refine b2 ?_ ?_| refine Br.mk ?_ ?_) <;>intro hc| exact rfl) <;>conv=>whnf)
      refine ag.ex (zl (es:=es') (by omega)) ?_
      rintro _ ⟨fs,hfs,rfl⟩
      (conv=>whnf);repeat' ((first| intro g| refine st ?_| (refine aL.bP ?_;intro s) | (first| refine b1 ?_ ?_| refine b2 ?_ ?_| refine Br.mk ?_ ?_) <;>intro hc| exact rfl) <;>conv=>whnf)
      exact⟨es',fs,wP,by omega,rfl⟩
   · (conv=>whnf);repeat' ((first| intro g| refine ag.mk _ (n2) ?_| refine st ?_| (refine aL.bP ?_;intro s) | (first| refine b1 ?_ ?_| refine b2 ?_ ?_| refine Br.mk ?_ ?_) <;>intro hc| exact rfl) <;>conv=>whnf)
     refine ag.ex (zl (es:=es) (by omega)) ?_
     rintro _ ⟨fs,hfs,rfl⟩
     (conv=>whnf);repeat' ((first| intro g| refine st ?_| (refine aL.bP ?_;intro s) | (first| refine b1 ?_ ?_| refine b2 ?_ ?_| refine Br.mk ?_ ?_) <;>intro hc| exact rfl) <;>conv=>whnf)
     exact⟨es,fs,he.mono (by omega),by omega,rfl⟩
set_option maxHeartbeats 4000000 in
theorem El {ls:List (List Int)} (hs:sJ ls): ∃res,Ev E 83 [fU ls] res∧oh res:=by
 refine Ev.cO aa2 (aa3 _) rfl ?_
 have hl:=hs.1
 have key: ∀k,k<ls.length→ ∃l,ls[k]? =some l∧l.length< 9223372036854775808:=fun k hk=> ⟨_,aE hk,hs.2 _ (List.getElem_mem hk)⟩
 have gen: ∀ (first second ej:List Int),first.length< 9223372036854775808→second.length< 9223372036854775808→ej.length< 9223372036854775808→
    (0 <ls.length→ls[0]? =some first)→(1 <ls.length→ls[1]? =some second)→(2 <ls.length→ls[2]? =some ej)→(ls.length≤0→first=[])→(ls.length≤1→second=[])→(ls.length≤2→ej=[])→
    oN E f83.body (xR [fU ls]) (v9 f83.results [fU ls] oh):=by
  intro first second ej h1 h2 h3 k1 k2 k3 e1 e2 e3
  have n3:=b8 h1 3 (a:=0) (by omega) (by omega)
  have n2:=b8 h1 2 (a:=b5 first 0) (by omega) (by omega)
  have b3:=gH (l:=first) (a:=0) (n:=3) (by omega) (by omega)
  have b2:=gH (l:=first) (a:=b5 first 0) (n:=2) (by omega) (by omega)
  generalize fm first 0 3=r3 at n3 b3
  generalize fm first (b5 first 0) 2=r2 at n2 b2
  have w3:IntKind.i64.wrap (1+(r3:Int))=((1+r3:Nat):Int):=(wrap64 (by omega) (by omega)).trans (by omega)
  have w2:IntKind.i64.wrap (1+(r2:Int))=((1+r2:Nat):Int):=(wrap64 (by omega) (by omega)).trans (by omega)
  have f3:V.int .i64 (IntKind.i64.wrap (1+(r3:Int)))=aD (1+r3):=by rw[w3]
  have f2:V.int .i64 (IntKind.i64.wrap (1+(r2:Int)))=aD (1+r2):=by rw[w2]
  have fin: ∀ (S:SS) (gd go:Nat),SS.Sub ⟨[(5,fb second),(6,fb ej),(7,.ptr 672 gd 0 0),(8,V.int .i64 (IntKind.i64.wrap (1+(r3:Int)))),(9,if IntKind.i64.wrap (1+(r3:Int))=3 then vi 1 else V.int .i64 (IntKind.i64.wrap (1+(r2:Int)))),(10,.ptr 176 go 0 0),(11,vi 0)],
      [(672,⟨gd,2,false,false,some [c8 first (b5 first (b5 first 0))]⟩),(176,⟨go,6,false,false,some [.agg [vi 0,vi 0,vi 0,vi 0,vi 0,vi 0]]⟩)]⟩ S→
      aV E xX S (Gc 0 (thenS (v9 f83.results [fU ls] oh) fun S'=>oN E (Bv Gn 11) S' (v9 f83.results [fU ls] oh))):=by
    intro S gd go hS
    by_cases hc:IntKind.i64.wrap (1+(r3:Int))=3
    · rw[f3,if_pos hc] at hS
      exact sK (w:=1+r3) (h:=1) ls h1 h2 h3 (by omega) (by omega) (by omega) (by omega) S gd go _ [0,0,0,0,0,0] rfl hS
    · rw[f3,if_neg hc,f2] at hS
      exact sK (w:=1+r3) (h:=1+r2) ls h1 h2 h3 (by omega) (by omega) (by omega) (by omega) S gd go _ [0,0,0,0,0,0] rfl hS
  rcases(by omega:ls.length=0∨ls.length=1∨ls.length=2∨2 <ls.length) with hz| hz| hz| hz
  · obtain rfl:=e1 (by omega)
    obtain rfl:=e2 (by omega)
    obtain rfl:=e3 (by omega)
    (conv=>whnf);repeat' ((first| intro g| refine ag.mk _ (n3) ?_| refine ag.mk _ (n2) ?_| refine st ?_| (refine aL.bP ?_;intro s) | (first| refine b1 ?_ ?_| refine b2 ?_ ?_| refine Br.mk ?_ ?_) <;>intro hc| exact rfl) <;>conv=>whnf)
    all_goals (rename_i gd;refine fin _ gd g ?_)
    all_goals first| rw[if_pos hc] | rw[if_neg hc]
    all_goals (refine⟨?_,?_⟩ <;>repeat' (first| exact True.intro| refine ai ?_| refine And.intro ?_ ?_))
  · obtain rfl:=e2 (by omega)
    obtain rfl:=e3 (by omega)
    (conv=>whnf);repeat' ((first| intro g| refine aL.mk _ (ik (k1 (by omega))) ?_| refine ag.mk _ (n3) ?_| refine ag.mk _ (n2) ?_| refine st ?_| (refine aL.bP ?_;intro s) | (first| refine b1 ?_ ?_| refine b2 ?_ ?_| refine Br.mk ?_ ?_) <;>intro hc| exact rfl) <;>conv=>whnf)
    all_goals (rename_i gd;refine fin _ gd g ?_)
    all_goals first| rw[if_pos hc] | rw[if_neg hc]
    all_goals (refine⟨?_,?_⟩ <;>repeat' (first| exact True.intro| refine ai ?_| refine And.intro ?_ ?_))
  · obtain rfl:=e3 (by omega)
    (conv=>whnf);repeat' ((first| intro g| refine aL.mk _ (ik (k1 (by omega))) ?_| refine aL.mk _ (ik (k2 (by omega))) ?_| refine ag.mk _ (n3) ?_| refine ag.mk _ (n2) ?_| refine st ?_| (refine aL.bP ?_;intro s) | (first| refine b1 ?_ ?_| refine b2 ?_ ?_| refine Br.mk ?_ ?_) <;>intro hc| exact rfl) <;>conv=>whnf)
    all_goals (rename_i gd;refine fin _ gd g ?_)
    all_goals first| rw[if_pos hc] | rw[if_neg hc]
    all_goals (refine⟨?_,?_⟩ <;>repeat' (first| exact True.intro| refine ai ?_| refine And.intro ?_ ?_))
  · (conv=>whnf);repeat' ((first| intro g| refine aL.mk _ (ik (k1 (by omega))) ?_| refine aL.mk _ (ik (k2 (by omega))) ?_| refine aL.mk _ (ik (k3 (by omega))) ?_| refine ag.mk _ (n3) ?_| refine ag.mk _ (n2) ?_| refine st ?_| (refine aL.bP ?_;intro s) | (first| refine b1 ?_ ?_| refine b2 ?_ ?_| refine Br.mk ?_ ?_) <;>intro hc| exact rfl) <;>conv=>whnf)
    all_goals (rename_i gd;refine fin _ gd g ?_)
    all_goals first| rw[if_pos hc] | rw[if_neg hc]
    all_goals (refine⟨?_,?_⟩ <;>repeat' (first| exact True.intro| refine ai ?_| refine And.intro ?_ ?_))
 have pick: ∀k,∃l:List Int,l.length< 9223372036854775808∧(k<ls.length→ls[k]? =some l)∧(ls.length≤k→l=[]):=by
  intro k
  by_cases hk:k<ls.length
  · obtain⟨l,a1,a2⟩:=key k hk
    exact⟨l,a2,fun _=>a1,fun h=>by omega⟩
  · exact⟨[],by simp,fun h=>by omega,fun _=>rfl⟩
 obtain⟨first,a1,b1,c1⟩:=pick 0
 obtain⟨second,a2,b2,c2⟩:=pick 1
 obtain⟨ej,a3,b3,c3⟩:=pick 2
 exact gen first second ej a1 a2 a3 b1 b2 b3 c1 c2 c3
end Go.AM
set_option maxRecDepth 20000
namespace Go.AM
theorem fe (i j:Int): ∃p:Pt,Ev E 120 [vi i,vi j] ⟨p.v,[]⟩:=by
 have key:=Ev.cO (R:=fun r=> ∃p:Pt,r=⟨p.v,[]⟩) Vm (Vn [vi i,vi j]) rfl ?_
 · obtain⟨res,h1,p,rfl⟩:=key
   exact⟨p,h1⟩
 (conv=>whnf);repeat' ((first| intro g| refine st ?_| (refine aL.bP ?_;intro s) | (first| refine b1 ?_ ?_| refine b2 ?_ ?_| refine Br.mk ?_ ?_) <;>intro hc| exact rfl) <;>conv=>whnf)
 exact⟨⟨_,_⟩,rfl⟩
def rX (ws:List Way) (n:Nat):Prop:=ws.length≤n∧ ∀w ∈ ws,iH w.line
theorem rX.snoc {es:List Way} {n:Nat} {e:Way} (h:rX es n) (k:iH e.line):rX (es++[e]) (n+1):=
 ⟨by have:=h.1;simp;omega,fun x hx=>by
   rcases List.mem_append.1 hx with hx| hx
   · exact h.2 x hx
   · have:x=e:=by simpa using hx
     subst this;exact k⟩
theorem rX.mono {es:List Way} {n m:Nat} (h:rX es n) (k:n≤m):rX es m:=⟨Nat.le_trans h.1 k,h.2⟩
set_option maxHeartbeats 4000000 in
theorem ni {l:List Int} (hl:l.length< 9223372036854775808) {ws:List Way} {n:Nat} (hw:rX ws n) (hn:n< 1000) (p q:Pt) (level:Int) (a0:Nat):
   ∃res,Ev E 119 [.msl 8 (ws.map Way.v) 0 ws.length,p.v,q.v,vi level,.mptr 2 [c8 l a0] 0 0] res∧ ∃ (vX:List Way) (a b:Nat),rX vX (n+1)∧res=⟨.sl 0 b 0 vX.length,[(b,vX.map Way.v),(0,[c8 l a])]⟩:=by
 refine Ev.cO Vk (Vl _) rfl ?_
 have oP:=hw.1
 have nx:=fun k a (h:0 <k) (h2:k< 1000)=>b8 hl k (a:=a) h (by omega)
 have hb:=gH (l:=l) (a:=a0) (n:=3) (by omega) (by omega)
 have n3:=nx 3 a0 (by omega) (by omega)
 generalize hm:fm l a0 3=many at hb n3
 have e1:IntKind.i64.wrap ((many:Int)+1)=((many+1:Nat):Int):=(wrap64 (by omega) (by omega)).trans (by omega)
 have GN:IntKind.i64.wrap (41+(ws.length:Int))=41+(ws.length:Int):=wrap64 (by omega) (by omega)
 (conv=>whnf);repeat' ((first| intro g| refine ag.mk _ (n3) ?_| refine st ?_| (refine aL.bP ?_;intro s) | (first| refine b1 ?_ ?_| refine b2 ?_ ?_| refine Br.mk ?_ ?_) <;>intro hc| exact rfl) <;>conv=>whnf)
 rename_i g6 g7 gb
 refine aV.by (fun ((k,L,a,gb):Nat×List Pt×Nat×Nat)=> ⟨[(0,.sl 0 0 0 ws.length),(4,.ptr 4 0 0 0),(6,.ptr 112 g6 0 0),(7,.ptr 128 g7 0 0),(11,.ptr 192 g 0 0),(12,aD many),(13,aD k)],
    [(0,⟨0,8,true,false,some (ws.map Way.v)⟩),(4,⟨0,2,false,false,some [c8 l a]⟩),(112,⟨g6,2,false,false,some [p.v]⟩),(128,⟨g7,2,false,false,some [q.v]⟩),
     (192,⟨g,8,false,false,some [.agg [vi (41+(ws.length:Int)),.sl 352 gb 0 L.length,vi level,.str [],.str [],.bool false,vi 0,vi 0]]⟩),(352,⟨gb,2,true,false,some (L.map Pt.v)⟩)]⟩)
   (fun (k,L,_,_)=>1≤k∧k≤many+1∧L.length=k) (fun (k,_)=>many+1 - k) (1,[p],b5 l a0,gb) ?_ ⟨by simp,by simp,by simp⟩ ?_
 · rw[GN]; (refine⟨?_,?_⟩ <;>repeat' (first| exact True.intro| refine ai ?_| refine And.intro ?_ ?_))
 rintro⟨k,L,a,gb⟩ ⟨yX,Em,hL⟩
 try dsimp only at yX Em hL
 by_cases bl:k≤many
 · have n17:=nx 17 a (by omega) (by omega)
   (conv=>whnf);repeat' ((first| intro g| refine ag.mk _ (n17) ?_| refine st ?_| (refine aL.bP ?_;intro s) | (first| refine b1 ?_ ?_| refine b2 ?_ ?_| refine Br.mk ?_ ?_) <;>intro hc| exact rfl) <;>conv=>whnf)
   all_goals exact a9.mk (k+1,L++[⟨_,_⟩],b5 l a,g) (by first| omega| (dsimp only;omega)) ⟨(by first| omega| (dsimp only;omega)),(by first| omega| (dsimp only;omega)),by simp[hL]⟩ (by(refine⟨?_,?_⟩ <;>repeat' (first| exact True.intro| refine ai ?_| refine And.intro ?_ ?_)))
 · have n2:=fun a=>b8 hl 2 (a:=a) (by omega) (by omega)
   have n3:=fun a=>b8 hl 3 (a:=a) (by omega) (by omega)
   have n4:=fun a=>b8 hl 4 (a:=a) (by omega) (by omega)
   have Xb:=fun a=>b8 hl 60 (a:=a) (by omega) (by omega)
   (conv=>whnf);repeat' ((first| intro g| refine ag.mk _ (n2 _) ?_| refine ag.mk _ (n3 _) ?_| refine ag.mk _ (n4 _) ?_| refine ag.mk _ (Xb _) ?_| refine st ?_| (refine aL.bP ?_;intro s) | (first| refine b1 ?_ ?_| refine b2 ?_ ?_| refine Br.mk ?_ ?_) <;>intro hc| exact rfl) <;>conv=>whnf)
   have hLF:iH (L++[q]):=⟨by simp;omega,by simp;omega⟩
   exact⟨ws++[⟨_,L++[q],_,_,_,_,_,_⟩],_,_,hw.snoc hLF,by
    simp only[List.map_append,List.map_cons,List.map_nil,List.length_append,List.length_cons,List.length_nil,List.length_map,Way.v,dJ]
    rfl⟩
end Go.AM
set_option maxRecDepth 20000
namespace Go.AM
set_option maxHeartbeats 4000000 in
theorem Ke {l:List Int} (hl:l.length< 9223372036854775808): ∃res,Ev E 86 [.lit 1 (l.map vi)] res∧ ∃ws:List Way,rX ws 12∧res=⟨.own 8 (ws.map Way.v),[]⟩:=by
 refine Ev.cO aa4 (aa5 _) rfl ?_
 have n2:=fun a=>b8 hl 2 (a:=a) (by omega) (by omega)
 have n3:=fun a=>b8 hl 3 (a:=a) (by omega) (by omega)
 have n4:=fun a=>b8 hl 4 (a:=a) (by omega) (by omega)
 (conv=>whnf);repeat' ((first| intro g| refine st ?_| (refine aL.bP ?_;intro s) | (first| refine b1 ?_ ?_| refine b2 ?_ ?_| refine Br.mk ?_ ?_) <;>intro hc| exact rfl) <;>conv=>whnf)
 rename_i gd
 refine aV.by (fun ((j,ws,a,g):Nat×List Way×Nat×Nat)=> ⟨[(3,.ptr 176 gd 0 0),(4,.sl 81 g 0 ws.length),(5,aD j)],[(176,⟨gd,2,false,false,some [c8 l a]⟩),(81,⟨g,8,true,false,some (ws.map Way.v)⟩)]⟩)
   (fun (j,ws,_,_)=>j≤2∧rX ws (3*j)) (fun (j,_)=>2 - j) (0,[],0,g) (by(refine⟨?_,?_⟩ <;>repeat' (first| exact True.intro| refine ai ?_| refine And.intro ?_ ?_))) ⟨by simp,by simp,by simp⟩ ?_
 rintro⟨j,ws,a,g⟩ ⟨hj,wR⟩
 try dsimp only at hj wR
 by_cases bl:j< 2
 · (conv=>whnf);repeat' ((first| intro g| refine st ?_| (refine aL.bP ?_;intro s) | (first| refine b1 ?_ ?_| refine b2 ?_ ?_| refine Br.mk ?_ ?_) <;>intro hc| exact rfl) <;>conv=>whnf)
   refine aV.by (fun ((i,ws,a,g):Nat×List Way×Nat×Nat)=> ⟨[(3,.ptr 176 gd 0 0),(4,.sl 81 g 0 ws.length),(5,aD j),(6,aD i)],[(176,⟨gd,2,false,false,some [c8 l a]⟩),(81,⟨g,8,true,false,some (ws.map Way.v)⟩)]⟩)
     (fun (i,ws,_,_)=>i≤3∧rX ws (3*j+i)) (fun (i,_)=>3 - i) (0,ws,a,g) (by(refine⟨?_,?_⟩ <;>repeat' (first| exact True.intro| refine ai ?_| refine And.intro ?_ ?_))) ⟨by simp,wR⟩ ?_
   clear wR
   rintro⟨i,ws,a,g⟩ ⟨hi,wR⟩
   try dsimp only at hi wR
   by_cases fB:i< 3
   · obtain⟨p,hp⟩:=fe i j
     obtain⟨q,hq⟩:=fe (IntKind.i64.wrap ((i:Int)+1)) j
     (conv=>whnf);repeat' ((first| intro g| refine ag.mk _ (n2 _) ?_| refine ag.mk _ (hp) ?_| refine ag.mk _ (hq) ?_| refine st ?_| (refine aL.bP ?_;intro s) | (first| refine b1 ?_ ?_| refine b2 ?_ ?_| refine Br.mk ?_ ?_) <;>intro hc| exact rfl) <;>conv=>whnf)
     · refine ag.ex (ni hl wR (by omega) p q 0 (b5 l a)) ?_
       rintro _ ⟨vX,a',b,js,rfl⟩
       (conv=>whnf);repeat' ((first| intro g| refine st ?_| (refine aL.bP ?_;intro s) | (first| refine b1 ?_ ?_| refine b2 ?_ ?_| refine Br.mk ?_ ?_) <;>intro hc| exact rfl) <;>conv=>whnf)
       exact a9.mk (i+1,vX,a',g+b) (by first| omega| (dsimp only;omega)) ⟨(by first| omega| (dsimp only;omega)),js⟩ (by(refine⟨?_,?_⟩ <;>repeat' (first| exact True.intro| refine ai ?_| refine And.intro ?_ ?_)))
     · exact a9.mk (i+1,ws,b5 l a,g) (by first| omega| (dsimp only;omega)) ⟨(by first| omega| (dsimp only;omega)),wR.mono (by omega)⟩ (by(refine⟨?_,?_⟩ <;>repeat' (first| exact True.intro| refine ai ?_| refine And.intro ?_ ?_)))
   · (conv=>whnf);repeat' ((first| intro g| refine st ?_| (refine aL.bP ?_;intro s) | (first| refine b1 ?_ ?_| refine b2 ?_ ?_| refine Br.mk ?_ ?_) <;>intro hc| exact rfl) <;>conv=>whnf)
     exact a9.mk (j+1,ws,a,g) (by first| omega| (dsimp only;omega)) ⟨(by first| omega| (dsimp only;omega)),wR.mono (by omega)⟩ (by(refine⟨?_,?_⟩ <;>repeat' (first| exact True.intro| refine ai ?_| refine And.intro ?_ ?_)))
 · (conv => whnf);repeat' ((first| intro g| refine st ?_| (refine aL.bP ?_;intro s) | (first| refine b1 ?_ ?_| refine b2 ?_ ?_| refine Br.mk ?_ ?_) <;>intro hc| exact rfl) <;>conv=>whnf)
   refine aV.by (fun ((i,ws,a,g):Nat×List Way×Nat×Nat)=> ⟨[(3,.ptr 176 gd 0 0),(4,.sl 81 g 0 ws.length),(7,aD i)],[(176,⟨gd,2,false,false,some [c8 l a]⟩),(81,⟨g,8,true,false,some (ws.map Way.v)⟩)]⟩)
     (fun (i,ws,_,_)=>i≤4∧rX ws (6+i)) (fun (i,_)=>4 - i) (0,ws,a,g) (by(refine⟨?_,?_⟩ <;>repeat' (first| exact True.intro| refine ai ?_| refine And.intro ?_ ?_))) ⟨by simp,wR.mono (by omega)⟩ ?_
   clear wR
   rintro⟨i,ws,a,g⟩ ⟨hi,wR⟩
   try dsimp only at hi wR
   by_cases fB:i< 4
   · by_cases Xc:ws.length< 5
     · obtain⟨p,hp⟩:=fe i 0
       obtain⟨q,hq⟩:=fe i 1
       (conv=>whnf);repeat' ((first| intro g| refine ag.mk _ (n2 _) ?_| refine ag.mk _ (hp) ?_| refine ag.mk _ (hq) ?_| refine st ?_| (refine aL.bP ?_;intro s) | (first| refine b1 ?_ ?_| refine b2 ?_ ?_| refine Br.mk ?_ ?_) <;>intro hc| exact rfl) <;>conv=>whnf)
       · refine ag.ex (ni hl wR (by omega) p q 0 (b5 l a)) ?_
         rintro _ ⟨vX,a',b,js,rfl⟩
         (conv=>whnf);repeat' ((first| intro g| refine st ?_| (refine aL.bP ?_;intro s) | (first| refine b1 ?_ ?_| refine b2 ?_ ?_| refine Br.mk ?_ ?_) <;>intro hc| exact rfl) <;>conv=>whnf)
         exact a9.mk (i+1,vX,a',g+b) (by first| omega| (dsimp only;omega)) ⟨(by first| omega| (dsimp only;omega)),js⟩ (by(refine⟨?_,?_⟩ <;>repeat' (first| exact True.intro| refine ai ?_| refine And.intro ?_ ?_)))
       · exact a9.mk (i+1,ws,b5 l a,g) (by first| omega| (dsimp only;omega)) ⟨(by first| omega| (dsimp only;omega)),wR.mono (by omega)⟩ (by(refine⟨?_,?_⟩ <;>repeat' (first| exact True.intro| refine ai ?_| refine And.intro ?_ ?_)))
     · obtain⟨p00,Kf⟩:=fe 0 0
       obtain⟨p11,Kg⟩:=fe 1 1
       obtain⟨p30,xZ⟩:=fe 3 0
       obtain⟨p21,Kh⟩: ∃f:Int→Pt,∀x,Ev E 120 [vi x,vi 1] ⟨(f x).v,[]⟩:=⟨fun x=> (fe x 1).choose,fun x=> (fe x 1).choose_spec⟩
       (conv=>whnf);repeat' ((first| intro g| refine ag.mk _ (n2 _) ?_| refine ag.mk _ (n3 _) ?_| refine ag.mk _ (n4 _) ?_| refine ag.mk _ (Kf) ?_| refine ag.mk _ (Kg) ?_| refine ag.mk _ (xZ) ?_| refine ag.mk _ (Kh _) ?_| refine st ?_| (refine aL.bP ?_;intro s) | (first| refine b1 ?_ ?_| refine b2 ?_ ?_| refine Br.mk ?_ ?_) <;>intro hc| exact rfl) <;>conv=>whnf)
       · refine ag.ex (ni hl wR (by omega) _ _ _ _) ?_
         rintro _ ⟨vX,a',b,js,rfl⟩
         (conv=>whnf);repeat' ((first| intro g| refine ag.mk _ (n2 _) ?_| refine ag.mk _ (n3 _) ?_| refine ag.mk _ (n4 _) ?_| refine ag.mk _ (Kf) ?_| refine ag.mk _ (Kg) ?_| refine ag.mk _ (xZ) ?_| refine ag.mk _ (Kh _) ?_| refine st ?_| (refine aL.bP ?_;intro s) | (first| refine b1 ?_ ?_| refine b2 ?_ ?_| refine Br.mk ?_ ?_) <;>intro hc| exact rfl) <;>conv=>whnf)
         · refine ag.ex (ni hl js (by omega) _ _ _ _) ?_
           rintro _ ⟨ws2,a2,b2,zn,rfl⟩
           (conv=>whnf);repeat' ((first| intro g| refine ag.mk _ (n2 _) ?_| refine ag.mk _ (n3 _) ?_| refine ag.mk _ (n4 _) ?_| refine ag.mk _ (Kf) ?_| refine ag.mk _ (Kg) ?_| refine ag.mk _ (xZ) ?_| refine ag.mk _ (Kh _) ?_| refine st ?_| (refine aL.bP ?_;intro s) | (first| refine b1 ?_ ?_| refine b2 ?_ ?_| refine Br.mk ?_ ?_) <;>intro hc| exact rfl) <;>conv=>whnf)
           exact⟨ws2,zn.mono (by omega),rfl⟩
         · exact⟨vX,js.mono (by omega),rfl⟩
       · refine ag.ex (ni hl wR (by omega) _ _ _ _) ?_
         rintro _ ⟨vX,a',b,js,rfl⟩
         (conv=>whnf);repeat' ((first| intro g| refine ag.mk _ (n2 _) ?_| refine ag.mk _ (n3 _) ?_| refine ag.mk _ (n4 _) ?_| refine ag.mk _ (Kf) ?_| refine ag.mk _ (Kg) ?_| refine ag.mk _ (xZ) ?_| refine ag.mk _ (Kh _) ?_| refine st ?_| (refine aL.bP ?_;intro s) | (first| refine b1 ?_ ?_| refine b2 ?_ ?_| refine Br.mk ?_ ?_) <;>intro hc| exact rfl) <;>conv=>whnf)
         exact⟨vX,js.mono (by omega),rfl⟩
       · exact⟨ws,wR.mono (by omega),rfl⟩
   · obtain⟨p00,Kf⟩:=fe 0 0
     obtain⟨p11,Kg⟩:=fe 1 1
     obtain⟨p30,xZ⟩:=fe 3 0
     obtain⟨p21,Kh⟩: ∃f:Int→Pt,∀x,Ev E 120 [vi x,vi 1] ⟨(f x).v,[]⟩:=⟨fun x=> (fe x 1).choose,fun x=> (fe x 1).choose_spec⟩
     (conv=>whnf);repeat' ((first| intro g| refine ag.mk _ (n2 _) ?_| refine ag.mk _ (n3 _) ?_| refine ag.mk _ (n4 _) ?_| refine ag.mk _ (Kf) ?_| refine ag.mk _ (Kg) ?_| refine ag.mk _ (xZ) ?_| refine ag.mk _ (Kh _) ?_| refine st ?_| (refine aL.bP ?_;intro s) | (first| refine b1 ?_ ?_| refine b2 ?_ ?_| refine Br.mk ?_ ?_) <;>intro hc| exact rfl) <;>conv=>whnf)
     · refine ag.ex (ni hl wR (by omega) _ _ _ _) ?_
       rintro _ ⟨vX,a',b,js,rfl⟩
       (conv=>whnf);repeat' ((first| intro g| refine ag.mk _ (n2 _) ?_| refine ag.mk _ (n3 _) ?_| refine ag.mk _ (n4 _) ?_| refine ag.mk _ (Kf) ?_| refine ag.mk _ (Kg) ?_| refine ag.mk _ (xZ) ?_| refine ag.mk _ (Kh _) ?_| refine st ?_| (refine aL.bP ?_;intro s) | (first| refine b1 ?_ ?_| refine b2 ?_ ?_| refine Br.mk ?_ ?_) <;>intro hc| exact rfl) <;>conv=>whnf)
       · refine ag.ex (ni hl js (by omega) _ _ _ _) ?_
         rintro _ ⟨ws2,a2,b2,zn,rfl⟩
         (conv=>whnf);repeat' ((first| intro g| refine ag.mk _ (n2 _) ?_| refine ag.mk _ (n3 _) ?_| refine ag.mk _ (n4 _) ?_| refine ag.mk _ (Kf) ?_| refine ag.mk _ (Kg) ?_| refine ag.mk _ (xZ) ?_| refine ag.mk _ (Kh _) ?_| refine st ?_| (refine aL.bP ?_;intro s) | (first| refine b1 ?_ ?_| refine b2 ?_ ?_| refine Br.mk ?_ ?_) <;>intro hc| exact rfl) <;>conv=>whnf)
         exact⟨ws2,zn.mono (by omega),rfl⟩
       · exact⟨vX,js.mono (by omega),rfl⟩
     · refine ag.ex (ni hl wR (by omega) _ _ _ _) ?_
       rintro _ ⟨vX,a',b,js,rfl⟩
       (conv=>whnf);repeat' ((first| intro g| refine ag.mk _ (n2 _) ?_| refine ag.mk _ (n3 _) ?_| refine ag.mk _ (n4 _) ?_| refine ag.mk _ (Kf) ?_| refine ag.mk _ (Kg) ?_| refine ag.mk _ (xZ) ?_| refine ag.mk _ (Kh _) ?_| refine st ?_| (refine aL.bP ?_;intro s) | (first| refine b1 ?_ ?_| refine b2 ?_ ?_| refine Br.mk ?_ ?_) <;>intro hc| exact rfl) <;>conv=>whnf)
       exact⟨vX,js.mono (by omega),rfl⟩
     · exact⟨ws,wR.mono (by omega),rfl⟩
end Go.AM
