/-
  Texts of the proof, joined by program: SMadeH, SMadeI, SMadeJ. Own work.
-/
import Derived.Test.YtinmckmdbepjcaaMb
set_option linter.unusedSimpArgs false
set_option linter.unusedVariables false
set_option maxRecDepth 20000
namespace Go.AM
def wa (ls:List (List Int)):Prop:=ls.length< 9223372036854775808∧ ∀l ∈ ls,l.length< 9223372036854775808
theorem hN {ls:List (List Int)} {k:Nat} {l:List Int} (h:ls[k]? =some l): (ls.map eV)[((k:Nat):Int).toNat]? =some (eV l):=by simp[h]
def n9 (r:fK):Prop:= ∃ (es:List Edge) (fs:List ar),(hG es 18∧Has es)∧(fs.length≤36∧YX fs∧0 <fs.length)∧r=⟨.tuple [.lit 4 (es.map Edge.v),.own 5 (fs.map ar.v)],[]⟩
set_option maxHeartbeats 4000000 in
theorem sn (ls:List (List Int)) {first second ej:List Int} (h1:first.length< 9223372036854775808) (h2:second.length< 9223372036854775808) (h3:ej.length< 9223372036854775808) {w h:Nat} (hw:w≤3) (hh:h≤2) (Ps:1≤w) (X6:1≤h) (S:SS) (gd go a0:Nat) (LA:List Int) (h6:LA.length=6)
   (hS:SS.Sub ⟨[(5,eV second),(6,eV ej),(7,.ptr 672 gd 0 0),(8,aF w),(9,aF h),(10,.ptr 176 go 0 0),(11,aF 0)],[(672,⟨gd,2,false,false,some [de first a0]⟩),(176,⟨go,6,false,false,some [.agg (LA.map vi)]⟩)]⟩ S):
   ba E w7 S (Ex 0 (thenS (yc f83.results [fU ls] n9) fun S'=>gY E (AD EL 11) S' (yc f83.results [fU ls] n9))):=by
 refine PB h1 hw hh S gd go a0 LA h6 hS _ ?_
 intro a cs dk MP
 match cs,dk with
 | [x0,x1,x2,x3,x4,x5],_=>
   have hx0:x0=21:=by simpa using MP (by omega) (by omega)
   clear MP
   (conv=>whnf);repeat' ((first| intro g| refine st ?_| (refine aH.bR ?_;intro s) | (first| refine b1 ?_ ?_| refine b2 ?_ ?_| refine Br.mk ?_ ?_) <;>intro hc| exact rfl) <;>conv=>whnf)
   rename_i ge
   refine PC (gd:=gd) (go:=go) (ge:=ge) (ad:=a) (first:=first) (x0:=x0) (x1:=x1) (x2:=x2) (x3:=x3) (x4:=x4) (x5:=x5) h2 h3 hw hh hx0 (by omega) (by omega) _ 0 g (by(refine⟨?_,?_⟩ <;>repeat' (first| exact True.intro| refine ai ?_| refine And.intro ?_ ?_))) _ ?_
   intro es ae g7 he Zr
   (conv=>whnf);repeat' ((first| intro g| refine st ?_| (refine aH.bR ?_;intro s) | (first| refine b1 ?_ ?_| refine b2 ?_ ?_| refine Br.mk ?_ ?_) <;>intro hc| exact rfl) <;>conv=>whnf)
   refine PE (gd:=gd) (go:=go) (ge:=ge) (ad:=a) (first:=first) (x0:=x0) (x1:=x1) (x2:=x2) (x3:=x3) (x4:=x4) (x5:=x5) h2 h3 hw hh _ es he Zr ae g7 (by(refine⟨?_,?_⟩ <;>repeat' (first| exact True.intro| refine ai ?_| refine And.intro ?_ ?_))) _ ?_
   clear Zr he es ae g7
   intro es ae g7 he Zr
   have sm:=he.1
   have n2:=cg h1 2 (a:=a) (by omega) (by omega)
   have nw:=cg h1 w (a:=b8 first a) (by omega) (by omega)
   have nh:=cg h1 h (a:=b8 first (b8 first a)) (by omega) (by omega)
   have bw:=gA (l:=first) (a:=b8 first a) (n:=w) (by omega) (by omega)
   have bh:=gA (l:=first) (a:=b8 first (b8 first a)) (n:=h) (by omega) (by omega)
   generalize fg first (b8 first a) w=i at nw bw
   generalize fg first (b8 first (b8 first a)) h=j at nh bh
   by_cases UZ:fg first a 2=1
   · rcases(by omega:i=0∨i=1∨i=2) with rfl| rfl| rfl<;>rcases(by omega:j=0∨j=1) with rfl| rfl
     all_goals
      (conv=>whnf);repeat' ((first| intro g| refine ag.mk _ (n2) ?_| refine ag.mk _ (nw) ?_| refine ag.mk _ (nh) ?_| refine st ?_| (refine aH.bR ?_;intro s) | (first| refine b1 ?_ ?_| refine b2 ?_ ?_| refine Br.mk ?_ ?_) <;>intro hc| exact rfl) <;>conv=>whnf)
      refine ag.ex (C8 h3 he (by omega) ⟨_,_⟩ _ _) ?_
      rintro _ ⟨es',X7,b,vd,rfl⟩
      have Wd:=vd.1.1
      (conv=>whnf);repeat' ((first| intro g| refine st ?_| (refine aH.bR ?_;intro s) | (first| refine b1 ?_ ?_| refine b2 ?_ ?_| refine Br.mk ?_ ?_) <;>intro hc| exact rfl) <;>conv=>whnf)
      refine ag.ex (yB (es:=es') (by omega)) ?_
      rintro _ ⟨fs,S7,oK,rfl⟩
      (conv=>whnf);repeat' ((first| intro g| refine st ?_| (refine aH.bR ?_;intro s) | (first| refine b1 ?_ ?_| refine b2 ?_ ?_| refine Br.mk ?_ ?_) <;>intro hc| exact rfl) <;>conv=>whnf)
      exact⟨es',fs,⟨vd.1,vd.2 Zr⟩,⟨by omega,oK.1,oK.2 (vd.2 Zr)⟩,rfl⟩
   · (conv=>whnf);repeat' ((first| intro g| refine ag.mk _ (n2) ?_| refine st ?_| (refine aH.bR ?_;intro s) | (first| refine b1 ?_ ?_| refine b2 ?_ ?_| refine Br.mk ?_ ?_) <;>intro hc| exact rfl) <;>conv=>whnf)
     refine ag.ex (yB (es:=es) (by omega)) ?_
     rintro _ ⟨fs,S7,oK,rfl⟩
     (conv=>whnf);repeat' ((first| intro g| refine st ?_| (refine aH.bR ?_;intro s) | (first| refine b1 ?_ ?_| refine b2 ?_ ?_| refine Br.mk ?_ ?_) <;>intro hc| exact rfl) <;>conv=>whnf)
     exact⟨es,fs,⟨he.mono (by omega),Zr⟩,⟨by omega,oK.1,oK.2 Zr⟩,rfl⟩
set_option maxHeartbeats 4000000 in
theorem Da {ls:List (List Int)} (hs:wa ls): ∃res,Ev E 83 [fU ls] res∧n9 res:=by
 refine Ev.cQ SI (SJ _) rfl ?_
 have hl:=hs.1
 have key: ∀k,k<ls.length→ ∃l,ls[k]? =some l∧l.length< 9223372036854775808:=fun k hk=> ⟨_,aL hk,hs.2 _ (List.getElem_mem hk)⟩
 have gen: ∀ (first second ej:List Int),first.length< 9223372036854775808→second.length< 9223372036854775808→ej.length< 9223372036854775808→
    (0 <ls.length→ls[0]? =some first)→(1 <ls.length→ls[1]? =some second)→(2 <ls.length→ls[2]? =some ej)→(ls.length≤0→first=[])→(ls.length≤1→second=[])→(ls.length≤2→ej=[])→
    gY E f83.body (tX [fU ls]) (yc f83.results [fU ls] n9):=by
  intro first second ej h1 h2 h3 k1 k2 k3 e1 e2 e3
  have n3:=cg h1 3 (a:=0) (by omega) (by omega)
  have n2:=cg h1 2 (a:=b8 first 0) (by omega) (by omega)
  have b3:=gA (l:=first) (a:=0) (n:=3) (by omega) (by omega)
  have b2:=gA (l:=first) (a:=b8 first 0) (n:=2) (by omega) (by omega)
  generalize fg first 0 3=r3 at n3 b3
  generalize fg first (b8 first 0) 2=r2 at n2 b2
  have w3:IntKind.i64.wrap (1+(r3:Int))=((1+r3:Nat):Int):=(wrap64 (by omega) (by omega)).trans (by omega)
  have w2:IntKind.i64.wrap (1+(r2:Int))=((1+r2:Nat):Int):=(wrap64 (by omega) (by omega)).trans (by omega)
  have f3:V.int .i64 (IntKind.i64.wrap (1+(r3:Int)))=aF (1+r3):=by rw[w3]
  have f2:V.int .i64 (IntKind.i64.wrap (1+(r2:Int)))=aF (1+r2):=by rw[w2]
  have fin: ∀ (S:SS) (gd go:Nat),SS.Sub ⟨[(5,eV second),(6,eV ej),(7,.ptr 672 gd 0 0),(8,V.int .i64 (IntKind.i64.wrap (1+(r3:Int)))),(9,if IntKind.i64.wrap (1+(r3:Int))=3 then vi 1 else V.int .i64 (IntKind.i64.wrap (1+(r2:Int)))),(10,.ptr 176 go 0 0),(11,vi 0)],
      [(672,⟨gd,2,false,false,some [de first (b8 first (b8 first 0))]⟩),(176,⟨go,6,false,false,some [.agg [vi 0,vi 0,vi 0,vi 0,vi 0,vi 0]]⟩)]⟩ S→
      ba E w7 S (Ex 0 (thenS (yc f83.results [fU ls] n9) fun S'=>gY E (AD EL 11) S' (yc f83.results [fU ls] n9))):=by
    intro S gd go hS
    by_cases hc:IntKind.i64.wrap (1+(r3:Int))=3
    · rw[f3,if_pos hc] at hS
      exact sn (w:=1+r3) (h:=1) ls h1 h2 h3 (by omega) (by omega) (by omega) (by omega) S gd go _ [0,0,0,0,0,0] rfl hS
    · rw[f3,if_neg hc,f2] at hS
      exact sn (w:=1+r3) (h:=1+r2) ls h1 h2 h3 (by omega) (by omega) (by omega) (by omega) S gd go _ [0,0,0,0,0,0] rfl hS
  rcases(by omega:ls.length=0∨ls.length=1∨ls.length=2∨2 <ls.length) with hz| hz| hz| hz
  · obtain rfl:=e1 (by omega)
    obtain rfl:=e2 (by omega)
    obtain rfl:=e3 (by omega)
    (conv=>whnf);repeat' ((first| intro g| refine ag.mk _ (n3) ?_| refine ag.mk _ (n2) ?_| refine st ?_| (refine aH.bR ?_;intro s) | (first| refine b1 ?_ ?_| refine b2 ?_ ?_| refine Br.mk ?_ ?_) <;>intro hc| exact rfl) <;>conv=>whnf)
    all_goals (rename_i gd;refine fin _ gd g ?_)
    all_goals first| rw[if_pos hc] | rw[if_neg hc]
    all_goals (refine⟨?_,?_⟩ <;>repeat' (first| exact True.intro| refine ai ?_| refine And.intro ?_ ?_))
  · obtain rfl:=e2 (by omega)
    obtain rfl:=e3 (by omega)
    (conv=>whnf);repeat' ((first| intro g| refine aH.mk _ (hN (k1 (by omega))) ?_| refine ag.mk _ (n3) ?_| refine ag.mk _ (n2) ?_| refine st ?_| (refine aH.bR ?_;intro s) | (first| refine b1 ?_ ?_| refine b2 ?_ ?_| refine Br.mk ?_ ?_) <;>intro hc| exact rfl) <;>conv=>whnf)
    all_goals (rename_i gd;refine fin _ gd g ?_)
    all_goals first| rw[if_pos hc] | rw[if_neg hc]
    all_goals (refine⟨?_,?_⟩ <;>repeat' (first| exact True.intro| refine ai ?_| refine And.intro ?_ ?_))
  · obtain rfl:=e3 (by omega)
    (conv=>whnf);repeat' ((first| intro g| refine aH.mk _ (hN (k1 (by omega))) ?_| refine aH.mk _ (hN (k2 (by omega))) ?_| refine ag.mk _ (n3) ?_| refine ag.mk _ (n2) ?_| refine st ?_| (refine aH.bR ?_;intro s) | (first| refine b1 ?_ ?_| refine b2 ?_ ?_| refine Br.mk ?_ ?_) <;>intro hc| exact rfl) <;>conv=>whnf)
    all_goals (rename_i gd;refine fin _ gd g ?_)
    all_goals first| rw[if_pos hc] | rw[if_neg hc]
    all_goals (refine⟨?_,?_⟩ <;>repeat' (first| exact True.intro| refine ai ?_| refine And.intro ?_ ?_))
  · (conv=>whnf);repeat' ((first| intro g| refine aH.mk _ (hN (k1 (by omega))) ?_| refine aH.mk _ (hN (k2 (by omega))) ?_| refine aH.mk _ (hN (k3 (by omega))) ?_| refine ag.mk _ (n3) ?_| refine ag.mk _ (n2) ?_| refine st ?_| (refine aH.bR ?_;intro s) | (first| refine b1 ?_ ?_| refine b2 ?_ ?_| refine Br.mk ?_ ?_) <;>intro hc| exact rfl) <;>conv=>whnf)
    all_goals (rename_i gd;refine fin _ gd g ?_)
    all_goals first| rw[if_pos hc] | rw[if_neg hc]
    all_goals (refine⟨?_,?_⟩ <;>repeat' (first| exact True.intro| refine ai ?_| refine And.intro ?_ ?_))
 have pick: ∀k,∃l:List Int,l.length< 9223372036854775808∧(k<ls.length→ls[k]? =some l)∧(ls.length≤k→l=[]):=by
  intro k
  by_cases hk:k<ls.length
  · obtain⟨l,a1,a2⟩:=key k hk
    exact⟨l,a2,fun _=>a1,fun h=>by omega⟩
  · exact⟨[],by simp,fun h=>by omega,fun _=>rfl⟩
 obtain⟨first,a1,b1,c1⟩:=pick 0
 obtain⟨second,a2,b2,c2⟩:=pick 1
 obtain⟨ej,a3,b3,c3⟩:=pick 2
 exact gen first second ej a1 a2 a3 b1 b2 b3 c1 c2 c3
end Go.AM
set_option maxRecDepth 20000
namespace Go.AM
theorem eW (i j:Int): ∃p:Pt,Ev E 120 [vi i,vi j] ⟨p.v,[]⟩:=by
 have key:=Ev.cQ (R:=fun r=> ∃p:Pt,r=⟨p.v,[]⟩) Ow (Ox [vi i,vi j]) rfl ?_
 · obtain⟨res,h1,p,rfl⟩:=key
   exact⟨p,h1⟩
 (conv=>whnf);repeat' ((first| intro g| refine st ?_| (refine aH.bR ?_;intro s) | (first| refine b1 ?_ ?_| refine b2 ?_ ?_| refine Br.mk ?_ ?_) <;>intro hc| exact rfl) <;>conv=>whnf)
 exact⟨⟨_,_⟩,rfl⟩
theorem aab (x y:Nat) (hx:x< 3) (hy:y< 2):IntKind.i64.wrap (1+IntKind.i64.wrap ((x:Int)*(y:Int))) < 99:=by
 rcases(by omega:x=0∨x=1∨x=2) with rfl| rfl| rfl<;>rcases(by omega:y=0∨y=1) with rfl| rfl<;>decide
def rM (ws:List Way) (n:Nat):Prop:=ws.length≤n∧(∀w ∈ ws,iw w.line)∧ ∀w ∈ ws,w.bg< 99
theorem rM.snoc {es:List Way} {n:Nat} {e:Way} (h:rM es n) (k:iw e.line) (hd:e.bg< 99):rM (es++[e]) (n+1):=
 ⟨by have:=h.1;simp;omega,fun x hx=>by
   rcases List.mem_append.1 hx with hx| hx
   · exact h.2.1 x hx
   · have:x=e:=by simpa using hx
     subst this;exact k,fun x hx=>by
   rcases List.mem_append.1 hx with hx| hx
   · exact h.2.2 x hx
   · have:x=e:=by simpa using hx
     subst this;exact hd⟩
theorem rM.mono {es:List Way} {n m:Nat} (h:rM es n) (k:n≤m):rM es m:=⟨Nat.le_trans h.1 k,h.2⟩
set_option maxHeartbeats 4000000 in
theorem m8 {l:List Int} (hl:l.length< 9223372036854775808) {ws:List Way} {n:Nat} (hw:rM ws n) (hn:n< 1000) (p q:Pt) (level:Int) (a0:Nat):
   ∃res,Ev E 119 [.msl 8 (ws.map Way.v) 0 ws.length,p.v,q.v,vi level,.mptr 2 [de l a0] 0 0] res∧ ∃ (vf:List Way) (a b:Nat),rM vf (n+1)∧res=⟨.sl 0 b 0 vf.length,[(b,vf.map Way.v),(0,[de l a])]⟩:=by
 refine Ev.cQ Ou (Ov _) rfl ?_
 have nZ:=hw.1
 have nx:=fun k a (h:0 <k) (h2:k< 1000)=>cg hl k (a:=a) h (by omega)
 have hb:=gA (l:=l) (a:=a0) (n:=3) (by omega) (by omega)
 have n3:=nx 3 a0 (by omega) (by omega)
 generalize hm:fg l a0 3=many at hb n3
 have e1:IntKind.i64.wrap ((many:Int)+1)=((many+1:Nat):Int):=(wrap64 (by omega) (by omega)).trans (by omega)
 have E7:IntKind.i64.wrap (41+(ws.length:Int))=41+(ws.length:Int):=wrap64 (by omega) (by omega)
 (conv=>whnf);repeat' ((first| intro g| refine ag.mk _ (n3) ?_| refine st ?_| (refine aH.bR ?_;intro s) | (first| refine b1 ?_ ?_| refine b2 ?_ ?_| refine Br.mk ?_ ?_) <;>intro hc| exact rfl) <;>conv=>whnf)
 rename_i g6 g7 gb
 refine ba.by (fun ((k,L,a,gb):Nat×List Pt×Nat×Nat)=> ⟨[(0,.sl 0 0 0 ws.length),(4,.ptr 4 0 0 0),(6,.ptr 112 g6 0 0),(7,.ptr 128 g7 0 0),(11,.ptr 192 g 0 0),(12,aF many),(13,aF k)],
    [(0,⟨0,8,true,false,some (ws.map Way.v)⟩),(4,⟨0,2,false,false,some [de l a]⟩),(112,⟨g6,2,false,false,some [p.v]⟩),(128,⟨g7,2,false,false,some [q.v]⟩),
     (192,⟨g,8,false,false,some [.agg [vi (41+(ws.length:Int)),.sl 352 gb 0 L.length,vi level,.str [],.str [],.bool false,vi 0,vi 0]]⟩),(352,⟨gb,2,true,false,some (L.map Pt.v)⟩)]⟩)
   (fun (k,L,_,_)=>1≤k∧k≤many+1∧L.length=k) (fun (k,_)=>many+1 - k) (1,[p],b8 l a0,gb) ?_ ⟨by simp,by simp,by simp⟩ ?_
 · rw[E7]; (refine⟨?_,?_⟩ <;>repeat' (first| exact True.intro| refine ai ?_| refine And.intro ?_ ?_))
 rintro⟨k,L,a,gb⟩ ⟨vu,IK,hL⟩
 try dsimp only at vu IK hL
 by_cases bk:k≤many
 · have We:=nx 17 a (by omega) (by omega)
   (conv=>whnf);repeat' ((first| intro g| refine ag.mk _ (We) ?_| refine st ?_| (refine aH.bR ?_;intro s) | (first| refine b1 ?_ ?_| refine b2 ?_ ?_| refine Br.mk ?_ ?_) <;>intro hc| exact rfl) <;>conv=>whnf)
   all_goals exact bc.mk (k+1,L++[⟨_,_⟩],b8 l a,g) (by first| omega| (dsimp only;omega)) ⟨(by first| omega| (dsimp only;omega)),(by first| omega| (dsimp only;omega)),by simp[hL]⟩ (by(refine⟨?_,?_⟩ <;>repeat' (first| exact True.intro| refine ai ?_| refine And.intro ?_ ?_)))
 · have n2:=fun a=>cg hl 2 (a:=a) (by omega) (by omega)
   have n3:=fun a=>cg hl 3 (a:=a) (by omega) (by omega)
   have n4:=fun a=>cg hl 4 (a:=a) (by omega) (by omega)
   have n60:=fun a=>cg hl 60 (a:=a) (by omega) (by omega)
   (conv=>whnf);repeat' ((first| intro g| refine ag.mk _ (n2 _) ?_| refine ag.mk _ (n3 _) ?_| refine ag.mk _ (n4 _) ?_| refine ag.mk _ (n60 _) ?_| refine st ?_| (refine aH.bR ?_;intro s) | (first| refine b1 ?_ ?_| refine b2 ?_ ?_| refine Br.mk ?_ ?_) <;>intro hc| exact rfl) <;>conv=>whnf)
   have Wf:iw (L++[q]):=⟨by simp;omega,by simp;omega⟩
   refine⟨ws++[⟨_,L++[q],_,_,_,_,_,_⟩],_,_,hw.snoc Wf ?_,by
    simp only[List.map_append,List.map_cons,List.map_nil,List.length_append,List.length_cons,List.length_nil,List.length_map,Way.v,iP]
    rfl⟩
   exact aab _ _ (gA (by omega) (by omega)) (gA (by omega) (by omega))
end Go.AM
set_option maxRecDepth 20000
namespace Go.AM
set_option maxHeartbeats 4000000 in
theorem HE {l:List Int} (hl:l.length< 9223372036854775808): ∃res,Ev E 86 [.lit 1 (l.map vi)] res∧ ∃ws:List Way,rM ws 12∧res=⟨.own 8 (ws.map Way.v),[]⟩:=by
 refine Ev.cQ SK (SL _) rfl ?_
 have n2:=fun a=>cg hl 2 (a:=a) (by omega) (by omega)
 have n3:=fun a=>cg hl 3 (a:=a) (by omega) (by omega)
 have n4:=fun a=>cg hl 4 (a:=a) (by omega) (by omega)
 (conv=>whnf);repeat' ((first| intro g| refine st ?_| (refine aH.bR ?_;intro s) | (first| refine b1 ?_ ?_| refine b2 ?_ ?_| refine Br.mk ?_ ?_) <;>intro hc| exact rfl) <;>conv=>whnf)
 rename_i gd
 refine ba.by (fun ((j,ws,a,g):Nat×List Way×Nat×Nat)=> ⟨[(3,.ptr 176 gd 0 0),(4,.sl 81 g 0 ws.length),(5,aF j)],[(176,⟨gd,2,false,false,some [de l a]⟩),(81,⟨g,8,true,false,some (ws.map Way.v)⟩)]⟩)
   (fun (j,ws,_,_)=>j≤2∧rM ws (3*j)) (fun (j,_)=>2 - j) (0,[],0,g) (by(refine⟨?_,?_⟩ <;>repeat' (first| exact True.intro| refine ai ?_| refine And.intro ?_ ?_))) ⟨by simp,by simp,by simp,by simp⟩ ?_
 rintro⟨j,ws,a,g⟩ ⟨hj,wb⟩
 try dsimp only at hj wb
 by_cases bk:j< 2
 · (conv=>whnf);repeat' ((first| intro g| refine st ?_| (refine aH.bR ?_;intro s) | (first| refine b1 ?_ ?_| refine b2 ?_ ?_| refine Br.mk ?_ ?_) <;>intro hc| exact rfl) <;>conv=>whnf)
   refine ba.by (fun ((i,ws,a,g):Nat×List Way×Nat×Nat)=> ⟨[(3,.ptr 176 gd 0 0),(4,.sl 81 g 0 ws.length),(5,aF j),(6,aF i)],[(176,⟨gd,2,false,false,some [de l a]⟩),(81,⟨g,8,true,false,some (ws.map Way.v)⟩)]⟩)
     (fun (i,ws,_,_)=>i≤3∧rM ws (3*j+i)) (fun (i,_)=>3 - i) (0,ws,a,g) (by(refine⟨?_,?_⟩ <;>repeat' (first| exact True.intro| refine ai ?_| refine And.intro ?_ ?_))) ⟨by simp,wb⟩ ?_
   clear wb
   rintro⟨i,ws,a,g⟩ ⟨hi,wb⟩
   try dsimp only at hi wb
   by_cases fS:i< 3
   · obtain⟨p,hp⟩:=eW i j
     obtain⟨q,hq⟩:=eW (IntKind.i64.wrap ((i:Int)+1)) j
     (conv=>whnf);repeat' ((first| intro g| refine ag.mk _ (n2 _) ?_| refine ag.mk _ (hp) ?_| refine ag.mk _ (hq) ?_| refine st ?_| (refine aH.bR ?_;intro s) | (first| refine b1 ?_ ?_| refine b2 ?_ ?_| refine Br.mk ?_ ?_) <;>intro hc| exact rfl) <;>conv=>whnf)
     · refine ag.ex (m8 hl wb (by omega) p q 0 (b8 l a)) ?_
       rintro _ ⟨vf,a',b,jf,rfl⟩
       (conv=>whnf);repeat' ((first| intro g| refine st ?_| (refine aH.bR ?_;intro s) | (first| refine b1 ?_ ?_| refine b2 ?_ ?_| refine Br.mk ?_ ?_) <;>intro hc| exact rfl) <;>conv=>whnf)
       exact bc.mk (i+1,vf,a',g+b) (by first| omega| (dsimp only;omega)) ⟨(by first| omega| (dsimp only;omega)),jf⟩ (by(refine⟨?_,?_⟩ <;>repeat' (first| exact True.intro| refine ai ?_| refine And.intro ?_ ?_)))
     · exact bc.mk (i+1,ws,b8 l a,g) (by first| omega| (dsimp only;omega)) ⟨(by first| omega| (dsimp only;omega)),wb.mono (by omega)⟩ (by(refine⟨?_,?_⟩ <;>repeat' (first| exact True.intro| refine ai ?_| refine And.intro ?_ ?_)))
   · (conv=>whnf);repeat' ((first| intro g| refine st ?_| (refine aH.bR ?_;intro s) | (first| refine b1 ?_ ?_| refine b2 ?_ ?_| refine Br.mk ?_ ?_) <;>intro hc| exact rfl) <;>conv=>whnf)
     exact bc.mk (j+1,ws,a,g) (by first| omega| (dsimp only;omega)) ⟨(by first| omega| (dsimp only;omega)),wb.mono (by omega)⟩ (by(refine⟨?_,?_⟩ <;>repeat' (first| exact True.intro| refine ai ?_| refine And.intro ?_ ?_)))
 · (conv => whnf);repeat' ((first| intro g| refine st ?_| (refine aH.bR ?_;intro s) | (first| refine b1 ?_ ?_| refine b2 ?_ ?_| refine Br.mk ?_ ?_) <;>intro hc| exact rfl) <;>conv=>whnf)
   refine ba.by (fun ((i,ws,a,g):Nat×List Way×Nat×Nat)=> ⟨[(3,.ptr 176 gd 0 0),(4,.sl 81 g 0 ws.length),(7,aF i)],[(176,⟨gd,2,false,false,some [de l a]⟩),(81,⟨g,8,true,false,some (ws.map Way.v)⟩)]⟩)
     (fun (i,ws,_,_)=>i≤4∧rM ws (6+i)) (fun (i,_)=>4 - i) (0,ws,a,g) (by(refine⟨?_,?_⟩ <;>repeat' (first| exact True.intro| refine ai ?_| refine And.intro ?_ ?_))) ⟨by simp,wb.mono (by omega)⟩ ?_
   clear wb
   rintro⟨i,ws,a,g⟩ ⟨hi,wb⟩
   try dsimp only at hi wb
   by_cases fS:i< 4
   · by_cases PF:ws.length< 5
     · obtain⟨p,hp⟩:=eW i 0
       obtain⟨q,hq⟩:=eW i 1
       (conv=>whnf);repeat' ((first| intro g| refine ag.mk _ (n2 _) ?_| refine ag.mk _ (hp) ?_| refine ag.mk _ (hq) ?_| refine st ?_| (refine aH.bR ?_;intro s) | (first| refine b1 ?_ ?_| refine b2 ?_ ?_| refine Br.mk ?_ ?_) <;>intro hc| exact rfl) <;>conv=>whnf)
       · refine ag.ex (m8 hl wb (by omega) p q 0 (b8 l a)) ?_
         rintro _ ⟨vf,a',b,jf,rfl⟩
         (conv=>whnf);repeat' ((first| intro g| refine st ?_| (refine aH.bR ?_;intro s) | (first| refine b1 ?_ ?_| refine b2 ?_ ?_| refine Br.mk ?_ ?_) <;>intro hc| exact rfl) <;>conv=>whnf)
         exact bc.mk (i+1,vf,a',g+b) (by first| omega| (dsimp only;omega)) ⟨(by first| omega| (dsimp only;omega)),jf⟩ (by(refine⟨?_,?_⟩ <;>repeat' (first| exact True.intro| refine ai ?_| refine And.intro ?_ ?_)))
       · exact bc.mk (i+1,ws,b8 l a,g) (by first| omega| (dsimp only;omega)) ⟨(by first| omega| (dsimp only;omega)),wb.mono (by omega)⟩ (by(refine⟨?_,?_⟩ <;>repeat' (first| exact True.intro| refine ai ?_| refine And.intro ?_ ?_)))
     · obtain⟨Wg,HF⟩:=eW 0 0
       obtain⟨Wh,HG⟩:=eW 1 1
       obtain⟨Wi,xe⟩:=eW 3 0
       obtain⟨Wj,HH⟩: ∃f:Int→Pt,∀x,Ev E 120 [vi x,vi 1] ⟨(f x).v,[]⟩:=⟨fun x=> (eW x 1).choose,fun x=> (eW x 1).choose_spec⟩
       (conv=>whnf);repeat' ((first| intro g| refine ag.mk _ (n2 _) ?_| refine ag.mk _ (n3 _) ?_| refine ag.mk _ (n4 _) ?_| refine ag.mk _ (HF) ?_| refine ag.mk _ (HG) ?_| refine ag.mk _ (xe) ?_| refine ag.mk _ (HH _) ?_| refine st ?_| (refine aH.bR ?_;intro s) | (first| refine b1 ?_ ?_| refine b2 ?_ ?_| refine Br.mk ?_ ?_) <;>intro hc| exact rfl) <;>conv=>whnf)
       · refine ag.ex (m8 hl wb (by omega) _ _ _ _) ?_
         rintro _ ⟨vf,a',b,jf,rfl⟩
         (conv=>whnf);repeat' ((first| intro g| refine ag.mk _ (n2 _) ?_| refine ag.mk _ (n3 _) ?_| refine ag.mk _ (n4 _) ?_| refine ag.mk _ (HF) ?_| refine ag.mk _ (HG) ?_| refine ag.mk _ (xe) ?_| refine ag.mk _ (HH _) ?_| refine st ?_| (refine aH.bR ?_;intro s) | (first| refine b1 ?_ ?_| refine b2 ?_ ?_| refine Br.mk ?_ ?_) <;>intro hc| exact rfl) <;>conv=>whnf)
         · refine ag.ex (m8 hl jf (by omega) _ _ _ _) ?_
           rintro _ ⟨S8,a2,b2,zN,rfl⟩
           (conv=>whnf);repeat' ((first| intro g| refine ag.mk _ (n2 _) ?_| refine ag.mk _ (n3 _) ?_| refine ag.mk _ (n4 _) ?_| refine ag.mk _ (HF) ?_| refine ag.mk _ (HG) ?_| refine ag.mk _ (xe) ?_| refine ag.mk _ (HH _) ?_| refine st ?_| (refine aH.bR ?_;intro s) | (first| refine b1 ?_ ?_| refine b2 ?_ ?_| refine Br.mk ?_ ?_) <;>intro hc| exact rfl) <;>conv=>whnf)
           exact⟨S8,zN.mono (by omega),rfl⟩
         · exact⟨vf,jf.mono (by omega),rfl⟩
       · refine ag.ex (m8 hl wb (by omega) _ _ _ _) ?_
         rintro _ ⟨vf,a',b,jf,rfl⟩
         (conv=>whnf);repeat' ((first| intro g| refine ag.mk _ (n2 _) ?_| refine ag.mk _ (n3 _) ?_| refine ag.mk _ (n4 _) ?_| refine ag.mk _ (HF) ?_| refine ag.mk _ (HG) ?_| refine ag.mk _ (xe) ?_| refine ag.mk _ (HH _) ?_| refine st ?_| (refine aH.bR ?_;intro s) | (first| refine b1 ?_ ?_| refine b2 ?_ ?_| refine Br.mk ?_ ?_) <;>intro hc| exact rfl) <;>conv=>whnf)
         exact⟨vf,jf.mono (by omega),rfl⟩
       · exact⟨ws,wb.mono (by omega),rfl⟩
   · obtain⟨Wg,HF⟩:=eW 0 0
     obtain⟨Wh,HG⟩:=eW 1 1
     obtain⟨Wi,xe⟩:=eW 3 0
     obtain⟨Wj,HH⟩: ∃f:Int→Pt,∀x,Ev E 120 [vi x,vi 1] ⟨(f x).v,[]⟩:=⟨fun x=> (eW x 1).choose,fun x=> (eW x 1).choose_spec⟩
     (conv=>whnf);repeat' ((first| intro g| refine ag.mk _ (n2 _) ?_| refine ag.mk _ (n3 _) ?_| refine ag.mk _ (n4 _) ?_| refine ag.mk _ (HF) ?_| refine ag.mk _ (HG) ?_| refine ag.mk _ (xe) ?_| refine ag.mk _ (HH _) ?_| refine st ?_| (refine aH.bR ?_;intro s) | (first| refine b1 ?_ ?_| refine b2 ?_ ?_| refine Br.mk ?_ ?_) <;>intro hc| exact rfl) <;>conv=>whnf)
     · refine ag.ex (m8 hl wb (by omega) _ _ _ _) ?_
       rintro _ ⟨vf,a',b,jf,rfl⟩
       (conv=>whnf);repeat' ((first| intro g| refine ag.mk _ (n2 _) ?_| refine ag.mk _ (n3 _) ?_| refine ag.mk _ (n4 _) ?_| refine ag.mk _ (HF) ?_| refine ag.mk _ (HG) ?_| refine ag.mk _ (xe) ?_| refine ag.mk _ (HH _) ?_| refine st ?_| (refine aH.bR ?_;intro s) | (first| refine b1 ?_ ?_| refine b2 ?_ ?_| refine Br.mk ?_ ?_) <;>intro hc| exact rfl) <;>conv=>whnf)
       · refine ag.ex (m8 hl jf (by omega) _ _ _ _) ?_
         rintro _ ⟨S8,a2,b2,zN,rfl⟩
         (conv=>whnf);repeat' ((first| intro g| refine ag.mk _ (n2 _) ?_| refine ag.mk _ (n3 _) ?_| refine ag.mk _ (n4 _) ?_| refine ag.mk _ (HF) ?_| refine ag.mk _ (HG) ?_| refine ag.mk _ (xe) ?_| refine ag.mk _ (HH _) ?_| refine st ?_| (refine aH.bR ?_;intro s) | (first| refine b1 ?_ ?_| refine b2 ?_ ?_| refine Br.mk ?_ ?_) <;>intro hc| exact rfl) <;>conv=>whnf)
         exact⟨S8,zN.mono (by omega),rfl⟩
       · exact⟨vf,jf.mono (by omega),rfl⟩
     · refine ag.ex (m8 hl wb (by omega) _ _ _ _) ?_
       rintro _ ⟨vf,a',b,jf,rfl⟩
       (conv=>whnf);repeat' ((first| intro g| refine ag.mk _ (n2 _) ?_| refine ag.mk _ (n3 _) ?_| refine ag.mk _ (n4 _) ?_| refine ag.mk _ (HF) ?_| refine ag.mk _ (HG) ?_| refine ag.mk _ (xe) ?_| refine ag.mk _ (HH _) ?_| refine st ?_| (refine aH.bR ?_;intro s) | (first| refine b1 ?_ ?_| refine b2 ?_ ?_| refine Br.mk ?_ ?_) <;>intro hc| exact rfl) <;>conv=>whnf)
       exact⟨vf,jf.mono (by omega),rfl⟩
     · exact⟨ws,wb.mono (by omega),rfl⟩
end Go.AM
