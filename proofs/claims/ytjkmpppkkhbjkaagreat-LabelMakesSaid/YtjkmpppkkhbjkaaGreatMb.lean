/-
  Texts of the proof: SMadeH, SMadeI, SMadeJ, SMadeK, SMadeL, LbR.
-/
import Derived.Test.YtjkmpppkkhbjkaaGreatMa
import Derived.Test.YtjkmpppkkhbjkaaGreatDb
import Derived.Test.YtjkmpppkkhbjkaaGreatPe
set_option maxRecDepth 20000
set_option maxHeartbeats 4000000
set_option linter.unusedSimpArgs false
set_option linter.unusedVariables false
namespace Go.AM
def r5 (ls:List (List Int)):Prop:=ls.length< 9223372036854775808∧ ∀l ∈ ls,l.length< 9223372036854775808
theorem gJ {ls:List (List Int)} {k:Nat} {l:List Int} (h:ls[k]? =some l): (ls.map eH)[((k:Nat):Int).toNat]? =some (eH l):=by simp[h]
def nB (r:dk):Prop:= ∃ (es:List Edge) (fs:List bu),gH es 18∧fs.length≤36∧r=⟨.tuple [.lit 4 (es.map Edge.v),.own 5 (fs.map bu.v)],[]⟩
theorem r6 (ls:List (List Int)) {first second dO:List Int} (h1:first.length< 9223372036854775808) (h2:second.length< 9223372036854775808) (h3:dO.length< 9223372036854775808) {w h:Nat} (hw:w≤3) (hh:h≤2) (NY:1≤w) (hh1:1≤h) (S:SS) (gd go a0:Nat) (Mf:List Int) (h6:Mf.length=6)
   (hS:SS.Sub ⟨[(5,eH second),(6,eH dO),(7,.ptr 672 gd 0 0),(8,aC w),(9,aC h),(10,.ptr 176 go 0 0),(11,aC 0)],[(672,⟨gd,2,false,false,some [cM first a0]⟩),(176,⟨go,6,false,false,some [.agg (Mf.map vi)]⟩)]⟩ S):
   aI E Bp S (Fj 0 (thenS (xy f83.results [fa ls] nB) fun S'=>lR E (Bu Kn 11) S' (xy f83.results [fa ls] nB))):=by
 refine Xa h1 hw hh S gd go a0 Mf h6 hS _ ?_
 intro a cs kI
 match cs,kI with
 | [x0,x1,x2,x3,x4,x5],_=>
   (conv=>whnf);repeat' ((first| intro g| refine st ?_| (refine aN.bK ?_;intro s) | (first| refine b1 ?_ ?_| refine b2 ?_ ?_| refine Br.mk ?_ ?_) <;>intro hc| exact rfl) <;>conv=>whnf)
   rename_i ge
   refine Xb (gd:=gd) (go:=go) (ge:=ge) (ad:=a) (first:=first) (x0:=x0) (x1:=x1) (x2:=x2) (x3:=x3) (x4:=x4) (x5:=x5) h2 h3 hw hh _ 0 g (by(refine⟨?_,?_⟩ <;>repeat' (first| exact True.intro| refine ai ?_| refine And.intro ?_ ?_))) _ ?_
   intro es ae g7 he
   (conv=>whnf);repeat' ((first| intro g| refine st ?_| (refine aN.bK ?_;intro s) | (first| refine b1 ?_ ?_| refine b2 ?_ ?_| refine Br.mk ?_ ?_) <;>intro hc| exact rfl) <;>conv=>whnf)
   refine Xd (gd:=gd) (go:=go) (ge:=ge) (ad:=a) (first:=first) (x0:=x0) (x1:=x1) (x2:=x2) (x3:=x3) (x4:=x4) (x5:=x5) h2 h3 hw hh _ es he ae g7 (by(refine⟨?_,?_⟩ <;>repeat' (first| exact True.intro| refine ai ?_| refine And.intro ?_ ?_))) _ ?_
   clear he es ae g7
   intro es ae g7 he
   have te:=he.1
   have n2:=bW h1 2 (a:=a) (by omega) (by omega)
   have nw:=bW h1 w (a:=bR first a) (by omega) (by omega)
   have nh:=bW h1 h (a:=bR first (bR first a)) (by omega) (by omega)
   have bw:=fX (l:=first) (a:=bR first a) (n:=w) (by omega) (by omega)
   have bh:=fX (l:=first) (a:=bR first (bR first a)) (n:=h) (by omega) (by omega)
   generalize eR first (bR first a) w=i at nw bw
   generalize eR first (bR first (bR first a)) h=j at nh bh
   by_cases hn2:eR first a 2=1
   · rcases(by omega:i=0∨i=1∨i=2) with rfl| rfl| rfl<;>rcases(by omega:j=0∨j=1) with rfl| rfl
     all_goals
      (conv=>whnf);repeat' ((first| intro g| refine ah.mk _ (n2) ?_| refine ah.mk _ (nw) ?_| refine ah.mk _ (nh) ?_| refine st ?_| (refine aN.bK ?_;intro s) | (first| refine b1 ?_ ?_| refine b2 ?_ ?_| refine Br.mk ?_ ?_) <;>intro hc| exact rfl) <;>conv=>whnf)
      refine ah.ex (DO h3 he (by omega) ⟨_,_⟩ _ _) ?_
      rintro _ ⟨es',ae',b,wE,rfl⟩
      have aaZ:=wE.1
      (conv=>whnf);repeat' ((first| intro g| refine st ?_| (refine aN.bK ?_;intro s) | (first| refine b1 ?_ ?_| refine b2 ?_ ?_| refine Br.mk ?_ ?_) <;>intro hc| exact rfl) <;>conv=>whnf)
      refine ah.ex (zw (es:=es') (by omega)) ?_
      rintro _ ⟨fs,hfs,rfl⟩
      (conv=>whnf);repeat' ((first| intro g| refine st ?_| (refine aN.bK ?_;intro s) | (first| refine b1 ?_ ?_| refine b2 ?_ ?_| refine Br.mk ?_ ?_) <;>intro hc| exact rfl) <;>conv=>whnf)
      exact⟨es',fs,wE,by omega,rfl⟩
   · (conv=>whnf);repeat' ((first| intro g| refine ah.mk _ (n2) ?_| refine st ?_| (refine aN.bK ?_;intro s) | (first| refine b1 ?_ ?_| refine b2 ?_ ?_| refine Br.mk ?_ ?_) <;>intro hc| exact rfl) <;>conv=>whnf)
     refine ah.ex (zw (es:=es) (by omega)) ?_
     rintro _ ⟨fs,hfs,rfl⟩
     (conv=>whnf);repeat' ((first| intro g| refine st ?_| (refine aN.bK ?_;intro s) | (first| refine b1 ?_ ?_| refine b2 ?_ ?_| refine Br.mk ?_ ?_) <;>intro hc| exact rfl) <;>conv=>whnf)
     exact⟨es,fs,he.mono (by omega),by omega,rfl⟩
theorem DP {ls:List (List Int)} (hs:r5 ls): ∃res,Ev E 83 [fa ls] res∧nB res:=by
 refine Ev.bz ZY (ZZ _) rfl ?_
 have hl:=hs.1
 have key: ∀k,k<ls.length→ ∃l,ls[k]? =some l∧l.length< 9223372036854775808:=fun k hk=> ⟨_,aD hk,hs.2 _ (List.getElem_mem hk)⟩
 have gen: ∀ (first second dO:List Int),first.length< 9223372036854775808→second.length< 9223372036854775808→dO.length< 9223372036854775808→
    (0 <ls.length→ls[0]? =some first)→(1 <ls.length→ls[1]? =some second)→(2 <ls.length→ls[2]? =some dO)→(ls.length≤0→first=[])→(ls.length≤1→second=[])→(ls.length≤2→dO=[])→
    lR E f83.body (qZ [fa ls]) (xy f83.results [fa ls] nB):=by
  intro first second dO h1 h2 h3 k1 k2 k3 e1 e2 e3
  have n3:=bW h1 3 (a:=0) (by omega) (by omega)
  have n2:=bW h1 2 (a:=bR first 0) (by omega) (by omega)
  have b3:=fX (l:=first) (a:=0) (n:=3) (by omega) (by omega)
  have b2:=fX (l:=first) (a:=bR first 0) (n:=2) (by omega) (by omega)
  generalize eR first 0 3=r3 at n3 b3
  generalize eR first (bR first 0) 2=r2 at n2 b2
  have w3:IntKind.i64.wrap (1+(r3:Int))=((1+r3:Nat):Int):=(wrap64 (by omega) (by omega)).trans (by omega)
  have w2:IntKind.i64.wrap (1+(r2:Int))=((1+r2:Nat):Int):=(wrap64 (by omega) (by omega)).trans (by omega)
  have f3:V.int .i64 (IntKind.i64.wrap (1+(r3:Int)))=aC (1+r3):=by rw[w3]
  have f2:V.int .i64 (IntKind.i64.wrap (1+(r2:Int)))=aC (1+r2):=by rw[w2]
  have fin: ∀ (S:SS) (gd go:Nat),SS.Sub ⟨[(5,eH second),(6,eH dO),(7,.ptr 672 gd 0 0),(8,V.int .i64 (IntKind.i64.wrap (1+(r3:Int)))),(9,if IntKind.i64.wrap (1+(r3:Int))=3 then vi 1 else V.int .i64 (IntKind.i64.wrap (1+(r2:Int)))),(10,.ptr 176 go 0 0),(11,vi 0)],
      [(672,⟨gd,2,false,false,some [cM first (bR first (bR first 0))]⟩),(176,⟨go,6,false,false,some [.agg [vi 0,vi 0,vi 0,vi 0,vi 0,vi 0]]⟩)]⟩ S→
      aI E Bp S (Fj 0 (thenS (xy f83.results [fa ls] nB) fun S'=>lR E (Bu Kn 11) S' (xy f83.results [fa ls] nB))):=by
    intro S gd go hS
    by_cases hc:IntKind.i64.wrap (1+(r3:Int))=3
    · rw[f3,if_pos hc] at hS
      exact r6 (w:=1+r3) (h:=1) ls h1 h2 h3 (by omega) (by omega) (by omega) (by omega) S gd go _ [0,0,0,0,0,0] rfl hS
    · rw[f3,if_neg hc,f2] at hS
      exact r6 (w:=1+r3) (h:=1+r2) ls h1 h2 h3 (by omega) (by omega) (by omega) (by omega) S gd go _ [0,0,0,0,0,0] rfl hS
  rcases(by omega:ls.length=0∨ls.length=1∨ls.length=2∨2 <ls.length) with hz| hz| hz| hz
  · obtain rfl:=e1 (by omega)
    obtain rfl:=e2 (by omega)
    obtain rfl:=e3 (by omega)
    (conv=>whnf);repeat' ((first| intro g| refine ah.mk _ (n3) ?_| refine ah.mk _ (n2) ?_| refine st ?_| (refine aN.bK ?_;intro s) | (first| refine b1 ?_ ?_| refine b2 ?_ ?_| refine Br.mk ?_ ?_) <;>intro hc| exact rfl) <;>conv=>whnf)
    all_goals (rename_i gd;refine fin _ gd g ?_)
    all_goals first| rw[if_pos hc] | rw[if_neg hc]
    all_goals (refine⟨?_,?_⟩ <;>repeat' (first| exact True.intro| refine ai ?_| refine And.intro ?_ ?_))
  · obtain rfl:=e2 (by omega)
    obtain rfl:=e3 (by omega)
    (conv=>whnf);repeat' ((first| intro g| refine aN.mk _ (gJ (k1 (by omega))) ?_| refine ah.mk _ (n3) ?_| refine ah.mk _ (n2) ?_| refine st ?_| (refine aN.bK ?_;intro s) | (first| refine b1 ?_ ?_| refine b2 ?_ ?_| refine Br.mk ?_ ?_) <;>intro hc| exact rfl) <;>conv=>whnf)
    all_goals (rename_i gd;refine fin _ gd g ?_)
    all_goals first| rw[if_pos hc] | rw[if_neg hc]
    all_goals (refine⟨?_,?_⟩ <;>repeat' (first| exact True.intro| refine ai ?_| refine And.intro ?_ ?_))
  · obtain rfl:=e3 (by omega)
    (conv=>whnf);repeat' ((first| intro g| refine aN.mk _ (gJ (k1 (by omega))) ?_| refine aN.mk _ (gJ (k2 (by omega))) ?_| refine ah.mk _ (n3) ?_| refine ah.mk _ (n2) ?_| refine st ?_| (refine aN.bK ?_;intro s) | (first| refine b1 ?_ ?_| refine b2 ?_ ?_| refine Br.mk ?_ ?_) <;>intro hc| exact rfl) <;>conv=>whnf)
    all_goals (rename_i gd;refine fin _ gd g ?_)
    all_goals first| rw[if_pos hc] | rw[if_neg hc]
    all_goals (refine⟨?_,?_⟩ <;>repeat' (first| exact True.intro| refine ai ?_| refine And.intro ?_ ?_))
  · (conv=>whnf);repeat' ((first| intro g| refine aN.mk _ (gJ (k1 (by omega))) ?_| refine aN.mk _ (gJ (k2 (by omega))) ?_| refine aN.mk _ (gJ (k3 (by omega))) ?_| refine ah.mk _ (n3) ?_| refine ah.mk _ (n2) ?_| refine st ?_| (refine aN.bK ?_;intro s) | (first| refine b1 ?_ ?_| refine b2 ?_ ?_| refine Br.mk ?_ ?_) <;>intro hc| exact rfl) <;>conv=>whnf)
    all_goals (rename_i gd;refine fin _ gd g ?_)
    all_goals first| rw[if_pos hc] | rw[if_neg hc]
    all_goals (refine⟨?_,?_⟩ <;>repeat' (first| exact True.intro| refine ai ?_| refine And.intro ?_ ?_))
 have pick: ∀k,∃l:List Int,l.length< 9223372036854775808∧(k<ls.length→ls[k]? =some l)∧(ls.length≤k→l=[]):=by
  intro k
  by_cases hk:k<ls.length
  · obtain⟨l,a1,a2⟩:=key k hk
    exact⟨l,a2,fun _=>a1,fun h=>by omega⟩
  · exact⟨[],by simp,fun h=>by omega,fun _=>rfl⟩
 obtain⟨first,a1,b1,c1⟩:=pick 0
 obtain⟨second,a2,b2,c2⟩:=pick 1
 obtain⟨dO,a3,b3,c3⟩:=pick 2
 exact gen first second dO a1 a2 a3 b1 b2 b3 c1 c2 c3
end Go.AM
namespace Go.AM
theorem eI (i j:Int): ∃p:Pt,Ev E 120 [vi i,vi j] ⟨p.v,[]⟩:=by
 have key:=Ev.bz (R:=fun r=> ∃p:Pt,r=⟨p.v,[]⟩) VF (VG [vi i,vi j]) rfl ?_
 · obtain⟨res,h1,p,rfl⟩:=key
   exact⟨p,h1⟩
 (conv=>whnf);repeat' ((first| intro g| refine st ?_| (refine aN.bK ?_;intro s) | (first| refine b1 ?_ ?_| refine b2 ?_ ?_| refine Br.mk ?_ ?_) <;>intro hc| exact rfl) <;>conv=>whnf)
 exact⟨⟨_,_⟩,rfl⟩
def rn (ws:List Way) (n:Nat):Prop:=ws.length≤n∧ ∀w ∈ ws,gV w.line
theorem rn.snoc {es:List Way} {n:Nat} {e:Way} (h:rn es n) (k:gV e.line):rn (es++[e]) (n+1):=
 ⟨by have:=h.1;simp;omega,fun x hx=>by
   rcases List.mem_append.1 hx with hx| hx
   · exact h.2 x hx
   · have:x=e:=by simpa using hx
     subst this;exact k⟩
theorem rn.mono {es:List Way} {n m:Nat} (h:rn es n) (k:n≤m):rn es m:=⟨Nat.le_trans h.1 k,h.2⟩
theorem mA {l:List Int} (hl:l.length< 9223372036854775808) {ws:List Way} {n:Nat} (hw:rn ws n) (hn:n< 1000) (p q:Pt) (level:Int) (a0:Nat):
   ∃res,Ev E 119 [.msl 8 (ws.map Way.v) 0 ws.length,p.v,q.v,vi level,.mptr 2 [cM l a0] 0 0] res∧ ∃ (yL:List Way) (a b:Nat),rn yL (n+1)∧res=⟨.sl 0 b 0 yL.length,[(b,yL.map Way.v),(0,[cM l a])]⟩:=by
 refine Ev.bz VD (VE _) rfl ?_
 have lV:=hw.1
 have nx:=fun k a (h:0 <k) (h2:k< 1000)=>bW hl k (a:=a) h (by omega)
 have hb:=fX (l:=l) (a:=a0) (n:=3) (by omega) (by omega)
 have n3:=nx 3 a0 (by omega) (by omega)
 generalize hm:eR l a0 3=many at hb n3
 have e1:IntKind.i64.wrap ((many:Int)+1)=((many+1:Nat):Int):=(wrap64 (by omega) (by omega)).trans (by omega)
 have Gv:IntKind.i64.wrap (41+(ws.length:Int))=41+(ws.length:Int):=wrap64 (by omega) (by omega)
 (conv=>whnf);repeat' ((first| intro g| refine ah.mk _ (n3) ?_| refine st ?_| (refine aN.bK ?_;intro s) | (first| refine b1 ?_ ?_| refine b2 ?_ ?_| refine Br.mk ?_ ?_) <;>intro hc| exact rfl) <;>conv=>whnf)
 rename_i g6 g7 gb
 refine aI.by (fun ((k,L,a,gb):Nat×List Pt×Nat×Nat)=> ⟨[(0,.sl 0 0 0 ws.length),(4,.ptr 4 0 0 0),(6,.ptr 112 g6 0 0),(7,.ptr 128 g7 0 0),(11,.ptr 192 g 0 0),(12,aC many),(13,aC k)],
    [(0,⟨0,8,true,false,some (ws.map Way.v)⟩),(4,⟨0,2,false,false,some [cM l a]⟩),(112,⟨g6,2,false,false,some [p.v]⟩),(128,⟨g7,2,false,false,some [q.v]⟩),
     (192,⟨g,8,false,false,some [.agg [vi (41+(ws.length:Int)),.sl 352 gb 0 L.length,vi level,.str [],.str [],.bool false,vi 0,vi 0]]⟩),(352,⟨gb,2,true,false,some (L.map Pt.v)⟩)]⟩)
   (fun (k,L,_,_)=>1≤k∧k≤many+1∧L.length=k) (fun (k,_)=>many+1 - k) (1,[p],bR l a0,gb) ?_ ⟨by simp,by simp,by simp⟩ ?_
 · rw[Gv]; (refine⟨?_,?_⟩ <;>repeat' (first| exact True.intro| refine ai ?_| refine And.intro ?_ ?_))
 rintro⟨k,L,a,gb⟩ ⟨CM,IZ,hL⟩
 try dsimp only at CM IZ hL
 by_cases bp:k≤many
 · have n17:=nx 17 a (by omega) (by omega)
   (conv=>whnf);repeat' ((first| intro g| refine ah.mk _ (n17) ?_| refine st ?_| (refine aN.bK ?_;intro s) | (first| refine b1 ?_ ?_| refine b2 ?_ ?_| refine Br.mk ?_ ?_) <;>intro hc| exact rfl) <;>conv=>whnf)
   all_goals exact aE.mk (k+1,L++[⟨_,_⟩],bR l a,g) (by first| omega| (dsimp only;omega)) ⟨(by first| omega| (dsimp only;omega)),(by first| omega| (dsimp only;omega)),by simp[hL]⟩ (by(refine⟨?_,?_⟩ <;>repeat' (first| exact True.intro| refine ai ?_| refine And.intro ?_ ?_)))
 · have n2:=fun a=>bW hl 2 (a:=a) (by omega) (by omega)
   have n3:=fun a=>bW hl 3 (a:=a) (by omega) (by omega)
   have n4:=fun a=>bW hl 4 (a:=a) (by omega) (by omega)
   have Xe:=fun a=>bW hl 60 (a:=a) (by omega) (by omega)
   (conv=>whnf);repeat' ((first| intro g| refine ah.mk _ (n2 _) ?_| refine ah.mk _ (n3 _) ?_| refine ah.mk _ (n4 _) ?_| refine ah.mk _ (Xe _) ?_| refine st ?_| (refine aN.bK ?_;intro s) | (first| refine b1 ?_ ?_| refine b2 ?_ ?_| refine Br.mk ?_ ?_) <;>intro hc| exact rfl) <;>conv=>whnf)
   have hLF:gV (L++[q]):=⟨by simp;omega,by simp;omega⟩
   exact⟨ws++[⟨_,L++[q],_,_,_,_,_,_⟩],_,_,hw.snoc hLF,by
    simp only[List.map_append,List.map_cons,List.map_nil,List.length_append,List.length_cons,List.length_nil,List.length_map,Way.v,kh]
    rfl⟩
end Go.AM
namespace Go.AM
theorem I0 {l:List Int} (hl:l.length< 9223372036854775808): ∃res,Ev E 86 [.lit 1 (l.map vi)] res∧ ∃ws:List Way,rn ws 12∧res=⟨.own 8 (ws.map Way.v),[]⟩:=by
 refine Ev.bz Z2 (Z3 _) rfl ?_
 have n2:=fun a=>bW hl 2 (a:=a) (by omega) (by omega)
 have n3:=fun a=>bW hl 3 (a:=a) (by omega) (by omega)
 have n4:=fun a=>bW hl 4 (a:=a) (by omega) (by omega)
 (conv=>whnf);repeat' ((first| intro g| refine st ?_| (refine aN.bK ?_;intro s) | (first| refine b1 ?_ ?_| refine b2 ?_ ?_| refine Br.mk ?_ ?_) <;>intro hc| exact rfl) <;>conv=>whnf)
 rename_i gd
 refine aI.by (fun ((j,ws,a,g):Nat×List Way×Nat×Nat)=> ⟨[(3,.ptr 176 gd 0 0),(4,.sl 81 g 0 ws.length),(5,aC j)],[(176,⟨gd,2,false,false,some [cM l a]⟩),(81,⟨g,8,true,false,some (ws.map Way.v)⟩)]⟩)
   (fun (j,ws,_,_)=>j≤2∧rn ws (3*j)) (fun (j,_)=>2 - j) (0,[],0,g) (by(refine⟨?_,?_⟩ <;>repeat' (first| exact True.intro| refine ai ?_| refine And.intro ?_ ?_))) ⟨by simp,by simp,by simp⟩ ?_
 rintro⟨j,ws,a,g⟩ ⟨hj,wI⟩
 try dsimp only at hj wI
 by_cases bp:j< 2
 · (conv=>whnf);repeat' ((first| intro g| refine st ?_| (refine aN.bK ?_;intro s) | (first| refine b1 ?_ ?_| refine b2 ?_ ?_| refine Br.mk ?_ ?_) <;>intro hc| exact rfl) <;>conv=>whnf)
   refine aI.by (fun ((i,ws,a,g):Nat×List Way×Nat×Nat)=> ⟨[(3,.ptr 176 gd 0 0),(4,.sl 81 g 0 ws.length),(5,aC j),(6,aC i)],[(176,⟨gd,2,false,false,some [cM l a]⟩),(81,⟨g,8,true,false,some (ws.map Way.v)⟩)]⟩)
     (fun (i,ws,_,_)=>i≤3∧rn ws (3*j+i)) (fun (i,_)=>3 - i) (0,ws,a,g) (by(refine⟨?_,?_⟩ <;>repeat' (first| exact True.intro| refine ai ?_| refine And.intro ?_ ?_))) ⟨by simp,wI⟩ ?_
   clear wI
   rintro⟨i,ws,a,g⟩ ⟨hi,wI⟩
   try dsimp only at hi wI
   by_cases kl:i< 3
   · obtain⟨p,hp⟩:=eI i j
     obtain⟨q,hq⟩:=eI (IntKind.i64.wrap ((i:Int)+1)) j
     (conv=>whnf);repeat' ((first| intro g| refine ah.mk _ (n2 _) ?_| refine ah.mk _ (hp) ?_| refine ah.mk _ (hq) ?_| refine st ?_| (refine aN.bK ?_;intro s) | (first| refine b1 ?_ ?_| refine b2 ?_ ?_| refine Br.mk ?_ ?_) <;>intro hc| exact rfl) <;>conv=>whnf)
     · refine ah.ex (mA hl wI (by omega) p q 0 (bR l a)) ?_
       rintro _ ⟨yL,a',b,iM,rfl⟩
       (conv=>whnf);repeat' ((first| intro g| refine st ?_| (refine aN.bK ?_;intro s) | (first| refine b1 ?_ ?_| refine b2 ?_ ?_| refine Br.mk ?_ ?_) <;>intro hc| exact rfl) <;>conv=>whnf)
       exact aE.mk (i+1,yL,a',g+b) (by first| omega| (dsimp only;omega)) ⟨(by first| omega| (dsimp only;omega)),iM⟩ (by(refine⟨?_,?_⟩ <;>repeat' (first| exact True.intro| refine ai ?_| refine And.intro ?_ ?_)))
     · exact aE.mk (i+1,ws,bR l a,g) (by first| omega| (dsimp only;omega)) ⟨(by first| omega| (dsimp only;omega)),wI.mono (by omega)⟩ (by(refine⟨?_,?_⟩ <;>repeat' (first| exact True.intro| refine ai ?_| refine And.intro ?_ ?_)))
   · (conv=>whnf);repeat' ((first| intro g| refine st ?_| (refine aN.bK ?_;intro s) | (first| refine b1 ?_ ?_| refine b2 ?_ ?_| refine Br.mk ?_ ?_) <;>intro hc| exact rfl) <;>conv=>whnf)
     exact aE.mk (j+1,ws,a,g) (by first| omega| (dsimp only;omega)) ⟨(by first| omega| (dsimp only;omega)),wI.mono (by omega)⟩ (by(refine⟨?_,?_⟩ <;>repeat' (first| exact True.intro| refine ai ?_| refine And.intro ?_ ?_)))
 · (conv => whnf);repeat' ((first| intro g| refine st ?_| (refine aN.bK ?_;intro s) | (first| refine b1 ?_ ?_| refine b2 ?_ ?_| refine Br.mk ?_ ?_) <;>intro hc| exact rfl) <;>conv=>whnf)
   refine aI.by (fun ((i,ws,a,g):Nat×List Way×Nat×Nat)=> ⟨[(3,.ptr 176 gd 0 0),(4,.sl 81 g 0 ws.length),(7,aC i)],[(176,⟨gd,2,false,false,some [cM l a]⟩),(81,⟨g,8,true,false,some (ws.map Way.v)⟩)]⟩)
     (fun (i,ws,_,_)=>i≤4∧rn ws (6+i)) (fun (i,_)=>4 - i) (0,ws,a,g) (by(refine⟨?_,?_⟩ <;>repeat' (first| exact True.intro| refine ai ?_| refine And.intro ?_ ?_))) ⟨by simp,wI.mono (by omega)⟩ ?_
   clear wI
   rintro⟨i,ws,a,g⟩ ⟨hi,wI⟩
   try dsimp only at hi wI
   by_cases kl:i< 4
   · by_cases aac:ws.length< 5
     · obtain⟨p,hp⟩:=eI i 0
       obtain⟨q,hq⟩:=eI i 1
       (conv=>whnf);repeat' ((first| intro g| refine ah.mk _ (n2 _) ?_| refine ah.mk _ (hp) ?_| refine ah.mk _ (hq) ?_| refine st ?_| (refine aN.bK ?_;intro s) | (first| refine b1 ?_ ?_| refine b2 ?_ ?_| refine Br.mk ?_ ?_) <;>intro hc| exact rfl) <;>conv=>whnf)
       · refine ah.ex (mA hl wI (by omega) p q 0 (bR l a)) ?_
         rintro _ ⟨yL,a',b,iM,rfl⟩
         (conv=>whnf);repeat' ((first| intro g| refine st ?_| (refine aN.bK ?_;intro s) | (first| refine b1 ?_ ?_| refine b2 ?_ ?_| refine Br.mk ?_ ?_) <;>intro hc| exact rfl) <;>conv=>whnf)
         exact aE.mk (i+1,yL,a',g+b) (by first| omega| (dsimp only;omega)) ⟨(by first| omega| (dsimp only;omega)),iM⟩ (by(refine⟨?_,?_⟩ <;>repeat' (first| exact True.intro| refine ai ?_| refine And.intro ?_ ?_)))
       · exact aE.mk (i+1,ws,bR l a,g) (by first| omega| (dsimp only;omega)) ⟨(by first| omega| (dsimp only;omega)),wI.mono (by omega)⟩ (by(refine⟨?_,?_⟩ <;>repeat' (first| exact True.intro| refine ai ?_| refine And.intro ?_ ?_)))
     · obtain⟨p00,I1⟩:=eI 0 0
       obtain⟨p11,Ic⟩:=eI 1 1
       obtain⟨p30,xR⟩:=eI 3 0
       obtain⟨p21,I2⟩: ∃f:Int→Pt,∀x,Ev E 120 [vi x,vi 1] ⟨(f x).v,[]⟩:=⟨fun x=> (eI x 1).choose,fun x=> (eI x 1).choose_spec⟩
       (conv=>whnf);repeat' ((first| intro g| refine ah.mk _ (n2 _) ?_| refine ah.mk _ (n3 _) ?_| refine ah.mk _ (n4 _) ?_| refine ah.mk _ (I1) ?_| refine ah.mk _ (Ic) ?_| refine ah.mk _ (xR) ?_| refine ah.mk _ (I2 _) ?_| refine st ?_| (refine aN.bK ?_;intro s) | (first| refine b1 ?_ ?_| refine b2 ?_ ?_| refine Br.mk ?_ ?_) <;>intro hc| exact rfl) <;>conv=>whnf)
       · refine ah.ex (mA hl wI (by omega) _ _ _ _) ?_
         rintro _ ⟨yL,a',b,iM,rfl⟩
         (conv=>whnf);repeat' ((first| intro g| refine ah.mk _ (n2 _) ?_| refine ah.mk _ (n3 _) ?_| refine ah.mk _ (n4 _) ?_| refine ah.mk _ (I1) ?_| refine ah.mk _ (Ic) ?_| refine ah.mk _ (xR) ?_| refine ah.mk _ (I2 _) ?_| refine st ?_| (refine aN.bK ?_;intro s) | (first| refine b1 ?_ ?_| refine b2 ?_ ?_| refine Br.mk ?_ ?_) <;>intro hc| exact rfl) <;>conv=>whnf)
         · refine ah.ex (mA hl iM (by omega) _ _ _ _) ?_
           rintro _ ⟨ws2,a2,b2,AQ,rfl⟩
           (conv=>whnf);repeat' ((first| intro g| refine ah.mk _ (n2 _) ?_| refine ah.mk _ (n3 _) ?_| refine ah.mk _ (n4 _) ?_| refine ah.mk _ (I1) ?_| refine ah.mk _ (Ic) ?_| refine ah.mk _ (xR) ?_| refine ah.mk _ (I2 _) ?_| refine st ?_| (refine aN.bK ?_;intro s) | (first| refine b1 ?_ ?_| refine b2 ?_ ?_| refine Br.mk ?_ ?_) <;>intro hc| exact rfl) <;>conv=>whnf)
           exact⟨ws2,AQ.mono (by omega),rfl⟩
         · exact⟨yL,iM.mono (by omega),rfl⟩
       · refine ah.ex (mA hl wI (by omega) _ _ _ _) ?_
         rintro _ ⟨yL,a',b,iM,rfl⟩
         (conv=>whnf);repeat' ((first| intro g| refine ah.mk _ (n2 _) ?_| refine ah.mk _ (n3 _) ?_| refine ah.mk _ (n4 _) ?_| refine ah.mk _ (I1) ?_| refine ah.mk _ (Ic) ?_| refine ah.mk _ (xR) ?_| refine ah.mk _ (I2 _) ?_| refine st ?_| (refine aN.bK ?_;intro s) | (first| refine b1 ?_ ?_| refine b2 ?_ ?_| refine Br.mk ?_ ?_) <;>intro hc| exact rfl) <;>conv=>whnf)
         exact⟨yL,iM.mono (by omega),rfl⟩
       · exact⟨ws,wI.mono (by omega),rfl⟩
   · obtain⟨p00,I1⟩:=eI 0 0
     obtain⟨p11,Ic⟩:=eI 1 1
     obtain⟨p30,xR⟩:=eI 3 0
     obtain⟨p21,I2⟩: ∃f:Int→Pt,∀x,Ev E 120 [vi x,vi 1] ⟨(f x).v,[]⟩:=⟨fun x=> (eI x 1).choose,fun x=> (eI x 1).choose_spec⟩
     (conv=>whnf);repeat' ((first| intro g| refine ah.mk _ (n2 _) ?_| refine ah.mk _ (n3 _) ?_| refine ah.mk _ (n4 _) ?_| refine ah.mk _ (I1) ?_| refine ah.mk _ (Ic) ?_| refine ah.mk _ (xR) ?_| refine ah.mk _ (I2 _) ?_| refine st ?_| (refine aN.bK ?_;intro s) | (first| refine b1 ?_ ?_| refine b2 ?_ ?_| refine Br.mk ?_ ?_) <;>intro hc| exact rfl) <;>conv=>whnf)
     · refine ah.ex (mA hl wI (by omega) _ _ _ _) ?_
       rintro _ ⟨yL,a',b,iM,rfl⟩
       (conv=>whnf);repeat' ((first| intro g| refine ah.mk _ (n2 _) ?_| refine ah.mk _ (n3 _) ?_| refine ah.mk _ (n4 _) ?_| refine ah.mk _ (I1) ?_| refine ah.mk _ (Ic) ?_| refine ah.mk _ (xR) ?_| refine ah.mk _ (I2 _) ?_| refine st ?_| (refine aN.bK ?_;intro s) | (first| refine b1 ?_ ?_| refine b2 ?_ ?_| refine Br.mk ?_ ?_) <;>intro hc| exact rfl) <;>conv=>whnf)
       · refine ah.ex (mA hl iM (by omega) _ _ _ _) ?_
         rintro _ ⟨ws2,a2,b2,AQ,rfl⟩
         (conv=>whnf);repeat' ((first| intro g| refine ah.mk _ (n2 _) ?_| refine ah.mk _ (n3 _) ?_| refine ah.mk _ (n4 _) ?_| refine ah.mk _ (I1) ?_| refine ah.mk _ (Ic) ?_| refine ah.mk _ (xR) ?_| refine ah.mk _ (I2 _) ?_| refine st ?_| (refine aN.bK ?_;intro s) | (first| refine b1 ?_ ?_| refine b2 ?_ ?_| refine Br.mk ?_ ?_) <;>intro hc| exact rfl) <;>conv=>whnf)
         exact⟨ws2,AQ.mono (by omega),rfl⟩
       · exact⟨yL,iM.mono (by omega),rfl⟩
     · refine ah.ex (mA hl wI (by omega) _ _ _ _) ?_
       rintro _ ⟨yL,a',b,iM,rfl⟩
       (conv=>whnf);repeat' ((first| intro g| refine ah.mk _ (n2 _) ?_| refine ah.mk _ (n3 _) ?_| refine ah.mk _ (n4 _) ?_| refine ah.mk _ (I1) ?_| refine ah.mk _ (Ic) ?_| refine ah.mk _ (xR) ?_| refine ah.mk _ (I2 _) ?_| refine st ?_| (refine aN.bK ?_;intro s) | (first| refine b1 ?_ ?_| refine b2 ?_ ?_| refine Br.mk ?_ ?_) <;>intro hc| exact rfl) <;>conv=>whnf)
       exact⟨yL,iM.mono (by omega),rfl⟩
     · exact⟨ws,wI.mono (by omega),rfl⟩
end Go.AM
namespace Go.AM
def xS (ps:List Place) (n:Nat):Prop:=ps.length≤n∧ ∀ (i:Nat) (p:Place),ps[i]? =some p→p.id=61+(i:Int)
theorem xS.snoc {ps:List Place} {n:Nat} {p:Place} (h:xS ps n) (k:p.id=61+(ps.length:Int)):xS (ps++[p]) (n+1):=by
 refine⟨by have:=h.1;simp;omega,fun i x hx=> ?_⟩
 by_cases hi:i<ps.length
 · rw[List.getElem?_append_left hi] at hx
   exact h.2 i x hx
 · rw[List.getElem?_append_right (by omega)] at hx
   have hl:i - ps.length=0:=by
    have:=(List.getElem?_eq_some_iff.1 hx).1
    simp at this;omega
   rw[hl] at hx
   obtain rfl:p=x:=by simpa using hx
   rw[k];congr 1;omega
theorem xS.mono {ps:List Place} {n m:Nat} (h:xS ps n) (k:n≤m):xS ps m:=⟨Nat.le_trans h.1 k,h.2⟩
theorem DQ {l:List Int} (hl:l.length< 9223372036854775808) {m:bk} {n:Nat} (he:gH m.aU n) (hn:n< 1000) (hf:m.ba.length< 1000): ∃res,Ev E 87 [m.v,.lit 1 (l.map vi)] res∧ ∃ps:List Place,xS ps 6∧res=⟨.own 7 (ps.map Place.v),[]⟩:=by
 refine Ev.bz Z4 (Z5 _) rfl ?_
 have n2:=fun a=>bW hl 2 (a:=a) (by omega) (by omega)
 have n3:=fun a=>bW hl 3 (a:=a) (by omega) (by omega)
 have n5:=fun a=>bW hl 5 (a:=a) (by omega) (by omega)
 have n10:=fun a=>bW hl 10 (a:=a) (by omega) (by omega)
 have n51:=fun a=>bW hl 51 (a:=a) (by omega) (by omega)
 have Xe:=fun a=>bW hl 60 (a:=a) (by omega) (by omega)
 have n7:=bW hl 7 (a:=0) (by omega) (by omega)
 have hb:=fX (l:=l) (a:=0) (n:=7) (by omega) (by omega)
 generalize eR l 0 7=many at hb n7
 have gv: ∀x y,∃rb:Int×Bool,Ev E 121 [.lit 4 (m.aU.map Edge.v),.agg [vi x,vi y]] ⟨.tuple [vi rb.1,.bool rb.2],[]⟩:=by
   intro x y
   obtain⟨r,b,h⟩:=LA he hn ⟨x,y⟩
   exact⟨(r,b),h⟩
 obtain⟨fr,gv⟩: ∃f:Int→Int→Int×Bool,∀x y,Ev E 121 [.lit 4 (m.aU.map Edge.v),.agg [vi x,vi y]] ⟨.tuple [vi (f x y).1,.bool (f x y).2],[]⟩:=⟨fun x y=> (gv x y).choose,fun x y=> (gv x y).choose_spec⟩
 obtain⟨fd,hd⟩: ∃f:Int→Int,∀x,Ev E 122 [m.v,vi x] ⟨vi (f x),[]⟩:=⟨fun x=> (qd m hf x).choose,fun x=> (qd m hf x).choose_spec⟩
 (conv=>whnf);repeat' ((first| intro g| refine ah.mk _ (n7) ?_| refine st ?_| (refine aN.bK ?_;intro s) | (first| refine b1 ?_ ?_| refine b2 ?_ ?_| refine Br.mk ?_ ?_) <;>intro hc| exact rfl) <;>conv=>whnf)
 rename_i g2 _ gd
 refine aI.by (fun ((k,ps,a,g):Nat×List Place×Nat×Nat)=> ⟨[(2,.ptr 48 g2 0 0),(5,.ptr 256 gd 0 0),(6,.sl 113 g 0 ps.length),(7,aC many),(8,aC k)],
    [(48,⟨g2,4,false,false,some [m.v]⟩),(256,⟨gd,2,false,false,some [cM l a]⟩),(113,⟨g,7,true,false,some (ps.map Place.v)⟩)]⟩)
   (fun (k,ps,a,g)=>k≤many∧xS ps k) (fun (k,_)=>many - k) (0,[],bR l 0,g) (by(refine⟨?_,?_⟩ <;>repeat' (first| exact True.intro| refine ai ?_| refine And.intro ?_ ?_))) ⟨by simp,by simp,by simp⟩ ?_
 rintro⟨k,ps,a,g⟩ ⟨hk,hp⟩
 try dsimp only at hk hp
 by_cases bp:k<many
 · have EU:=hp.1
   have Gv:IntKind.i64.wrap (61+(ps.length:Int))=61+(ps.length:Int):=wrap64 (by omega) (by omega)
   (conv=>whnf);repeat' ((first| intro g| refine ah.mk _ (n2 _) ?_| refine ah.mk _ (n3 _) ?_| refine ah.mk _ (n5 _) ?_| refine ah.mk _ (n10 _) ?_| refine ah.mk _ (n51 _) ?_| refine ah.mk _ (Xe _) ?_| refine ah.mk _ (gv _ _) ?_| refine ah.mk _ (hd _) ?_| refine st ?_| (refine aN.bK ?_;intro s) | (first| refine b1 ?_ ?_| refine b2 ?_ ?_| refine Br.mk ?_ ?_) <;>intro hc| exact rfl) <;>conv=>whnf)
   · exact aE.mk (k+1,ps++[⟨IntKind.i64.wrap (61+(ps.length:Int)),_,_,_,_,_,_⟩],_,g) (by first| omega| (dsimp only;omega)) ⟨(by first| omega| (dsimp only;omega)),hp.snoc Gv⟩ (by(refine⟨?_,?_⟩ <;>repeat' (first| exact True.intro| refine ai ?_| refine And.intro ?_ ?_)))
   · exact aE.mk (k+1,ps,_,_) (by first| omega| (dsimp only;omega)) ⟨(by first| omega| (dsimp only;omega)),hp.mono (by omega)⟩ (by(refine⟨?_,?_⟩ <;>repeat' (first| exact True.intro| refine ai ?_| refine And.intro ?_ ?_)))
   · exact aE.mk (k+1,ps,_,_) (by first| omega| (dsimp only;omega)) ⟨(by first| omega| (dsimp only;omega)),hp.mono (by omega)⟩ (by(refine⟨?_,?_⟩ <;>repeat' (first| exact True.intro| refine ai ?_| refine And.intro ?_ ?_)))
   · exact aE.mk (k+1,ps++[⟨IntKind.i64.wrap (61+(ps.length:Int)),_,_,_,_,_,_⟩],_,g) (by first| omega| (dsimp only;omega)) ⟨(by first| omega| (dsimp only;omega)),hp.snoc Gv⟩ (by(refine⟨?_,?_⟩ <;>repeat' (first| exact True.intro| refine ai ?_| refine And.intro ?_ ?_)))
   · exact aE.mk (k+1,ps,_,_) (by first| omega| (dsimp only;omega)) ⟨(by first| omega| (dsimp only;omega)),hp.mono (by omega)⟩ (by(refine⟨?_,?_⟩ <;>repeat' (first| exact True.intro| refine ai ?_| refine And.intro ?_ ?_)))
   · exact aE.mk (k+1,ps,_,_) (by first| omega| (dsimp only;omega)) ⟨(by first| omega| (dsimp only;omega)),hp.mono (by omega)⟩ (by(refine⟨?_,?_⟩ <;>repeat' (first| exact True.intro| refine ai ?_| refine And.intro ?_ ?_)))
 · (conv=>whnf);repeat' ((first| intro g| refine st ?_| (refine aN.bK ?_;intro s) | (first| refine b1 ?_ ?_| refine b2 ?_ ?_| refine Br.mk ?_ ?_) <;>intro hc| exact rfl) <;>conv=>whnf)
   exact⟨ps,hp.mono (by omega),rfl⟩
end Go.AM
namespace Go.AM
theorem xU {ls:List (List Int)} (hs:r5 ls) (i:Nat) (hi:i< 1000): ∃l:List Int,l.length< 9223372036854775808∧Ev E 84 [fa ls,aC i] ⟨eH l,[]⟩:=by
 have hl:=hs.1
 by_cases h:i<ls.length
 · obtain⟨l,hx⟩: ∃l,ls[i]? =some l:=⟨_,aD h⟩
   refine⟨l,hs.2 _ (List.mem_of_getElem? hx),?_⟩
   refine Ev.aT U1 (U2 _) rfl ?_
   (conv=>whnf);repeat' ((first| intro g| refine aN.mk _ (gJ hx) ?_| refine st ?_| (refine aN.bK ?_;intro s) | (first| refine b1 ?_ ?_| refine b2 ?_ ?_| refine Br.mk ?_ ?_) <;>intro hc| exact rfl) <;>conv=>whnf)
 · refine⟨[],by simp,?_⟩
   refine Ev.aT U1 (U2 _) rfl ?_
   (conv=>whnf);repeat' ((first| intro g| refine st ?_| (refine aN.bK ?_;intro s) | (first| refine b1 ?_ ?_| refine b2 ?_ ?_| refine Br.mk ?_ ?_) <;>intro hc| exact rfl) <;>conv=>whnf)
theorem zx {α:Type} {f:α→V} {l:List α} {k n:Nat} (h:n=min k l.length):aJ (l.map f) 0 n=(l.take k).map f:=by
 subst h
 unfold aJ
 rw[List.drop_zero,←List.map_take,List.take_eq_take_min (i:=k)]
theorem aad {α:Type} {f:α→V} {l:List α} {k:Nat} {a b c:V} (x:α): (((((l.map f).set ((k:Int)).toNat a).set ((k:Int)).toNat b).set ((k:Int)).toNat c).set ((k:Int)).toNat (f x))=(l.set k x).map f:=by
 simp only[List.set_set,List.map_set,Int.toNat_natCast]
theorem aae (n:Nat): (if (3:Int) < (n:Int) then(3:Int) else(n:Int)).toNat=min 3 n:=by
 split<;>omega
structure bk.aaf (m:bk):Prop where
 aU:gH m.aU 18
 ba:m.ba.length≤36
 ways:rn m.ways 12
 au:xS m.au 6
def bk.vo (m:bk):V:= .agg [.lit 4 (m.aU.map Edge.v),.lit 5 (m.ba.map bu.v),.lit 8 (m.ways.map Way.v),.own 7 (m.au.map Place.v)]
theorem DR {ls:List (List Int)} (hs:r5 ls): ∃res,Ev E 77 [fa ls] res∧ ∃m:bk,bk.aaf m∧res=⟨m.vo,[]⟩:=by
 refine Ev.bz ZW (ZX _) rfl ?_
 have CN:r5 (ls.take 3):=⟨by have:=hs.1;simp;omega,fun l h=>hs.2 l (List.mem_of_mem_take h)⟩
 obtain⟨l3,h3,p3⟩:=xU hs 3 (by omega)
 obtain⟨l4,h4,p4⟩:=xU hs 4 (by omega)
 obtain⟨l5,h5,p5⟩:=xU hs 5 (by omega)
 have n2:=fun a=>bW h3 2 (a:=a) (by omega) (by omega)
 have n3:=fun a=>bW h3 3 (a:=a) (by omega) (by omega)
 have n4:=fun a=>bW h3 4 (a:=a) (by omega) (by omega)
 have n6:=fun a=>bW h3 6 (a:=a) (by omega) (by omega)
 have Xe:=fun a=>bW h3 60 (a:=a) (by omega) (by omega)
 have hl:=hs.1
 (conv=>whnf);repeat' ((first| intro g| refine aN.mk _ (zx (k:=3) (by rw[List.length_map];exact aae _)) ?_| refine st ?_| (refine aN.bK ?_;intro s) | (first| refine b1 ?_ ?_| refine b2 ?_ ?_| refine Br.mk ?_ ?_) <;>intro hc| exact rfl) <;>conv=>whnf)
 refine ah.ex (DP CN) ?_
 rintro _ ⟨es,fs,he,hf,rfl⟩
 (conv=>whnf);repeat' ((first| intro g| refine ah.mk _ (p3) ?_| refine st ?_| (refine aN.bK ?_;intro s) | (first| refine b1 ?_ ?_| refine b2 ?_ ?_| refine Br.mk ?_ ?_) <;>intro hc| exact rfl) <;>conv=>whnf)
 rename_i g2 g3 gf
 obtain⟨n,hn⟩: ∃n,fs.length=n:=⟨_,rfl⟩
 refine aI.by (fun ((k,fs,a):Nat×List bu×Nat)=> ⟨[(0,fa ls),(2,.ptr 48 g2 0 0),(3,.ptr 64 g3 0 0),(4,.ptr 352 g 0 0),(5,aC k)],
    [(48,⟨g2,4,false,false,some [.agg [.lit 4 [],.lit 5 [],.lit 8 [],.lit 7 []]]⟩),(64,⟨g3,4,false,false,some [.agg [.lit 4 (es.map Edge.v),.sl 232 gf 0 n,.lit 8 [],.lit 7 []]]⟩),(232,⟨gf,5,true,false,some (fs.map bu.v)⟩),(352,⟨g,2,false,false,some [cM l3 a]⟩)]⟩)
   (fun (k,fs,a)=>k≤n∧fs.length=n) (fun (k,fs,_)=>n - k) (0,fs,0) (by subst hn; (refine⟨?_,?_⟩ <;>repeat' (first| exact True.intro| refine ai ?_| refine And.intro ?_ ?_))) ⟨by simp,hn⟩ ?_
 rw[hn] at hf;clear hn
 rintro⟨k,fs,a⟩ ⟨hk,tk⟩
 try dsimp only at hk tk
 by_cases bp:k<n
 · obtain⟨f,hx⟩: ∃f,fs[k]? =some f:=⟨_,aD (by omega)⟩
   (conv=>whnf);repeat' ((first| intro g| refine aN.mk _ (np (np (np (al hx rfl)))) ?_| refine aN.mk _ (np (np (al hx rfl))) ?_| refine aN.mk _ (np (al hx rfl)) ?_| refine aN.mk _ (al hx rfl) ?_| refine ah.mk _ (n2 _) ?_| refine ah.mk _ (n3 _) ?_| refine ah.mk _ (n4 _) ?_| refine ah.mk _ (n6 _) ?_| refine ah.mk _ (Xe _) ?_| refine st ?_| (refine aN.bK ?_;intro s) | (first| refine b1 ?_ ?_| refine b2 ?_ ?_| refine Br.mk ?_ ?_) <;>intro hc| exact rfl) <;>conv=>whnf)
   have nR: ∀c nm w d (x y z:V),((((fs.map bu.v).set ((k:Int)).toNat x).set ((k:Int)).toNat y).set ((k:Int)).toNat z).set ((k:Int)).toNat (bu.v ⟨f.id,c,nm,w,d⟩)=(fs.set k ⟨f.id,c,nm,w,d⟩).map bu.v:=fun c nm w d x y z=>aad (f:=bu.v) _
   rename_i cl
   exact aE.mk (k+1,fs.set k ⟨f.id,cl,s,IntKind.i64.wrap (1+((eR l3 (bR l3 (bR l3 a)) 60:Nat):Int)),IntKind.i64.wrap (1+(IntKind.i64.wrap (((eR l3 (bR l3 (bR l3 (bR l3 a))) 4:Nat):Int)*((eR l3 (bR l3 (bR l3 (bR l3 (bR l3 a)))) 2:Nat):Int))).tmod 3)⟩,(bR l3 (bR l3 (bR l3 (bR l3 (bR l3 a)))))) (by first| omega| (dsimp only;omega)) ⟨(by first| omega| (dsimp only;omega)),by simp[tk]⟩ (by(refine⟨?_,?_⟩ <;>repeat' (first| exact True.intro| refine And.intro (congrArg (fun L=> (⟨gf,5,true,false,some L⟩:Obj)) (nR cl s (IntKind.i64.wrap (1+((eR l3 (bR l3 (bR l3 a)) 60:Nat):Int))) (IntKind.i64.wrap (1+(IntKind.i64.wrap (((eR l3 (bR l3 (bR l3 (bR l3 a))) 4:Nat):Int)*((eR l3 (bR l3 (bR l3 (bR l3 (bR l3 a)))) 2:Nat):Int))).tmod 3)) _ _ _)) ?_| refine ai ?_| refine And.intro ?_ ?_)))
 · obtain rfl:k=n:=by omega
   (conv=>whnf);repeat' ((first| intro g| refine ah.mk _ (p4) ?_| refine st ?_| (refine aN.bK ?_;intro s) | (first| refine b1 ?_ ?_| refine b2 ?_ ?_| refine Br.mk ?_ ?_) <;>intro hc| exact rfl) <;>conv=>whnf)
   refine ah.ex (I0 h4) ?_
   rintro _ ⟨ws,hw,rfl⟩
   (conv=>whnf);repeat' ((first| intro g| refine ah.mk _ (p5) ?_| refine st ?_| (refine aN.bK ?_;intro s) | (first| refine b1 ?_ ?_| refine b2 ?_ ?_| refine Br.mk ?_ ?_) <;>intro hc| exact rfl) <;>conv=>whnf)
   refine ah.ex (DQ h5 (m:=⟨es,fs,ws,[]⟩) he (by omega) (by dsimp only;omega)) ?_
   rintro _ ⟨ps,hp,rfl⟩
   (conv=>whnf);repeat' ((first| intro g| refine st ?_| (refine aN.bK ?_;intro s) | (first| refine b1 ?_ ?_| refine b2 ?_ ?_| refine Br.mk ?_ ?_) <;>intro hc| exact rfl) <;>conv=>whnf)
   exact⟨⟨es,fs,ws,ps⟩,⟨he,by dsimp only;omega,hw,hp⟩,rfl⟩
end Go.AM
set_option maxHeartbeats 4000000
namespace Go.AM
theorem Xf (n:Nat): (if (10:Int) < (n:Int) then(10:Int) else(n:Int)).toNat=min 10 n:=by
 split<;>omega
def Mi:V:= .agg [.str [69,108,109],.str [79,97,107],.str [65],.str [84,104,101,32,108,111,110,103,32,98,114,105,100,103,101],.str [80,111,110,100],.str [77,105,108,108]]
theorem I3 {ls:List (List Int)} (hs:r5 ls) (b:Bool): ∃m:bk,m.Sm∧m.au.length≤6∧Ev E 592 [fa ls,.bool b] ⟨m.vo,[]⟩:=by
 suffices h: ∃res,Ev E 592 [fa ls,.bool b] res∧ ∃m:bk,m.Sm∧m.au.length≤6∧res=⟨m.vo,[]⟩ by
   obtain⟨_,h1,m,h2,h3,rfl⟩:=h
   exact⟨m,h2,h3,h1⟩
 have aag:r5 (ls.take 10):=⟨by have:=hs.1;simp;omega,fun l h=>hs.2 l (List.mem_of_mem_take h)⟩
 obtain⟨_,hm,m,hf,rfl⟩:=DR aag
 have hl:=hs.1
 refine Ev.bz Uh (Ui _) rfl ?_
 obtain⟨es,fs,ws,ps⟩:=m
 have Ie: ∀I4:List Place,I4.length=ps.length→bk.Sm ⟨es,fs,ws,I4⟩:=fun I4 h=>by
   have h1:=hf.aU.1;have h2:=hf.ba;have h3:=hf.ways.1;have h4:=hf.au.1
   dsimp only at h1 h2 h3 h4
   refine⟨by dsimp only;omega,by dsimp only;omega,by dsimp only;omega,by dsimp only;omega,fun e he=> ?_,fun w hw=> ?_⟩
   · have:=(hf.aU.2 e he).2;omega
   · have:=(hf.ways.2 w hw).2;omega
 have hp6:ps.length≤6:=hf.au.1
 clear hf
 unfold bk.vo at hm
 dsimp only at hm
 (conv=>whnf);repeat' ((first| intro g| refine aN.mk _ (zx (k:=10) (by rw[List.length_map];exact Xf _)) ?_| refine ah.mk _ (hm) ?_| refine st ?_| (first| refine b1 ?_ ?_| refine b2 ?_ ?_| refine Br.mk ?_ ?_) <;>intro hc| exact rfl) <;>conv=>whnf)
 rename_i Bv gp I5
 obtain⟨zc,hg⟩: ∃x,x=g:=⟨_,rfl⟩
 rw[←hg];clear hg g
 refine aI.by (fun ((i,L):Nat×List Place)=> ⟨[(1,.bool b),(4,.ptr 80 Bv 0 0),(5,.ptr 96 I5 0 0),(6,.ptr 112 zc 0 0),(7,aC i)],
    [(80,⟨Bv,4,false,false,some [bk.v ⟨[],[],[],[]⟩]⟩),(96,⟨I5,4,false,false,some [.agg [.lit 4 (es.map Edge.v),.lit 5 (fs.map bu.v),.lit 8 (ws.map Way.v),.sl 227 gp 0 ps.length]]⟩),(227,⟨gp,7,true,false,some (L.map Place.v)⟩),(112,⟨zc,6,false,false,some [Mi]⟩)]⟩)
    (fun (i,L)=>i≤ps.length∧L.length=ps.length) (fun (i,_)=>ps.length - i) (0,ps) (by(refine⟨?_,?_⟩ <;>repeat' (first| exact True.intro| refine ai ?_| refine And.intro ?_ ?_))) ⟨by omega,rfl⟩ ?_
 rintro⟨i,L⟩ ⟨hi,hL⟩
 try dsimp only at hi hL
 have Mj:=Ie L hL
 cases b
 · (conv=>whnf);repeat' ((first| ((exfalso;omega)) | intro g| refine st ?_| (first| refine b1 ?_ ?_| refine b2 ?_ ?_| refine Br.mk ?_ ?_) <;>intro hc| exact rfl) <;>conv=>whnf)
   all_goals exact⟨⟨es,fs,ws,L⟩,Mj,by dsimp only;omega,rfl⟩
 by_cases bp:i<ps.length
 case neg=>
   (conv=>whnf);repeat' ((first| ((exfalso;omega)) | intro g| refine st ?_| (first| refine b1 ?_ ?_| refine b2 ?_ ?_| refine Br.mk ?_ ?_) <;>intro hc| exact rfl) <;>conv=>whnf)
   all_goals exact⟨⟨es,fs,ws,L⟩,Mj,by dsimp only;omega,rfl⟩
 obtain⟨p,hp⟩: ∃x,L[i]? =some x:=⟨_,aD (by omega)⟩
 have nR: ∀nm:vF,(⟨gp,7,true,false,some ((L.map Place.v).set ((i:Nat):Int).toNat (Place.v {p with name:=nm}))⟩:Obj)=⟨gp,7,true,false,some ((L.set i {p with name:=nm}).map Place.v)⟩:=fun nm=>by simp[List.map_set]
 clear Mj Ie
 by_cases Is:p.name=[]
 case neg=>
   (conv=>whnf);repeat' ((first| ((exfalso;omega)) | intro g| refine aN.mk _ (al hp rfl) ?_| refine st ?_| (first| refine b1 ?_ ?_| refine b2 ?_ ?_| refine Br.mk ?_ ?_) <;>intro hc| exact rfl) <;>conv=>whnf)
   exact aE.mk (i+1,L) (by first| omega| (dsimp only;omega)) ⟨by omega,hL⟩ (by(refine⟨?_,?_⟩ <;>repeat' (first| exact True.intro| refine ai ?_| refine And.intro ?_ ?_)))
 rcases(by omega:i=0∨i=1∨i=2∨i=3∨i=4∨i=5) with rfl| rfl| rfl| rfl| rfl| rfl
 · (conv=>whnf);repeat' ((first| ((exfalso;omega)) | intro g| refine aN.mk _ (al hp rfl) ?_| refine st ?_| (first| refine b1 ?_ ?_| refine b2 ?_ ?_| refine Br.mk ?_ ?_) <;>intro hc| exact rfl) <;>conv=>whnf)
   exact aE.mk (1,L.set 0 {p with name:=[69,108,109]}) (by first| omega| (dsimp only;omega)) ⟨by omega,by simp[hL]⟩ (by(refine⟨?_,?_⟩ <;>repeat' (first| exact True.intro| refine And.intro (nR [69,108,109]) ?_| refine ai ?_| refine And.intro ?_ ?_)))
 · (conv=>whnf);repeat' ((first| ((exfalso;omega)) | intro g| refine aN.mk _ (al hp rfl) ?_| refine st ?_| (first| refine b1 ?_ ?_| refine b2 ?_ ?_| refine Br.mk ?_ ?_) <;>intro hc| exact rfl) <;>conv=>whnf)
   exact aE.mk (2,L.set 1 {p with name:=[79,97,107]}) (by first| omega| (dsimp only;omega)) ⟨by omega,by simp[hL]⟩ (by(refine⟨?_,?_⟩ <;>repeat' (first| exact True.intro| refine And.intro (nR [79,97,107]) ?_| refine ai ?_| refine And.intro ?_ ?_)))
 · (conv=>whnf);repeat' ((first| ((exfalso;omega)) | intro g| refine aN.mk _ (al hp rfl) ?_| refine st ?_| (first| refine b1 ?_ ?_| refine b2 ?_ ?_| refine Br.mk ?_ ?_) <;>intro hc| exact rfl) <;>conv=>whnf)
   exact aE.mk (3,L.set 2 {p with name:=[65]}) (by first| omega| (dsimp only;omega)) ⟨by omega,by simp[hL]⟩ (by(refine⟨?_,?_⟩ <;>repeat' (first| exact True.intro| refine And.intro (nR [65]) ?_| refine ai ?_| refine And.intro ?_ ?_)))
 · (conv=>whnf);repeat' ((first| ((exfalso;omega)) | intro g| refine aN.mk _ (al hp rfl) ?_| refine st ?_| (first| refine b1 ?_ ?_| refine b2 ?_ ?_| refine Br.mk ?_ ?_) <;>intro hc| exact rfl) <;>conv=>whnf)
   exact aE.mk (4,L.set 3 {p with name:=[84,104,101,32,108,111,110,103,32,98,114,105,100,103,101]}) (by first| omega| (dsimp only;omega)) ⟨by omega,by simp[hL]⟩ (by(refine⟨?_,?_⟩ <;>repeat' (first| exact True.intro| refine And.intro (nR [84,104,101,32,108,111,110,103,32,98,114,105,100,103,101]) ?_| refine ai ?_| refine And.intro ?_ ?_)))
 · (conv=>whnf);repeat' ((first| ((exfalso;omega)) | intro g| refine aN.mk _ (al hp rfl) ?_| refine st ?_| (first| refine b1 ?_ ?_| refine b2 ?_ ?_| refine Br.mk ?_ ?_) <;>intro hc| exact rfl) <;>conv=>whnf)
   exact aE.mk (5,L.set 4 {p with name:=[80,111,110,100]}) (by first| omega| (dsimp only;omega)) ⟨by omega,by simp[hL]⟩ (by(refine⟨?_,?_⟩ <;>repeat' (first| exact True.intro| refine And.intro (nR [80,111,110,100]) ?_| refine ai ?_| refine And.intro ?_ ?_)))
 · (conv=>whnf);repeat' ((first| ((exfalso;omega)) | intro g| refine aN.mk _ (al hp rfl) ?_| refine st ?_| (first| refine b1 ?_ ?_| refine b2 ?_ ?_| refine Br.mk ?_ ?_) <;>intro hc| exact rfl) <;>conv=>whnf)
   exact aE.mk (6,L.set 5 {p with name:=[77,105,108,108]}) (by first| omega| (dsimp only;omega)) ⟨by omega,by simp[hL]⟩ (by(refine⟨?_,?_⟩ <;>repeat' (first| exact True.intro| refine And.intro (nR [77,105,108,108]) ?_| refine ai ?_| refine And.intro ?_ ?_)))
end Go.AM
