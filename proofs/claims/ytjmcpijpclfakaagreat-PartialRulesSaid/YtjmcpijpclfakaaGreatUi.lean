/-
  Texts of the proof: PRuK, PRuL.
-/
import Derived.Test.YtjmcpijpclfakaaGreatUd
import Derived.Test.YtjmcpijpclfakaaGreatRb
import Derived.Test.YtjmcpijpclfakaaGreatKa
import Derived.Test.YtjmcpijpclfakaaGreatSane
import Derived.Test.YtjmcpijpclfakaaGreatRc
import Derived.Test.YtjmcpijpclfakaaGreatUb
import Derived.Test.YtjmcpijpclfakaaGreatUg
set_option maxRecDepth 20000
set_option maxHeartbeats 8000000
set_option linter.unusedSimpArgs false
set_option linter.unusedVariables false
namespace Go.AM
mutual
theorem Ex.BJ: ∀e:Ex,e.norm.size=e.size
 | .mk op var val nl l=>by simp only[Ex.norm,Ex.size,Ex.zV l]
theorem Ex.zV: ∀l:List Ex,Ex.bK (Ex.wu l)=Ex.bK l
 | []=>rfl
 | e::l=>by simp only[Ex.wu,Ex.bK,Ex.BJ e,Ex.zV l]
end
theorem zW: ∀ {e:Ex},e.Fit→e.norm.Fit:=by
 intro e h
 induction h with
 | mk op var val nl l hs hm ih=>
   simp only[Ex.norm,Ex.dO]
   refine .mk _ _ _ _ _ hs ?_
   intro x hx
   obtain⟨y,hy,rfl⟩:=List.mem_map.1 hx
   exact ih y hy
theorem Ql {ks:List bH} (h:ks.length≤9) (hk: ∀k ∈ ks,zJ k):gZ ks:=
 ⟨by omega,fun k La=>by have:=(hk k La).1;omega,fun k La s hs=> (hk k La).2 s hs⟩
theorem Nd {x:b5} {ks:List bH} (h:ks.length≤9) (hk: ∀k ∈ ks,EU x k):gZ ks:=
 ⟨by omega,fun k La=>by have:=(hk k La).1.1;omega,fun k La s hs=> (hk k La).1.2 s hs⟩
theorem Nf {t:Int} {b:Bd} {c:Ex} (h:eS t b=some c) (hb:A3 b):c.Fit:=by
 unfold eS at h
 split at h
 · split at h
   · rename_i s hs
     split at h
     · injection h with h
       subst h
       exact .mk _ _ _ _ _ (hb s (by rw[hs];simp)) (by simp)
     · cases h
   · cases h
 · split at h
   · injection h with h
     subst h
     refine .mk _ _ _ _ _ ?_ (by simp)
     split<;>simp
   · cases h
theorem Qm {op var:Int} {val:Va} {nl:Bool} {l:List Ex} (h: (Ex.mk op var val nl l).b4≠0): ∀y ∈ l,y.b4≠0:=by
 intro u hu
 rcases eT h with⟨rfl,rfl,rfl,hr,hT⟩ | ⟨rfl,rfl,rfl,hv,hT⟩ | ⟨y,rfl,rfl,rfl,rfl,hx,hT⟩ | ⟨y,z,ho,rfl,rfl,rfl,hx,hy,hT3,h6,HK,h7,h8⟩ | ⟨y,z,w,rfl,rfl,rfl,rfl,hx,hy,hz,hT⟩
 · simp at hu
 · simp at hu
 · simp at hu;subst hu;omega
 · simp at hu
   rcases hu with rfl| rfl
   · exact hx
   · exact hy
 · simp at hu
   rcases hu with rfl| rfl| rfl
   · omega
   · exact hy
   · omega
theorem xY {ks:List bH} (hl:gZ ks): ∀ (k:Nat) (e:Ex),e.size≤k→e.b4≠0→e.Fit→(e.cT (aH ks)).Fit
 | 0,e,hk,_,_=>by have:=e.size_pos;omega
 | k+1,.mk op var val nl l,hk,ht,hf=>by
   have ih:=xY hl k
   have hm:=Qm ht
   have hb:=yT hl _ _ (Nat.le_refl _) hf ht
   simp only[Ex.size] at hk
   have gm: ∀s ∈ l.map (Ex.cT (aH ks)),s.Fit:=by
     intro s hs
     obtain⟨y,hy,rfl⟩:=List.mem_map.1 hs
     have:=Ex.eU hy
     exact ih y (by omega) (hm y hy) (hf.mem y hy)
   rw[Ex.pN]
   cases hc:eS (Ex.mk op var val nl l).b4 ((Ex.mk op var val nl l).bd (aH ks)) with
   | some c=>exact Nf hc hb
   | none=>
     simp only[ba]
     cases hp:pick op (l.map (Ex.bd (aH ks))) (l.map (Ex.cT (aH ks))) with
     | some s=>exact gm s (DY hp)
     | none=>exact .mk _ _ _ _ _ hf.val gm
theorem aP.xY {ks:List bH} (K:gZ ks) {r:aP} (ho:r.Ok) (h:r.Fit): (r.cT (aH ks)).Fit:=by
 have f: ∀ {e:Ex} {t:Int},t≠0→e.size≤60∧e.b4=t→e.size< 1000000∧e.Fit→(e.cT (aH ks)).size< 1000000∧(e.cT (aH ks)).Fit:=fun {e t} ht he hf=>
  ⟨by have:=yU (aH ks) e;omega,Go.AM.xY K _ e (Nat.le_refl _) (by rw[he.2];exact ht) hf.2⟩
 exact⟨h.name,f (by decide) ho.w h.w,f (by decide) ho.c h.c,f (by decide) ho.d h.d,f (by decide) ho.s h.s⟩
theorem aP.zW {r:aP} (h:r.Fit):r.norm.Fit:=by
 have f: ∀ {e:Ex},e.size< 1000000∧e.Fit→e.norm.size< 1000000∧e.norm.Fit:=fun {e} hf=> ⟨by rw[Ex.BJ];exact hf.1,Go.AM.zW hf.2⟩
 exact⟨h.name,f h.w,f h.c,f h.d,f h.s⟩
theorem xh (K:Int→Bd) (l:List aP): (fe K l).length≤l.length:=by
 unfold fe
 rw[List.length_map]
 exact List.length_filter_le _ _
theorem xi {ks:List bH} (K:gZ ks) {l:List aP} (hG: ∀r ∈ l,r.Ok) (hf: ∀r ∈ l,r.Fit): ∀r ∈ fe (aH ks) l,r.Fit:=by
 intro r hr
 obtain⟨q,hq,rfl⟩:=List.mem_map.1 hr
 have hm:=(List.mem_filter.1 hq).1
 exact aP.xY K (hG q hm) (hf q hm)
theorem E8 {ks:List bH} (K:gZ ks) {l:List aP} (hf: ∀r ∈ l,r.Fit): (jV (aH ks) l).length≤l.length∧ ∀r ∈ jV (aH ks) l,r.Fit:=by
 unfold jV
 split
 · rename_i h
   exact⟨xh _ _,xi K ((oB l).1 h).ok hf⟩
 · refine⟨by rw[List.length_map];exact Nat.le_refl _,fun r hr=> ?_⟩
   obtain⟨q,hq,rfl⟩:=List.mem_map.1 hr
   exact aP.zW (hf q hq)
end Go.AM
namespace Go.AM
def Ng (L M:List aP) (ks:List bH):Prop:=
 Ev E 327 [.lit 30 (L.map aP.v),.lit 4 (ks.map bH.v)] ⟨.own 30 (M.map aP.v),[]⟩∧Ev E 328 [.lit 30 (L.map aP.v),.lit 4 (ks.map bH.v)] ⟨.own 30 (M.map aP.v),[]⟩∧
 Ev E 326 [.lit 30 (M.map aP.v),.lit 30 (M.map aP.v)] ⟨.bool true,[]⟩
theorem Yp {L:List aP} {ks:List bH} (hl:L.length< 1000000) (hf: ∀r ∈ L,r.Fit) (K:gZ ks):Ng L (jV (aH ks) L) ks:=by
 obtain⟨h1,h2⟩:=E8 K hf
 exact⟨BH hl hf K,J4 hl hf K,CY _ (by omega) h2⟩
theorem GS {l env kn:List Int} {raw AB Yq:List bH} {more:List (List Int)} {q0 q1 q2:Int} {x:b5} {R O S:List aP} (Yr:b5→Bool)
   (Ir:more.length< 9223372036854775808)
   (Ys:Ev E 311 [] ⟨.bool true,[]⟩) (hx:Ev E 312 [.lit 1 (env.map vi)] ⟨x.v,[]⟩)
   (Ny:Ev E 315 [x.v,.lit 1 (kn.map vi)] ⟨.own 4 (AB.map bH.v),[]⟩) (Xj:Ev E 316 [.lit 4 (raw.map bH.v)] ⟨.own 4 (Yq.map bH.v),[]⟩)
   (E9:Ev E 324 [.lit 1 (l.map vi)] ⟨.own 30 (R.map aP.v),[]⟩) (Nh:Ev E 325 [.lit 30 (R.map aP.v),.agg [vi q0,vi q1,vi q2]] ⟨.own 30 (O.map aP.v),[]⟩)
   (h3: ∀L ∈ [R,O],∀ks ∈ [AB,Yq],∃M,Ng L M ks)
   (J7:Ev E 327 [.lit 30 (R.map aP.v),.lit 4 (AB.map bH.v)] ⟨.own 30 (S.map aP.v),[]⟩) (hSR:S.length≤R.length)
   (oZ:Ev E 329 [.lit 30 (R.map aP.v)] ⟨vi 0,[]⟩) (vJ:Ev E 329 [.lit 30 (S.map aP.v)] ⟨vi 0,[]⟩)
   (jh: ∀y:b5,Ev E 322 [y.v,.lit 4 (AB.map bH.v)] ⟨.bool (Yr y),[]⟩)
   (Is: ∀y:b5,Yr y=true→ ∃k:Lk,Ev E 330 [.lit 30 (R.map aP.v),y.v] ⟨.tuple [.agg [vi k.c,vi k.d,vi k.s],.str k.name,vi k.err],[]⟩∧Ev E 330 [.lit 30 (S.map aP.v),y.v] ⟨.tuple [.agg [vi k.c,vi k.d,vi k.s],.str k.name,vi k.err],[]⟩)
   (hm: ∀m ∈ more,∃y:b5,Ev E 312 [.lit 1 (m.map vi)] ⟨y.v,[]⟩):
   Ev E 310 [.lit 1 (l.map vi),.agg [vi q0,vi q1,vi q2],.agg [.lit 1 (env.map vi),.lit 1 (kn.map vi),.lit 4 (raw.map bH.v)],.lit 1 (more.map fun m=>V.lit 1 (m.map vi))] ⟨.bool true,[]⟩:=by
 have gD:x.v= .agg [vi x.kind,.str x.cls,.str x.name,vi x.weight,vi x.level,.bool x.cg,vi x.scale,vi x.hour,vi x.reader]:=rfl
 rw[gD] at hx Ny
 have lmm: (more.map fun m=>V.lit 1 (m.map vi)).length=more.length:=List.length_map ..
 have Na: (R.map aP.v).length=R.length:=List.length_map ..
 have lmS: (S.map aP.v).length=S.length:=List.length_map ..
 refine Ev.aG aas (aat _) rfl ?_
 (conv=>whnf);repeat' ((first| intro g| refine av.mk _ (Ys) ?_| refine av.mk _ (hx) ?_| refine av.mk _ (Ny) ?_| refine av.mk _ (E9) ?_| refine av.mk _ (Nh) ?_| refine st ?_| (first| refine b1 ?_ ?_| refine b2 ?_ ?_| refine Br.mk ?_ ?_) <;>intro hc| exact rfl) <;>conv=>whnf)
 rename_i Fj ug oU
 obtain⟨Qn,hg⟩: ∃x,x=g:=⟨_,rfl⟩
 rw[←hg];clear hg
 refine bj.by (fun (i:Nat)=> ⟨[(3,.lit 1 (more.map fun m=>V.lit 1 (m.map vi))),(6,.ptr 112 ug 0 0),(9,.bool true),(10,.ptr 176 oU 0 0),(11,.lit 4 (AB.map bH.v)),(12,.lit 30 (R.map aP.v)),(44,.sl 720 Qn 0 2),(45,aO 2),(46,aO i)],[(112,⟨ug,3,false,false,some [.agg [.lit 1 (env.map vi),.lit 1 (kn.map vi),.lit 4 (raw.map bH.v)]]⟩),(176,⟨oU,9,false,false,some [.agg [vi x.kind,.str x.cls,.str x.name,vi x.weight,vi x.level,.bool x.cg,vi x.scale,vi x.hour,vi x.reader]]⟩),(720,⟨Qn,1,true,false,some [.lit 30 (R.map aP.v),.lit 30 (O.map aP.v)]⟩)]⟩) (fun i=>i≤2) (fun i=>2 - i) 0 (by(refine⟨?_,?_⟩ <;>repeat' (first| exact True.intro| refine ai ?_| refine And.intro ?_ ?_))) (by simp) ?_
 rintro i hi
 by_cases bY:i< 2
 · obtain⟨L,hL,oe⟩: ∃L,L ∈ [R,O]∧ ∀n:Int,n=i→([.lit 30 (R.map aP.v),.lit 30 (O.map aP.v)]:List V)[n.toNat]? =some (.lit 30 (L.map aP.v)):=by
     have:i=0∨i=1:=by omega
     rcases this with rfl| rfl
     · exact⟨R,by simp,fun n hn=>by subst hn;rfl⟩
     · exact⟨O,by simp,fun n hn=>by subst hn;rfl⟩
   have PV:=h3 L hL
   clear Ys hx Ny E9 Nh h3 J7 oZ vJ jh Is hm
   have gv: ((i:Nat):Int) < 2:=by omega
   (conv=>whnf);repeat' ((first| intro g| refine bD.mk _ (oe _ rfl) ?_| refine av.mk _ (Xj) ?_| refine st ?_| (first| refine b1 ?_ ?_| refine b2 ?_ ?_| refine Br.mk ?_ ?_) <;>intro hc| exact rfl) <;>conv=>whnf)
   refine bj.by (fun (j:Nat)=> ⟨[(3,.lit 1 (more.map fun m=>V.lit 1 (m.map vi))),(6,.ptr 112 ug 0 0),(9,.bool true),(10,.ptr 176 oU 0 0),(11,.lit 4 (AB.map bH.v)),(12,.lit 30 (R.map aP.v)),(15,.lit 30 (L.map aP.v)),(44,.sl 720 Qn 0 2),(45,aO 2),(46,aO i),(54,.sl 880 g 0 2),(55,aO 2),(56,aO j)],[(112,⟨ug,3,false,false,some [.agg [.lit 1 (env.map vi),.lit 1 (kn.map vi),.lit 4 (raw.map bH.v)]]⟩),(176,⟨oU,9,false,false,some [.agg [vi x.kind,.str x.cls,.str x.name,vi x.weight,vi x.level,.bool x.cg,vi x.scale,vi x.hour,vi x.reader]]⟩),(720,⟨Qn,1,true,false,some [.lit 30 (R.map aP.v),.lit 30 (O.map aP.v)]⟩),(880,⟨g,1,true,false,some [.lit 4 (AB.map bH.v),.lit 4 (Yq.map bH.v)]⟩)]⟩) (fun j=>j≤2) (fun j=>2 - j) 0 (by(refine⟨?_,?_⟩ <;>repeat' (first| exact True.intro| refine ai ?_| refine And.intro ?_ ?_))) (by simp) ?_
   rintro j hj
   by_cases Db:j< 2
   · obtain⟨ks,hk,hgk⟩: ∃ks,ks ∈ [AB,Yq]∧ ∀n:Int,n=j→([.lit 4 (AB.map bH.v),.lit 4 (Yq.map bH.v)]:List V)[n.toNat]? =some (.lit 4 (ks.map bH.v)):=by
       have:j=0∨j=1:=by omega
       rcases this with rfl| rfl
       · exact⟨AB,by simp,fun n hn=>by subst hn;rfl⟩
       · exact⟨Yq,by simp,fun n hn=>by subst hn;rfl⟩
     obtain⟨M,t1,t2,t3⟩:=PV ks hk
     have hj2: ((j:Nat):Int) < 2:=by omega
     clear Xj PV oe
     (conv=>whnf);repeat' ((first| intro g| refine bD.mk _ (hgk _ rfl) ?_| refine av.mk _ (t1) ?_| refine av.mk _ (t2) ?_| refine av.mk _ (t3) ?_| refine st ?_| (first| refine b1 ?_ ?_| refine b2 ?_ ?_| refine Br.mk ?_ ?_) <;>intro hc| exact rfl) <;>conv=>whnf)
     exact bk.mk (j+1) (by first| omega| (dsimp only;omega)) (by first| omega| (dsimp only;omega)) (by(refine⟨?_,?_⟩ <;>repeat' (first| exact True.intro| refine ai ?_| refine And.intro ?_ ?_)))
   · obtain rfl:j=2:=by omega
     (conv=>whnf);repeat' ((first| intro g| refine st ?_| (first| refine b1 ?_ ?_| refine b2 ?_ ?_| refine Br.mk ?_ ?_) <;>intro hc| exact rfl) <;>conv=>whnf)
     exact bk.mk (i+1) (by first| omega| (dsimp only;omega)) (by first| omega| (dsimp only;omega)) (by(refine⟨?_,?_⟩ <;>repeat' (first| exact True.intro| refine ai ?_| refine And.intro ?_ ?_)))
 obtain rfl:i=2:=by omega
 clear Ys hx Ny E9 Nh h3 Xj
 have agD: ¬ ((R.length:Nat):Int) < ((S.length:Nat):Int):=by omega
 (conv=>whnf);repeat' ((first| intro g| refine av.mk _ (J7) ?_| refine av.mk _ (oZ) ?_| refine av.mk _ (vJ) ?_| refine st ?_| (first| refine b1 ?_ ?_| refine b2 ?_ ?_| refine Br.mk ?_ ?_) <;>intro hc| exact rfl) <;>conv=>whnf)
 refine bj.by (fun ((i,L,g9):Nat×List b5×Nat)=> ⟨[(3,.lit 1 (more.map fun m=>V.lit 1 (m.map vi))),(9,.bool true),(11,.lit 4 (AB.map bH.v)),(12,.lit 30 (R.map aP.v)),(18,.lit 30 (S.map aP.v)),(19,.sl 321 g9 0 L.length),(20,aO i)],[(321,⟨g9,9,true,false,some (L.map b5.v)⟩)]⟩)
   (fun (i,L,g9)=>i≤6∧L.length=i+1) (fun (i,L,g9)=>6 - i) (0,[x],g) (by(refine⟨?_,?_⟩ <;>repeat' (first| exact True.intro| refine ai ?_| refine And.intro ?_ ?_))) ⟨by simp,by simp⟩ ?_
 rintro⟨i,L,g9⟩ ⟨hi6,hL⟩
 try dsimp only at hi6 hL
 have sU: (L.map b5.v).length=L.length:=List.length_map ..
 clear J7 oZ vJ
 by_cases bY:i<more.length∧i< 6
 · obtain⟨h1,h2⟩:=bY
   have RL:more[i]? =some more[i]:=bp h1
   obtain⟨y,hy⟩:=hm more[i] (List.mem_of_getElem? RL)
   generalize more[i]=m at*
   clear hm Is jh
   have YW:y.v= .agg [vi y.kind,.str y.cls,.str y.name,vi y.weight,vi y.level,.bool y.cg,vi y.scale,vi y.hour,vi y.reader]:=rfl
   rw[YW] at hy
   (conv=>whnf);repeat' ((first| intro g| refine bD.mk _ (aA RL rfl rfl) ?_| refine av.mk _ (hy) ?_| refine st ?_| (first| refine b1 ?_ ?_| refine b2 ?_ ?_| refine Br.mk ?_ ?_) <;>intro hc| exact rfl) <;>conv=>whnf)
   exact bk.mk (i+1,L++[y],g) (by first| omega| (dsimp only;omega)) ⟨by omega,by simp;omega⟩ (by simp only[List.map_append,List.map_cons,List.map_nil,List.length_append,List.length_cons,List.length_nil,YW]; (refine⟨?_,?_⟩ <;>repeat' (first| exact True.intro| refine ai ?_| refine And.intro ?_ ?_)))
 · have agE: ¬ (((i:Nat):Int) < ((more.length:Nat):Int))∨ ¬ (((i:Nat):Int) < 6):=by omega
   clear hm
   by_cases h1:i<more.length
   all_goals
     (conv=>whnf);repeat' ((first| intro g| refine st ?_| (first| refine b1 ?_ ?_| refine b2 ?_ ?_| refine Br.mk ?_ ?_) <;>intro hc| exact rfl) <;>conv=>whnf)
     refine bj.by (fun (j:Nat)=> ⟨[(9,.bool true),(11,.lit 4 (AB.map bH.v)),(12,.lit 30 (R.map aP.v)),(18,.lit 30 (S.map aP.v)),(105,.sl 321 g9 0 L.length),(106,aO L.length),(107,aO j)],[(321,⟨g9,9,true,false,some (L.map b5.v)⟩)]⟩)
       (fun j=>j≤L.length) (fun j=>L.length - j) 0 (by(refine⟨?_,?_⟩ <;>repeat' (first| exact True.intro| refine ai ?_| refine And.intro ?_ ?_))) (by simp) ?_
     intro j hj
     by_cases Db:j<L.length
     · obtain⟨y,hy⟩: ∃y,L[j]? =some y:=⟨_,bp Db⟩
       have hf:=jh y
       have hv:=Is y
       have YW:y.v= .agg [vi y.kind,.str y.cls,.str y.name,vi y.weight,vi y.level,.bool y.cg,vi y.scale,vi y.hour,vi y.reader]:=rfl
       rw[YW] at hf hv
       clear jh Is
       cases hg:Yr y with
       | false=>
         rw[hg] at hf
         clear hv
         (conv=>whnf);repeat' ((first| intro g| refine bD.mk _ (aA hy YW rfl) ?_| refine av.mk _ (hf) ?_| refine st ?_| (first| refine b1 ?_ ?_| refine b2 ?_ ?_| refine Br.mk ?_ ?_) <;>intro hc| exact rfl) <;>conv=>whnf)
         exact bk.mk (j+1) (by first| omega| (dsimp only;omega)) (by first| omega| (dsimp only;omega)) (by(refine⟨?_,?_⟩ <;>repeat' (first| exact True.intro| refine ai ?_| refine And.intro ?_ ?_)))
       | true=>
         rw[hg] at hf
         obtain⟨k,k1,k2⟩:=hv hg
         clear hv hg
         (conv=>whnf);repeat' ((first| intro g| refine bD.mk _ (aA hy YW rfl) ?_| refine av.mk _ (hf) ?_| refine av.mk _ (k1) ?_| refine av.mk _ (k2) ?_| refine st ?_| (first| refine b1 ?_ ?_| refine b2 ?_ ?_| refine Br.mk ?_ ?_) <;>intro hc| exact rfl) <;>conv=>whnf)
         exact bk.mk (j+1) (by first| omega| (dsimp only;omega)) (by first| omega| (dsimp only;omega)) (by(refine⟨?_,?_⟩ <;>repeat' (first| exact True.intro| refine ai ?_| refine And.intro ?_ ?_)))
     · obtain rfl:j=L.length:=by omega
       (conv=>whnf);repeat' ((first| intro g| refine st ?_| (first| refine b1 ?_ ?_| refine b2 ?_ ?_| refine Br.mk ?_ ?_) <;>intro hc| exact rfl) <;>conv=>whnf)
theorem uX {l env kn:List Int} {raw:List bH} {more:List (List Int)} (q0 q1 q2:Int) (hl:l.length< 9223372036854775808) (Yt:env.length< 9223372036854775808) (hkn:kn.length< 9223372036854775808)
   (MM:raw.length< 9223372036854775808) (Ni: ∀k ∈ raw,k.texts.length< 9223372036854775808∧ ∀s ∈ k.texts,s.length< 9223372036854775808)
   (Ir:more.length< 9223372036854775808) (hm: ∀m ∈ more,m.length< 9223372036854775808)
   (Nh: ∀R:List aP,0 <R.length→R.length≤4→(∀r ∈ R,r.Fit)→qu R q0 q1 q2):
   Ev E 310 [.lit 1 (l.map vi),.agg [vi q0,vi q1,vi q2],.agg [.lit 1 (env.map vi),.lit 1 (kn.map vi),.lit 4 (raw.map bH.v)],.lit 1 (more.map fun m=>V.lit 1 (m.map vi))] ⟨.bool true,[]⟩:=by
 obtain⟨x,hxo,hx⟩:=ML Yt
 obtain⟨R,hR0,hR4,hG,YX,E9⟩:=M6 hl
 have hRp:0 <R.length:=List.length_pos_iff.2 hR0
 obtain⟨O,hO,NL,ho⟩:=Nh R hRp hR4 YX
 obtain⟨AB,hk,Fo,Ny⟩:=JX x hxo hkn
 have K1:=Nd hk Fo
 obtain⟨Yq,hk2,agv,Xj⟩:=XL MM Ni
 have K2:=Ql hk2 agv
 have kQ:=(oB R).2 hG
 have hS0:jV (aH AB) R=fe (aH AB) R:=by unfold jV;rw[if_pos kQ]
 have hBN:=C4 AB
 have hSG:=aiZ.cT hBN hG
 have hSf:=xi K1 hG.ok YX
 have hSl:=xh (aH AB) R
 have oZ:=uW R (by omega) YX
 have vJ:=uW (fe (aH AB) R) (by omega) hSf
 rw[kQ] at oZ
 rw[(oB _).2 hSG] at vJ
 have J7:=BH (l:=R) (by omega) YX K1
 rw[hS0] at J7
 refine GS (O:=O) (fun y=>AB.all (lW y)) Ir JY hx Ny Xj E9 ho ?_ J7 hSl oZ vJ (fun y=>MI (l:=AB) (sv:= .lit 4 (AB.map bH.v)) y (by omega) K1.tx (.inl rfl)) ?_ (fun m h=>by
   obtain⟨y,_,h2⟩:=ML (hm m h)
   exact⟨y,h2⟩)
 · intro L hL ks agw
   have hLf:L.length< 1000000∧ ∀r ∈ L,r.Fit:=by
    rcases List.mem_cons.1 hL with rfl| hL
    · exact⟨by omega,YX⟩
    · rw[List.mem_singleton.1 hL];exact⟨by omega,NL⟩
   have hK:gZ ks:=by
    rcases List.mem_cons.1 agw with rfl| h
    · exact K1
    · rw[List.mem_singleton.1 h];exact K2
   exact⟨_,Yp hLf.1 hLf.2 hK⟩
 · intro y hg
   have sG:=fun v hv=>It hg v hv
   have e1:=Il y (by omega) YX kQ
   have e2:=Il y (by omega) hSf ((oB _).2 hSG)
   rw[MX hBN sG hG] at e2
   exact⟨_,e1,e2⟩
theorem xC {l env kn:List Int} {raw:List bH} {more:List (List Int)} (q0 q1 q2:Int) (hl:l.length< 9223372036854775808) (Yt:env.length< 9223372036854775808) (hkn:kn.length< 9223372036854775808)
  (MM:raw.length< 9223372036854775808) (Ni: ∀k ∈ raw,k.texts.length< 9223372036854775808∧ ∀s ∈ k.texts,s.length< 9223372036854775808)
  (Ir:more.length< 9223372036854775808) (hm: ∀m ∈ more,m.length< 9223372036854775808):
  Ev E 310 [.lit 1 (l.map vi),.agg [vi q0,vi q1,vi q2],.agg [.lit 1 (env.map vi),.lit 1 (kn.map vi),.lit 4 (raw.map bH.v)],.lit 1 (more.map fun m=>V.lit 1 (m.map vi))] ⟨.bool true,[]⟩:=
 uX q0 q1 q2 hl Yt hkn MM Ni Ir hm fun R h1 h2 h3=>Qk h1 h2 h3 q0 q1 q2
end Go.AM
