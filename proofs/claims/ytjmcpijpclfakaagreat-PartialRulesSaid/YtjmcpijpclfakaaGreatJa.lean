/-
  Texts of the proof: PRefA, PRefB, PRefC, PRefD.
-/
import Derived.Test.YtjmcpijpclfakaaGreatIa
import Derived.Test.YtjmcpijpclfakaaGreatF
set_option maxRecDepth 20000
set_option maxHeartbeats 4000000
set_option linter.unusedSimpArgs false
set_option linter.unusedVariables false
namespace Go.AM
theorem F5 (a b:Bd):Ev E 386 [vi a.lo,vi a.hi,vi b.lo,vi b.hi] ⟨.tuple [vi (KZ a b),vi (K0 a b)],[]⟩:=by
 refine Ev.aG abg (abh _) rfl ?_
 (conv=>whnf);repeat' ((first| intro g| refine av.mk _ (B5 _) ?_| refine st ?_| (first| refine b1 ?_ ?_| refine b2 ?_ ?_| refine Br.mk ?_ ?_) <;>intro hc| exact rfl) <;>conv=>whnf)
theorem F6 (v:Int):Ev E 417 [.nils,vi v] ⟨.tuple [.own 1 [],.bool false],[]⟩:=by
 refine Ev.aG Rr (Rs _) rfl ?_
 (conv=>whnf);repeat' ((first| intro g| refine st ?_| (first| refine b1 ?_ ?_| refine b2 ?_ ?_| refine Br.mk ?_ ?_) <;>intro hc| exact rfl) <;>conv=>whnf)
 refine bj.by (fun (i:Nat)=> ⟨[(0,.nils),(1,vi v),(6,vi (-1)),(7,vi (-1))],[]⟩) (fun i=>i=0) (fun i=>0) 0 (by(refine⟨?_,?_⟩ <;>repeat' (first| exact True.intro| refine ai ?_| refine And.intro ?_ ?_))) rfl ?_
 rintro i rfl
 (conv=>whnf);repeat' ((first| intro g| refine st ?_| (first| refine b1 ?_ ?_| refine b2 ?_ ?_| refine Br.mk ?_ ?_) <;>intro hc| exact rfl) <;>conv=>whnf)
theorem abZ {l:List bH} (v:Int) (h:cI v=3):aH l v=⟨0,0,true,fA (cY v l),!(fA (cY v l)).isEmpty,true⟩:=by
 simp[aH,h,jc]
theorem F7 {l:List bH} {sv:V} (hl:gZ l) (hs:td 4 (l.map bH.v) sv) (v:Int) (h:cI v=3):Ev E 417 [sv,vi v] ⟨.tuple [.own 1 ((aH l v).ws.map V.str),.bool (aH l v).some],[]⟩:=by
 rw[abZ v h]
 rcases hs with rfl| ⟨h0,rfl⟩
 · exact IY v hl
 · have:l=[]:=by simpa using h0
   subst this
   exact F6 v
theorem Jj {l:List bH} {sv:V} (hl:gZ l) (hs:td 4 (l.map bH.v) sv) (v:Int) (h:cI v≠3):Ev E 384 [sv,vi v] ⟨.tuple [vi (aH l v).lo,vi (aH l v).hi],[]⟩:=by
 have e:aH l v=pL v l:=by simp[aH,h]
 rw[e]
 have:=hl.len
 exact K6 hs v (by omega)
def RW (ws:List dE) (so:Bool) (v:V):Prop:=v= .tuple [.own 1 (ws.map V.str),.bool so]∨v= .tuple [.lit 1 (ws.map V.str),.bool so]
theorem RW.imp {ws:List dE} {so:Bool} {v:V} (h:RW ws so v) (r:Nat) (k:V→bR):bC false r [] v k=k (.tuple [.lit 1 (ws.map V.str),.bool so]):=by
 rcases h with rfl| rfl<;>rfl
theorem aQ {v w:V} (h:V.aj v=true) (k:V.aj w=true):V.ae [v,w]=true:=by simp only[V.ae,h,k,Bool.and_self]
def Sv (sv:V):Prop:=sv= .nils∨ ∃ks,sv= .lit 4 ks
theorem td.sv {xs:List V} {sv:V} (h:td 4 xs sv):Sv sv:=by
 rcases h with rfl| ⟨_,rfl⟩
 · exact .inr ⟨_,rfl⟩
 · exact .inl rfl
def Words (sv:V) (K:Int→Bd) (e:Ex):Prop:= ∃v,Ev E 388 [e.v,sv] ⟨v,[]⟩∧RW (e.bd K).ws (e.bd K).some v
def Bounds (sv:V) (K:Int→Bd) (e:Ex):Prop:=Ev E 342 [e.v,sv] ⟨.tuple [vi (e.bd K).lo,vi (e.bd K).hi],[]⟩
theorem DV {sv:V} (eN:Sv sv) (K:Int→Bd) (n:Int) (b:Bool) (s:dE) (nl:Bool):Words sv K (.mk 1 0 ⟨3,n,b,s⟩ nl []):=by
 refine⟨_,?_,.inl rfl⟩
 rw[Ex.bN]
 simp only[Ex.bd,Ex.DR]
 refine Ev.aG AS (AT _) rfl ?_
 rcases eN with rfl| ⟨ks,rfl⟩ <;>cases nl<;>simp only[List.map_nil,lv,cond_true,cond_false]
 all_goals (conv=>whnf);repeat' ((first| intro g| refine st ?_| (first| refine b1 ?_ ?_| refine b2 ?_ ?_| refine Br.mk ?_ ?_) <;>intro hc| exact rfl) <;>conv=>whnf)
theorem Jk {l:List bH} {sv:V} (hl:gZ l) (hs:td 4 (l.map bH.v) sv) (v:Int) (h:cI v=3) (nl:Bool):Words sv (aH l) (.mk 2 v aM nl []):=by
 have hr:=F7 hl hs v h
 have eN:=hs.sv
 have cm:aD E 417=[]:=rfl
 refine⟨_,?_,.inr rfl⟩
 rw[Ex.bN]
 have e: (Ex.mk 2 v aM nl []).bd (aH l)=aH l v:=by simp[Ex.bd,Ex.DR,cS]
 rw[e]
 generalize (aH l v).ws=ws at*
 generalize (aH l v).some=so at*
 refine Ev.aG AS (AT _) rfl ?_
 clear hs
 rcases eN with rfl| ⟨ks,rfl⟩ <;>cases nl<;>simp only[List.map_nil,lv,cond_true,cond_false]
 all_goals (conv=>whnf);repeat' ((first| intro g| refine av.mk _ (hr) ?_| refine st ?_| (first| refine b1 ?_ ?_| refine b2 ?_ ?_| refine Br.mk ?_ ?_) <;>intro hc| exact rfl) <;>conv=>whnf)
theorem Cs {sv:V} (eN:Sv sv) (K:Int→Bd) {val:Va} (hr:val.right=true) (h3:val.t≠3) (nl:Bool):Bounds sv K (.mk 1 0 val nl []):=by
 have ht:=uh hr
 obtain⟨t,n,b,s⟩:=val
 dsimp only at ht h3
 unfold Bounds
 rw[Ex.bN]
 simp only[Ex.bd,Ex.DR,cS,if_true]
 have hn:=IW t n b s
 simp only[Va.v] at hn
 have hb:t=1→b=false:=by
   rintro rfl
   simp only[Va.right,if_true,Bool.and_eq_true,Bool.not_eq_true'] at hr
   exact hr.1.2
 have vc:t=2→n=0:=by
   rintro rfl
   simp only[Va.right,Int.reduceEq,if_false,if_true,Bool.and_eq_true,decide_eq_true_eq] at hr
   exact hr.1
 rcases ht with rfl| rfl| rfl
 · obtain rfl:=hb rfl
   refine Ev.aG rI (rJ _) rfl ?_
   rcases eN with rfl| ⟨ks,rfl⟩ <;>cases nl<;>simp only[List.map_nil,lv,cond_true,cond_false]
   all_goals (conv=>whnf);repeat' ((first| intro g| refine av.mk _ (hn) ?_| refine st ?_| (first| refine b1 ?_ ?_| refine b2 ?_ ?_| refine Br.mk ?_ ?_) <;>intro hc| exact rfl) <;>conv=>whnf)
 · obtain rfl:=vc rfl
   refine Ev.aG rI (rJ _) rfl ?_
   rcases eN with rfl| ⟨ks,rfl⟩ <;>cases b<;>cases nl<;>simp only[List.map_nil,lv,cond_true,cond_false] at hn ⊢
   all_goals (conv=>whnf);repeat' ((first| intro g| refine av.mk _ (hn) ?_| refine st ?_| (first| refine b1 ?_ ?_| refine b2 ?_ ?_| refine Br.mk ?_ ?_) <;>intro hc| exact rfl) <;>conv=>whnf)
 · exact absurd rfl h3
theorem F8 {l:List bH} {sv:V} (hl:gZ l) (hs:td 4 (l.map bH.v) sv) (v:Int) (h:cI v≠3) (nl:Bool):Bounds sv (aH l) (.mk 2 v aM nl []):=by
 have hr:=Jj hl hs v h
 have eN:=hs.sv
 unfold Bounds
 rw[Ex.bN]
 have e: (Ex.mk 2 v aM nl []).bd (aH l)=aH l v:=by simp[Ex.bd,Ex.DR,cS]
 rw[e]
 generalize (aH l v).lo=lo at*
 generalize (aH l v).hi=hi at*
 refine Ev.aG rI (rJ _) rfl ?_
 clear hs
 rcases eN with rfl| ⟨ks,rfl⟩ <;>cases nl<;>simp only[List.map_nil,lv,cond_true,cond_false]
 all_goals (conv=>whnf);repeat' ((first| intro g| refine av.mk _ (hr) ?_| refine st ?_| (first| refine b1 ?_ ?_| refine b2 ?_ ?_| refine Br.mk ?_ ?_) <;>intro hc| exact rfl) <;>conv=>whnf)
theorem F9 {sv:V} (eN:Sv sv) {K:Int→Bd} {x:Ex} (hx:Bounds sv K x) (nl:Bool):Bounds sv K (.mk 3 0 aM nl [x]):=by
 unfold Bounds at*
 have e: (Ex.mk 3 0 aM nl [x]).bd K=nb (oG (1 - (x.bd K).hi)) (oG (1 - (x.bd K).lo)):=by simp[Ex.bd,Ex.DR,cS]
 rw[e]
 have cm:aD E 342=[]:=rfl
 obtain⟨a1,b1,c1,d1,e1,f1,L1,fX,mR⟩:=x.br
 rw[fX] at hx
 generalize x.bd K=bx at*
 rw[Ex.bN]
 simp only[List.map_cons,List.map_nil,cP,fX,aM]
 rcases eN with rfl| ⟨ks,rfl⟩
 all_goals
  refine Ev.aG rI (rJ _) rfl ?_
  (conv=>whnf);repeat' ((first| refine aq cm (aQ mR rfl) hx rfl ?_| intro g| refine st ?_| (first| refine b1 ?_ ?_| refine b2 ?_ ?_| refine Br.mk ?_ ?_) <;>intro hc| exact rfl) <;>conv=>whnf)
end Go.AM
namespace Go.AM
theorem Jl {sv:V} (eN:Sv sv) {K:Int→Bd} {x y z:Ex} (hx:Bounds sv K x) (hy:Bounds sv K y) (hz:Bounds sv K z) (hyt: (y.bd K).text=false) (nl:Bool):Bounds sv K (.mk 13 0 aM nl [x,y,z]):=by
 unfold Bounds at*
 have e: (Ex.mk 13 0 aM nl [x,y,z]).bd K=if (x.bd K).lo=1 then y.bd K else if (x.bd K).hi=0 then z.bd K else nb (cH (y.bd K).lo (z.bd K).lo) (imax (y.bd K).hi (z.bd K).hi):=by
  simp[Ex.bd,Ex.DR,cS,either,hyt]
 rw[e]
 have cm:aD E 342=[]:=rfl
 obtain⟨a1,b1,c1,d1,e1,f1,L1,fX,mR⟩:=x.br
 obtain⟨a2,b2,c2,d2,e2,f2,L2,mn,xM⟩:=y.br
 obtain⟨a3,b3,c3,d3,e3,f3,L3,RE,Pm⟩:=z.br
 rw[fX] at hx
 rw[mn] at hy
 rw[RE] at hz
 generalize x.bd K=bx at*
 generalize y.bd K=Ji at*
 generalize z.bd K=bz at*
 rw[Ex.bN]
 simp only[List.map_cons,List.map_nil,cP,fX,mn,RE,aM]
 rcases eN with rfl| ⟨ks,rfl⟩
 all_goals
  by_cases q1:bx.lo=1
  · rw[if_pos q1]
    refine Ev.aG rI (rJ _) rfl ?_
    (conv=>whnf);repeat' ((first| refine aq cm (aQ mR rfl) hx rfl ?_| refine aq cm (aQ xM rfl) hy rfl ?_| refine aq cm (aQ Pm rfl) hz rfl ?_| intro g| refine st ?_| (first| refine b1 ?_ ?_| refine b2 ?_ ?_| refine Br.mk ?_ ?_) <;>intro hc| exact rfl) <;>conv=>whnf)
  · rw[if_neg q1]
    by_cases q2:bx.hi=0
    · rw[if_pos q2]
      refine Ev.aG rI (rJ _) rfl ?_
      (conv=>whnf);repeat' ((first| refine aq cm (aQ mR rfl) hx rfl ?_| refine aq cm (aQ xM rfl) hy rfl ?_| refine aq cm (aQ Pm rfl) hz rfl ?_| intro g| refine st ?_| (first| refine b1 ?_ ?_| refine b2 ?_ ?_| refine Br.mk ?_ ?_) <;>intro hc| exact rfl) <;>conv=>whnf)
    · rw[if_neg q2]
      refine Ev.aG rI (rJ _) rfl ?_
      (conv=>whnf);repeat' ((first| refine aq cm (aQ mR rfl) hx rfl ?_| refine aq cm (aQ xM rfl) hy rfl ?_| refine aq cm (aQ Pm rfl) hz rfl ?_| intro g| refine st ?_| (first| refine b1 ?_ ?_| refine b2 ?_ ?_| refine Br.mk ?_ ?_) <;>intro hc| exact rfl) <;>conv=>whnf)
theorem Jm {sv:V} (eN:Sv sv) {K:Int→Bd} {x y:Ex} {op:Int} (dN: (4≤op∧op≤12)∧op≠6) (hx:Bounds sv K x) (hy:Bounds sv K y) (nl:Bool):Bounds sv K (.mk op 0 aM nl [x,y]):=by
 unfold Bounds at*
 have e: (Ex.mk op 0 aM nl [x,y]).bd K=yO op (x.bd K) (y.bd K):=by simp[Ex.bd,Ex.DR,cS]
 rw[e]
 have cm:aD E 342=[]:=rfl
 obtain⟨a1,b1,c1,d1,e1,f1,L1,fX,mR⟩:=x.br
 obtain⟨a2,b2,c2,d2,e2,f2,L2,mn,xM⟩:=y.br
 rw[fX] at hx
 rw[mn] at hy
 generalize x.bd K=bx at*
 generalize y.bd K=Ji at*
 have WU:=F5 bx Ji
 rw[Ex.bN]
 simp only[List.map_cons,List.map_nil,cP,fX,mn,aM]
 have DD:op=4∨op=5∨op=7∨op=8∨op=9∨op=10∨op=11∨op=12:=by omega
 rcases DD with rfl| rfl| rfl| rfl| rfl| rfl| rfl| rfl<;>rcases eN with rfl| ⟨ks,rfl⟩
 all_goals
  refine Ev.aG rI (rJ _) rfl ?_
  (conv=>whnf);repeat' ((first| refine aq cm (aQ mR rfl) hx rfl ?_| refine aq cm (aQ xM rfl) hy rfl ?_| intro g| refine av.mk _ (B5 _) ?_| refine av.mk _ (WU) ?_| refine st ?_| (first| refine b1 ?_ ?_| refine b2 ?_ ?_| refine Br.mk ?_ ?_) <;>intro hc| exact rfl) <;>conv=>whnf)
 all_goals simp only[decide_eq_true_eq,decide_eq_false_iff_not] at*
 all_goals simp[yO,pK,nb, *]
end Go.AM
namespace Go.AM
theorem Ll {a b:Int} {R:Bd} (h:nb a b=R): (iE.mk (.tuple [vi a,vi b]) [])=⟨.tuple [vi R.lo,vi R.hi],[]⟩:=by rw[←h];rfl
theorem Lm {α:Type} {p:α→Bool} {l:List α} {i:Nat} {x:α} (h:l[i]? =some x): (l.take (i+1)).any p=((l.take i).any p || p x):=by
 rw[List.take_add_one,h,List.any_append];simp
theorem Ga {sv:V} (eN:Sv sv) {K:Int→Bd} {x y:Ex} {t er:Int} (hx:Bounds sv K x) (hy:Bounds sv K y) (dj:Ev E 341 [x.v] ⟨.tuple [vi t,vi er],[]⟩) (ht:t≠3) (FR: (x.bd K).text=false) (nl:Bool):Bounds sv K (.mk 6 0 aM nl [x,y]):=by
 unfold Bounds at*
 have e: (Ex.mk 6 0 aM nl [x,y]).bd K=if (x.bd K).hi< (y.bd K).lo∨(y.bd K).hi< (x.bd K).lo then nb 0 0 else if (x.bd K).lo=(x.bd K).hi∧(y.bd K).lo=(y.bd K).hi then nb 1 1 else nb 0 1:=by
  simp[Ex.bd,Ex.DR,cS,yO,tI,FR]
 rw[e]
 have cm:aD E 342=[]:=rfl
 have gR:aD E 341=[]:=rfl
 obtain⟨a1,b1,c1,d1,e1,f1,L1,fX,mR⟩:=x.br
 obtain⟨a2,b2,c2,d2,e2,f2,L2,mn,xM⟩:=y.br
 rw[fX] at hx dj
 rw[mn] at hy
 generalize x.bd K=bx at*
 generalize y.bd K=b2 at*
 generalize hr: (if bx.hi<b2.lo∨b2.hi<bx.lo then nb 0 0 else if bx.lo=bx.hi∧b2.lo=b2.hi then nb 1 1 else nb 0 1)=R
 have WV:V.ae [.agg [vi a1,vi b1,vi c1,vi d1,.bool e1,.str f1,L1]]=true:=by simp only[V.ae,mR,Bool.and_self]
 obtain⟨lo,hi,Cj,ws,so,tx⟩:=bx
 obtain⟨AU,gP,nl2,DW,WW,tx2⟩:=b2
 dsimp only at hx hy hr
 rw[Ex.bN]
 simp only[List.map_cons,List.map_nil,cP,fX,mn,aM]
 rcases eN with rfl| ⟨ks,rfl⟩
 all_goals
  refine Ev.aG rI (rJ _) rfl ?_
  (conv=>whnf);repeat' ((first| refine aq gR WV dj rfl ?_| refine aq cm (aQ mR rfl) hx rfl ?_| refine aq cm (aQ xM rfl) hy rfl ?_| intro g| refine st ?_| (first| refine b1 ?_ ?_| refine b2 ?_ ?_| refine Br.mk ?_ ?_) <;>intro hc| exact rfl) <;>conv=>whnf)
 all_goals simp only[decide_eq_true_eq,decide_eq_false_iff_not] at*
 all_goals (refine Ll ?_;rw[←hr];clear hr e;repeat' split)
 all_goals first| rfl| (exfalso;omega)
theorem Ln {sv:V} (eN:Sv sv) {K:Int→Bd} {x y:Ex} (hx:Words sv K x) (hy:Words sv K y) (lx: (x.bd K).ws.length< 1000000) (ly: (y.bd K).ws.length< 1000000) (FR: (x.bd K).text=true) (nl:Bool):Ev E 385 [(Ex.mk 6 0 aM nl [x,y]).v,sv] ⟨.tuple [vi (tI (x.bd K) (y.bd K)).lo,vi (tI (x.bd K) (y.bd K)).hi],[]⟩:=by
 have cm:aD E 388=[]:=rfl
 obtain⟨v1,hx,r1⟩:=hx
 obtain⟨v2,hy,r2⟩:=hy
 obtain⟨a1,b1,c1,d1,e1,f1,L1,fX,mR⟩:=x.br
 obtain⟨a2,b2,c2,d2,e2,f2,L2,mn,xM⟩:=y.br
 rw[fX] at hx
 rw[mn] at hy
 generalize x.bd K=bx at*
 generalize y.bd K=b2 at*
 have hE:tI bx b2=if (bx.some &&b2.some)=true then(if (bx.ws.any (fun s=>decide (s ∈ b2.ws)))=true then(if bx.ws.length=1∧b2.ws.length=1 then nb 1 1 else nb 0 1) else nb 0 0) else nb 0 1:=by simp[tI,FR]
 rw[hE]
 generalize hr: (if (bx.some &&b2.some)=true then(if (bx.ws.any (fun s=>decide (s ∈ b2.ws)))=true then(if bx.ws.length=1∧b2.ws.length=1 then nb 1 1 else nb 0 1) else nb 0 0) else nb 0 1)=R
 obtain⟨lo,hi,Cj,ws,so,tx⟩:=bx
 obtain⟨AU,gP,nl2,DW,WW,tx2⟩:=b2
 dsimp only at lx ly hr r1 r2
 have i1:=fun r k=>r1.imp r k
 have i2:=fun r k=>r2.imp r k
 have lm: (ws.map V.str).length=ws.length:=List.length_map ..
 have lm2: (DW.map V.str).length=DW.length:=List.length_map ..
 rw[Ex.bN]
 simp only[List.map_cons,List.map_nil,cP,fX,mn,aM]
 cases so
 · subst hr
   rcases eN with rfl| ⟨ks,rfl⟩
   all_goals
     refine Ev.aG KX (KY _) rfl ?_
     (conv=>whnf);repeat' ((first| refine bc cm (aQ mR rfl) hx i1 ?_| refine bc cm (aQ xM rfl) hy i2 ?_| intro g| refine st ?_| (first| refine b1 ?_ ?_| refine b2 ?_ ?_| refine Br.mk ?_ ?_) <;>intro hc| exact rfl) <;>conv=>whnf)
 cases WW
 · subst hr
   rcases eN with rfl| ⟨ks,rfl⟩
   all_goals
     refine Ev.aG KX (KY _) rfl ?_
     (conv=>whnf);repeat' ((first| refine bc cm (aQ mR rfl) hx i1 ?_| refine bc cm (aQ xM rfl) hy i2 ?_| intro g| refine st ?_| (first| refine b1 ?_ ?_| refine b2 ?_ ?_| refine Br.mk ?_ ?_) <;>intro hc| exact rfl) <;>conv=>whnf)
 rcases eN with rfl| ⟨ks,rfl⟩
 all_goals
   refine Ev.aG KX (KY _) rfl ?_
   (conv=>whnf);repeat' ((first| refine bc cm (aQ mR rfl) hx i1 ?_| refine bc cm (aQ xM rfl) hy i2 ?_| intro g| refine st ?_| (first| refine b1 ?_ ?_| refine b2 ?_ ?_| refine Br.mk ?_ ?_) <;>intro hc| exact rfl) <;>conv=>whnf)
   refine bj.by (fun (k:Nat)=> ⟨[(6,.lit 1 (ws.map V.str)),(8,.lit 1 (DW.map V.str)),(10,.bool ((ws.take k).any fun s=>decide (s ∈ DW))),(11,aO k)],[]⟩) (fun k=>k≤ws.length) (fun k=>ws.length - k) 0 (by(refine⟨?_,?_⟩ <;>repeat' (first| exact True.intro| refine ai ?_| refine And.intro ?_ ?_))) (by simp) ?_
   intro k hk
   by_cases Nw:k<ws.length
   · have hx:ws[k]? =some ws[k]:=bp Nw
     generalize ws[k]=s at hx
     have mf:=BO (l:=DW) (sv:= .lit 1 (DW.map V.str)) (.inl rfl) s (by omega)
     rw[xm] at mf
     have iO:=Lm (p:=fun s=>decide (s ∈ DW)) hx
     generalize hb: (ws.take k).any (fun s=>decide (s ∈ DW))=b at*
     cases b
     · simp only[Bool.false_or] at iO
       (conv=>whnf);repeat' ((first| intro g| refine bD.mk _ (aA hx rfl rfl) ?_| refine av.mk _ (mf) ?_| refine st ?_| (first| refine b1 ?_ ?_| refine b2 ?_ ?_| refine Br.mk ?_ ?_) <;>intro hc| exact rfl) <;>conv=>whnf)
       refine bk.mk (k+1) (by first| omega| (dsimp only;omega)) (by omega) ?_
       (refine⟨?_,?_⟩ <;>repeat' (first| exact True.intro| refine And.intro (congrArg V.bool iO.symm) ?_| refine ai ?_| refine And.intro ?_ ?_))
     · simp only[Bool.true_or] at iO
       (conv=>whnf);repeat' ((first| intro g| refine bD.mk _ (aA hx rfl rfl) ?_| refine av.mk _ (mf) ?_| refine st ?_| (first| refine b1 ?_ ?_| refine b2 ?_ ?_| refine Br.mk ?_ ?_) <;>intro hc| exact rfl) <;>conv=>whnf)
       refine bk.mk (k+1) (by first| omega| (dsimp only;omega)) (by omega) ?_
       (refine⟨?_,?_⟩ <;>repeat' (first| exact True.intro| refine And.intro (congrArg V.bool iO.symm) ?_| refine ai ?_| refine And.intro ?_ ?_))
   · obtain rfl:k=ws.length:=by omega
     rw[List.take_length]
     generalize (ws.any fun s=>decide (s ∈ DW))=b at*
     cases b
     · subst hr
       (conv=>whnf);repeat' ((first| intro g| refine st ?_| (first| refine b1 ?_ ?_| refine b2 ?_ ?_| refine Br.mk ?_ ?_) <;>intro hc| exact rfl) <;>conv=>whnf)
     · (conv=>whnf);repeat' ((first| intro g| refine st ?_| (first| refine b1 ?_ ?_| refine b2 ?_ ?_| refine Br.mk ?_ ?_) <;>intro hc| exact rfl) <;>conv=>whnf)
       all_goals (refine Ll ?_;rw[←hr];clear hr;simp_all)
       all_goals omega
end Go.AM
namespace Go.AM
theorem Gb {sv:V} (eN:Sv sv) {K:Int→Bd} {x y:Ex} {er:Int} (dj:Ev E 341 [x.v] ⟨.tuple [vi 3,vi er],[]⟩) (nl:Bool)
  (heq:Ev E 385 [(Ex.mk 6 0 aM nl [x,y]).v,sv] ⟨.tuple [vi (tI (x.bd K) (y.bd K)).lo,vi (tI (x.bd K) (y.bd K)).hi],[]⟩):Bounds sv K (.mk 6 0 aM nl [x,y]):=by
 unfold Bounds
 have e: (Ex.mk 6 0 aM nl [x,y]).bd K=tI (x.bd K) (y.bd K):=by
  simp[Ex.bd,Ex.DR,cS,yO]
 rw[e]
 generalize tI (x.bd K) (y.bd K)=R at*
 have gR:aD E 341=[]:=rfl
 have cm:aD E 385=[]:=rfl
 obtain⟨a1,b1,c1,d1,e1,f1,L1,fX,mR⟩:=x.br
 obtain⟨a2,b2,c2,d2,e2,f2,L2,mn,xM⟩:=y.br
 rw[fX] at dj
 have WV:V.ae [.agg [vi a1,vi b1,vi c1,vi d1,.bool e1,.str f1,L1]]=true:=by simp only[V.ae,mR,Bool.and_self]
 rw[Ex.bN] at heq ⊢
 simp only[List.map_cons,List.map_nil,cP,fX,mn,aM] at heq ⊢
 rcases eN with rfl| ⟨ks,rfl⟩
 all_goals
  refine Ev.aG rI (rJ _) rfl ?_
  (conv=>whnf);repeat' ((first| refine aq gR WV dj rfl ?_| intro g| refine av.mk _ (heq) ?_| refine st ?_| (first| refine b1 ?_ ?_| refine b2 ?_ ?_| refine Br.mk ?_ ?_) <;>intro hc| exact rfl) <;>conv=>whnf)
theorem Lo {sv:V} (eN:Sv sv) {K:Int→Bd} {x y z:Ex} (hx:Bounds sv K x) (hy:Words sv K y) (hz:Words sv K z) (ly: (y.bd K).ws.length< 100000) (lz: (z.bd K).ws.length< 100000) (hyt: (y.bd K).text=true) (nl:Bool):Words sv K (.mk 13 0 aM nl [x,y,z]):=by
 unfold Words Bounds at*
 have e: (Ex.mk 13 0 aM nl [x,y,z]).bd K=if (x.bd K).lo=1 then y.bd K else if (x.bd K).hi=0 then z.bd K else if ((y.bd K).some && (z.bd K).some)=true then⟨0,0,false,union (y.bd K).ws (z.bd K).ws,true,true⟩ else⟨0,0,false,[],false,true⟩:=by
   simp[Ex.bd,Ex.DR,cS,either,hyt]
 rw[e]
 have cm:aD E 342=[]:=rfl
 have gR:aD E 388=[]:=rfl
 obtain⟨v2,hy,r2⟩:=hy
 obtain⟨v3,hz,r3⟩:=hz
 obtain⟨a1,b1,c1,d1,e1,f1,L1,fX,mR⟩:=x.br
 obtain⟨a2,b2,c2,d2,e2,f2,L2,mn,xM⟩:=y.br
 obtain⟨a3,b3,c3,d3,e3,f3,L3,RE,Pm⟩:=z.br
 rw[fX] at hx
 rw[mn] at hy
 rw[RE] at hz
 generalize x.bd K=bx at*
 generalize y.bd K=Ji at*
 generalize z.bd K=bz at*
 obtain⟨lo2,gv,nl2,DW,WW,tx2⟩:=Ji
 obtain⟨lo3,hi3,nl3,Hv,so3,tx3⟩:=bz
 dsimp only at ly lz r2 r3 hyt
 have i2:=fun r k=>r2.imp r k
 have i3:=fun r k=>r3.imp r k
 clear r2 r3 e
 rw[Ex.bN]
 simp only[List.map_cons,List.map_nil,cP,fX,mn,RE,aM]
 by_cases q1:bx.lo=1
 · rw[if_pos q1]
   refine⟨_,?_,.inr rfl⟩
   rcases eN with rfl| ⟨ks,rfl⟩
   all_goals
    refine Ev.aG AS (AT _) rfl ?_
    (conv=>whnf);repeat' ((first| refine aq cm (aQ mR rfl) hx rfl ?_| refine bc gR (aQ xM rfl) hy i2 ?_| intro g| refine st ?_| (first| refine b1 ?_ ?_| refine b2 ?_ ?_| refine Br.mk ?_ ?_) <;>intro hc| exact rfl) <;>conv=>whnf)
 rw[if_neg q1]
 by_cases q2:bx.hi=0
 · rw[if_pos q2]
   refine⟨_,?_,.inr rfl⟩
   rcases eN with rfl| ⟨ks,rfl⟩
   all_goals
    refine Ev.aG AS (AT _) rfl ?_
    (conv=>whnf);repeat' ((first| refine aq cm (aQ mR rfl) hx rfl ?_| refine bc gR (aQ Pm rfl) hz i3 ?_| intro g| refine st ?_| (first| refine b1 ?_ ?_| refine b2 ?_ ?_| refine Br.mk ?_ ?_) <;>intro hc| exact rfl) <;>conv=>whnf)
 rw[if_neg q2]
 refine⟨_,?_,.inl rfl⟩
 cases Ct: (WW &&so3) with
 | false=>
   simp only[Ct,Bool.false_eq_true,if_false]
   have h0:WW=false∨(WW=true∧so3=false):=by cases WW<;>simp_all
   rcases eN with rfl| ⟨ks,rfl⟩ <;>rcases h0 with rfl| ⟨rfl,rfl⟩
   all_goals
    refine Ev.aG AS (AT _) rfl ?_
    (conv=>whnf);repeat' ((first| refine aq cm (aQ mR rfl) hx rfl ?_| refine bc gR (aQ xM rfl) hy i2 ?_| refine bc gR (aQ Pm rfl) hz i3 ?_| intro g| refine st ?_| (first| refine b1 ?_ ?_| refine b2 ?_ ?_| refine Br.mk ?_ ?_) <;>intro hc| exact rfl) <;>conv=>whnf)
 | true=>
   simp only[Ct,if_true]
   simp only[Bool.and_eq_true] at Ct
   obtain⟨rfl,rfl⟩:=Ct
   have lm2: (DW.map V.str).length=DW.length:=List.length_map ..
   have lm3: (Hv.map V.str).length=Hv.length:=List.length_map ..
   rcases eN with rfl| ⟨ks,rfl⟩
   all_goals
    refine Ev.aG AS (AT _) rfl ?_
    (conv=>whnf);repeat' ((first| refine aq cm (aQ mR rfl) hx rfl ?_| refine bc gR (aQ xM rfl) hy i2 ?_| refine bc gR (aQ Pm rfl) hz i3 ?_| intro g| refine st ?_| (first| refine b1 ?_ ?_| refine b2 ?_ ?_| refine Br.mk ?_ ?_) <;>intro hc| exact rfl) <;>conv=>whnf)
    refine bj.by (fun ((i,L,g9):Nat×List dE×Nat)=> ⟨[(10,.lit 1 (Hv.map V.str)),(12,.sl 209 g9 0 L.length),(13,aO i)],[(209,⟨g9,1,true,false,some (L.map V.str)⟩)]⟩)
      (fun (i,L,g9)=>i≤Hv.length∧L=union DW (Hv.take i)) (fun (i,_,_)=>Hv.length - i) (0,DW,g) (by(refine⟨?_,?_⟩ <;>repeat' (first| exact True.intro| refine ai ?_| refine And.intro ?_ ?_))) ⟨by simp,rfl⟩ ?_
    rintro⟨i,L,g9⟩ ⟨hi,hL⟩
    try dsimp only at hi hL
    have sr:L.length< 1000000:=by
      have h1:=m9 DW (Hv.take i)
      rw[←hL] at h1
      have h2: (Hv.take i).length≤Hv.length:=by simp;omega
      omega
    have sU: (L.map V.str).length=L.length:=List.length_map ..
    by_cases bY:i<Hv.length
    · have vd:Hv[i]? =some Hv[i]:=bp bY
      generalize Hv[i]=s at vd
      have hc:=BO (l:=L) (sv:= .lit 1 (L.map V.str)) (.inl rfl) s (by omega)
      have hU:=yK (a:=DW) vd
      rw[←hL] at hU
      rw[xm] at hc
      by_cases hm:s ∈ L
      · rw[decide_eq_true hm] at hc
        rw[if_pos hm] at hU
        (conv=>whnf);repeat' ((first| intro g| refine bD.mk _ (aA vd rfl rfl) ?_| refine av.mk _ (hc) ?_| refine st ?_| (first| refine b1 ?_ ?_| refine b2 ?_ ?_| refine Br.mk ?_ ?_) <;>intro hc| exact rfl) <;>conv=>whnf)
        exact bk.mk (i+1,L,g9) (by first| omega| (dsimp only;omega)) ⟨by omega,hU.symm⟩ (by(refine⟨?_,?_⟩ <;>repeat' (first| exact True.intro| refine ai ?_| refine And.intro ?_ ?_)))
      · rw[decide_eq_false hm] at hc
        rw[if_neg hm] at hU
        (conv=>whnf);repeat' ((first| intro g| refine bD.mk _ (aA vd rfl rfl) ?_| refine av.mk _ (hc) ?_| refine st ?_| (first| refine b1 ?_ ?_| refine b2 ?_ ?_| refine Br.mk ?_ ?_) <;>intro hc| exact rfl) <;>conv=>whnf)
        exact bk.mk (i+1,L++[s],g) (by first| omega| (dsimp only;omega)) ⟨by omega,hU.symm⟩ (by(refine⟨?_,?_⟩ <;>repeat' (first| exact True.intro| refine ai ?_| refine And.intro ?_ ?_)))
    · have gv:i=Hv.length:=by omega
      subst gv
      rw[List.take_length] at hL
      subst hL
      (conv=>whnf);repeat' ((first| intro g| refine st ?_| (first| refine b1 ?_ ?_| refine b2 ?_ ?_| refine Br.mk ?_ ?_) <;>intro hc| exact rfl) <;>conv=>whnf)
theorem nW {l:List bH} {sv:V} (hl:gZ l) (hs:td 4 (l.map bH.v) sv): ∀ (k:Nat) (e:Ex),e.size≤k→k≤60→e.Fit→e.b4≠0→(e.b4≠3→Bounds sv (aH l) e)∧(e.b4=3→Words sv (aH l) e)
 | 0,e,h,_,_,_=>by have:=e.size_pos;omega
 | k+1,.mk op var val nl l',h,hk,hf,ht=>by
   have eN:=hs.sv
   have hK:=Cm hl
   have hc:=eT ht
   have cJ: (Ex.mk op var val nl l').size=1+Ex.bK l':=by simp only[Ex.size]
   rcases hc with⟨rfl,rfl,rfl,hr,e⟩ | ⟨rfl,rfl,rfl,hv,e⟩ | ⟨x,rfl,rfl,rfl,rfl,hx,e⟩ | ⟨x,y,ho,rfl,rfl,rfl,hx,hy,e,h6,_⟩ | ⟨x,y,z,rfl,rfl,rfl,rfl,hx,hy,hz,e⟩
   · rw[e]
     refine⟨fun h3=>Cs eN _ hr h3 nl,fun h3=> ?_⟩
     obtain⟨t,n,b,s⟩:=val
     dsimp only at h3
     subst h3
     exact DV eN _ n b s nl
   · rw[e]
     exact⟨fun h3=>F8 hl hs var h3 nl,fun h3=>Jk hl hs var h3 nl⟩
   · have sx:Ex.bK [x]=x.size:=by simp[Ex.bK]
     have ix:=nW hl hs k x (by omega) (by omega) (hf.mem x (by simp)) (by omega)
     rw[e]
     exact⟨fun _=>F9 eN (ix.1 (by omega)) nl,fun h3=>by omega⟩
   · have sx:Ex.bK [x,y]=x.size+y.size:=by simp[Ex.bK]
     have ix:=nW hl hs k x (by omega) (by omega) (hf.mem x (by simp)) hx
     have iy:=nW hl hs k y (by omega) (by omega) (hf.mem y (by simp)) hy
     have ox:=oK hK _ x (Nat.le_refl _) hx
     have oy:=oK hK _ y (Nat.le_refl _) hy
     have l1:=ox.len
     have l2:=oy.len
     refine⟨fun _=> ?_,fun h3=>absurd h3 e⟩
     have dj:=vF x (by omega) (hf.mem x (by simp))
     have I2:x.ty=x.b4:=by simp[Ex.ty];omega
     rw[I2] at dj
     by_cases h6':op=6
     · subst h6'
       have hxy:=(h6 rfl).1
       by_cases h3:x.b4=3
       · rw[h3] at dj
         exact Gb eN dj nl (Ln eN (ix.2 h3) (iy.2 (by omega)) (by omega) (by omega) (by rw[ox.text,h3];rfl) nl)
       · exact Ga eN (ix.1 h3) (iy.1 (by omega)) dj h3 (by rw[ox.text];simp[h3]) nl
     · rename_i wH
       have hx3:x.b4≠3:=by omega
       have hy3:y.b4≠3:=by omega
       exact Jm eN ⟨ho,h6'⟩ (ix.1 hx3) (iy.1 hy3) nl
   · have sx:Ex.bK [x,y,z]=x.size+(y.size+z.size):=by simp[Ex.bK]
     have ix:=nW hl hs k x (by omega) (by omega) (hf.mem x (by simp)) (by omega)
     have iy:=nW hl hs k y (by omega) (by omega) (hf.mem y (by simp)) hy
     have iz:=nW hl hs k z (by omega) (by omega) (hf.mem z (by simp)) (by omega)
     have oy:=oK hK _ y (Nat.le_refl _) hy
     have oz:=oK hK _ z (Nat.le_refl _) (by omega)
     have l1:=oy.len
     have l2:=oz.len
     rw[e]
     refine⟨fun h3=>Jl eN (ix.1 (by omega)) (iy.1 h3) (iz.1 (by omega)) (by rw[oy.text];simp[h3]) nl,fun h3=> ?_⟩
     exact Lo eN (ix.1 (by omega)) (iy.2 h3) (iz.2 (by omega)) (by omega) (by omega) (by rw[oy.text,h3];rfl) nl
end Go.AM
