/-
  Texts of the proof: PGenA, PGenD.
-/
import Derived.Test.YtjmcpijpclfakaaGreatA
import Derived.Test.YtjmcpijpclfakaaGreatD
import Derived.Test.YtjmcpijpclfakaaGreatHa
set_option maxRecDepth 20000
set_option maxHeartbeats 4000000
set_option linter.unusedSimpArgs false
set_option linter.unusedVariables false
namespace Go.AM
structure Mk (t:Int) (n:Nat) (e:Ex):Prop where
 fit:e.Fit
 size:e.size≤n
 b4:e.b4=t
def wi:List dE:=[[],[116,114,101,101],[102,105,101,108,100],[112,97,116,104],[77,111,111,114],[71,97,116,101]]
theorem ES:Ev E 332 [] ⟨.own 1 (wi.map V.str),[]⟩:=by
 refine Ev.aG aaK (aaL _) rfl ?_
 (conv=>whnf);repeat' ((first| intro g| refine st ?_| (first| refine b1 ?_ ?_| refine b2 ?_ ?_| refine Br.mk ?_ ?_) <;>intro hc| exact rfl) <;>conv=>whnf)
theorem uR {v:Va} (hr:v.right=true) (hs:v.s.length< 4611686018427387904):Mk v.t 1 (.mk 1 0 v false []):=
 ⟨.mk _ _ _ _ _ hs (by simp),by simp[Ex.size,Ex.bK],by simp[Ex.b4,Ex.xq,jt,eJ,many,hr]⟩
theorem oA {v:Int} (hv:cI v≠0):Mk (cI v) 1 (.mk 2 v aM false []):=
 ⟨.mk _ _ _ _ _ (by simp[aM]) (by simp),by simp[Ex.size,Ex.bK],by simp[Ex.b4,Ex.xq,jt,eJ,many,Va.zero,aM]⟩
theorem MJ (op var:Int) (v:Va): (Ex.mk op var v false []).v= .agg [vi op,vi var,vi v.t,vi v.n,.bool v.b,.str v.s,.lit 7 []]:=by
 rw[Ex.bN];rfl
def MR (v r:V):Prop:= ∃a b c d x f ys,v= .agg [vi a,vi b,vi c,vi d,.bool x,.str f,.lit 7 ys]∧(r= .agg [vi a,vi b,vi c,vi d,.bool x,.str f,.lit 7 ys]∨r= .agg [vi a,vi b,vi c,vi d,.bool x,.str f,.own 7 ys])
theorem acE {n:Nat} {x:Ex} (hx:Mk 2 n x):Mk 2 (2+2*n) (.mk 3 0 aM false [x]) where
 fit:= .mk _ _ _ _ _ (by simp[aM]) (by simpa using hx.fit)
 size:=by have:=hx.size;simp[Ex.size,Ex.bK];omega
 b4:=by simp[Ex.b4,Ex.xq,jt,eJ,many,Va.zero,aM,hx.b4,tU]
theorem mO {n:Nat} {x y:Ex} {t1 t2 t op:Int} (hx:Mk t1 n x) (hy:Mk t2 n y) (h1:t1≠0) (h2:t2≠0) (dN:4≤op∧op≤12) (ht:tU op [t1,t2]=t):Mk t (2+2*n) (.mk op 0 aM false [x,y]) where
 fit:= .mk _ _ _ _ _ (by simp[aM]) (by intro u hu;simp at hu;rcases hu with rfl| rfl;exact hx.fit;exact hy.fit)
 size:=by have:=hx.size;have:=hy.size;simp[Ex.size,Ex.bK];omega
 b4:=by
  have hm:many op=2:=by unfold many;repeat (first| rw[if_neg (by omega)] | rw[if_pos (by omega)])
  have o1: ¬op=1:=by omega
  have o2: ¬op=2:=by omega
  rw[Ex.pI]
  have h0: ¬ (0 ∈ [t1,t2]):=by simp;exact⟨fun h=>h1 h.symm,fun h=>h2 h.symm⟩
  have CE:eJ op 0 aM [x,y].length=true:=by simp[eJ,hm,Va.zero,aM]
  simp only[List.map_cons,List.map_nil,hx.b4,hy.b4,jt,CE,o1,o2,if_false,if_true,h0,ht]
theorem jk {t:Int} {m n:Nat} {e:Ex} (h:Mk t m e) (hmn:m≤n):Mk t n e:=⟨h.fit,Nat.le_trans h.size hmn,h.b4⟩
theorem kC (op:Int) (x:Ex) (l:List Ex):MR (Ex.mk op 0 aM false (x::l)).v (.agg [vi op,vi 0,vi 0,vi 0,.bool false,.str [],.own 7 ((x::l).map Ex.v)]):=by
 refine⟨op,0,0,0,false,[],(x::l).map Ex.v,?_,.inr rfl⟩
 rw[Ex.bN];rfl
end Go.AM
namespace Go.AM
def zJ (k:bH):Prop:=k.texts.length≤5∧ ∀s ∈ k.texts,s.length< 4611686018427387904
def MK (x:b5):Prop:=x.cls.length< 100∧x.name.length< 100
theorem ML {l:List Int} (hl:l.length< 9223372036854775808): ∃x:b5,MK x∧Ev E 312 [.lit 1 (l.map vi)] ⟨x.v,[]⟩:=by
 have key:=Ev.jC (R:=fun r=> ∃x:b5,MK x∧r=⟨x.v,[]⟩) aaw (aax [.lit 1 (l.map vi)]) rfl ?_
 · obtain⟨r,h1,x,h2,rfl⟩:=key
   exact⟨x,h2,h1⟩
 have nx: ∀n a,0 <n→n< 1000→ ∃r a',r<n∧Ev E 85 [.mptr 2 [aW l a] 0 0,aO n] ⟨aO r,[(0,[aW l a'])]⟩:=fun n a h h2=> ⟨_,_,sZ h (by omega),GV hl n h (by omega)⟩
 have tx: ∀r,r< 6→ ∃s,wi[r]? =some s∧s.length< 100:=fun r hr=>by
   have en: ∀x ∈ wi,x.length< 100:=by decide
   exact⟨_,bp hr,en _ (List.getElem_mem hr)⟩
 obtain⟨r1,a1,YP,n1⟩:=nx 3 0 (by decide) (by decide)
 obtain⟨r2,a2,sY,n2⟩:=nx 6 a1 (by decide) (by decide)
 obtain⟨r3,a3,hr3,n3⟩:=nx 6 a2 (by decide) (by decide)
 obtain⟨r4,a4,hr4,n4⟩:=nx 60 a3 (by decide) (by decide)
 obtain⟨r5,a5,hr5,n5⟩:=nx 5 a4 (by decide) (by decide)
 obtain⟨r6,a6,hr6,n6⟩:=nx 2 a5 (by decide) (by decide)
 obtain⟨r7,a7,hr7,n7⟩:=nx 8 a6 (by decide) (by decide)
 obtain⟨r8,a8,hr8,n8⟩:=nx 24 a7 (by decide) (by decide)
 obtain⟨r9,a9,hr9,n9⟩:=nx 3 a8 (by decide) (by decide)
 have hd0:aW l 0= .agg [.lit 1 (l.map vi),.int .i64 0]:=rfl
 rw[hd0] at n1
 obtain⟨s2,Ck,l2⟩:=tx r2 sY
 obtain⟨s3,HY,l3⟩:=tx r3 hr3
 have hx7: ∃x:Int,([0,1,9,31,32,33,500,1024]:List Int)[r7]? =some x:=⟨_,bp hr7⟩
 obtain⟨x7,hx7⟩:=hx7
 have b2: ((r2:Nat):Int) < 6:=by omega
 have b3: ((r3:Nat):Int) < 6:=by omega
 have b7: ((r7:Nat):Int) < 8:=by omega
 (conv=>whnf);repeat' ((first| intro g| refine bD.mk _ (eL Ck rfl) ?_| refine bD.mk _ (eL HY rfl) ?_| refine bD.mk _ (eL hx7 rfl) ?_| refine av.mk _ (n1) ?_| refine av.mk _ (n2) ?_| refine av.mk _ (n3) ?_| refine av.mk _ (n4) ?_| refine av.mk _ (n5) ?_| refine av.mk _ (n6) ?_| refine av.mk _ (n7) ?_| refine av.mk _ (n8) ?_| refine av.mk _ (n9) ?_| refine av.mk _ (ES) ?_| refine st ?_| (first| refine b1 ?_ ?_| refine b2 ?_ ?_| refine Br.mk ?_ ?_) <;>intro hc| exact rfl) <;>conv=>whnf)
 exact⟨⟨_,s2,s3,_,_,_,_,_,_⟩,⟨l2,l3⟩,rfl⟩
end Go.AM
