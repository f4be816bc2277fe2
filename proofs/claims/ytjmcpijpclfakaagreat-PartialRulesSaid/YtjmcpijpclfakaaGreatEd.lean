/-
  Texts of the proof: PTypG, PTypH1.
-/
import Derived.Test.YtjmcpijpclfakaaGreatD
set_option maxRecDepth 20000
set_option maxHeartbeats 4000000
set_option linter.unusedSimpArgs false
set_option linter.unusedVariables false
namespace Go.AM
theorem KQ (op var:Int) (val:Va) (nl:Bool) (l:List Ex) (hlen:l.length< 1000000) (h:eJ op var val l.length=false):Ev E 371 [(Ex.mk op var val nl l).v] ⟨vi 0,[]⟩:=by
 obtain⟨t,n,b,s⟩:=val
 have hm:=mY op
 have hz:= @yD ⟨t,n,b,s⟩
 rw[Ex.bN]
 refine Ev.aG AQ (AR _) rfl ?_
 have gO:=Ex.bq l
 have Sw: (l.map Ex.v).length=l.length:=List.length_map ..
 rcases s9 nl (l.map Ex.v) with⟨e,e2⟩ | e
 · have:l=[]:=by simpa using e2
   subst this
   rw[e]
   (conv=>whnf);repeat' ((first| intro g| refine av.mk _ (hm) ?_| refine st ?_| (first| refine b1 ?_ ?_| refine b2 ?_ ?_| refine Br.mk ?_ ?_) <;>intro hc| exact rfl) <;>conv=>whnf)
   all_goals (exfalso;simp[eJ,Va.zero, *] at h)
   all_goals simp_all
 · rw[e]
   (conv=>whnf);repeat' ((first| intro g| refine av.mk _ (hm) ?_| refine st ?_| (first| refine b1 ?_ ?_| refine b2 ?_ ?_| refine Br.mk ?_ ?_) <;>intro hc| exact rfl) <;>conv=>whnf)
   all_goals (exfalso;simp[eJ,Va.zero, *] at h)
   all_goals simp_all
theorem FJ (val:Va) (nl:Bool) (hf:val.s.length< 4611686018427387904):Ev E 371 [(Ex.mk 1 0 val nl []).v] ⟨vi (if val.right then val.t else 0),[]⟩:=by
 have hu:=AL val hf
 have hw:=KI val
 have hm:=mY 1
 have he: ∃w,(if val.right then val else aM)=w∧w.t=(if val.right then val.t else 0):=⟨_,rfl,by split<;>rfl⟩
 obtain⟨w,IS,Q6⟩:=he
 rw[IS] at hw
 rw[←Q6]
 clear IS Q6
 obtain⟨t,n,b,s⟩:=val
 simp only[Va.v] at hu hw
 have KR:V.aj (Va.NW ⟨t,n,b,s⟩)=true:=by
  unfold Va.NW
  repeat' split
  all_goals rfl
 generalize Va.NW ⟨t,n,b,s⟩=iv at*
 have cm:aD E 391=[]:=rfl
 have gR:aD E 404=[]:=rfl
 have B9:V.ae [iv]=true:=by simp[V.ae,KR]
 rw[Ex.bN]
 refine Ev.aG AQ (AR _) rfl ?_
 cases nl<;>simp only[List.map_nil,lv,cond_true,cond_false]
 all_goals
  (conv=>whnf);repeat' ((first| intro g| refine av.mk _ (hm) ?_| refine st ?_| (first| refine b1 ?_ ?_| refine b2 ?_ ?_| refine Br.mk ?_ ?_) <;>intro hc| exact rfl) <;>conv=>whnf)
  rename_i ln
  refine bj.by (fun (i:Nat)=> ⟨[(1,.ptr 32 ln 0 0),(5,.ptr 96 g 0 0),(44,aO 0),(45,aO 0)],[(32,⟨ln,7,false,false,some [_]⟩),(96,⟨g,1,false,false,some [.nils]⟩)]⟩) (fun i=>i=0) (fun _=>0) 0 (by(refine⟨?_,?_⟩ <;>repeat' (first| exact True.intro| refine ai ?_| refine And.intro ?_ ?_))) rfl ?_
  rintro i rfl
  (conv=>whnf);repeat' ((first| intro g| refine st ?_| (first| refine b1 ?_ ?_| refine b2 ?_ ?_| refine Br.mk ?_ ?_) <;>intro hc| exact rfl) <;>conv=>whnf)
  refine av.mk _ hu ?_
  simp only[cM,bC,KR,cond_true,List.append_nil]
  (conv=>whnf);repeat' ((first| intro g| refine st ?_| (first| refine b1 ?_ ?_| refine b2 ?_ ?_| refine Br.mk ?_ ?_) <;>intro hc| exact rfl) <;>conv=>whnf)
  refine aq cm B9 hw rfl ?_
  (conv=>whnf);repeat' ((first| intro g| refine st ?_| (first| refine b1 ?_ ?_| refine b2 ?_ ?_| refine Br.mk ?_ ?_) <;>intro hc| exact rfl) <;>conv=>whnf)
theorem KS (var:Int) (nl:Bool):Ev E 371 [(Ex.mk 2 var aM nl []).v] ⟨vi (cI var),[]⟩:=by
 have hv:=pH ⟨0,[],[],0,0,false,0,0,0⟩ var
 have hw:=Dz ⟨0,[],[],0,0,false,0,0,0⟩ var
 have ht:=ZL ⟨0,[],[],0,0,false,0,0,0⟩ var
 rw[←ht]
 generalize b5.val _ var=va at*
 have KR:V.aj (mc va)=true:=by
  unfold mc
  repeat' split
  all_goals rfl
 generalize mc va=iv at*
 have cm:aD E 391=[]:=rfl
 have gR:aD E 405=[]:=rfl
 have B9:V.ae [iv]=true:=by simp[V.ae,KR]
 simp only[b5.v,Va.v] at hv hw
 have hm:=mY 2
 rw[Ex.bN]
 refine Ev.aG AQ (AR _) rfl ?_
 cases nl<;>simp only[List.map_nil,lv,cond_true,cond_false]
 all_goals
  (conv=>whnf);repeat' ((first| intro g| refine av.mk _ (hm) ?_| refine st ?_| (first| refine b1 ?_ ?_| refine b2 ?_ ?_| refine Br.mk ?_ ?_) <;>intro hc| exact rfl) <;>conv=>whnf)
  rename_i ln
  refine bj.by (fun (i:Nat)=> ⟨[(1,.ptr 32 ln 0 0),(5,.ptr 96 g 0 0),(44,aO 0),(45,aO 0)],[(32,⟨ln,7,false,false,some [_]⟩),(96,⟨g,1,false,false,some [.nils]⟩)]⟩) (fun i=>i=0) (fun _=>0) 0 (by(refine⟨?_,?_⟩ <;>repeat' (first| exact True.intro| refine ai ?_| refine And.intro ?_ ?_))) rfl ?_
  rintro i rfl
  (conv=>whnf);repeat' ((first| intro g| refine st ?_| (first| refine b1 ?_ ?_| refine b2 ?_ ?_| refine Br.mk ?_ ?_) <;>intro hc| exact rfl) <;>conv=>whnf)
  refine av.mk _ hv ?_
  simp only[cM,bC,KR,cond_true,List.append_nil]
  (conv=>whnf);repeat' ((first| intro g| refine st ?_| (first| refine b1 ?_ ?_| refine b2 ?_ ?_| refine Br.mk ?_ ?_) <;>intro hc| exact rfl) <;>conv=>whnf)
  refine aq cm B9 hw rfl ?_
  (conv=>whnf);repeat' ((first| intro g| refine st ?_| (first| refine b1 ?_ ?_| refine b2 ?_ ?_| refine Br.mk ?_ ?_) <;>intro hc| exact rfl) <;>conv=>whnf)
end Go.AM
namespace Go.AM
theorem Z3 {x:Ex} (hx:Ev E 371 [x.v] ⟨vi x.b4,[]⟩) {op:Int} (dN:op=3) (nl:Bool):Ev E 371 [(Ex.mk op 0 aM nl [x]).v] ⟨vi (if 0 ∈ [x.b4] then 0 else tU op [x.b4]),[]⟩:=by
 have hm:=mY op
 have KO:many op=1:=by unfold many;repeat (first| rw[if_neg (by omega)] | rw[if_pos (by omega)])
 rw[KO] at hm
 have n1: ¬op=1:=by omega
 have n2: ¬op=2:=by omega
 have cm:aD E 371=[]:=rfl
 obtain⟨G6,G7,G8,G9,Ha,Hb,tW,fD,Z0,gX⟩:=x.db
 rw[fD] at hx
 generalize x.b4=tx at*
 rw[Ex.bN]
 simp only[List.map_cons,List.map_nil,cP,aM,fD]
 refine Ev.aG AQ (AR _) rfl ?_
 generalize rj:AN op=kc at*
 (conv=>whnf);repeat' ((first| intro g| refine av.mk _ (hm) ?_| refine st ?_| (first| refine b1 ?_ ?_| refine b2 ?_ ?_| refine Br.mk ?_ ?_) <;>intro hc| exact rfl) <;>conv=>whnf)
 rename_i ln
 obtain⟨Fj,yI⟩: ∃x,x=g:=⟨_,rfl⟩
 rw[←yI];clear yI
 refine bj.by (fun ((i,g9):Nat×Nat)=> ⟨[(1,.ptr 32 ln 0 0),(3,vi kc),(5,.ptr 96 Fj 0 0),(43,.lit 7 [.agg [vi G6,vi G7,vi G8,vi G9,.bool Ha,.str Hb,tW]]),(44,aO 1),(45,aO i)],
     match i with
     | 0=> [(32,⟨ln,7,false,false,some [.agg [vi op,vi 0,vi 0,vi 0,.bool false,.str [],.lit 7 [.agg [vi G6,vi G7,vi G8,vi G9,.bool Ha,.str Hb,tW]]]]⟩),(96,⟨Fj,1,false,false,some [.nils]⟩)]
     | i+1=> [(32,⟨ln,7,false,false,some [.agg [vi op,vi 0,vi 0,vi 0,.bool false,.str [],.lit 7 [.agg [vi G6,vi G7,vi G8,vi G9,.bool Ha,.str Hb,tW]]]]⟩),(96,⟨Fj,1,false,false,some [.sl 912 g9 0 (i+1)]⟩),(912,⟨g9,1,true,false,some (c3l (i+1) tx 0 0)⟩)]⟩)
   (fun (i,g9)=>i≤1∧(0 <i→tx≠0)) (fun (i,g9)=>1 - i) (0,0) (by(refine⟨?_,?_⟩ <;>repeat' (first| exact True.intro| refine ai ?_| refine And.intro ?_ ?_))) (by simp) ?_
 rintro⟨i,g9⟩ ⟨hi,px⟩
 try dsimp only at hi px
 have gv:i=0∨i=1:=by omega
 rcases gv with rfl| rfl
 · by_cases q0:tx=0
   · subst q0
     (conv=>whnf);repeat' ((first| intro g| refine aq (by assumption) (by first| assumption| rfl| (simp only[V.ae,V.aj,Bool.and_self,Bool.true_and,Bool.and_true, *])) (hx) rfl ?_| refine st ?_| (first| refine b1 ?_ ?_| refine b2 ?_ ?_| refine Br.mk ?_ ?_) <;>intro hc| exact rfl) <;>conv=>whnf)
     all_goals simp
   · (conv=>whnf);repeat' ((first| intro g| refine aq (by assumption) (by first| assumption| rfl| (simp only[V.ae,V.aj,Bool.and_self,Bool.true_and,Bool.and_true, *])) (hx) rfl ?_| refine st ?_| (first| refine b1 ?_ ?_| refine b2 ?_ ?_| refine Br.mk ?_ ?_) <;>intro hc| exact rfl) <;>conv=>whnf)
     exact bk.mk (1,g) (by first| omega| (dsimp only;omega)) ⟨by omega,by intro _;first| exact q0| exact px (by omega) | omega⟩ (by(refine⟨?_,?_⟩ <;>repeat' (first| exact True.intro| refine ai ?_| refine And.intro ?_ ?_)))
 · have qx:=px (by omega)
   have en:=fun t:Int=>B7 t (l:=[tx]) (.inl rfl) (by simp)
   subst dN
   have vE:kc=1:=by rw[←rj];decide
   subst vE
   (conv=>whnf);repeat' ((first| intro g| refine av.mk _ (en _) ?_| refine st ?_| (first| refine b1 ?_ ?_| refine b2 ?_ ?_| refine Br.mk ?_ ?_) <;>intro hc| exact rfl) <;>conv=>whnf)
   all_goals simp_all[tU]
end Go.AM
