/-
  Texts of the proof: PAbo.
-/
import Derived.Test.YtjmcpijpclfakaaGreatRa
import Derived.Test.YtjmcpijpclfakaaGreatPa
import Derived.Test.YtjmcpijpclfakaaGreatHa
import Derived.Test.YtjmcpijpclfakaaGreatVa
set_option maxRecDepth 20000
set_option maxHeartbeats 4000000
set_option linter.unusedSimpArgs false
set_option linter.unusedVariables false
namespace Go.AM
theorem age (y:Int): ∃r:Nat,r< 4∧IntKind.i64.wrap ((BitVec.ofInt IntKind.i64.bits y &&&BitVec.ofInt IntKind.i64.bits 3).toNat:Int)=(r:Int):=by
 have h: (BitVec.ofInt IntKind.i64.bits y &&&BitVec.ofInt IntKind.i64.bits 3).toNat≤3:=by
  rw[BitVec.toNat_and]
  exact Nat.le_trans Nat.and_le_right (by decide)
 refine⟨_,Nat.lt_succ_of_le h,wrap64 (by omega) (by omega)⟩
theorem R3 (y:Int): ∃r:Nat,r< 32∧IntKind.i64.wrap ((BitVec.ofInt IntKind.i64.bits y &&&BitVec.ofInt IntKind.i64.bits 31).toNat:Int)=(r:Int):=by
 have h: (BitVec.ofInt IntKind.i64.bits y &&&BitVec.ofInt IntKind.i64.bits 31).toNat≤31:=by
  rw[BitVec.toNat_and]
  exact Nat.le_trans Nat.and_le_right (by decide)
 refine⟨_,Nat.lt_succ_of_le h,wrap64 (by omega) (by omega)⟩
theorem uS {c:Int} (h1: -1073741824≤c) (h2:c≤1073741824) (y:Int):IntKind.i64.wrap (c - IntKind.i64.wrap ((BitVec.ofInt IntKind.i64.bits y &&&BitVec.ofInt IntKind.i64.bits 31).toNat:Int))≤c:=by
 obtain⟨r,hr,e⟩:=R3 y
 rw[e,wrap64 (by omega) (by omega)]
 omega
theorem ET {c:Int} (h1: -1073741824≤c) (h2:c≤1073741824) (y:Int):c≤IntKind.i64.wrap (c+IntKind.i64.wrap ((BitVec.ofInt IntKind.i64.bits y &&&BitVec.ofInt IntKind.i64.bits 31).toNat:Int)):=by
 obtain⟨r,hr,e⟩:=R3 y
 rw[e,wrap64 (by omega) (by omega)]
 omega
theorem P4 (x:b5) (v:Int) (ts:List dE) (lo hi:Int) (h1: (x.val v).s ∈ ts) (h2:lo≤Ax (x.val v)) (h3:Ax (x.val v)≤hi):lW x ⟨v,lo,hi,false,ts⟩=true:=by
 unfold lW
 split
 · rfl
 · split
   · exact decide_eq_true h1
   · rw[Bool.not_eq_true',Bool.or_eq_false_iff]
     exact⟨decide_eq_false (Int.not_lt.2 h2),decide_eq_false (Int.not_lt.2 h3)⟩
theorem acF (x:b5) (v:Int): -1073741824≤(x.val v).n∧(x.val v).n≤1073741824:=by
 unfold b5.val
 repeat' split
 all_goals first| exact⟨zK _,zL _⟩ | exact⟨Int.le_of_lt (by show (-1073741824:Int) < 0;decide),Int.le_of_lt (by show (0:Int) < 1073741824;decide)⟩
def EU (x:b5) (k:bH):Prop:=zJ k∧lW x k=true
theorem JX (x:b5) (hx:MK x) {l:List Int} (hl:l.length< 9223372036854775808): ∃ks:List bH,ks.length≤9∧(∀k ∈ ks,EU x k)∧Ev E 315 [x.v,.lit 1 (l.map vi)] ⟨.own 4 (ks.map bH.v),[]⟩:=by
 have key:=Ev.jC (R:=fun r=> ∃ks:List bH,ks.length≤9∧(∀k ∈ ks,EU x k)∧r=⟨.own 4 (ks.map bH.v),[]⟩) aay (aaz [x.v,.lit 1 (l.map vi)]) rfl ?_
 · obtain⟨r,h1,ks,h2,h3,rfl⟩:=key
   exact⟨ks,h2,h3,h1⟩
 have lm: (l.map vi).length=l.length:=List.length_map ..
 have gD:x.v= .agg [vi x.kind,.str x.cls,.str x.name,vi x.weight,vi x.level,.bool x.cg,vi x.scale,vi x.hour,vi x.reader]:=rfl
 have XK:=fun n h=>NX x (n:=n) h
 have xQ: ∀v:Int,(x.val v).s.length< 100:=by
   intro v
   unfold b5.val
   repeat' split
   all_goals first| exact hx.1| exact hx.2| simp[aM]
 rw[gD] at XK ⊢
 (conv=>whnf);repeat' ((first| intro g| refine st ?_| (first| refine b1 ?_ ?_| refine b2 ?_ ?_| refine Br.mk ?_ ?_) <;>intro hc| exact rfl) <;>conv=>whnf)
 rename_i ed _
 refine bj.by (fun ((v,ks,xN):Nat×List bH×Nat)=> ⟨[(1,.lit 1 (l.map vi)),(2,.ptr 48 ed 0 0),(5,.sl 97 xN 0 ks.length),(6,vi v)],
     [(48,⟨ed,9,false,false,some [.agg [vi x.kind,.str x.cls,.str x.name,vi x.weight,vi x.level,.bool x.cg,vi x.scale,vi x.hour,vi x.reader]]⟩),(97,⟨xN,4,true,false,some (ks.map bH.v)⟩)]⟩)
   (fun (v,ks,_)=>1≤v∧v≤10∧ks.length<v∧ ∀k ∈ ks,EU x k) (fun (v,_,_)=>10 - v) (1,[],g) (by(refine⟨?_,?_⟩ <;>repeat' (first| exact True.intro| refine ai ?_| refine And.intro ?_ ?_))) ⟨by simp,by simp,by simp,by simp⟩ ?_
 rintro⟨v,ks,xN⟩ ⟨fX,agf,Ke,Fo⟩
 try dsimp only at fX agf Ke Fo
 have lmk: (ks.map bH.v).length=ks.length:=List.length_map ..
 have Kd:V.ae (ks.map bH.v)=true:=AM.bq bH.pure ks
 have hKl:0+ks.length≤(ks.map bH.v).length:=by omega
 by_cases bY:v≤9∧v≤l.length
 · obtain⟨mS,De⟩:=bY
   have hn:l[v - 1]? =some l[v - 1]:=bp (by omega)
   generalize l[v - 1]=n at hn
   have hw:IntKind.i64.wrap (((v:Nat):Int) - 1)=((v - 1:Nat):Int):=(wrap64 (by omega) (by omega)).trans (by omega)
   have hvn: ¬ (((v:Nat):Int) < 1∨9 < ((v:Nat):Int)):=by omega
   have XK:=XK ((v:Nat):Int) hvn
   have hvt:cI ((v:Nat):Int)≠0:=by
     rcases nine hvn with h| h| h| h| h| h| h| h| h<;>rw[h] <;>decide
   have hs:=xQ ((v:Nat):Int)
   have Dg:=fun ts lo hi=>P4 x ((v:Nat):Int) ts lo hi
   have GF:=acF x ((v:Nat):Int)
   have sJ: ∀ (ts:List dE) (lo hi:Int),ts.length≤5→(∀s ∈ ts,s.length< 100)→lW x ⟨((v:Nat):Int),lo,hi,false,ts⟩=true→ ∀k ∈ ks++[bH.mk v lo hi false ts],EU x k:=by
     intro ts lo hi h1 h2 h3 k hk
     rcases List.mem_append.1 hk with h| h
     · exact Fo k h
     · simp at h;subst h
       exact⟨⟨h1,fun s hs=>by have:=h2 s hs;omega⟩,h3⟩
   have b1: ((v:Nat):Int)≤((l.map vi).length:Nat):=by omega
   have b2:0≤IntKind.i64.wrap (((v:Nat):Int) - 1):=by rw[hw];omega
   have b3:IntKind.i64.wrap (((v:Nat):Int) - 1) < ((l.map vi).length:Nat):=by rw[hw];omega
   obtain⟨r,hr4,hr⟩:=age (n.fdiv (2 ^ min (Int.toNat 2) IntKind.i64.bits))
   have PJ:0≤IntKind.i64.wrap ((BitVec.ofInt IntKind.i64.bits (n.fdiv (2 ^ min (Int.toNat 2) IntKind.i64.bits)) &&&BitVec.ofInt IntKind.i64.bits 3).toNat:Int):=by rw[hr];omega
   have hr6:IntKind.i64.wrap ((BitVec.ofInt IntKind.i64.bits (n.fdiv (2 ^ min (Int.toNat 2) IntKind.i64.bits)) &&&BitVec.ofInt IntKind.i64.bits 3).toNat:Int) < 6:=by rw[hr];omega
   obtain⟨T,hT,hTl⟩: ∃T,wi[r]? =some T∧T.length< 100:=by
     have en: ∀x ∈ wi,x.length< 100:=by decide
     exact⟨_,bp (by have:wi.length=6:=rfl;omega),en _ (List.getElem_mem _)⟩
   have Gt: ([]:dE).length< 100:=by decide
   have agB: ([120]:dE).length< 100:=by decide
   simp only[Va.v] at XK
   generalize x.val ((v:Nat):Int)=w at*
   obtain⟨wt,wn,wb,ws⟩:=w
   dsimp only[Ax] at XK hs Dg GF
   cases wb<;>simp only[cond_true,cond_false] at Dg
   rotate_left
   all_goals (try simp only[cond_true,cond_false] at XK)
   all_goals (conv=>whnf);repeat' ((first| intro g| refine bU.mk (⟨PJ,rfl⟩) ?_| refine bU.mk (⟨PJ,hr6⟩) ?_| refine bU.mk (hr6) ?_| refine bD.mk _ (eL hn hw) ?_| refine bD.mk _ (eL hT hr) ?_| refine av.mk _ (XK) ?_| refine av.mk _ (ES) ?_| refine st ?_| (first| refine b1 ?_ ?_| refine b2 ?_ ?_| refine Br.mk ?_ ?_) <;>intro hc| exact rfl) <;>conv=>whnf)
   · exact bk.mk (v+1,ks,xN) (by first| omega| (dsimp only;omega)) ⟨by omega,by omega,by omega,Fo⟩ (by(refine⟨?_,?_⟩ <;>repeat' (first| exact True.intro| refine ai ?_| refine And.intro ?_ ?_)))
   · exact bk.mk (v+1,ks++[⟨v,IntKind.i64.wrap (1 - IntKind.i64.wrap ((BitVec.ofInt IntKind.i64.bits (n.fdiv (2 ^ min (Int.toNat 2) IntKind.i64.bits)) &&&BitVec.ofInt IntKind.i64.bits 31).toNat:Int)),IntKind.i64.wrap (1+IntKind.i64.wrap ((BitVec.ofInt IntKind.i64.bits (n.fdiv (2 ^ min (Int.toNat 7) IntKind.i64.bits)) &&&BitVec.ofInt IntKind.i64.bits 31).toNat:Int)),false,[T,ws,[120]]⟩],g) (by first| omega| (dsimp only;omega)) ⟨by omega,by omega,by simp only[List.length_append,List.length_cons,List.length_nil];omega,sJ _ _ _ (by simp) (by intro s hs;simp only[List.mem_cons,List.not_mem_nil,or_false] at hs; (try rcases hs with rfl| rfl| rfl) <;> (try subst hs) <;>assumption) (Dg _ _ _ (by simp) (uS (by decide) (by decide) _) (ET (by decide) (by decide) _))⟩ (by simp only[List.map_append,List.map_cons,List.map_nil,bH.v,lh]; (refine⟨?_,?_⟩ <;>repeat' (first| exact True.intro| refine ai ?_| refine And.intro ?_ ?_)))
   · exact bk.mk (v+1,ks++[⟨v,IntKind.i64.wrap (1 - IntKind.i64.wrap ((BitVec.ofInt IntKind.i64.bits (n.fdiv (2 ^ min (Int.toNat 2) IntKind.i64.bits)) &&&BitVec.ofInt IntKind.i64.bits 31).toNat:Int)),1,false,[ws,ws]⟩],g) (by first| omega| (dsimp only;omega)) ⟨by omega,by omega,by simp only[List.length_append,List.length_cons,List.length_nil];omega,sJ _ _ _ (by simp) (by intro s hs;simp only[List.mem_cons,List.not_mem_nil,or_false] at hs; (try rcases hs with rfl| rfl| rfl) <;> (try subst hs) <;>assumption) (Dg _ _ _ (by simp) (uS (by decide) (by decide) _) (Int.le_refl _))⟩ (by simp only[List.map_append,List.map_cons,List.map_nil,bH.v,lh]; (refine⟨?_,?_⟩ <;>repeat' (first| exact True.intro| refine ai ?_| refine And.intro ?_ ?_)))
   · exact bk.mk (v+1,ks++[⟨v,1,1,false,[ws]⟩],g) (by first| omega| (dsimp only;omega)) ⟨by omega,by omega,by simp only[List.length_append,List.length_cons,List.length_nil];omega,sJ _ _ _ (by simp) (by intro s hs;simp only[List.mem_cons,List.not_mem_nil,or_false] at hs; (try rcases hs with rfl| rfl| rfl) <;> (try subst hs) <;>assumption) (Dg _ _ _ (by simp) (Int.le_refl _) (Int.le_refl _))⟩ (by simp only[List.map_append,List.map_cons,List.map_nil,bH.v,lh]; (refine⟨?_,?_⟩ <;>repeat' (first| exact True.intro| refine ai ?_| refine And.intro ?_ ?_)))
   · exact bk.mk (v+1,ks,xN) (by first| omega| (dsimp only;omega)) ⟨by omega,by omega,by omega,Fo⟩ (by(refine⟨?_,?_⟩ <;>repeat' (first| exact True.intro| refine ai ?_| refine And.intro ?_ ?_)))
   · exact bk.mk (v+1,ks++[⟨v,IntKind.i64.wrap (wn - IntKind.i64.wrap ((BitVec.ofInt IntKind.i64.bits (n.fdiv (2 ^ min (Int.toNat 2) IntKind.i64.bits)) &&&BitVec.ofInt IntKind.i64.bits 31).toNat:Int)),IntKind.i64.wrap (wn+IntKind.i64.wrap ((BitVec.ofInt IntKind.i64.bits (n.fdiv (2 ^ min (Int.toNat 7) IntKind.i64.bits)) &&&BitVec.ofInt IntKind.i64.bits 31).toNat:Int)),false,[T,ws,[120]]⟩],g) (by first| omega| (dsimp only;omega)) ⟨by omega,by omega,by simp only[List.length_append,List.length_cons,List.length_nil];omega,sJ _ _ _ (by simp) (by intro s hs;simp only[List.mem_cons,List.not_mem_nil,or_false] at hs; (try rcases hs with rfl| rfl| rfl) <;> (try subst hs) <;>assumption) (Dg _ _ _ (by simp) (uS GF.1 GF.2 _) (ET GF.1 GF.2 _))⟩ (by simp only[List.map_append,List.map_cons,List.map_nil,bH.v,lh]; (refine⟨?_,?_⟩ <;>repeat' (first| exact True.intro| refine ai ?_| refine And.intro ?_ ?_)))
   · exact bk.mk (v+1,ks++[⟨v,IntKind.i64.wrap (wn - IntKind.i64.wrap ((BitVec.ofInt IntKind.i64.bits (n.fdiv (2 ^ min (Int.toNat 2) IntKind.i64.bits)) &&&BitVec.ofInt IntKind.i64.bits 31).toNat:Int)),wn,false,[ws,ws]⟩],g) (by first| omega| (dsimp only;omega)) ⟨by omega,by omega,by simp only[List.length_append,List.length_cons,List.length_nil];omega,sJ _ _ _ (by simp) (by intro s hs;simp only[List.mem_cons,List.not_mem_nil,or_false] at hs; (try rcases hs with rfl| rfl| rfl) <;> (try subst hs) <;>assumption) (Dg _ _ _ (by simp) (uS GF.1 GF.2 _) (Int.le_refl _))⟩ (by simp only[List.map_append,List.map_cons,List.map_nil,bH.v,lh]; (refine⟨?_,?_⟩ <;>repeat' (first| exact True.intro| refine ai ?_| refine And.intro ?_ ?_)))
   · exact bk.mk (v+1,ks++[⟨v,wn,wn,false,[ws]⟩],g) (by first| omega| (dsimp only;omega)) ⟨by omega,by omega,by simp only[List.length_append,List.length_cons,List.length_nil];omega,sJ _ _ _ (by simp) (by intro s hs;simp only[List.mem_cons,List.not_mem_nil,or_false] at hs; (try rcases hs with rfl| rfl| rfl) <;> (try subst hs) <;>assumption) (Dg _ _ _ (by simp) (Int.le_refl _) (Int.le_refl _))⟩ (by simp only[List.map_append,List.map_cons,List.map_nil,bH.v,lh]; (refine⟨?_,?_⟩ <;>repeat' (first| exact True.intro| refine ai ?_| refine And.intro ?_ ?_)))
 · by_cases mS:v≤9
   · have De: ¬v≤l.length:=fun h=>bY ⟨mS,h⟩
     have b1: ¬ ((v:Nat):Int)≤((l.map vi).length:Nat):=by omega
     (conv=>whnf);repeat' ((first| intro g| refine bU.mk (⟨hKl,Kd⟩) ?_| refine st ?_| (first| refine b1 ?_ ?_| refine b2 ?_ ?_| refine Br.mk ?_ ?_) <;>intro hc| exact rfl) <;>conv=>whnf)
     exact⟨ks,by omega,Fo,rfl⟩
   · (conv=>whnf);repeat' ((first| intro g| refine bU.mk (⟨hKl,Kd⟩) ?_| refine st ?_| (first| refine b1 ?_ ?_| refine b2 ?_ ?_| refine Br.mk ?_ ?_) <;>intro hc| exact rfl) <;>conv=>whnf)
     exact⟨ks,by omega,Fo,rfl⟩
end Go.AM
