/-
  Texts of the proof: PTypE.
-/
import Derived.Test.YtjmcpijpclfakaaGreatD
set_option maxRecDepth 20000
set_option linter.unusedSimpArgs false
set_option linter.unusedVariables false
namespace Go.AM
theorem KM (op var:Int) (val:Va) (nl:Bool) (l:List Ex) (hlen:l.length< 1000000) (h:eJ op var val l.length=false):Ev E 383 [(Ex.mk op var val nl l).v] ⟨vi 0,[]⟩:=by
 obtain⟨t,n,b,s⟩:=val
 have hm:=qM op
 have hz:= @yD ⟨t,n,b,s⟩
 rw[Ex.bN]
 refine Ev.aG AO (AP _) rfl ?_
 have gO:=Ex.bq l
 have Sw: (l.map Ex.v).length=l.length:=List.length_map ..
 rcases s9 nl (l.map Ex.v) with⟨e,e2⟩ | e
 · have:l=[]:=by simpa using e2
   subst this
   rw[e]
   (conv=>whnf);repeat' ((first| intro g| refine av.mk _ (hm) ?_| refine st ?_| (first| refine b1 ?_ ?_| refine b2 ?_ ?_| refine Br.mk ?_ ?_) <;>intro hc| exact rfl) <;>conv=>whnf)
   all_goals (exfalso;simp[eJ,Va.zero, *] at h)
   all_goals simp_all
 · rw[e]
   (conv=>whnf);repeat' ((first| intro g| refine av.mk _ (hm) ?_| refine st ?_| (first| refine b1 ?_ ?_| refine b2 ?_ ?_| refine Br.mk ?_ ?_) <;>intro hc| exact rfl) <;>conv=>whnf)
   all_goals (exfalso;simp[eJ,Va.zero, *] at h)
   all_goals simp_all
theorem FI (val:Va) (nl:Bool) (hf:val.s.length< 4611686018427387904):Ev E 383 [(Ex.mk 1 0 val nl []).v] ⟨vi (if val.right then val.t else 0),[]⟩:=by
 obtain⟨t,n,b,s⟩:=val
 have hr:=AK ⟨t,n,b,s⟩ hf
 have hm:=qM 1
 simp only[Va.v] at hr
 rw[Ex.bN]
 refine Ev.aG AO (AP _) rfl ?_
 cases nl<;>simp only[List.map_nil,lv,cond_true,cond_false]
 all_goals
  (conv=>whnf);repeat' ((first| intro g| refine av.mk _ (hm) ?_| refine av.mk _ (hr) ?_| refine st ?_| (first| refine b1 ?_ ?_| refine b2 ?_ ?_| refine Br.mk ?_ ?_) <;>intro hc| exact rfl) <;>conv=>whnf)
  rename_i ln
  refine bj.by (fun (i:Nat)=> ⟨[(1,.ptr 32 ln 0 0),(3,.ptr 64 g 0 0),(4,aO 0)],[(32,⟨ln,7,false,false,some [_]⟩),(64,⟨g,3,false,false,some [_]⟩)]⟩) (fun i=>i=0) (fun _=>0) 0 (by(refine⟨?_,?_⟩ <;>repeat' (first| exact True.intro| refine ai ?_| refine And.intro ?_ ?_))) rfl ?_
  rintro i rfl
  (conv=>whnf);repeat' ((first| intro g| refine av.mk _ (hr) ?_| refine st ?_| (first| refine b1 ?_ ?_| refine b2 ?_ ?_| refine Br.mk ?_ ?_) <;>intro hc| exact rfl) <;>conv=>whnf)
  all_goals simp[*]
theorem KN (var:Int) (nl:Bool):Ev E 383 [(Ex.mk 2 var aM nl []).v] ⟨vi (cI var),[]⟩:=by
 have hv:=G1 var
 have hm:=qM 2
 rw[Ex.bN]
 refine Ev.aG AO (AP _) rfl ?_
 cases nl<;>simp only[List.map_nil,lv,cond_true,cond_false]
 all_goals
  (conv=>whnf);repeat' ((first| intro g| refine av.mk _ (hm) ?_| refine st ?_| (first| refine b1 ?_ ?_| refine b2 ?_ ?_| refine Br.mk ?_ ?_) <;>intro hc| exact rfl) <;>conv=>whnf)
  rename_i ln
  refine bj.by (fun (i:Nat)=> ⟨[(1,.ptr 32 ln 0 0),(3,.ptr 64 g 0 0),(4,aO 0)],[(32,⟨ln,7,false,false,some [_]⟩),(64,⟨g,3,false,false,some [_]⟩)]⟩) (fun i=>i=0) (fun _=>0) 0 (by(refine⟨?_,?_⟩ <;>repeat' (first| exact True.intro| refine ai ?_| refine And.intro ?_ ?_))) rfl ?_
  rintro i rfl
  (conv=>whnf);repeat' ((first| intro g| refine av.mk _ (hv) ?_| refine st ?_| (first| refine b1 ?_ ?_| refine b2 ?_ ?_| refine Br.mk ?_ ?_) <;>intro hc| exact rfl) <;>conv=>whnf)
end Go.AM
