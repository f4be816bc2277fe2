/- Texts of the proof. -/
import Derived.Test.YtgjbecccmiehkaaGreatBase
import Derived.Shelf.SlSortCmp.Insertion
import Derived.Sort.AssemblyPlain
set_option linter.unusedSimpArgs false
set_option linter.unusedVariables false
namespace Go.AM
open Go Go.RowKit Go.Sort
def nS (x:List Int):V:= .agg (x.map (V.int .i64))
def rowsOf (k:Nat):List V→Option (List (List Int))
 | []=>some []
 | .agg cs::vs=>match ln cs,rowsOf k vs with
   | some l,some ls=>if l.length=k then some (l::ls) else none
   | _,_=>none
 | _=>none
theorem xe {k:Nat}: ∀ {vs:List V} {zs:List (List Int)},rowsOf k vs=some zs→vs=zs.map nS∧ ∀z ∈ zs,z.length=k
 | [],zs,h=>by simp[rowsOf] at h;subst h;simp
 | v::vs,zs,h=>by
   unfold rowsOf at h
   split at h
   ·simp_all
   ·rename_i cs vs' heq
    injection heq with e1 e2
    subst e1;subst e2
    split at h
    ·rename_i l ls h1 h2
     split at h
     ·rename_i hl
      injection h with h;subst h
      obtain⟨e1,e2⟩:=xe h2
      refine⟨by rw[q8 h1,e1];rfl,fun z hz=> ?_⟩
      rcases Zz.1 hz with rfl| hz
      ·exact hl
      ·exact e2 z hz
     ·simp at h
    ·simp at h
   ·simp at h
theorem vl {k:Nat}: ∀ {zs:List (List Int)},(∀z ∈ zs,z.length=k)→rowsOf k (zs.map nS)=some zs
 | [],_=>rfl
 | z::zs,h=>by
   have h1:ln (z.map (V.int .i64))=some z:=oR z
   simp only[List.map_cons,nS,rowsOf,h1,vl (zs:=zs) fun y hy=>h y (by simp[hy]),h z Zm,if_true]
def o7 (cf:List Int→List Int→Int) (zs:List (List Int)):List (List Int):=(pdq (Go.Proofs.ltOf cf) zs.toArray 0 zs.length (Go.Lib.bitLen zs.length) true true).toList
def lD (k g:Nat) (cf:List Int→List Int→Int):List V→Option eV
 | [.msl k' es 0 len,.fn g' []]=>if k'=k∧g'=g∧len=es.length∧0 <k then(match rowsOf k es with
     | some zs=>if zs.length< 4611686018427387904 then some ⟨.tuple [],[(0,(o7 cf zs).map nS)]⟩ else none
     | none=>none) else none
 | _=>none
theorem nA {cf:List Int→List Int→Int} (hO:SWO (Go.Proofs.ltOf cf)) (zs:List (List Int)): (o7 cf zs).Perm zs:=by
 have h:=(pdq_sorts (Go.Proofs.ltOf cf) hO zs.toArray 0 zs.length (Go.Lib.bitLen zs.length) true true (aaj _) Zm (.inl rfl)).1
 obtain⟨h1,_,h3⟩:=h
 have e1:zs.toArray.size=zs.length:=Zm
 rw[show zs.length=zs.toArray.size from e1.symm] at h1 h3
 have e2: ∀ (d:Array (List Int)),d.size=zs.length→(d.extract 0 zs.length).toList=d.toList:=fun d hd=>by rw[←hd];simp
 rw[e1] at h1 h3
 rw[e2 _ h1,e2 _ e1] at h3
 exact h3
def Ft (i j:Nat) (x y:List Int):Int:=if Go.Lib.compareInt (x.getD i 0) (y.getD i 0)=0 then Go.Lib.compareInt (x.getD j 0) (y.getD j 0) else Go.Lib.compareInt (x.getD i 0) (y.getD i 0)
theorem AX (a b:Int): (Go.Lib.compareInt a b< 0↔a<b)∧(Go.Lib.compareInt a b=0↔a=b):=by
 unfold Go.Lib.compareInt
 split
 ·exact⟨Zl,Zl⟩
 ·split
  ·exact⟨Zl,Zl⟩
  ·exact⟨Zl,Zl⟩
theorem xI {i j:Nat} {x y:List Int}:Go.Proofs.ltOf (Ft i j) x y=decide (x.getD i 0 <y.getD i 0∨x.getD i 0=y.getD i 0∧x.getD j 0 <y.getD j 0):=by
 refine decide_eq_decide.2 ?_
 unfold Ft
 obtain⟨h1,h2⟩:=AX (x.getD i 0) (y.getD i 0)
 obtain⟨k1,_⟩:=AX (x.getD j 0) (y.getD j 0)
 split
 ·rename_i h
  rw[h2] at h
  rw[k1];omega
 ·rename_i h
  rw[h2] at h
  rw[h1];omega
theorem ny (i j:Nat):SWO (Go.Proofs.ltOf (Ft i j)):=
 ⟨fun x=>by rw[xI];simp,fun x y z h k=>by rw[xI] at*;simp only[decide_eq_true_eq] at*;omega,fun x y z h k=>by rw[xI] at*;simp only[decide_eq_false_iff_not] at*;omega⟩
theorem sj {α:Type} {v:α→V} {k g:Nat} {cf:List Int→List Int→Int} (en:α→List Int) (de:List Int→α) (hv: ∀x,v x=nS (en x)) (hl: ∀x,(en x).length=k) (hd: ∀x,de (en x)=x) (hk:0 <k) (hO:SWO (Go.Proofs.ltOf cf)) {l:List α} (h:l.length< 4611686018427387904):
  ∃l':List α,l'.Perm l∧lD k g cf [.msl k (l.map v) 0 l.length,.fn g []]=some ⟨.tuple [],[(0,l'.map v)]⟩:=by
 have e1:l.map v=(l.map en).map nS:=by rw[List.map_map];exact List.map_congr_left fun x _=>hv x
 have hp:=nA hO (l.map en)
 refine⟨(o7 cf (l.map en)).map de,?_,?_⟩
 ·have:=hp.map de
  rwa [List.map_map,show de∘en=id from funext hd,List.map_id] at this
 ·have e2: ((o7 cf (l.map en)).map de).map v=(o7 cf (l.map en)).map nS:=by
   rw[List.map_map]
   refine List.map_congr_left fun z hz=> ?_
   obtain⟨x,_,rfl⟩:=ZJ.1 (hp.mem_iff.1 hz)
   rw[Function.comp,hd,hv]
  rw[e2,e1]
  simp only[lD,vl (zs:=l.map en) (k:=k) (fun z hz=>by obtain⟨x,_,rfl⟩:=ZJ.1 hz;exact hl x),List.length_map,h,hk,and_self,if_true]
end Go.AM
