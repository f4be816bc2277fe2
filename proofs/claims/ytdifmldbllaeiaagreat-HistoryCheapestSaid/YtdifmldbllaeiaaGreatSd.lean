/- Texts of the proof. -/
import Derived.Test.YtdifmldbllaeiaaGreatBase
import Derived.Shelf.SlSortCmp.Insertion
import Derived.Sort.AssemblyPlain
set_option linter.unusedSimpArgs false
set_option linter.unusedVariables false
namespace Go.AM
open Go Go.RowKit Go.Sort
def sR (x:List Int):V:= .agg (x.map (V.int .i64))
def rowsOf (k:Nat):List V→Option (List (List Int))
 | []=>some []
 | .agg cs::vs=>match nR cs,rowsOf k vs with
   | some l,some ls=>if l.length=k then some (l::ls) else none
   | _,_=>none
 | _=>none
theorem Ch {k:Nat}: ∀ {vs:List V} {zs:List (List Int)},rowsOf k vs=some zs→vs=zs.map sR∧ ∀z ∈ zs,z.length=k
 | [],zs,h=>by simp[rowsOf] at h;subst h;simp
 | v::vs,zs,h=>by
   unfold rowsOf at h
   split at h
   ·simp_all
   ·rename_i cs vs' heq
    injection heq with e1 e2
    subst e1;subst e2
    split at h
    ·rename_i l ls h1 h2
     split at h
     ·rename_i hl
      injection h with h;subst h
      obtain⟨e1,e2⟩:=Ch h2
      refine⟨by rw[uW h1,e1];rfl,fun z hz=> ?_⟩
      rcases af7.1 hz with rfl| hz
      ·exact hl
      ·exact e2 z hz
     ·simp at h
    ·simp at h
   ·simp at h
theorem z8 {k:Nat}: ∀ {zs:List (List Int)},(∀z ∈ zs,z.length=k)→rowsOf k (zs.map sR)=some zs
 | [],_=>rfl
 | z::zs,h=>by
   have h1:nR (z.map (V.int .i64))=some z:=rX z
   simp only[List.map_cons,sR,rowsOf,h1,z8 (zs:=zs) fun y hy=>h y (by simp[hy]),h z afU,if_true]
def xw (cf:List Int→List Int→Int) (zs:List (List Int)):List (List Int):=(pdq (Go.Proofs.ltOf cf) zs.toArray 0 zs.length (Go.Lib.bitLen zs.length) true true).toList
def lu (k g:Nat) (cf:List Int→List Int→Int):List V→Option eL
 | [.msl k' es 0 len,.fn g' []]=>if k'=k∧g'=g∧len=es.length∧0 <k then(match rowsOf k es with
     | some zs=>if zs.length< 4611686018427387904 then some ⟨.tuple [],[(0,(xw cf zs).map sR)]⟩ else none
     | none=>none) else none
 | _=>none
theorem vO {cf:List Int→List Int→Int} (hO:SWO (Go.Proofs.ltOf cf)) (zs:List (List Int)): (xw cf zs).Perm zs:=by
 have h:=(pdq_sorts (Go.Proofs.ltOf cf) hO zs.toArray 0 zs.length (Go.Lib.bitLen zs.length) true true (agI _) afU (.inl rfl)).1
 obtain⟨h1,_,h3⟩:=h
 have e1:zs.toArray.size=zs.length:=afU
 rw[show zs.length=zs.toArray.size from e1.symm] at h1 h3
 have e2: ∀ (d:Array (List Int)),d.size=zs.length→(d.extract 0 zs.length).toList=d.toList:=fun d hd=>by rw[←hd];simp
 rw[e1] at h1 h3
 rw[e2 _ h1,e2 _ e1] at h3
 exact h3
def by1 (i:Nat) (x y:List Int):Int:=Go.Lib.compareInt (x.getD i 0) (y.getD i 0)
def U5 (i j:Nat) (x y:List Int):Int:=if Go.Lib.compareInt (x.getD i 0) (y.getD i 0)=0 then Go.Lib.compareInt (x.getD j 0) (y.getD j 0) else Go.Lib.compareInt (x.getD i 0) (y.getD i 0)
theorem Aa (a b:Int): (Go.Lib.compareInt a b< 0↔a<b)∧(Go.Lib.compareInt a b=0↔a=b):=by
 unfold Go.Lib.compareInt
 split
 ·exact⟨ae0,ae0⟩
 ·split
  ·exact⟨ae0,ae0⟩
  ·exact⟨ae0,ae0⟩
theorem I1 {i:Nat} {x y:List Int}:Go.Proofs.ltOf (by1 i) x y=decide (x.getD i 0 <y.getD i 0):=decide_eq_decide.2 (Aa _ _).1
theorem I2 {i j:Nat} {x y:List Int}:Go.Proofs.ltOf (U5 i j) x y=decide (x.getD i 0 <y.getD i 0∨x.getD i 0=y.getD i 0∧x.getD j 0 <y.getD j 0):=by
 refine decide_eq_decide.2 ?_
 unfold U5
 obtain⟨h1,h2⟩:=Aa (x.getD i 0) (y.getD i 0)
 obtain⟨k1,_⟩:=Aa (x.getD j 0) (y.getD j 0)
 split
 ·rename_i h
  rw[h2] at h
  rw[k1];omega
 ·rename_i h
  rw[h2] at h
  rw[h1];omega
theorem Js (i:Nat):SWO (Go.Proofs.ltOf (by1 i)):=
 ⟨fun x=>by rw[I1];simp,fun x y z h k=>by rw[I1] at*;simp only[decide_eq_true_eq] at*;omega,fun x y z h k=>by rw[I1] at*;simp only[decide_eq_false_iff_not] at*;omega⟩
theorem xK (i j:Nat):SWO (Go.Proofs.ltOf (U5 i j)):=
 ⟨fun x=>by rw[I2];simp,fun x y z h k=>by rw[I2] at*;simp only[decide_eq_true_eq] at*;omega,fun x y z h k=>by rw[I2] at*;simp only[decide_eq_false_iff_not] at*;omega⟩
theorem wo {α:Type} {v:α→V} {k g:Nat} {cf:List Int→List Int→Int} (en:α→List Int) (de:List Int→α) (hv: ∀x,v x=sR (en x)) (hl: ∀x,(en x).length=k) (hd: ∀x,de (en x)=x) (hk:0 <k) (hO:SWO (Go.Proofs.ltOf cf)) {l:List α} (h:l.length< 4611686018427387904):
  ∃l':List α,l'.Perm l∧lu k g cf [.msl k (l.map v) 0 l.length,.fn g []]=some ⟨.tuple [],[(0,l'.map v)]⟩:=by
 have e1:l.map v=(l.map en).map sR:=by rw[List.map_map];exact List.map_congr_left fun x _=>hv x
 have hp:=vO hO (l.map en)
 refine⟨(xw cf (l.map en)).map de,?_,?_⟩
 ·have:=hp.map de
  rwa [List.map_map,show de∘en=id from funext hd,List.map_id] at this
 ·have e2: ((xw cf (l.map en)).map de).map v=(xw cf (l.map en)).map sR:=by
   rw[List.map_map]
   refine List.map_congr_left fun z hz=> ?_
   obtain⟨x,_,rfl⟩:=agk.1 (hp.mem_iff.1 hz)
   rw[Function.comp,hd,hv]
  rw[e2,e1]
  simp only[lu,z8 (zs:=l.map en) (k:=k) (fun z hz=>by obtain⟨x,_,rfl⟩:=agk.1 hz;exact hl x),List.length_map,h,hk,and_self,if_true]
end Go.AM
