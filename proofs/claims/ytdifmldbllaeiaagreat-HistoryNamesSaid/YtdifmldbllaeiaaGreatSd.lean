/- Texts of the proof. -/
import Derived.Test.YtdifmldbllaeiaaGreatBase
import Derived.Shelf.SlSortCmp.Insertion
import Derived.Sort.AssemblyPlain
set_option linter.unusedSimpArgs false
set_option linter.unusedVariables false
namespace Go.AM
open Go Go.RowKit Go.Sort
def BY (x:List Int):V:= .agg (x.map (V.int .i64))
def rowsOf (k:Nat):List V->Option (List (List Int))
 | []=>some []
 | .agg cs::vs=>match qZ cs,rowsOf k vs with
   | some l,some a=>if l.length=k then some (l::a) else none
   | _,_=>none
 | _=>none
theorem E3 {k:Nat}: ∀ {vs:List V} {zs:List (List Int)},rowsOf k vs=some zs->vs=zs.map BY/\ ∀z ∈ zs,z.length=k
 | [],zs,h=>by simp[rowsOf] at h;subst h;simp
 | v::vs,zs,h=>by
   unfold rowsOf at h;split at h
   .simp_all
   .rename_i cs vs' a;injection a with b c;subst b;subst c;split at h
    .rename_i l e h1 h2;split at h
     .rename_i hl;injection h with h;subst h;obtain⟨b,c⟩:=E3 h2;refine⟨by rw[xM h1,b];rfl,fun z d=> ?_⟩;rcases ajy.1 d with rfl| d
      .exact hl
      exact c z d
     simp at h
    simp at h
   simp at h
theorem alQ {k:Nat}: ∀ {zs:List (List Int)},(∀z ∈ zs,z.length=k)->rowsOf k (zs.map BY)=some zs
 | [],_=>rfl
 | z::zs,h=>by have h1:qZ (z.map (V.int .i64))=some z:=AO z;simp only[List.map_cons,BY,rowsOf,h1,alQ (zs:=zs) fun y hy=>h y (by simp[hy]),h z ajl,if_true]
def zX (a:List Int->List Int->Int) (zs:List (List Int)):List (List Int):=(pdq (Go.Proofs.ltOf a) zs.toArray 0 zs.length (Go.Lib.bitLen zs.length) true true).toList
def rz (k g:Nat) (b:List Int->List Int->Int):List V->Option fu
 | [.msl c es 0 len,.fn d []]=>if c=k/\d=g/\len=es.length/\0 <k then(match rowsOf k es with
     | some a=>if a.length< 4611686018427387904 then some ⟨.tuple [],[(0,(zX b a).map BY)]⟩ else none
     | none=>none) else none
 | _=>none
theorem yu {a:List Int->List Int->Int} (e:SWO (Go.Proofs.ltOf a)) (zs:List (List Int)): (zX a zs).Perm zs:=by
 have h:=(pdq_sorts (Go.Proofs.ltOf a) e zs.toArray 0 zs.length (Go.Lib.bitLen zs.length) true true (akk _) ajl (.inl rfl)).1;obtain⟨h1,_,h3⟩:=h;have b:zs.toArray.size=zs.length:=ajl;rw[show zs.length=zs.toArray.size from b.symm] at h1 h3;have c: ∀ (d:Array (List Int)),d.size=zs.length->(d.extract 0 zs.length).toList=d.toList:=fun d hd=>by rw[<-hd];simp
 rw[b] at h1 h3;rw[c _ h1,c _ b] at h3;exact h3
def by1 (i:Nat) (x y:List Int):Int:=Go.Lib.compareInt (x.getD i 0) (y.getD i 0)
def P4 (i j:Nat) (x y:List Int):Int:=if Go.Lib.compareInt (x.getD i 0) (y.getD i 0)=0 then Go.Lib.compareInt (x.getD j 0) (y.getD j 0) else Go.Lib.compareInt (x.getD i 0) (y.getD i 0)
theorem CM (a b:Int): (Go.Lib.compareInt a b< 0↔a<b)/\(Go.Lib.compareInt a b=0↔a=b):=by
 unfold Go.Lib.compareInt;split
 .exact⟨ajk,ajk⟩
 split
 .exact⟨ajk,ajk⟩
 exact⟨ajk,ajk⟩
theorem L9 {i:Nat} {x y:List Int}:Go.Proofs.ltOf (by1 i) x y=decide (x.getD i 0 <y.getD i 0):=decide_eq_decide.2 (CM _ _).1
theorem F6 {i j:Nat} {x y:List Int}:Go.Proofs.ltOf (P4 i j) x y=decide (x.getD i 0 <y.getD i 0\/x.getD i 0=y.getD i 0/\x.getD j 0 <y.getD j 0):=by
 refine decide_eq_decide.2 ?_;unfold P4;obtain⟨h1,h2⟩:=CM (x.getD i 0) (y.getD i 0);obtain⟨a,_⟩:=CM (x.getD j 0) (y.getD j 0);split
 .rename_i h;rw[h2] at h;rw[a];omega
 rename_i h;rw[h2] at h;rw[h1];omega
theorem XG (i:Nat):SWO (Go.Proofs.ltOf (by1 i)):=
 ⟨fun x=>by rw[L9];simp,fun x y z h k=>by rw[L9] at*;simp only[decide_eq_true_eq] at*;omega,fun x y z h k=>by rw[L9] at*;simp only[decide_eq_false_iff_not] at*;omega⟩
theorem Av (i j:Nat):SWO (Go.Proofs.ltOf (P4 i j)):=
 ⟨fun x=>by rw[F6];simp,fun x y z h k=>by rw[F6] at*;simp only[decide_eq_true_eq] at*;omega,fun x y z h k=>by rw[F6] at*;simp only[decide_eq_false_iff_not] at*;omega⟩
theorem alS {α:Type} {v:α->V} {k g:Nat} {b:List Int->List Int->Int} (en:α->List Int) (a:List Int->α) (hv: ∀x,v x=BY (en x)) (hl: ∀x,(en x).length=k) (hd: ∀x,a (en x)=x) (e:0 <k) (f:SWO (Go.Proofs.ltOf b)) {l:List α} (h:l.length< 4611686018427387904):
  ∃d:List α,d.Perm l/\rz k g b [.msl k (l.map v) 0 l.length,.fn g []]=some ⟨.tuple [],[(0,d.map v)]⟩:=by
 have i:l.map v=(l.map en).map BY:=by rw[List.map_map];exact List.map_congr_left fun x _=>hv x
 have hp:=yu f (l.map en);refine⟨(zX b (l.map en)).map a,?_,?_⟩
 .have:=hp.map a;rwa [List.map_map,show a∘en=id from funext hd,List.map_id] at this
 have j: ((zX b (l.map en)).map a).map v=(zX b (l.map en)).map BY:=by rw[List.map_map];refine List.map_congr_left fun z c=> ?_;obtain⟨x,_,rfl⟩:=ajL.1 (hp.mem_iff.1 c);rw[Function.comp,hd,hv]
 rw[j,i];simp only[rz,alQ (zs:=l.map en) (k:=k) (fun z c=>by obtain⟨x,_,rfl⟩:=ajL.1 c;exact hl x),List.length_map,h,e,and_self,if_true]
end Go.AM
