/- Texts of the proof. -/
import Derived.Test.YtgjbecccmiehkaaGreatSx
import Derived.Test.YtgjbecccmiehkaaGreatFns
import Derived.Test.YtgjbecccmiehkaaGreatIt
import Derived.Shelf.SlicesG.Cmp
import Derived.StillTailTactics
import Derived.WalkKit
import Derived.Tactics
import Derived.Tactics2
import Derived.RangeFuncRecord
import Derived.Test.YtgjbecccmiehkaaGreatProg
import Derived.Test.YtgjbecccmiehkaaGreatRows
set_option maxHeartbeats 4000000
set_option linter.unusedSimpArgs false
set_option linter.unusedVariables false
set_option maxRecDepth 100000
namespace Go.Proofs
open Go.Shelf Go.RowKit Go.Lib Go.Sort Go.AM
theorem tJ {P:Program} {f:FuncId} {b:Func} (h1: ((((P.funcs[f]?).map (·.name)).getD "")== "runtime.NumGoroutine")=false) (h2:P.funcs[f]? =some {b with name:=((P.funcs[f]?).map (·.name)).getD ""}):Bears P f b:=⟨_,h1,h2⟩
theorem Qv {P:Program} {F:FuncId} {fn:Func} {cd:Code} (nE:P.funcs[F]? =some fn) (iE: (fn.name== "runtime.NumGoroutine")=false) (hb:fn.body=some cd) (args:Array Value) (w:World): (callFunc F args).run P w= .ok (.enter F args) w:=by
 simp[callFunc,Sem.run_bind,program,Sem.run,nE,hb]
 simpa using iE
def Qw:Go.Shelf.Ren:=⟨fun| 5=>48| 7=>90| n=>n,fun| 22=>3| n=>n,fun| n=>n⟩
theorem Qx:SlLaysC2.n5 Tryz.prog Qw:=by
 constructor<;>first| kernel_rfl| exact tJ Zo Zo | (intro w;rfl)
theorem DZ (x y:Int) (w:World):Calls Tryz.prog 48 #[.int .i64 x,.int .i64 y] w fun e w'=>e= .returned (.int .i64 (compareInt x y))∧w'=w:=AnyG.cmp_Compare_int Qx x y w
theorem Qy (B:Nat) (x y:Int) (W:World) (h0:W.cell? ⟨B,0,none⟩=some (.int .i64 x)) (h1:W.cell? ⟨B,1,none⟩=some (.int .i64 y)):Calls Tryz.prog 47 #[.slice (some ⟨B,0,none⟩) 2 2] W fun e w'=>e= .returned (.int .i64 (if x=0 then y else x))∧w'=W:=by
 go_enter Tryz.func47,Tryz.ntmps47
 go_wp2
 by_cases hx:x=0
 ·subst hx
  refine wp_loop_rounds 3 ?_
  rw[rounds_succ]
  go_wp2
  rw[rounds_succ]
  by_cases hy:y=0
  ·subst hy
   go_wp2
   rw[rounds_succ]
   go_wp2
   go_ret
   exact⟨rfl,rfl⟩
  ·go_wp2
   go_ret
   exact⟨Zm,rfl⟩
 ·refine wp_loop_rounds 3 ?_
  rw[rounds_succ]
  go_wp2
  go_ret
  exact⟨by simp[hx],rfl⟩
theorem Qz (a b a' b':Int) (W:World):Calls Tryz.prog 120 #[.agg #[.int .i64 a,.int .i64 b],.agg #[.int .i64 a',.int .i64 b']] W fun e w'=>e= .returned (.int .i64 (if compareInt a a'=0 then compareInt b b' else compareInt a a'))∧ ∃q Ip,w'=grow (W.drewN q) Ip:=by
 have rG:=fun W'=>DZ a a' W'
 have qd:=fun W'=>DZ b b' W'
 generalize compareInt a a'=r at rG ⊢
 generalize compareInt b b'=s at qd ⊢
 obtain⟨res,gg⟩: ∃res,res=if r=0 then s else r:=⟨_,rfl⟩
 rw[←gg]
 have Dh:Tryz.prog.follows .mixedOrders=true:=Zo
 go_enter Tryz.func120,Tryz.ntmps120
 go_wp2
 obtain⟨W2,yG⟩: ∃W2,W2=(W.alloc (.cells #[.int .i64 a,.int .i64 b] 56)).alloc (.cells #[.int .i64 a',.int .i64 b'] 56):=⟨_,rfl⟩
 have bM:W2.heap.size=W.heap.size+1+1:=by rw[yG,World.size_alloc,World.size_alloc]
 have p0:W2.cell? ⟨W.heap.size,0,none⟩=some (.int .i64 a):=by rw[yG];go_simp
 have p1:W2.cell? ⟨W.heap.size,1,none⟩=some (.int .i64 b):=by rw[yG];go_simp
 have q0:W2.cell? ⟨W.heap.size+1,0,none⟩=some (.int .i64 a'):=by rw[yG];go_simp
 have q1:W2.cell? ⟨W.heap.size+1,1,none⟩=some (.int .i64 b'):=by rw[yG];go_simp
 have Pu: ∃Ip,W2=grow W Ip:=⟨_,by rw[yG,alloc_eq_grow,alloc_eq_grow,grow_grow]⟩
 rw[←yG]
 clear yG
 refine wp_region_still_tail 10 Dh Zo ?_
 simp only[Z9,aaB,aa4,List.drop_zero]
 change wpStill _ _ (World.drew W2) (fun a'=>wpList _ _ _ _ a' (World.drew W2)) _ _
 iterate 4 still_step
 still_call (rG _)
 iterate 4 still_step
 still_call (qd _)
 refine wpStill_nil ?_
 refine wpList_step (fun K hK=> ?_)
 go_simp
 refine hK _ _ ?_
 clear hK K
 refine wpList_step (fun K hK=> ?_)
 go_simp
 have hn: ((W2.alloc (.cells #[.int .i64 r,.int .i64 s] 3)).drew).heap[W.heap.size+1+1]? =some (.cells #[.int .i64 r,.int .i64 s] 3):=by rw[←bM];exact World.alloc_heap_new _ _
 have e0: ((W2.alloc (.cells #[.int .i64 r,.int .i64 s] 3)).drew).cell? ⟨W.heap.size+1+1,0,none⟩=some (.int .i64 r):=by simp only[World.cell?,hn];rfl
 have e1: ((W2.alloc (.cells #[.int .i64 r,.int .i64 s] 3)).drew).cell? ⟨W.heap.size+1+1,1,none⟩=some (.int .i64 s):=by simp only[World.cell?,hn];rfl
 have ho:=Qy _ _ _ _ e0 e1
 rw[←gg] at ho
 refine ho.mono ?_
 clear gg ho
 rintro e w' ⟨rfl,rfl⟩
 refine hK _ _ ?_
 clear hK K
 refine wpList_step (fun K hK=> ?_)
 go_simp
 refine hK _ _ ?_
 clear hK K
 refine wpList_nil ?_
 rename_i IA
 refine IA _ _ ?_
 go_wp2
 go_ret
 obtain⟨Ip,rfl⟩:=Pu
 exact⟨rfl,1,_,by rw[alloc_eq_grow,grow_grow];rfl⟩
theorem QA (x0 x1 a x3 b y0 y1 a' y3 b':Int) (W:World):Calls Tryz.prog 21 #[.agg #[.int .i64 x0,.int .i64 x1,.int .i64 a,.int .i64 x3,.int .i64 b],.agg #[.int .i64 y0,.int .i64 y1,.int .i64 a',.int .i64 y3,.int .i64 b']] W fun e w'=>e= .returned (.int .i64 (if compareInt a a'=0 then compareInt b b' else compareInt a a'))∧ ∃q Ip,w'=grow (W.drewN q) Ip:=by
 have rG:=fun W'=>DZ a a' W'
 have qd:=fun W'=>DZ b b' W'
 generalize compareInt a a'=r at rG ⊢
 generalize compareInt b b'=s at qd ⊢
 obtain⟨res,gg⟩: ∃res,res=if r=0 then s else r:=⟨_,rfl⟩
 rw[←gg]
 have Dh:Tryz.prog.follows .mixedOrders=true:=Zo
 go_enter Tryz.func21,Tryz.ntmps21
 go_wp2
 obtain⟨W2,yG⟩: ∃W2,W2=(W.alloc (.cells #[.int .i64 x0,.int .i64 x1,.int .i64 a,.int .i64 x3,.int .i64 b] 64)).alloc (.cells #[.int .i64 y0,.int .i64 y1,.int .i64 a',.int .i64 y3,.int .i64 b'] 64):=⟨_,rfl⟩
 have bM:W2.heap.size=W.heap.size+1+1:=by rw[yG,World.size_alloc,World.size_alloc]
 have p0:W2.cell? ⟨W.heap.size,2,none⟩=some (.int .i64 a):=by rw[yG];go_simp
 have p1:W2.cell? ⟨W.heap.size,4,none⟩=some (.int .i64 b):=by rw[yG];go_simp
 have q0:W2.cell? ⟨W.heap.size+1,2,none⟩=some (.int .i64 a'):=by rw[yG];go_simp
 have q1:W2.cell? ⟨W.heap.size+1,4,none⟩=some (.int .i64 b'):=by rw[yG];go_simp
 have Pu: ∃Ip,W2=grow W Ip:=⟨_,by rw[yG,alloc_eq_grow,alloc_eq_grow,grow_grow]⟩
 rw[←yG]
 clear yG
 refine wp_region_still_tail 10 Dh Zo ?_
 simp only[Z9,aaB,aa4,List.drop_zero]
 change wpStill _ _ (World.drew W2) (fun a'=>wpList _ _ _ _ a' (World.drew W2)) _ _
 iterate 4 still_step
 still_call (rG _)
 iterate 4 still_step
 still_call (qd _)
 refine wpStill_nil ?_
 refine wpList_step (fun K hK=> ?_)
 go_simp
 refine hK _ _ ?_
 clear hK K
 refine wpList_step (fun K hK=> ?_)
 go_simp
 have hn: ((W2.alloc (.cells #[.int .i64 r,.int .i64 s] 3)).drew).heap[W.heap.size+1+1]? =some (.cells #[.int .i64 r,.int .i64 s] 3):=by rw[←bM];exact World.alloc_heap_new _ _
 have e0: ((W2.alloc (.cells #[.int .i64 r,.int .i64 s] 3)).drew).cell? ⟨W.heap.size+1+1,0,none⟩=some (.int .i64 r):=by simp only[World.cell?,hn];rfl
 have e1: ((W2.alloc (.cells #[.int .i64 r,.int .i64 s] 3)).drew).cell? ⟨W.heap.size+1+1,1,none⟩=some (.int .i64 s):=by simp only[World.cell?,hn];rfl
 have ho:=Qy _ _ _ _ e0 e1
 rw[←gg] at ho
 refine ho.mono ?_
 clear gg ho
 rintro e w' ⟨rfl,rfl⟩
 refine hK _ _ ?_
 clear hK K
 refine wpList_step (fun K hK=> ?_)
 go_simp
 refine hK _ _ ?_
 clear hK K
 refine wpList_nil ?_
 rename_i IA
 refine IA _ _ ?_
 go_wp2
 go_ret
 obtain⟨Ip,rfl⟩:=Pu
 exact⟨rfl,1,_,by rw[alloc_eq_grow,grow_grow];rfl⟩
end Go.Proofs
set_option maxRecDepth 100000
namespace Go.AM
open Go Go.RowKit Go.Proofs Go.Shelf
def xf:Ren:=⟨fun| 53=>16| 64=>40| 63=>39| 78=>80| 79=>81| 70=>71| 71=>72| 72=>73| 73=>74| 74=>75| 75=>76| 59=>77| 76=>78| 77=>79| 88=>107| 89=>108| 90=>109| 91=>110| 92=>111| 68=>90| 96=>131| n=>n,fun| 22=>32| 23=>3| 3=>3| 51=>95| 0=>0| 67=>142| 69=>144| 4=>4| 61=>135| 60=>134| 44=>131| 5=>5| 9=>9| 75=>163| 79=>167| 83=>190| 84=>191| n=>n,fun| n=>n⟩
theorem QB:SlLaysN.n53 Tryz.prog xf:=by
 constructor<;>first| kernel_rfl| exact tJ Zo Zo | (intro w;rfl)
def xg:Ren:=⟨fun| 6=>20| 15=>40| 14=>46| 28=>80| 29=>81| 20=>82| 21=>83| 22=>84| 23=>85| 24=>86| 25=>87| 26=>88| 27=>89| 46=>112| 47=>108| 48=>109| 49=>113| 50=>114| 57=>132| n=>n,fun| 22=>61| 24=>64| 25=>66| 3=>3| 39=>95| 0=>0| 53=>142| 55=>144| 4=>4| 46=>135| 45=>134| 50=>131| 5=>5| 9=>9| 66=>163| 70=>167| 76=>190| 77=>191| n=>n,fun| n=>n⟩
theorem QC:SlLaysF0.n6 Tryz.prog xg:=by
 constructor<;>first| kernel_rfl| exact tJ Zo Zo | (intro w;rfl)
def vn:Ren:=⟨fun| 6=>119| 15=>40| 14=>137| 28=>80| 29=>81| 20=>146| 21=>147| 22=>148| 23=>149| 24=>150| 25=>151| 26=>152| 27=>153| 46=>159| 47=>108| 48=>109| 49=>160| 50=>161| 57=>167| n=>n,fun| 22=>46| 24=>56| 25=>80| 3=>3| 39=>95| 0=>0| 53=>142| 55=>144| 4=>4| 46=>135| 45=>134| 50=>131| 5=>5| 9=>9| 66=>163| 70=>167| 76=>190| 77=>191| n=>n,fun| n=>n⟩
theorem Nc:SlLaysF0.n6 Tryz.prog vn:=by
 constructor<;>first| kernel_rfl| exact tJ Zo Zo | (intro w;rfl)
theorem Uu:gG X0 Tryz.f23 4 2872193639704:=⟨⟨_,_,_,_,_,_,_,_,rfl,Zo,Zo,⟨.agg [.int .i64 0,.nils,.int .i64 0,.int .i64 0],Zo,Zn,Zo⟩,⟨_,_,_,48,rfl,Zo,rfl,rfl,rfl,Zo⟩⟩,rfl,Zn⟩
theorem Uv:gG X0 Tryz.f24 5 2469078742875:=⟨⟨_,_,_,_,_,_,_,_,rfl,Zo,Zo,⟨.agg [.int .i64 0,.str [],.str [],.int .i64 0,.int .i64 0],Zo,Zn,Zo⟩,⟨_,_,_,52,rfl,Zo,rfl,rfl,rfl,Zo⟩⟩,rfl,Zn⟩
theorem Uw:gG X0 Tryz.f25 8 1450901941607:=⟨⟨_,_,_,_,_,_,_,_,rfl,Zo,Zo,⟨.agg [.int .i64 0,.nils,.int .i64 0,.str [],.str [],.bool false,.int .i64 0,.int .i64 0],Zo,Zn,Zo⟩,⟨_,_,_,54,rfl,Zo,rfl,rfl,rfl,Zo⟩⟩,rfl,Zn⟩
theorem Ux:gG X0 Tryz.f26 7 1927910799188:=⟨⟨_,_,_,_,_,_,_,_,rfl,Zo,Zo,⟨.agg [.int .i64 0,.int .i64 0,.int .i64 0,.str [],.str [],.int .i64 0,.int .i64 0],Zo,Zn,Zo⟩,⟨_,_,_,58,rfl,Zo,rfl,rfl,rfl,Zo⟩⟩,rfl,Zn⟩
theorem Uy:gG X0 Tryz.f27 2 8278675785407:=⟨⟨_,_,_,_,_,_,_,_,rfl,Zo,Zo,⟨.agg [.int .i64 0,.int .i64 0],Zo,Zn,Zo⟩,⟨_,_,_,56,rfl,Zo,rfl,rfl,rfl,Zo⟩⟩,rfl,Zn⟩
theorem oM:eM qa=true:=Zo
theorem K9:eM (Db.map (·.2))=true:=Zo
theorem J9 {g:Nat} {h:Hints} {fn:Func} {c:CF h fn} (h2:X0.P.funcs[qa.idxOf g]? =some fn:=by kernel_rfl) (h1:X0.eT (qa.idxOf g)=some g:=by kernel_rfl) (h3: (fn.name== "runtime.NumGoroutine")=false:=by kernel_rfl) (h4: ∃c,fn.body=some c:=by exact⟨_,rfl⟩) (h6:c.1.nparams≤fn.ntmps:=by decide+kernel):CQ X0 g c.1:=
 h4.elim fun d h4=> ⟨qa.idxOf g,fn,h,d,h1,h2,h3,h4,c.2,h6⟩
theorem Ka:ie X0 F5:=by
 repeat' (first| exact trivial| exact J9| refine And.intro ?_ ?_)
theorem AY: ∀t1 t2 k,X0.rK t1=some k→X0.rK t2=some k→t1=t2:=(AT (P:=Tryz.prog) (fl:=qa) (tl:=Db) (tab:=[]) (ext:=[]) (hyb:=[]) (iter:=[]) oM K9 Zo trivial trivial trivial trivial).inj
theorem QD {args:List V} {res:eV} (h:lD 5 545 (Ft 2 4) args=some res):bJ X0 20 args res:=s9 (X:=X0) (F:=20) (ρ:=xg) QC rfl Tryz.func20 Zo rfl (fun _=>rfl) (fun _=>rfl) (ny 2 4) (fun _ h=>fh (l:=qa) oM h (j:=21) rfl) (Qv Tryz.func21 Zo rfl) (fun _ _ _=>QA _ _ _ _ _ _ _ _ _ _ _) h
theorem Nd {args:List V} {res:eV} (h:lD 2 254 (Ft 0 1) args=some res):bJ X0 119 args res:=s9 (X:=X0) (F:=119) (ρ:=vn) Nc rfl Tryz.func119 Zo rfl (fun _=>rfl) (fun _=>rfl) (ny 0 1) (fun _ h=>fh (l:=qa) oM h (j:=120) rfl) (Qv Tryz.func120 Zo rfl) (fun _ _ _=>Qz _ _ _ _ _) h
theorem Iq:nn X0 F6:=⟨⟨23,rfl,fun _ _ h=>ib AY Tryz.func23 Zo Uu h⟩,
 ⟨24,rfl,fun _ _ h=>ib AY Tryz.func24 Zo Uv h⟩,
 ⟨25,rfl,fun _ _ h=>ib AY Tryz.func25 Zo Uw h⟩,
 ⟨26,rfl,fun _ _ h=>ib AY Tryz.func26 Zo Ux h⟩,
 ⟨27,rfl,fun _ _ h=>ib AY Tryz.func27 Zo Uy h⟩,
 ⟨101,rfl,fun _ _ h=>CP Tryz.func101 Zo Zo Zo rfl h⟩,
 ⟨16,rfl,fun _ _ h=>CU (X:=X0) (F:=16) (ρ:=xf) QB rfl Tryz.func16 Zo rfl h⟩,⟨20,rfl,fun _ _ h=>QD h⟩,⟨119,rfl,fun _ _ h=>Nd h⟩,trivial⟩
theorem Fi:j8 X0 Da:=⟨zW _ _ 221 rfl,z6 _ _ 564 rfl,trivial⟩
theorem Qs:rZ X0 E:=AT (P:=Tryz.prog) (fl:=qa) (tl:=Db) oM K9 Zo Ka Iq trivial Fi
end Go.AM
