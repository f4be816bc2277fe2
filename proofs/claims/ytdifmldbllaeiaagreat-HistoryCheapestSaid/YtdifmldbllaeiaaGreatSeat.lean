/- Texts of the proof. -/
import Derived.Test.YtdifmldbllaeiaaGreatSx
import Derived.Test.YtdifmldbllaeiaaGreatIt
import Derived.Test.YtdifmldbllaeiaaGreatMl
import Derived.Shelf.SlicesG.Cmp
import Derived.StillTailTactics
import Derived.WalkKit
import Derived.Tactics
import Derived.Tactics2
import Derived.RangeFuncRecord
import Derived.Test.YtdifmldbllaeiaaGreatProg
import Derived.Test.YtdifmldbllaeiaaGreatRows
set_option maxHeartbeats 4000000
set_option linter.unusedSimpArgs false
set_option linter.unusedVariables false
set_option maxRecDepth 100000
namespace Go.Proofs
open Go.Shelf Go.RowKit Go.Lib Go.Sort Go.AM
theorem uM {P:Program} {f:FuncId} {b:Func} (h1: ((((P.funcs[f]?).map (·.name)).getD "")== "runtime.NumGoroutine")=false) (h2:P.funcs[f]? =some {b with name:=((P.funcs[f]?).map (·.name)).getD ""}):Bears P f b:=⟨_,h1,h2⟩
theorem WY {P:Program} {F:FuncId} {fn:Func} {cd:Code} (mc:P.funcs[F]? =some fn) (gQ: (fn.name== "runtime.NumGoroutine")=false) (hb:fn.body=some cd) (args:Array Value) (w:World): (callFunc F args).run P w= .ok (.enter F args) w:=by
 simp[callFunc,Sem.run_bind,program,Sem.run,mc,hb]
 simpa using gQ
def abo:Go.Shelf.Ren:=⟨fun| 5=>79| 7=>135| n=>n,fun| 22=>3| n=>n,fun| n=>n⟩
theorem abp:SlLaysC2.n5 Tryz.prog abo:=by
 constructor<;>first| kernel_rfl| exact uM afW afW | (intro w;rfl)
theorem GH (x y:Int) (w:World):Calls Tryz.prog 79 #[.int .i64 x,.int .i64 y] w fun e w'=>e= .returned (.int .i64 (compareInt x y))∧w'=w:=AnyG.cmp_Compare_int abp x y w
theorem abq (a b c d e a' b' c' d' e':Int) (W:World):Calls Tryz.prog 219 #[.agg #[.int .i64 a,.int .i64 b,.int .i64 c,.int .i64 d,.int .i64 e],.agg #[.int .i64 a',.int .i64 b',.int .i64 c',.int .i64 d',.int .i64 e']] W fun e w'=>e= .returned (.int .i64 (compareInt c c'))∧ ∃q Mn,w'=grow (W.drewN q) Mn:=by
 have abr:=fun W'=>GH c c' W'
 generalize compareInt c c'=r at abr ⊢
 go_enter Tryz.func219,Tryz.ntmps219
 go_wp2_with (go_at_call 79;refine(abr _).mono ?_;rintro e w' ⟨rfl,rfl⟩)
 go_ret
 exact⟨rfl,0,_,by rw[alloc_eq_grow,alloc_eq_grow,grow_grow];rfl⟩
theorem abt (B:Nat) (x y:Int) (W:World) (h0:W.cell? ⟨B,0,none⟩=some (.int .i64 x)) (h1:W.cell? ⟨B,1,none⟩=some (.int .i64 y)):Calls Tryz.prog 159 #[.slice (some ⟨B,0,none⟩) 2 2] W fun e w'=>e= .returned (.int .i64 (if x=0 then y else x))∧w'=W:=by
 go_enter Tryz.func159,Tryz.ntmps159
 go_wp2
 by_cases hx:x=0
 ·subst hx
  refine wp_loop_rounds 3 ?_
  rw[rounds_succ]
  go_wp2
  rw[rounds_succ]
  by_cases hy:y=0
  ·subst hy
   go_wp2
   rw[rounds_succ]
   go_wp2
   go_ret
   exact⟨rfl,rfl⟩
  ·go_wp2
   go_ret
   exact⟨afU,rfl⟩
 ·refine wp_loop_rounds 3 ?_
  rw[rounds_succ]
  go_wp2
  go_ret
  exact⟨by simp[hx],rfl⟩
theorem abu (a b a' b':Int) (W:World):Calls Tryz.prog 322 #[.agg #[.int .i64 a,.int .i64 b],.agg #[.int .i64 a',.int .i64 b']] W fun e w'=>e= .returned (.int .i64 (if compareInt a a'=0 then compareInt b b' else compareInt a a'))∧ ∃q Mn,w'=grow (W.drewN q) Mn:=by
 have np:=fun W'=>GH a a' W'
 have tF:=fun W'=>GH b b' W'
 generalize compareInt a a'=r at np ⊢
 generalize compareInt b b'=s at tF ⊢
 obtain⟨res,iO⟩: ∃res,res=if r=0 then s else r:=⟨_,rfl⟩
 rw[←iO]
 have Fy:Tryz.prog.follows .mixedOrders=true:=afW
 go_enter Tryz.func322,Tryz.ntmps322
 go_wp2
 obtain⟨W2,DQ⟩: ∃W2,W2=(W.alloc (.cells #[.int .i64 a,.int .i64 b] 43)).alloc (.cells #[.int .i64 a',.int .i64 b'] 43):=⟨_,rfl⟩
 have bF:W2.heap.size=W.heap.size+1+1:=by rw[DQ,World.size_alloc,World.size_alloc]
 have p0:W2.cell? ⟨W.heap.size,0,none⟩=some (.int .i64 a):=by rw[DQ];go_simp
 have p1:W2.cell? ⟨W.heap.size,1,none⟩=some (.int .i64 b):=by rw[DQ];go_simp
 have q0:W2.cell? ⟨W.heap.size+1,0,none⟩=some (.int .i64 a'):=by rw[DQ];go_simp
 have q1:W2.cell? ⟨W.heap.size+1,1,none⟩=some (.int .i64 b'):=by rw[DQ];go_simp
 have wJ: ∃Mn,W2=grow W Mn:=⟨_,by rw[DQ,alloc_eq_grow,alloc_eq_grow,grow_grow]⟩
 rw[←DQ]
 clear DQ
 refine wp_region_still_tail 10 Fy afW ?_
 simp only[agO,ahn,ahV,List.drop_zero]
 change wpStill _ _ (World.drew W2) (fun a'=>wpList _ _ _ _ a' (World.drew W2)) _ _
 iterate 4 still_step
 still_call (np _)
 iterate 4 still_step
 still_call (tF _)
 refine wpStill_nil ?_
 refine wpList_step (fun K hK=> ?_)
 go_simp
 refine hK _ _ ?_
 clear hK K
 refine wpList_step (fun K hK=> ?_)
 go_simp
 have hn: ((W2.alloc (.cells #[.int .i64 r,.int .i64 s] 3)).drew).heap[W.heap.size+1+1]? =some (.cells #[.int .i64 r,.int .i64 s] 3):=by rw[←bF];exact World.alloc_heap_new _ _
 have e0: ((W2.alloc (.cells #[.int .i64 r,.int .i64 s] 3)).drew).cell? ⟨W.heap.size+1+1,0,none⟩=some (.int .i64 r):=by simp only[World.cell?,hn];rfl
 have e1: ((W2.alloc (.cells #[.int .i64 r,.int .i64 s] 3)).drew).cell? ⟨W.heap.size+1+1,1,none⟩=some (.int .i64 s):=by simp only[World.cell?,hn];rfl
 have ho:=abt _ _ _ _ e0 e1
 rw[←iO] at ho
 refine ho.mono ?_
 clear iO ho
 rintro e w' ⟨rfl,rfl⟩
 refine hK _ _ ?_
 clear hK K
 refine wpList_step (fun K hK=> ?_)
 go_simp
 refine hK _ _ ?_
 clear hK K
 refine wpList_nil ?_
 rename_i MK
 refine MK _ _ ?_
 go_wp2
 go_ret
 obtain⟨Mn,rfl⟩:=wJ
 exact⟨rfl,1,_,by rw[alloc_eq_grow,grow_grow];rfl⟩
theorem abv (x0 x1 a x3 b y0 y1 a' y3 b':Int) (W:World):Calls Tryz.prog 191 #[.agg #[.int .i64 x0,.int .i64 x1,.int .i64 a,.int .i64 x3,.int .i64 b],.agg #[.int .i64 y0,.int .i64 y1,.int .i64 a',.int .i64 y3,.int .i64 b']] W fun e w'=>e= .returned (.int .i64 (if compareInt a a'=0 then compareInt b b' else compareInt a a'))∧ ∃q Mn,w'=grow (W.drewN q) Mn:=by
 have np:=fun W'=>GH a a' W'
 have tF:=fun W'=>GH b b' W'
 generalize compareInt a a'=r at np ⊢
 generalize compareInt b b'=s at tF ⊢
 obtain⟨res,iO⟩: ∃res,res=if r=0 then s else r:=⟨_,rfl⟩
 rw[←iO]
 have Fy:Tryz.prog.follows .mixedOrders=true:=afW
 go_enter Tryz.func191,Tryz.ntmps191
 go_wp2
 obtain⟨W2,DQ⟩: ∃W2,W2=(W.alloc (.cells #[.int .i64 x0,.int .i64 x1,.int .i64 a,.int .i64 x3,.int .i64 b] 251)).alloc (.cells #[.int .i64 y0,.int .i64 y1,.int .i64 a',.int .i64 y3,.int .i64 b'] 251):=⟨_,rfl⟩
 have bF:W2.heap.size=W.heap.size+1+1:=by rw[DQ,World.size_alloc,World.size_alloc]
 have p0:W2.cell? ⟨W.heap.size,2,none⟩=some (.int .i64 a):=by rw[DQ];go_simp
 have p1:W2.cell? ⟨W.heap.size,4,none⟩=some (.int .i64 b):=by rw[DQ];go_simp
 have q0:W2.cell? ⟨W.heap.size+1,2,none⟩=some (.int .i64 a'):=by rw[DQ];go_simp
 have q1:W2.cell? ⟨W.heap.size+1,4,none⟩=some (.int .i64 b'):=by rw[DQ];go_simp
 have wJ: ∃Mn,W2=grow W Mn:=⟨_,by rw[DQ,alloc_eq_grow,alloc_eq_grow,grow_grow]⟩
 rw[←DQ]
 clear DQ
 refine wp_region_still_tail 10 Fy afW ?_
 simp only[agO,ahn,ahV,List.drop_zero]
 change wpStill _ _ (World.drew W2) (fun a'=>wpList _ _ _ _ a' (World.drew W2)) _ _
 iterate 4 still_step
 still_call (np _)
 iterate 4 still_step
 still_call (tF _)
 refine wpStill_nil ?_
 refine wpList_step (fun K hK=> ?_)
 go_simp
 refine hK _ _ ?_
 clear hK K
 refine wpList_step (fun K hK=> ?_)
 go_simp
 have hn: ((W2.alloc (.cells #[.int .i64 r,.int .i64 s] 3)).drew).heap[W.heap.size+1+1]? =some (.cells #[.int .i64 r,.int .i64 s] 3):=by rw[←bF];exact World.alloc_heap_new _ _
 have e0: ((W2.alloc (.cells #[.int .i64 r,.int .i64 s] 3)).drew).cell? ⟨W.heap.size+1+1,0,none⟩=some (.int .i64 r):=by simp only[World.cell?,hn];rfl
 have e1: ((W2.alloc (.cells #[.int .i64 r,.int .i64 s] 3)).drew).cell? ⟨W.heap.size+1+1,1,none⟩=some (.int .i64 s):=by simp only[World.cell?,hn];rfl
 have ho:=abt _ _ _ _ e0 e1
 rw[←iO] at ho
 refine ho.mono ?_
 clear iO ho
 rintro e w' ⟨rfl,rfl⟩
 refine hK _ _ ?_
 clear hK K
 refine wpList_step (fun K hK=> ?_)
 go_simp
 refine hK _ _ ?_
 clear hK K
 refine wpList_nil ?_
 rename_i MK
 refine MK _ _ ?_
 go_wp2
 go_ret
 obtain⟨Mn,rfl⟩:=wJ
 exact⟨rfl,1,_,by rw[alloc_eq_grow,grow_grow];rfl⟩
end Go.Proofs
set_option maxRecDepth 100000
namespace Go.AM
open Go Go.RowKit Go.Proofs Go.Shelf
def Ci:Ren:=⟨fun| 53=>31| 64=>77| 63=>76| 78=>125| 79=>126| 70=>116| 71=>117| 72=>118| 73=>119| 74=>120| 75=>121| 59=>122| 76=>123| 77=>124| 88=>173| 89=>174| 90=>175| 91=>176| 92=>177| 68=>135| 96=>243| n=>n,fun| 22=>49| 23=>3| 3=>3| 51=>161| 0=>0| 67=>23| 69=>205| 4=>4| 61=>197| 60=>196| 44=>82| 5=>5| 9=>9| 75=>233| 79=>237| 83=>306| 84=>181| n=>n,fun| n=>n⟩
theorem abw:SlLaysN.n53 Tryz.prog Ci:=by
 constructor<;>first| kernel_rfl| exact uM afW afW | (intro w;rfl)
def Ab:Ren:=⟨fun| 6=>190| 15=>77| 14=>259| 28=>125| 29=>126| 20=>291| 21=>292| 22=>293| 23=>294| 24=>295| 25=>296| 26=>297| 27=>298| 46=>328| 47=>174| 48=>175| 49=>329| 50=>330| 57=>343| n=>n,fun| 22=>250| 24=>251| 25=>253| 3=>3| 39=>161| 0=>0| 53=>23| 55=>205| 4=>4| 46=>197| 45=>196| 50=>82| 5=>5| 9=>9| 66=>233| 70=>237| 76=>306| 77=>181| n=>n,fun| n=>n⟩
theorem WZ:SlLaysF0.n6 Tryz.prog Ab:=by
 constructor<;>first| kernel_rfl| exact uM afW afW | (intro w;rfl)
def Ac:Ren:=⟨fun| 6=>218| 15=>77| 14=>271| 28=>125| 29=>126| 20=>220| 21=>303| 22=>304| 23=>305| 24=>306| 25=>307| 26=>308| 27=>309| 46=>331| 47=>174| 48=>175| 49=>332| 50=>333| 57=>344| n=>n,fun| 22=>51| 24=>55| 25=>167| 3=>3| 39=>161| 0=>0| 53=>23| 55=>205| 4=>4| 46=>197| 45=>196| 50=>82| 5=>5| 9=>9| 66=>233| 70=>237| 76=>306| 77=>181| n=>n,fun| n=>n⟩
theorem W4:SlLaysF0.n6 Tryz.prog Ac:=by
 constructor<;>first| kernel_rfl| exact uM afW afW | (intro w;rfl)
def Ad:Ren:=⟨fun| 6=>321| 15=>77| 14=>342| 28=>125| 29=>126| 20=>348| 21=>349| 22=>350| 23=>351| 24=>352| 25=>353| 26=>354| 27=>355| 46=>359| 47=>174| 48=>175| 49=>360| 50=>361| 57=>363| n=>n,fun| 22=>39| 24=>43| 25=>249| 3=>3| 39=>161| 0=>0| 53=>23| 55=>205| 4=>4| 46=>197| 45=>196| 50=>82| 5=>5| 9=>9| 66=>233| 70=>237| 76=>306| 77=>181| n=>n,fun| n=>n⟩
theorem W5:SlLaysF0.n6 Tryz.prog Ad:=by
 constructor<;>first| kernel_rfl| exact uM afW afW | (intro w;rfl)
theorem afj:iD X0 Tryz.f53 2 8278675785407:=⟨⟨_,_,_,_,_,_,_,_,rfl,afW,afW,⟨.agg [.int .i64 0,.int .i64 0],afW,afV,afW⟩,⟨_,_,_,43,rfl,afW,rfl,rfl,rfl,afW⟩⟩,rfl,afV⟩
theorem afk:iD X0 Tryz.f70 4 2872193639704:=⟨⟨_,_,_,_,_,_,_,_,rfl,afW,afW,⟨.agg [.int .i64 0,.nils,.int .i64 0,.int .i64 0],afW,afV,afW⟩,⟨_,_,_,100,rfl,afW,rfl,rfl,rfl,afW⟩⟩,rfl,afV⟩
theorem afl:iD X0 Tryz.f71 5 2469078742875:=⟨⟨_,_,_,_,_,_,_,_,rfl,afW,afW,⟨.agg [.int .i64 0,.str [],.str [],.int .i64 0,.int .i64 0],afW,afV,afW⟩,⟨_,_,_,38,rfl,afW,rfl,rfl,rfl,afW⟩⟩,rfl,afV⟩
theorem afm:iD X0 Tryz.f72 8 1450901941607:=⟨⟨_,_,_,_,_,_,_,_,rfl,afW,afW,⟨.agg [.int .i64 0,.nils,.int .i64 0,.str [],.str [],.bool false,.int .i64 0,.int .i64 0],afW,afV,afW⟩,⟨_,_,_,41,rfl,afW,rfl,rfl,rfl,afW⟩⟩,rfl,afV⟩
theorem afn:iD X0 Tryz.f73 7 1927910799188:=⟨⟨_,_,_,_,_,_,_,_,rfl,afW,afW,⟨.agg [.int .i64 0,.int .i64 0,.int .i64 0,.str [],.str [],.int .i64 0,.int .i64 0],afW,afV,afW⟩,⟨_,_,_,45,rfl,afW,rfl,rfl,rfl,afW⟩⟩,rfl,afV⟩
theorem abx:iD X0 Tryz.f197 1 15637498705947:=⟨⟨_,_,_,_,_,_,_,_,rfl,afW,afW,⟨.int .i64 0,afW,afV,afW⟩,⟨_,_,_,3,rfl,afW,rfl,rfl,rfl,afW⟩⟩,rfl,afV⟩
theorem qp:gM rA=true:=afW
theorem UP:gM (Jm.map (·.2))=true:=afW
theorem TC {g:Nat} {h:Hints} {fn:Func} {c:CF h fn} (h2:X0.P.funcs[rA.idxOf g]? =some fn:=by kernel_rfl) (h1:X0.fo (rA.idxOf g)=some g:=by kernel_rfl) (h3: (fn.name== "runtime.NumGoroutine")=false:=by kernel_rfl) (h4: ∃c,fn.body=some c:=by exact⟨_,rfl⟩) (h6:c.1.nparams≤fn.ntmps:=by decide+kernel):IW X0 g c.1:=
 h4.elim fun d h4=> ⟨rA.idxOf g,fn,h,d,h1,h2,h3,h4,c.2,h6⟩
theorem TD:j7 X0 Nn:=by
 repeat' (first| exact trivial| exact TC| refine And.intro ?_ ?_)
theorem Ae: ∀t1 t2 k,X0.pP t1=some k→X0.pP t2=some k→t1=t2:=(QD (P:=Tryz.prog) (fl:=rA) (tl:=Jm) (tab:=[]) (ext:=[]) (hyb:=[]) (iter:=[]) qp UP afW trivial trivial trivial trivial).inj
theorem W6 {args:List V} {res:eL} (h:lu 5 545 (U5 2 4) args=some res):bG X0 190 args res:=qt (X:=X0) (F:=190) (ρ:=Ab) WZ rfl Tryz.func190 afW rfl (fun _=>rfl) (fun _=>rfl) (xK 2 4) (fun _ h=>fJ (l:=rA) qp h (j:=191) rfl) (WY Tryz.func191 afW rfl) (fun _ _ _=>abv _ _ _ _ _ _ _ _ _ _ _) h
theorem W7 {args:List V} {res:eL} (h:lu 5 26 (by1 2) args=some res):bG X0 218 args res:=qt (X:=X0) (F:=218) (ρ:=Ac) W4 rfl Tryz.func218 afW rfl (fun _=>rfl) (fun _=>rfl) (Js 2) (fun _ h=>fJ (l:=rA) qp h (j:=219) rfl) (WY Tryz.func219 afW rfl) (fun _ _ _=>abq _ _ _ _ _ _ _ _ _ _ _) h
theorem W8 {args:List V} {res:eL} (h:lu 2 254 (U5 0 1) args=some res):bG X0 321 args res:=qt (X:=X0) (F:=321) (ρ:=Ad) W5 rfl Tryz.func321 afW rfl (fun _=>rfl) (fun _=>rfl) (xK 0 1) (fun _ h=>fJ (l:=rA) qp h (j:=322) rfl) (WY Tryz.func322 afW rfl) (fun _ _ _=>abu _ _ _ _ _) h
theorem QJ:qn X0 No:=⟨⟨53,rfl,fun _ _ h=>iJ Ae Tryz.func53 afW afj h⟩,
 ⟨70,rfl,fun _ _ h=>iJ Ae Tryz.func70 afW afk h⟩,
 ⟨71,rfl,fun _ _ h=>iJ Ae Tryz.func71 afW afl h⟩,
 ⟨72,rfl,fun _ _ h=>iJ Ae Tryz.func72 afW afm h⟩,
 ⟨73,rfl,fun _ _ h=>iJ Ae Tryz.func73 afW afn h⟩,
 ⟨197,rfl,fun _ _ h=>iJ Ae Tryz.func197 afW abx h⟩,
 ⟨290,rfl,fun _ _ h=>IU Tryz.func290 afW afW afW rfl h⟩,
 ⟨31,rfl,fun _ _ h=>I3 (X:=X0) (F:=31) (ρ:=Ci) abw rfl Tryz.func31 afW rfl h⟩,⟨190,rfl,fun _ _ h=>W6 h⟩,⟨218,rfl,fun _ _ h=>W7 h⟩,⟨321,rfl,fun _ _ h=>W8 h⟩,trivial⟩
theorem Mo:mK X0 Jl:=⟨Fz _ _ 221 rfl,FD _ _ 564 rfl,FH _ _ 765 rfl,trivial⟩
theorem TE:BX X0 Tryz.f20:=⟨⟨_,_,_,_,_,_,_,_,_,_,_,_,_,rfl,afW,afW,afW,afW,afW,afW,afW,rfl,rfl,fun c h=>by simp at h,fun a w=>by show Sem.run Tryz.prog _ _=_;simp[execOp,go_sem]⟩,afW,rfl⟩
theorem QK:qo X0 [(622,Je)]:=⟨⟨20,rfl,fun C hC args res h=>LN rfl afW Ae TE rfl rfl hC h⟩,trivial⟩
theorem W9:IX X0 [(706,AZ),(707,AY)]:=⟨⟨28,rfl,QL Cj GI QM afW⟩,⟨29,rfl,QN Cj GI afW⟩,trivial⟩
theorem abm:vN X0 E:=Cg (P:=Tryz.prog) (fl:=rA) (tl:=Jm) qp UP afW TD QJ QK Mo W9
end Go.AM
