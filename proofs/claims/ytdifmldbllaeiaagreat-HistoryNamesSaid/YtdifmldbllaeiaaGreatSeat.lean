/- Texts of the proof. -/
import Derived.Test.YtdifmldbllaeiaaGreatSx
import Derived.Test.YtdifmldbllaeiaaGreatIt
import Derived.Test.YtdifmldbllaeiaaGreatMl
import Derived.Shelf.SlicesG.Cmp
import Derived.StillTailTactics
import Derived.WalkKit
import Derived.Tactics
import Derived.Tactics2
import Derived.RangeFuncRecord
import Derived.Test.YtdifmldbllaeiaaGreatProg
import Derived.Test.YtdifmldbllaeiaaGreatRows
set_option maxHeartbeats 4000000
set_option linter.unusedSimpArgs false
set_option linter.unusedVariables false
set_option maxRecDepth 100000
namespace Go.Proofs
open Go.Shelf Go.RowKit Go.Lib Go.Sort Go.AM
theorem xA {P:Program} {f:FuncId} {b:Func} (h1: ((((P.funcs[f]?).map (·.name)).getD "")== "runtime.NumGoroutine")=false) (h2:P.funcs[f]? =some {b with name:=((P.funcs[f]?).map (·.name)).getD ""}):Bears P f b:=⟨_,h1,h2⟩
theorem aaN {P:Program} {F:FuncId} {fn:Func} {a:Code} (b:P.funcs[F]? =some fn) (c: (fn.name== "runtime.NumGoroutine")=false) (hb:fn.body=some a) (args:Array Value) (w:World): (callFunc F args).run P w= .ok (.enter F args) w:=by simp[callFunc,Sem.run_bind,program,Sem.run,b,hb];simpa using c
def aeP:Go.Shelf.Ren:=⟨fun| 5=>79| 7=>135| n=>n,fun| 22=>3| n=>n,fun| n=>n⟩
theorem aeQ:SlLaysC2.n5 Tryz.prog aeP:=by constructor<;>first| kernel_rfl| exact xA ajn ajn | (intro w;rfl)
theorem JD (x y:Int) (w:World):Calls Tryz.prog 79 #[.int .i64 x,.int .i64 y] w fun e w'=>e= .returned (.int .i64 (compareInt x y))/\w'=w:=AnyG.cmp_Compare_int aeQ x y w
theorem aeR (a b c d e a' b' c' d' e':Int) (W:World):Calls Tryz.prog 219 #[.agg #[.int .i64 a,.int .i64 b,.int .i64 c,.int .i64 d,.int .i64 e],.agg #[.int .i64 a',.int .i64 b',.int .i64 c',.int .i64 d',.int .i64 e']] W fun e w'=>e= .returned (.int .i64 (compareInt c c'))/\ ∃q PS,w'=grow (W.drewN q) PS:=by
 have f:=fun W'=>JD c c' W';generalize compareInt c c'=r at f ⊢
 go_enter Tryz.func219,Tryz.ntmps219
 go_wp2_with (go_at_call 79;refine(f _).mono ?_;rintro e w' ⟨rfl,rfl⟩)
 go_ret
 exact⟨rfl,0,_,by rw[alloc_eq_grow,alloc_eq_grow,grow_grow];rfl⟩
theorem aeT (B:Nat) (x y:Int) (W:World) (h0:W.cell? ⟨B,0,none⟩=some (.int .i64 x)) (h1:W.cell? ⟨B,1,none⟩=some (.int .i64 y)):Calls Tryz.prog 159 #[.slice (some ⟨B,0,none⟩) 2 2] W fun e w'=>e= .returned (.int .i64 (if x=0 then y else x))/\w'=W:=by
 go_enter Tryz.func159,Tryz.ntmps159
 go_wp2
 by_cases hx:x=0
 .subst hx;refine wp_loop_rounds 3 ?_;rw[rounds_succ]
  go_wp2
  rw[rounds_succ];by_cases hy:y=0
  .subst hy
   go_wp2
   rw[rounds_succ]
   go_wp2
   go_ret
   exact⟨rfl,rfl⟩
  go_wp2
  go_ret
  exact⟨ajl,rfl⟩
 refine wp_loop_rounds 3 ?_;rw[rounds_succ]
 go_wp2
 go_ret
 exact⟨by simp[hx],rfl⟩
theorem aeU (a b a' b':Int) (W:World):Calls Tryz.prog 322 #[.agg #[.int .i64 a,.int .i64 b],.agg #[.int .i64 a',.int .i64 b']] W fun e w'=>e= .returned (.int .i64 (if compareInt a a'=0 then compareInt b b' else compareInt a a'))/\ ∃q PS,w'=grow (W.drewN q) PS:=by
 have g:=fun W'=>JD a a' W';have h:=fun W'=>JD b b' W';generalize compareInt a a'=r at g ⊢;generalize compareInt b b'=s at h ⊢;obtain⟨res,d⟩: ∃res,res=if r=0 then s else r:=⟨_,rfl⟩;rw[<-d];have F7:Tryz.prog.follows .mixedOrders=true:=ajn
 go_enter Tryz.func322,Tryz.ntmps322
 go_wp2
 obtain⟨W2,GR⟩: ∃W2,W2=(W.alloc (.cells #[.int .i64 a,.int .i64 b] 43)).alloc (.cells #[.int .i64 a',.int .i64 b'] 43):=⟨_,rfl⟩;have bM:W2.heap.size=W.heap.size+1+1:=by rw[GR,World.size_alloc,World.size_alloc]
 have k:W2.cell? ⟨W.heap.size,0,none⟩=some (.int .i64 a):=by rw[GR];go_simp
 have l:W2.cell? ⟨W.heap.size,1,none⟩=some (.int .i64 b):=by rw[GR];go_simp
 have m:W2.cell? ⟨W.heap.size+1,0,none⟩=some (.int .i64 a'):=by rw[GR];go_simp
 have n:W2.cell? ⟨W.heap.size+1,1,none⟩=some (.int .i64 b'):=by rw[GR];go_simp
 have i: ∃PS,W2=grow W PS:=⟨_,by rw[GR,alloc_eq_grow,alloc_eq_grow,grow_grow]⟩;rw[<-GR];clear GR;refine wp_region_still_tail 10 F7 ajn ?_;simp only[akn,akR,alF,List.drop_zero];change wpStill _ _ (World.drew W2) (fun a'=>wpList _ _ _ _ a' (World.drew W2)) _ _
 iterate 4 still_step
 still_call (g _)
 iterate 4 still_step
 still_call (h _)
 refine wpStill_nil ?_;refine wpList_step (fun K c=> ?_)
 go_simp
 refine c _ _ ?_;clear c K;refine wpList_step (fun K c=> ?_)
 go_simp
 have hn: ((W2.alloc (.cells #[.int .i64 r,.int .i64 s] 3)).drew).heap[W.heap.size+1+1]? =some (.cells #[.int .i64 r,.int .i64 s] 3):=by rw[<-bM];exact World.alloc_heap_new _ _
 have e0: ((W2.alloc (.cells #[.int .i64 r,.int .i64 s] 3)).drew).cell? ⟨W.heap.size+1+1,0,none⟩=some (.int .i64 r):=by simp only[World.cell?,hn];rfl
 have j: ((W2.alloc (.cells #[.int .i64 r,.int .i64 s] 3)).drew).cell? ⟨W.heap.size+1+1,1,none⟩=some (.int .i64 s):=by simp only[World.cell?,hn];rfl
 have f:=aeT _ _ _ _ e0 j;rw[<-d] at f;refine f.mono ?_;clear d f;rintro e w' ⟨rfl,rfl⟩;refine c _ _ ?_;clear c K;refine wpList_step (fun K c=> ?_)
 go_simp
 refine c _ _ ?_;clear c K;refine wpList_nil ?_;rename_i Qf;refine Qf _ _ ?_
 go_wp2
 go_ret
 obtain⟨PS,rfl⟩:=i;exact⟨rfl,1,_,by rw[alloc_eq_grow,grow_grow];rfl⟩
theorem aeV (x0 x1 a x3 b g h a' i b':Int) (W:World):Calls Tryz.prog 191 #[.agg #[.int .i64 x0,.int .i64 x1,.int .i64 a,.int .i64 x3,.int .i64 b],.agg #[.int .i64 g,.int .i64 h,.int .i64 a',.int .i64 i,.int .i64 b']] W fun e w'=>e= .returned (.int .i64 (if compareInt a a'=0 then compareInt b b' else compareInt a a'))/\ ∃q PS,w'=grow (W.drewN q) PS:=by
 have j:=fun W'=>JD a a' W';have k:=fun W'=>JD b b' W';generalize compareInt a a'=r at j ⊢;generalize compareInt b b'=s at k ⊢;obtain⟨res,d⟩: ∃res,res=if r=0 then s else r:=⟨_,rfl⟩;rw[<-d];have F7:Tryz.prog.follows .mixedOrders=true:=ajn
 go_enter Tryz.func191,Tryz.ntmps191
 go_wp2
 obtain⟨W2,GR⟩: ∃W2,W2=(W.alloc (.cells #[.int .i64 x0,.int .i64 x1,.int .i64 a,.int .i64 x3,.int .i64 b] 251)).alloc (.cells #[.int .i64 g,.int .i64 h,.int .i64 a',.int .i64 i,.int .i64 b'] 251):=⟨_,rfl⟩;have bM:W2.heap.size=W.heap.size+1+1:=by rw[GR,World.size_alloc,World.size_alloc]
 have n:W2.cell? ⟨W.heap.size,2,none⟩=some (.int .i64 a):=by rw[GR];go_simp
 have o:W2.cell? ⟨W.heap.size,4,none⟩=some (.int .i64 b):=by rw[GR];go_simp
 have p:W2.cell? ⟨W.heap.size+1,2,none⟩=some (.int .i64 a'):=by rw[GR];go_simp
 have t:W2.cell? ⟨W.heap.size+1,4,none⟩=some (.int .i64 b'):=by rw[GR];go_simp
 have l: ∃PS,W2=grow W PS:=⟨_,by rw[GR,alloc_eq_grow,alloc_eq_grow,grow_grow]⟩;rw[<-GR];clear GR;refine wp_region_still_tail 10 F7 ajn ?_;simp only[akn,akR,alF,List.drop_zero];change wpStill _ _ (World.drew W2) (fun a'=>wpList _ _ _ _ a' (World.drew W2)) _ _
 iterate 4 still_step
 still_call (j _)
 iterate 4 still_step
 still_call (k _)
 refine wpStill_nil ?_;refine wpList_step (fun K c=> ?_)
 go_simp
 refine c _ _ ?_;clear c K;refine wpList_step (fun K c=> ?_)
 go_simp
 have hn: ((W2.alloc (.cells #[.int .i64 r,.int .i64 s] 3)).drew).heap[W.heap.size+1+1]? =some (.cells #[.int .i64 r,.int .i64 s] 3):=by rw[<-bM];exact World.alloc_heap_new _ _
 have e0: ((W2.alloc (.cells #[.int .i64 r,.int .i64 s] 3)).drew).cell? ⟨W.heap.size+1+1,0,none⟩=some (.int .i64 r):=by simp only[World.cell?,hn];rfl
 have m: ((W2.alloc (.cells #[.int .i64 r,.int .i64 s] 3)).drew).cell? ⟨W.heap.size+1+1,1,none⟩=some (.int .i64 s):=by simp only[World.cell?,hn];rfl
 have f:=aeT _ _ _ _ e0 m;rw[<-d] at f;refine f.mono ?_;clear d f;rintro e w' ⟨rfl,rfl⟩;refine c _ _ ?_;clear c K;refine wpList_step (fun K c=> ?_)
 go_simp
 refine c _ _ ?_;clear c K;refine wpList_nil ?_;rename_i Qf;refine Qf _ _ ?_
 go_wp2
 go_ret
 obtain⟨PS,rfl⟩:=l;exact⟨rfl,1,_,by rw[alloc_eq_grow,grow_grow];rfl⟩
end Go.Proofs
set_option maxRecDepth 100000
namespace Go.AM
open Go Go.RowKit Go.Proofs Go.Shelf
def E4:Ren:=⟨fun| 53=>31| 64=>77| 63=>76| 78=>125| 79=>126| 70=>116| 71=>117| 72=>118| 73=>119| 74=>120| 75=>121| 59=>122| 76=>123| 77=>124| 88=>173| 89=>174| 90=>175| 91=>176| 92=>177| 68=>135| 96=>243| n=>n,fun| 22=>49| 23=>3| 3=>3| 51=>161| 0=>0| 67=>23| 69=>205| 4=>4| 61=>197| 60=>196| 44=>82| 5=>5| 9=>9| 75=>233| 79=>237| 83=>306| 84=>181| n=>n,fun| n=>n⟩
theorem aeW:SlLaysN.n53 Tryz.prog E4:=by constructor<;>first| kernel_rfl| exact xA ajn ajn | (intro w;rfl)
def CN:Ren:=⟨fun| 6=>190| 15=>77| 14=>259| 28=>125| 29=>126| 20=>291| 21=>292| 22=>293| 23=>294| 24=>295| 25=>296| 26=>297| 27=>298| 46=>328| 47=>174| 48=>175| 49=>329| 50=>330| 57=>343| n=>n,fun| 22=>250| 24=>251| 25=>253| 3=>3| 39=>161| 0=>0| 53=>23| 55=>205| 4=>4| 46=>197| 45=>196| 50=>82| 5=>5| 9=>9| 66=>233| 70=>237| 76=>306| 77=>181| n=>n,fun| n=>n⟩
theorem aaO:SlLaysF0.n6 Tryz.prog CN:=by constructor<;>first| kernel_rfl| exact xA ajn ajn | (intro w;rfl)
def CO:Ren:=⟨fun| 6=>218| 15=>77| 14=>271| 28=>125| 29=>126| 20=>220| 21=>303| 22=>304| 23=>305| 24=>306| 25=>307| 26=>308| 27=>309| 46=>331| 47=>174| 48=>175| 49=>332| 50=>333| 57=>344| n=>n,fun| 22=>51| 24=>55| 25=>167| 3=>3| 39=>161| 0=>0| 53=>23| 55=>205| 4=>4| 46=>197| 45=>196| 50=>82| 5=>5| 9=>9| 66=>233| 70=>237| 76=>306| 77=>181| n=>n,fun| n=>n⟩
theorem aaP:SlLaysF0.n6 Tryz.prog CO:=by constructor<;>first| kernel_rfl| exact xA ajn ajn | (intro w;rfl)
def CP:Ren:=⟨fun| 6=>321| 15=>77| 14=>342| 28=>125| 29=>126| 20=>348| 21=>349| 22=>350| 23=>351| 24=>352| 25=>353| 26=>354| 27=>355| 46=>359| 47=>174| 48=>175| 49=>360| 50=>361| 57=>363| n=>n,fun| 22=>39| 24=>43| 25=>249| 3=>3| 39=>161| 0=>0| 53=>23| 55=>205| 4=>4| 46=>197| 45=>196| 50=>82| 5=>5| 9=>9| 66=>233| 70=>237| 76=>306| 77=>181| n=>n,fun| n=>n⟩
theorem aaQ:SlLaysF0.n6 Tryz.prog CP:=by constructor<;>first| kernel_rfl| exact xA ajn ajn | (intro w;rfl)
theorem aiG:jy X0 Tryz.f53 2 8278675785407:=⟨⟨_,_,_,_,_,_,_,_,rfl,ajn,ajn,⟨.agg [.int .i64 0,.int .i64 0],ajn,ajm,ajn⟩,⟨_,_,_,43,rfl,ajn,rfl,rfl,rfl,ajn⟩⟩,rfl,ajm⟩
theorem aiH:jy X0 Tryz.f70 4 2872193639704:=⟨⟨_,_,_,_,_,_,_,_,rfl,ajn,ajn,⟨.agg [.int .i64 0,.nils,.int .i64 0,.int .i64 0],ajn,ajm,ajn⟩,⟨_,_,_,100,rfl,ajn,rfl,rfl,rfl,ajn⟩⟩,rfl,ajm⟩
theorem aiI:jy X0 Tryz.f71 5 2469078742875:=⟨⟨_,_,_,_,_,_,_,_,rfl,ajn,ajn,⟨.agg [.int .i64 0,.str [],.str [],.int .i64 0,.int .i64 0],ajn,ajm,ajn⟩,⟨_,_,_,38,rfl,ajn,rfl,rfl,rfl,ajn⟩⟩,rfl,ajm⟩
theorem aiJ:jy X0 Tryz.f72 8 1450901941607:=⟨⟨_,_,_,_,_,_,_,_,rfl,ajn,ajn,⟨.agg [.int .i64 0,.nils,.int .i64 0,.str [],.str [],.bool false,.int .i64 0,.int .i64 0],ajn,ajm,ajn⟩,⟨_,_,_,41,rfl,ajn,rfl,rfl,rfl,ajn⟩⟩,rfl,ajm⟩
theorem aiK:jy X0 Tryz.f73 7 1927910799188:=⟨⟨_,_,_,_,_,_,_,_,rfl,ajn,ajn,⟨.agg [.int .i64 0,.int .i64 0,.int .i64 0,.str [],.str [],.int .i64 0,.int .i64 0],ajn,ajm,ajn⟩,⟨_,_,_,45,rfl,ajn,rfl,rfl,rfl,ajn⟩⟩,rfl,ajm⟩
theorem aeX:jy X0 Tryz.f197 1 15637498705947:=⟨⟨_,_,_,_,_,_,_,_,rfl,ajn,ajn,⟨.int .i64 0,ajn,ajm,ajn⟩,⟨_,_,_,3,rfl,ajn,rfl,rfl,rfl,ajn⟩⟩,rfl,ajm⟩
theorem sL:iT ua=true:=ajn
theorem YJ:iT (Ms.map (·.2))=true:=ajn
theorem XH {g:Nat} {h:Hints} {fn:Func} {c:CF h fn} (h2:X0.P.funcs[ua.idxOf g]? =some fn:=by kernel_rfl) (h1:X0.gA (ua.idxOf g)=some g:=by kernel_rfl) (h3: (fn.name== "runtime.NumGoroutine")=false:=by kernel_rfl) (h4: ∃c,fn.body=some c:=by exact⟨_,rfl⟩) (h6:c.1.nparams<=fn.ntmps:=by decide+kernel):L4 X0 g c.1:=
 h4.elim fun d h4=> ⟨ua.idxOf g,fn,h,d,h1,h2,h3,h4,c.2,h6⟩
theorem XI:lD X0 QO:=by
 repeat' (first| exact trivial| exact XH| refine And.intro ?_ ?_)
theorem CQ: ∀t1 t2 k,X0.r5 t1=some k->X0.r5 t2=some k->t1=t2:=(UA (P:=Tryz.prog) (fl:=ua) (tl:=Ms) (tab:=[]) (ext:=[]) (hyb:=[]) (iter:=[]) sL YJ ajn trivial trivial trivial trivial).inj
theorem aaR {args:List V} {res:fu} (h:rz 5 545 (P4 2 4) args=some res):bL X0 190 args res:=sN (X:=X0) (F:=190) (ρ:=CN) aaO rfl Tryz.func190 ajn rfl (fun _=>rfl) (fun _=>rfl) (Av 2 4) (fun _ h=>gS (l:=ua) sL h (j:=191) rfl) (aaN Tryz.func191 ajn rfl) (fun _ _ _=>aeV _ _ _ _ _ _ _ _ _ _ _) h
theorem aaS {args:List V} {res:fu} (h:rz 5 26 (by1 2) args=some res):bL X0 218 args res:=sN (X:=X0) (F:=218) (ρ:=CO) aaP rfl Tryz.func218 ajn rfl (fun _=>rfl) (fun _=>rfl) (XG 2) (fun _ h=>gS (l:=ua) sL h (j:=219) rfl) (aaN Tryz.func219 ajn rfl) (fun _ _ _=>aeR _ _ _ _ _ _ _ _ _ _ _) h
theorem aaT {args:List V} {res:fu} (h:rz 2 254 (P4 0 1) args=some res):bL X0 321 args res:=sN (X:=X0) (F:=321) (ρ:=CP) aaQ rfl Tryz.func321 ajn rfl (fun _=>rfl) (fun _=>rfl) (Av 0 1) (fun _ h=>gS (l:=ua) sL h (j:=322) rfl) (aaN Tryz.func322 ajn rfl) (fun _ _ _=>aeU _ _ _ _ _) h
theorem UI:sJ X0 QP:=⟨⟨53,rfl,fun _ _ h=>jE CQ Tryz.func53 ajn aiG h⟩,
 ⟨70,rfl,fun _ _ h=>jE CQ Tryz.func70 ajn aiH h⟩,
 ⟨71,rfl,fun _ _ h=>jE CQ Tryz.func71 ajn aiI h⟩,
 ⟨72,rfl,fun _ _ h=>jE CQ Tryz.func72 ajn aiJ h⟩,
 ⟨73,rfl,fun _ _ h=>jE CQ Tryz.func73 ajn aiK h⟩,
 ⟨197,rfl,fun _ _ h=>jE CQ Tryz.func197 ajn aeX h⟩,
 ⟨290,rfl,fun _ _ h=>L3 Tryz.func290 ajn ajn ajn rfl h⟩,
 ⟨31,rfl,fun _ _ h=>Ma (X:=X0) (F:=31) (ρ:=E4) aeW rfl Tryz.func31 ajn rfl h⟩,⟨190,rfl,fun _ _ h=>aaR h⟩,⟨218,rfl,fun _ _ h=>aaS h⟩,⟨321,rfl,fun _ _ h=>aaT h⟩,trivial⟩
theorem PT:oJ X0 Mr:=⟨Iz _ _ 221 rfl,ID _ _ 564 rfl,IH _ _ 765 rfl,trivial⟩
theorem XJ:EI X0 Tryz.f20:=⟨⟨_,_,_,_,_,_,_,_,_,_,_,_,_,rfl,ajn,ajn,ajn,ajn,ajn,ajn,ajn,rfl,rfl,fun c h=>by simp at h,fun a w=>by show Sem.run Tryz.prog _ _=_;simp[execOp,go_sem]⟩,ajn,rfl⟩
theorem UJ:sK X0 [(622,Mk)]:=⟨⟨20,rfl,fun C a args res h=>Pj rfl ajn CQ XJ rfl rfl a h⟩,trivial⟩
theorem aaU:L5 X0 [(706,DH),(707,DG)]:=⟨⟨28,rfl,UK E5 JE UL ajn⟩,⟨29,rfl,UM E5 JE ajn⟩,trivial⟩
theorem aeN:yQ X0 E:=E2 (P:=Tryz.prog) (fl:=ua) (tl:=Ms) sL YJ ajn XI UI UJ PT aaU
end Go.AM
