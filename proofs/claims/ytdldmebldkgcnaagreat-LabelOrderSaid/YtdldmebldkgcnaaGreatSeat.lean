/- Texts of the proof. -/
import Derived.Test.YtdldmebldkgcnaaGreatSx
import Derived.Test.YtdldmebldkgcnaaGreatIt
import Derived.Test.YtdldmebldkgcnaaGreatMl
import Derived.Shelf.SlicesG.Cmp
import Derived.StillTailTactics
import Derived.WalkKit
import Derived.Tactics
import Derived.Tactics2
import Derived.RangeFuncRecord
import Derived.Test.YtdldmebldkgcnaaGreatProg
import Derived.Test.YtdldmebldkgcnaaGreatRows
set_option maxHeartbeats 4000000
set_option linter.unusedSimpArgs false
set_option linter.unusedVariables false
set_option maxRecDepth 100000
namespace Go.Proofs
open Go.Shelf Go.RowKit Go.Lib Go.Sort Go.AM
theorem wA {P:Program} {f:FuncId} {b:Func} (h1: ((((P.funcs[f]?).map (·.name)).getD "")== "runtime.NumGoroutine")=false) (h2:P.funcs[f]? =some {b with name:=((P.funcs[f]?).map (·.name)).getD ""}):Bears P f b:=⟨_,h1,h2⟩
theorem aat {P:Program} {F:FuncId} {fn:Func} {cd:Code} (mS:P.funcs[F]? =some fn) (iu: (fn.name== "runtime.NumGoroutine")=false) (hb:fn.body=some cd) (args:Array Value) (w:World): (callFunc F args).run P w= .ok (.enter F args) w:=by
 simp[callFunc,Sem.run_bind,program,Sem.run,mS,hb]
 simpa using iu
def ad3:Go.Shelf.Ren:=⟨fun| 5=>70| 7=>88| n=>n,fun| 22=>3| n=>n,fun| n=>n⟩
theorem ad4:SlLaysC2.n5 Tryz.prog ad3:=by
 constructor<;>first| kernel_rfl| exact wA aiQ aiQ | (intro w;rfl)
theorem Jc (x y:Int) (w:World):Calls Tryz.prog 70 #[.int .i64 x,.int .i64 y] w fun e w'=>e= .returned (.int .i64 (compareInt x y))∧w'=w:=AnyG.cmp_Compare_int ad4 x y w
theorem ad5 (a b c d e a' b' c' d' e':Int) (W:World):Calls Tryz.prog 193 #[.agg #[.int .i64 a,.int .i64 b,.int .i64 c,.int .i64 d,.int .i64 e],.agg #[.int .i64 a',.int .i64 b',.int .i64 c',.int .i64 d',.int .i64 e']] W fun e w'=>e= .returned (.int .i64 (compareInt c c'))∧ ∃q PB,w'=grow (W.drewN q) PB:=by
 have ad6:=fun W'=>Jc c c' W'
 generalize compareInt c c'=r at ad6 ⊢
 go_enter Tryz.func193,Tryz.ntmps193
 go_wp2_with (go_at_call 70;refine(ad6 _).mono ?_;rintro e w' ⟨rfl,rfl⟩)
 go_ret
 exact⟨rfl,0,_,by rw[alloc_eq_grow,alloc_eq_grow,grow_grow];rfl⟩
theorem ad7 (B:Nat) (x y:Int) (W:World) (h0:W.cell? ⟨B,0,none⟩=some (.int .i64 x)) (h1:W.cell? ⟨B,1,none⟩=some (.int .i64 y)):Calls Tryz.prog 69 #[.slice (some ⟨B,0,none⟩) 2 2] W fun e w'=>e= .returned (.int .i64 (if x=0 then y else x))∧w'=W:=by
 go_enter Tryz.func69,Tryz.ntmps69
 go_wp2
 by_cases hx:x=0
 ·subst hx
  refine wp_loop_rounds 3 ?_
  rw[rounds_succ]
  go_wp2
  rw[rounds_succ]
  by_cases hy:y=0
  ·subst hy
   go_wp2
   rw[rounds_succ]
   go_wp2
   go_ret
   exact⟨rfl,rfl⟩
  ·go_wp2
   go_ret
   exact⟨abW,rfl⟩
 ·refine wp_loop_rounds 3 ?_
  rw[rounds_succ]
  go_wp2
  go_ret
  exact⟨by simp[hx],rfl⟩
theorem ad8 (a b a' b':Int) (W:World):Calls Tryz.prog 262 #[.agg #[.int .i64 a,.int .i64 b],.agg #[.int .i64 a',.int .i64 b']] W fun e w'=>e= .returned (.int .i64 (if compareInt a a'=0 then compareInt b b' else compareInt a a'))∧ ∃q PB,w'=grow (W.drewN q) PB:=by
 have rQ:=fun W'=>Jc a a' W'
 have u5:=fun W'=>Jc b b' W'
 generalize compareInt a a'=r at rQ ⊢
 generalize compareInt b b'=s at u5 ⊢
 obtain⟨res,jj⟩: ∃res,res=if r=0 then s else r:=⟨_,rfl⟩
 rw[←jj]
 have Jq:Tryz.prog.follows .mixedOrders=true:=aiQ
 go_enter Tryz.func262,Tryz.ntmps262
 go_wp2
 obtain⟨W2,zg⟩: ∃W2,W2=(W.alloc (.cells #[.int .i64 a,.int .i64 b] 42)).alloc (.cells #[.int .i64 a',.int .i64 b'] 42):=⟨_,rfl⟩
 have bI:W2.heap.size=W.heap.size+1+1:=by rw[zg,World.size_alloc,World.size_alloc]
 have p0:W2.cell? ⟨W.heap.size,0,none⟩=some (.int .i64 a):=by rw[zg];go_simp
 have p1:W2.cell? ⟨W.heap.size,1,none⟩=some (.int .i64 b):=by rw[zg];go_simp
 have q0:W2.cell? ⟨W.heap.size+1,0,none⟩=some (.int .i64 a'):=by rw[zg];go_simp
 have q1:W2.cell? ⟨W.heap.size+1,1,none⟩=some (.int .i64 b'):=by rw[zg];go_simp
 have yz: ∃PB,W2=grow W PB:=⟨_,by rw[zg,alloc_eq_grow,alloc_eq_grow,grow_grow]⟩
 rw[←zg]
 clear zg
 refine wp_region_still_tail 10 Jq aiQ ?_
 simp only[ajO,akq,akV,List.drop_zero]
 change wpStill _ _ (World.drew W2) (fun a'=>wpList _ _ _ _ a' (World.drew W2)) _ _
 iterate 4 still_step
 still_call (rQ _)
 iterate 4 still_step
 still_call (u5 _)
 refine wpStill_nil ?_
 refine wpList_step (fun K hK=> ?_)
 go_simp
 refine hK _ _ ?_
 clear hK K
 refine wpList_step (fun K hK=> ?_)
 go_simp
 have hn: ((W2.alloc (.cells #[.int .i64 r,.int .i64 s] 3)).drew).heap[W.heap.size+1+1]? =some (.cells #[.int .i64 r,.int .i64 s] 3):=by rw[←bI];exact World.alloc_heap_new _ _
 have e0: ((W2.alloc (.cells #[.int .i64 r,.int .i64 s] 3)).drew).cell? ⟨W.heap.size+1+1,0,none⟩=some (.int .i64 r):=by simp only[World.cell?,hn];rfl
 have e1: ((W2.alloc (.cells #[.int .i64 r,.int .i64 s] 3)).drew).cell? ⟨W.heap.size+1+1,1,none⟩=some (.int .i64 s):=by simp only[World.cell?,hn];rfl
 have ho:=ad7 _ _ _ _ e0 e1
 rw[←jj] at ho
 refine ho.mono ?_
 clear jj ho
 rintro e w' ⟨rfl,rfl⟩
 refine hK _ _ ?_
 clear hK K
 refine wpList_step (fun K hK=> ?_)
 go_simp
 refine hK _ _ ?_
 clear hK K
 refine wpList_nil ?_
 rename_i PW
 refine PW _ _ ?_
 go_wp2
 go_ret
 obtain⟨PB,rfl⟩:=yz
 exact⟨rfl,1,_,by rw[alloc_eq_grow,grow_grow];rfl⟩
theorem ad9 (x0 x1 a x3 b y0 y1 a' y3 b':Int) (W:World):Calls Tryz.prog 165 #[.agg #[.int .i64 x0,.int .i64 x1,.int .i64 a,.int .i64 x3,.int .i64 b],.agg #[.int .i64 y0,.int .i64 y1,.int .i64 a',.int .i64 y3,.int .i64 b']] W fun e w'=>e= .returned (.int .i64 (if compareInt a a'=0 then compareInt b b' else compareInt a a'))∧ ∃q PB,w'=grow (W.drewN q) PB:=by
 have rQ:=fun W'=>Jc a a' W'
 have u5:=fun W'=>Jc b b' W'
 generalize compareInt a a'=r at rQ ⊢
 generalize compareInt b b'=s at u5 ⊢
 obtain⟨res,jj⟩: ∃res,res=if r=0 then s else r:=⟨_,rfl⟩
 rw[←jj]
 have Jq:Tryz.prog.follows .mixedOrders=true:=aiQ
 go_enter Tryz.func165,Tryz.ntmps165
 go_wp2
 obtain⟨W2,zg⟩: ∃W2,W2=(W.alloc (.cells #[.int .i64 x0,.int .i64 x1,.int .i64 a,.int .i64 x3,.int .i64 b] 227)).alloc (.cells #[.int .i64 y0,.int .i64 y1,.int .i64 a',.int .i64 y3,.int .i64 b'] 227):=⟨_,rfl⟩
 have bI:W2.heap.size=W.heap.size+1+1:=by rw[zg,World.size_alloc,World.size_alloc]
 have p0:W2.cell? ⟨W.heap.size,2,none⟩=some (.int .i64 a):=by rw[zg];go_simp
 have p1:W2.cell? ⟨W.heap.size,4,none⟩=some (.int .i64 b):=by rw[zg];go_simp
 have q0:W2.cell? ⟨W.heap.size+1,2,none⟩=some (.int .i64 a'):=by rw[zg];go_simp
 have q1:W2.cell? ⟨W.heap.size+1,4,none⟩=some (.int .i64 b'):=by rw[zg];go_simp
 have yz: ∃PB,W2=grow W PB:=⟨_,by rw[zg,alloc_eq_grow,alloc_eq_grow,grow_grow]⟩
 rw[←zg]
 clear zg
 refine wp_region_still_tail 10 Jq aiQ ?_
 simp only[ajO,akq,akV,List.drop_zero]
 change wpStill _ _ (World.drew W2) (fun a'=>wpList _ _ _ _ a' (World.drew W2)) _ _
 iterate 4 still_step
 still_call (rQ _)
 iterate 4 still_step
 still_call (u5 _)
 refine wpStill_nil ?_
 refine wpList_step (fun K hK=> ?_)
 go_simp
 refine hK _ _ ?_
 clear hK K
 refine wpList_step (fun K hK=> ?_)
 go_simp
 have hn: ((W2.alloc (.cells #[.int .i64 r,.int .i64 s] 3)).drew).heap[W.heap.size+1+1]? =some (.cells #[.int .i64 r,.int .i64 s] 3):=by rw[←bI];exact World.alloc_heap_new _ _
 have e0: ((W2.alloc (.cells #[.int .i64 r,.int .i64 s] 3)).drew).cell? ⟨W.heap.size+1+1,0,none⟩=some (.int .i64 r):=by simp only[World.cell?,hn];rfl
 have e1: ((W2.alloc (.cells #[.int .i64 r,.int .i64 s] 3)).drew).cell? ⟨W.heap.size+1+1,1,none⟩=some (.int .i64 s):=by simp only[World.cell?,hn];rfl
 have ho:=ad7 _ _ _ _ e0 e1
 rw[←jj] at ho
 refine ho.mono ?_
 clear jj ho
 rintro e w' ⟨rfl,rfl⟩
 refine hK _ _ ?_
 clear hK K
 refine wpList_step (fun K hK=> ?_)
 go_simp
 refine hK _ _ ?_
 clear hK K
 refine wpList_nil ?_
 rename_i PW
 refine PW _ _ ?_
 go_wp2
 go_ret
 obtain⟨PB,rfl⟩:=yz
 exact⟨rfl,1,_,by rw[alloc_eq_grow,grow_grow];rfl⟩
end Go.Proofs
set_option maxRecDepth 100000
namespace Go.AM
open Go Go.RowKit Go.Proofs Go.Shelf
def Ex:Ren:=⟨fun| 53=>45| 64=>72| 63=>71| 78=>98| 79=>99| 70=>89| 71=>90| 72=>91| 73=>92| 74=>93| 75=>94| 59=>95| 76=>96| 77=>97| 88=>112| 89=>113| 90=>114| 91=>115| 92=>116| 68=>88| 96=>127| n=>n,fun| 22=>37| 23=>3| 3=>3| 51=>132| 0=>0| 67=>36| 69=>103| 4=>4| 61=>156| 60=>155| 44=>72| 5=>5| 9=>9| 75=>190| 79=>194| 83=>208| 84=>209| n=>n,fun| n=>n⟩
theorem aea:SlLaysN.n53 Tryz.prog Ex:=by
 constructor<;>first| kernel_rfl| exact wA aiQ aiQ | (intro w;rfl)
def Ca:Ren:=⟨fun| 6=>164| 15=>72| 14=>215| 28=>98| 29=>99| 20=>237| 21=>238| 22=>239| 23=>240| 24=>241| 25=>242| 26=>243| 27=>244| 46=>268| 47=>113| 48=>114| 49=>269| 50=>270| 57=>280| n=>n,fun| 22=>226| 24=>227| 25=>229| 3=>3| 39=>132| 0=>0| 53=>36| 55=>103| 4=>4| 46=>156| 45=>155| 50=>72| 5=>5| 9=>9| 66=>190| 70=>194| 76=>208| 77=>209| n=>n,fun| n=>n⟩
theorem aau:SlLaysF0.n6 Tryz.prog Ca:=by
 constructor<;>first| kernel_rfl| exact wA aiQ aiQ | (intro w;rfl)
def Cb:Ren:=⟨fun| 6=>192| 15=>72| 14=>227| 28=>98| 29=>99| 20=>194| 21=>250| 22=>251| 23=>252| 24=>253| 25=>254| 26=>255| 27=>256| 46=>275| 47=>113| 48=>114| 49=>276| 50=>277| 57=>283| n=>n,fun| 22=>48| 24=>52| 25=>199| 3=>3| 39=>132| 0=>0| 53=>36| 55=>103| 4=>4| 46=>156| 45=>155| 50=>72| 5=>5| 9=>9| 66=>190| 70=>194| 76=>208| 77=>209| n=>n,fun| n=>n⟩
theorem aav:SlLaysF0.n6 Tryz.prog Cb:=by
 constructor<;>first| kernel_rfl| exact wA aiQ aiQ | (intro w;rfl)
def Cc:Ren:=⟨fun| 6=>261| 15=>72| 14=>279| 28=>98| 29=>99| 20=>284| 21=>285| 22=>286| 23=>287| 24=>288| 25=>289| 26=>290| 27=>291| 46=>300| 47=>113| 48=>114| 49=>301| 50=>302| 57=>306| n=>n,fun| 22=>95| 24=>42| 25=>109| 3=>3| 39=>132| 0=>0| 53=>36| 55=>103| 4=>4| 46=>156| 45=>155| 50=>72| 5=>5| 9=>9| 66=>190| 70=>194| 76=>208| 77=>209| n=>n,fun| n=>n⟩
theorem aaw:SlLaysF0.n6 Tryz.prog Cc:=by
 constructor<;>first| kernel_rfl| exact wA aiQ aiQ | (intro w;rfl)
theorem ah8:iX X0 Tryz.f41 7 1927910799188:=⟨⟨_,_,_,_,_,_,_,_,rfl,aiQ,aiQ,⟨.agg [.int .i64 0,.int .i64 0,.int .i64 0,.str [],.str [],.int .i64 0,.int .i64 0],aiQ,aiO,aiQ⟩,⟨_,_,_,57,rfl,aiQ,rfl,rfl,rfl,aiQ⟩⟩,rfl,aiO⟩
theorem ah9:iX X0 Tryz.f159 4 2872193639704:=⟨⟨_,_,_,_,_,_,_,_,rfl,aiQ,aiQ,⟨.agg [.int .i64 0,.nils,.int .i64 0,.int .i64 0],aiQ,aiO,aiQ⟩,⟨_,_,_,145,rfl,aiQ,rfl,rfl,rfl,aiQ⟩⟩,rfl,aiO⟩
theorem aia:iX X0 Tryz.f160 5 2469078742875:=⟨⟨_,_,_,_,_,_,_,_,rfl,aiQ,aiQ,⟨.agg [.int .i64 0,.str [],.str [],.int .i64 0,.int .i64 0],aiQ,aiO,aiQ⟩,⟨_,_,_,86,rfl,aiQ,rfl,rfl,rfl,aiQ⟩⟩,rfl,aiO⟩
theorem aib:iX X0 Tryz.f161 8 1450901941607:=⟨⟨_,_,_,_,_,_,_,_,rfl,aiQ,aiQ,⟨.agg [.int .i64 0,.nils,.int .i64 0,.str [],.str [],.bool false,.int .i64 0,.int .i64 0],aiQ,aiO,aiQ⟩,⟨_,_,_,97,rfl,aiQ,rfl,rfl,rfl,aiQ⟩⟩,rfl,aiO⟩
theorem aic:iX X0 Tryz.f162 2 8278675785407:=⟨⟨_,_,_,_,_,_,_,_,rfl,aiQ,aiQ,⟨.agg [.int .i64 0,.int .i64 0],aiQ,aiO,aiQ⟩,⟨_,_,_,42,rfl,aiQ,rfl,rfl,rfl,aiQ⟩⟩,rfl,aiO⟩
theorem aeb:iX X0 Tryz.f171 1 15637498705947:=⟨⟨_,_,_,_,_,_,_,_,rfl,aiQ,aiQ,⟨.int .i64 0,aiQ,aiO,aiQ⟩,⟨_,_,_,3,rfl,aiQ,rfl,rfl,rfl,aiQ⟩⟩,rfl,aiO⟩
theorem rE:im sN=true:=aiQ
theorem X9:im (L6.map (·.2))=true:=aiQ
theorem WV {g:Nat} {h:Hints} {fn:Func} {c:CF h fn} (h2:X0.P.funcs[sN.idxOf g]? =some fn:=by kernel_rfl) (h1:X0.fH (sN.idxOf g)=some g:=by kernel_rfl) (h3: (fn.name== "runtime.NumGoroutine")=false:=by kernel_rfl) (h4: ∃c,fn.body=some c:=by exact⟨_,rfl⟩) (h6:c.1.nparams≤fn.ntmps:=by decide+kernel):LA X0 g c.1:=
 h4.elim fun d h4=> ⟨sN.idxOf g,fn,h,d,h1,h2,h3,h4,c.2,h6⟩
theorem WW:kI X0 Qw:=by
 repeat' (first| exact trivial| exact WV| refine And.intro ?_ ?_)
theorem Cd: ∀t1 t2 k,X0.qM t1=some k→X0.qM t2=some k→t1=t2:=(T2 (P:=Tryz.prog) (fl:=sN) (tl:=L6) (tab:=[]) (ext:=[]) (hyb:=[]) (iter:=[]) rE X9 aiQ trivial trivial trivial trivial).inj
theorem aax {args:List V} {res:eZ} (h:lZ 5 545 (Yc 2 4) args=some res):bJ X0 164 args res:=rH (X:=X0) (F:=164) (ρ:=Ca) aau rfl Tryz.func164 aiQ rfl (fun _=>rfl) (fun _=>rfl) (zi 2 4) (fun _ h=>fX (l:=sN) rE h (j:=165) rfl) (aat Tryz.func165 aiQ rfl) (fun _ _ _=>ad9 _ _ _ _ _ _ _ _ _ _ _) h
theorem aay {args:List V} {res:eZ} (h:lZ 5 26 (by1 2) args=some res):bJ X0 192 args res:=rH (X:=X0) (F:=192) (ρ:=Cb) aav rfl Tryz.func192 aiQ rfl (fun _=>rfl) (fun _=>rfl) (LW 2) (fun _ h=>fX (l:=sN) rE h (j:=193) rfl) (aat Tryz.func193 aiQ rfl) (fun _ _ _=>ad5 _ _ _ _ _ _ _ _ _ _ _) h
theorem aaz {args:List V} {res:eZ} (h:lZ 2 254 (Yc 0 1) args=some res):bJ X0 261 args res:=rH (X:=X0) (F:=261) (ρ:=Cc) aaw rfl Tryz.func261 aiQ rfl (fun _=>rfl) (fun _=>rfl) (zi 0 1) (fun _ h=>fX (l:=sN) rE h (j:=262) rfl) (aat Tryz.func262 aiQ rfl) (fun _ _ _=>ad8 _ _ _ _ _) h
theorem Ug:rC X0 Qx:=⟨⟨41,rfl,fun _ _ h=>jd Cd Tryz.func41 aiQ ah8 h⟩,
 ⟨159,rfl,fun _ _ h=>jd Cd Tryz.func159 aiQ ah9 h⟩,
 ⟨160,rfl,fun _ _ h=>jd Cd Tryz.func160 aiQ aia h⟩,
 ⟨161,rfl,fun _ _ h=>jd Cd Tryz.func161 aiQ aib h⟩,
 ⟨162,rfl,fun _ _ h=>jd Cd Tryz.func162 aiQ aic h⟩,
 ⟨171,rfl,fun _ _ h=>jd Cd Tryz.func171 aiQ aeb h⟩,
 ⟨80,rfl,fun _ _ h=>Lx Tryz.func80 aiQ aiQ aiQ rfl h⟩,
 ⟨45,rfl,fun _ _ h=>LI (X:=X0) (F:=45) (ρ:=Ex) aea rfl Tryz.func45 aiQ rfl h⟩,⟨164,rfl,fun _ _ h=>aax h⟩,⟨192,rfl,fun _ _ h=>aay h⟩,⟨261,rfl,fun _ _ h=>aaz h⟩,trivial⟩
theorem PC:nG X0 L5:=⟨H3 _ _ 221 rfl,H7 _ _ 564 rfl,trivial⟩
theorem WX:Ea X0 Tryz.f27:=⟨⟨_,_,_,_,_,_,_,_,_,_,_,_,_,rfl,aiQ,aiQ,aiQ,aiQ,aiQ,aiQ,aiQ,rfl,rfl,fun c h=>by simp at h,fun a w=>by show Sem.run Tryz.prog _ _=_;simp[execOp,go_sem]⟩,aiQ,rfl⟩
theorem Uh:rD X0 [(622,LV)]:=⟨⟨27,rfl,fun C hC args res h=>OT rfl aiQ Cd WX rfl rfl hC h⟩,trivial⟩
theorem aaA:LB X0 [(706,C4),(707,C3)]:=⟨⟨271,rfl,Ui Ey Jd Uj aiQ⟩,⟨272,rfl,Uk Ey Jd aiQ⟩,trivial⟩
theorem M3:xO X0 E:=Ew (P:=Tryz.prog) (fl:=sN) (tl:=L6) rE X9 aiQ WW Ug Uh PC aaA
end Go.AM
