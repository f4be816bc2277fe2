/-
  Texts of the proof, joined by program: AmOw, AmIter, AmIterF, AmOwF, AmTrDc. Own work.
-/
import Derived.Test.YtkdfnbahehdhmaaGreatBase
import Derived.Test.YtkdfnbahehdhmaaGreatOpsC
import Derived.Test.YtkdfnbahehdhmaaGreatTail
import Derived.Test.YtkdfnbahehdhmaaGreatFns
import Derived.StillTailTactics
import Derived.Test.YtkdfnbahehdhmaaGreatProg
import Derived.RangeFuncNested
import Derived.RangeFuncLeaves
import Derived.Shelf.Abstract
import Derived.Shelf.RegionOpen
import Derived.WalkKit
import Derived.OwnWalkIn
import Derived.TacticsInMore
import Derived.LoopNIn
import Derived.LoopIn
import Derived.Test.YtkdfnbahehdhmaaGreatRows
set_option linter.unusedSimpArgs false
set_option linter.unusedVariables false
namespace Go.Proofs
open Go.RowKit Go.Shelf Go.AM
attribute [local go_sem] Oper.semAt_some
@[local go_sem] theorem Tb: (Fr none).round=none:=rfl
def ji (skip:Bool) (n:Int):Nat→List (Value×Value)→List (Array Value)
 | i,p::q::rest=> (if skip && (decide ((i:Int)=n - 1) || decide ((i:Int)=n)) then [] else [#[.agg #[p.1,p.2],.agg #[q.1,q.2]]])++ji skip n (i+1) (q::rest)
 | _,_=> []
def jk (e n:Int):Nat→List (List (Value×Value))→List (Array Value)
 | _,[]=> []
 | k,ps::rest=>ji (decide ((k:Int)=e)) n 0 ps++jk e n (k+1) rest
structure MM where
 id:Int
 a:Option Addr
 cap:Nat
 l:Int
 r:Int
 fh:List (Value×Value)
theorem Cg {skip:Bool} {n:Int} {i:Nat} {ps:List (Value×Value)} {p q:Value×Value} (hp:ps[i]? =some p) (hq:ps[i+1]? =some q):
  ji skip n i (ps.drop i)=(if skip && (decide ((i:Int)=n - 1) || decide ((i:Int)=n)) then [] else [#[.agg #[p.1,p.2],.agg #[q.1,q.2]]])++ji skip n (i+1) (ps.drop (i+1)):=by
 obtain⟨h1,rfl⟩:=List.getElem?_eq_some_iff.1 hp
 obtain⟨h2,rfl⟩:=List.getElem?_eq_some_iff.1 hq
 rw[List.drop_eq_getElem_cons h1,List.drop_eq_getElem_cons h2]
 rw[ji]
theorem xx {skip:Bool} {n:Int} {i:Nat} {ps:List (Value×Value)} (h:ps.length - 1≤i):ji skip n i (ps.drop i)=[]:=by
 rcases hd:ps.drop i with _| ⟨p,_| ⟨q,rest⟩⟩
 · rfl
 · rfl
 · have:=congrArg List.length hd
   simp at this;omega
theorem Ch {e n:Int} {k:Nat} {rs:List (List (Value×Value))} {ps:List (Value×Value)} (h:rs[k]? =some ps):jk e n k (rs.drop k)=ji (decide ((k:Int)=e)) n 0 ps++jk e n (k+1) (rs.drop (k+1)):=by
 obtain⟨h1,rfl⟩:=List.getElem?_eq_some_iff.1 h
 rw[List.drop_eq_getElem_cons h1,jk]
theorem Ci {w:World} {o:Obj} {a:Addr} {v:Value} (h:w.cell? a=some v): (w.alloc o).cell? a=some v:=by
 have bl:a.block<w.heap.size:=by
  rcases Nat.lt_or_ge a.block w.heap.size with hl| hl
  · exact hl
  · simp[World.cell?,Array.getElem?_eq_none hl] at h
 rw[←h]
 simp only[World.cell?,Below.heap_alloc w o a.block bl]
theorem As (w:World) (o:Obj):w.grownBy (w.alloc o) none:=by
 have b1:Below w.heap.size w (w.alloc o):=(Below.refl _ w).alloc (Nat.le_refl _) _
 exact⟨b1.os,b1.tape,b1.output,b1.size,fun k hk _=>b1.block k hk⟩
theorem H4 (A:World):A.grownBy A.drew none:=⟨rfl,rfl,rfl,Nat.le_refl _,fun _ _ _=>rfl⟩
theorem xy {A B:World} {a:Addr} (h:B.heap[a.block]? =A.heap[a.block]?):B.cell? a=A.cell? a:=by
 simp only[World.cell?,h]
set_option maxRecDepth 100000 in
set_option maxHeartbeats 4000000 in
theorem H5 (     l Bm Om Bc Oc b off cap:Nat) (a0:Option Addr) (e n:Int) (rows:List MM) (hbig:rows.length< 4611686018427387904) (Yh: ∀R ∈ rows,R.fh.length< 4611686018427387904) (Rw:0≤n) (Mo:n< 4611686018427387904)
  (S:Nat→Prop) (J:Nat→(Nat→Prop)→World→Prop) (Jx:Nat→World→Prop)
  (hJg: ∀k F A B,J k F A→A.grownBy B none→J k (fun b=>F b∨(A.heap.size≤b∧b<B.heap.size)) B) (hJl: ∀k F F' A,J k F A→(∀b,F' b→F b)→J k F' A)
  (wk:List (Array Value)) (ab2:wk.drop 0=jk e n 0 (rows.map (·.fh)))
  (hY: ∀ (k:Nat) F W1 v,wk[k]? =some v→J k F W1→YieldAt (Fr none) 0 Tryz.prog l v W1 fun e W'=>
    (e= .returned (.bool true)∧J (k+1) F W'∧ ∀b,S b∨F b→W'.heap[b]? =W1.heap[b]?)∨(e= .returned (.bool false)∧Jx (k+1) W'))
  (W:World) (hSm:S Bm) (hSc:S Bc) (Tc:rows≠[]→S b) (IX:rows≠[]→a0=some ⟨b,off,none⟩) (hBm:W.cell? ⟨Bm,Om,none⟩=some (.slice a0 rows.length cap))
  (ab3:W.cell? ⟨Bc,Oc,none⟩=some (.int .i64 e)) (ab4:W.cell? ⟨Bc,Oc+1,none⟩=some (.int .i64 n))
  (hc: ∀ (k:Nat) R,rows[k]? =some R→W.cell? ⟨b,off+k*4,none⟩=some (.int .i64 R.id)∧W.cell? ⟨b,off+k*4+1,none⟩=some (.slice R.a R.fh.length R.cap)∧W.cell? ⟨b,off+k*4+2,none⟩=some (.int .i64 R.l)∧W.cell? ⟨b,off+k*4+3,none⟩=some (.int .i64 R.r))
  (Xi: ∀ (k:Nat) R,rows[k]? =some R→R.fh≠[]→ ∃b2 o2,R.a=some ⟨b2,o2,none⟩∧S b2∧ ∀ (i:Nat) p,R.fh[i]? =some p→W.cell? ⟨b2,o2+i*2,none⟩=some p.1∧W.cell? ⟨b2,o2+i*2+1,none⟩=some p.2)
  (h0:J 0 (fun _=>False) W):
  CallsIn (Fr none) 1 Tryz.prog 103 #[.func (.yield l) #[] #[],.pointer (some ⟨Bm,Om,none⟩),.pointer (some ⟨Bc,Oc,none⟩)] W fun ex W'=> (∃v,ex= .returned v)∧((∃F,J wk.length F W')∨ ∃k,k≤wk.length∧Jx k W'):=by
 refine callsIn_of_wp Tryz.func103 rfl trivial ?_ rfl
 simp only[Tryz.ntmps103,List.size_toArray,List.length_cons,List.length_nil,Nat.reduceAdd,Nat.reduceSub,Array.replicate_succ,Array.replicate_zero,List.push_toArray,List.append_toArray,List.nil_append,List.cons_append]
 have FP:Tryz.prog.follows .mixedOrders=true:=by kernel_rfl
 gi_wp2
 gi_loopw [10] (fun i wr=> ∃k:Nat,k≤rows.length∧i= .int .i64 k∧ ∃j F,J j F wr∧wk.drop j=jk e n k ((rows.map (·.fh)).drop k)∧j≤wk.length∧ ∀a v,S a.block→W.cell? a=some v→wr.cell? a=some v) (fun i _=>rows.length - (intOf i).toNat)
 case atStart=>exact⟨0,Nat.zero_le _,rfl,0,_,h0,ab2,Nat.zero_le _,fun a v _ h=>h⟩
 case round=>
  obtain⟨k,hk,rfl,j,F,hJ,hG,bM,At⟩:=hrel
  by_cases bl:k<rows.length
  · have rB: (   k:Int) < (rows.length:Int):=by omega
    have hR:rows[k]? =some rows[k]:=List.getElem?_eq_getElem bl
    have c7:rows≠[]:=by intro h;rw[h] at bl;simp at bl
    obtain rfl:=IX c7
    replace Tc:=Tc c7
    clear IX c7
    obtain⟨c0,c1,c2,c3⟩:=hc k _ hR
    replace c0:=At _ _ Tc c0
    replace c1:=At _ _ Tc c1
    replace c2:=At _ _ Tc c2
    replace c3:=At _ _ Tc c3
    have hRp:=Yh rows[k] (List.getElem_mem bl)
    have KW:=Xi k _ hR
    have hrk: (rows.map (·.fh))[k]? =some rows[k].fh:=by simp[hR]
    rw[Ch hrk] at hG
    generalize Yi:decide ((k:Int)=e)=sk at hG
    clear hrk hR
    generalize rows[k]=R at*
    obtain⟨Sn,Ra,yJ,Rl,Rr,fh⟩:=R
    dsimp only at c0 c1 c2 c3 hRp KW hG
    have hgr:=As wr (Obj.cells #[Value.int IntKind.i64 Sn,Value.slice Ra fh.length yJ,Value.int IntKind.i64 Rl,Value.int IntKind.i64 Rr] 51)
    have So: ∀a v,S a.block→W.cell? a=some v→(wr.alloc (Obj.cells #[Value.int IntKind.i64 Sn,Value.slice Ra fh.length yJ,Value.int IntKind.i64 Rl,Value.int IntKind.i64 Rr] 51)).cell? a=some v:=fun a v h1 h2=>Ci (At a v h1 h2)
    have cH: (wr.alloc (Obj.cells #[Value.int IntKind.i64 Sn,Value.slice Ra fh.length yJ,Value.int IntKind.i64 Rl,Value.int IntKind.i64 Rr] 51)).heap.size=wr.heap.size+1:=World.size_alloc _ _
    have Sp: (wr.alloc (Obj.cells #[Value.int IntKind.i64 Sn,Value.slice Ra fh.length yJ,Value.int IntKind.i64 Rl,Value.int IntKind.i64 Rr] 51)).cell? ⟨wr.heap.size,1,none⟩=some (.slice Ra fh.length yJ):=by
       simp only[World.cell?]
       rw[World.alloc_heap_new]
       rfl
    obtain⟨F2,hFx,MN⟩: ∃F2:Nat→Prop,F2 wr.heap.size∧J j F2 (wr.alloc (Obj.cells #[Value.int IntKind.i64 Sn,Value.slice Ra fh.length yJ,Value.int IntKind.i64 Rl,Value.int IntKind.i64 Rr] 51)):=
       ⟨_,.inr ⟨Nat.le_refl _,by omega⟩,hJg _ _ _ _ hJ hgr⟩
    by_cases h1: (1:Int) < (fh.length:Int)
    ·  have Yj: ( 0:Int)≤(fh.length:Int) - 1:=by omega
       obtain⟨b2,o2,rfl,hS2,hpc⟩:=KW (by intro h;rw[h] at h1;simp at h1)
       gi_wp2
       generalize wr.alloc (Obj.cells #[Value.int IntKind.i64 Sn,Value.slice (some ⟨b2,o2,none⟩) fh.length yJ,Value.int IntKind.i64 Rl,Value.int IntKind.i64 Rr] 51)=wa at*
       generalize wr.heap.size=Bx at*
       gi_loopw [20] (fun i w2=> ∃i':Nat,i'≤fh.length - 1∧i= .int .i64 i'∧ ∃j2,J j2 F2 w2∧wk.drop j2=ji sk n i' (fh.drop i')++jk e n (k+1) ((rows.map (·.fh)).drop (k+1))∧j2≤wk.length∧(∀a v,S a.block→W.cell? a=some v→w2.cell? a=some v)∧w2.cell? ⟨Bx,1,none⟩=some (.slice (some ⟨b2,o2,none⟩) fh.length yJ)) (fun i _=>fh.length - (intOf i).toNat)
       case atStart=>exact⟨0,Nat.zero_le _,rfl,j,MN,by simpa using hG,bM,So,Sp⟩
       case round=>
        clear hJ MN hG bM At So Sp
        obtain⟨i',yg,rfl,j2,MN,hG,bM,At,Sp⟩:=hrel
        have ac3:=At _ _ hSc ab3
        have ac4:=At _ _ hSc ab4
        by_cases fB:i'<fh.length - 1
        · have hl1: (i':Int) < (fh.length:Int) - 1:=by omega
          have hgp:fh[i']? =some fh[i']:=List.getElem?_eq_getElem (by omega)
          have hgq:fh[i'+1]? =some fh[i'+1]:=List.getElem?_eq_getElem (by omega)
          rw[Cg hgp hgq] at hG
          obtain⟨p1,p2⟩:=hpc _ _ hgp
          obtain⟨q1,q2⟩:=hpc _ _ hgq
          replace p1:=At _ _ hS2 p1
          replace p2:=At _ _ hS2 p2
          replace q1:=At _ _ hS2 q1
          replace q2:=At _ _ hS2 q2
          generalize fh[i']=P at*
          generalize fh[i'+1]=Q2 at*
          have Jb:IntKind.i64.wrap (n - 1)=n - 1:=wrap64 (by omega) (by omega)
          by_cases Yk: (k:Int)=e∧((i':Int)=n - 1∨(i':Int)=n)
          ·  obtain⟨yk,lH⟩:=Yk
             have zH:wk.drop j2=ji sk n (i'+1) (fh.drop (i'+1))++jk e n (k+1) ((rows.map (·.fh)).drop (k+1)):=by
               rw[hG,if_pos (by rw[←Yi];simp[yk];exact lH)];rfl
             rcases lH with lH| lH
             · obtain rfl:n=(i':Int)+1:=by omega
               clear lH Jb hG
               have ac5:IntKind.i64.wrap ((i':Int)+1 - 1)=(i':Int):=(wrap64 (by omega) (by omega)).trans (by omega)
               gi_wp2
               exact⟨⟨i'+1,by omega,rfl,j2,MN,zH,bM,At,Sp⟩,by simp only[intOf];omega⟩
             · obtain rfl:n=(i':Int):=lH.symm
               clear hG
               have XN: ¬ (i':Int)=(i':Int) - 1:=by omega
               gi_wp2
               exact⟨⟨i'+1,by omega,rfl,j2,MN,zH,bM,At,Sp⟩,by simp only[intOf];omega⟩
          ·  obtain⟨v,hve⟩: ∃v:Array Value,v= #[.agg #[P.1,P.2],.agg #[Q2.1,Q2.2]]:=⟨_,rfl⟩
             have Cj:wk.drop j2=v:: (ji sk n (i'+1) (fh.drop (i'+1))++jk e n (k+1) ((rows.map (·.fh)).drop (k+1))):=by
               rw[hG,if_neg (by rw[←Yi];simpa using Yk),hve];rfl
             have hv:wk[j2]? =some v:=by
               have:=congrArg (fun l=>l[0]?) Cj
               simpa using this
             have zH:wk.drop (j2+1)=ji sk n (i'+1) (fh.drop (i'+1))++jk e n (k+1) ((rows.map (·.fh)).drop (k+1)):=by
               have:=congrArg (List.drop 1) Cj
               simpa [List.drop_drop] using this
             have hj3:j2+1≤wk.length:=(List.getElem?_eq_some_iff.1 hv).1
             have hJd:J j2 F2 wr.drew:=hJl _ _ _ _ (hJg _ _ _ _ MN (H4 wr)) (fun b hb=> .inl hb)
             obtain⟨fn,tmps,assign,body,hy,hR⟩:=hY j2 F2 wr.drew v hv hJd
             rw[hve] at hy
             have qV: ((k:Int)=e∧ ¬ (i':Int)=n - 1∧ ¬ (i':Int)=n)∨ ¬ (k:Int)=e:=by
               by_cases yk: (k:Int)=e
               · exact .inl ⟨yk,fun h=>Yk ⟨yk,.inl h⟩,fun h=>Yk ⟨yk,.inr h⟩⟩
               · exact .inr yk
             have Yl:IntKind.i64.wrap ((i':Int)+1)=(i':Int)+1:=wrap64 (by omega) (by omega)
             have ab5: ((i':Int)+1).toNat=i'+1:=by omega
             have yX:i'<fh.length:=by omega
             have Em: (i':Int)+1 < (fh.length:Int):=by omega
             have Rj: (0:Int)≤(i':Int)+1:=by omega
             clear Yk hG Cj hve
             have Td:=hR.mono (R':=fun ex W'=> ∃bb,ex= .returned (.bool bb)∧(bb=true→J (j2+1) F2 W'∧ ∀b,S b∨F2 b→W'.heap[b]? =wr.drew.heap[b]?)∧(bb=false→Jx (j2+1) W')) (by
               rintro ex W' (⟨rfl,q1,q2⟩ | ⟨rfl,q1⟩)
               · exact⟨true,rfl,fun _=> ⟨q1,q2⟩,by simp⟩
               · exact⟨false,rfl,by simp,fun _=>q1⟩)
             clear hR
             rcases qV with⟨yk,lH,sh⟩ | yk
             all_goals
               gi_wp2
               refine Au (n:=0) (gR 12 FP (by kernel_rfl) (by kernel_rfl) ?_)
               simp only[List.take_succ_cons,List.take_zero,List.drop_succ_cons,List.drop_zero]
               change wpStill _ _ (World.drew wr) (fun a'=>wpListIn _ _ _ _ _ _ a' (World.drew wr)) _ _
               iterate 12 (refine wpStill_step (fun K hK=> ?_);go_simp; (try simp only[Yl,ab5,Em,Rj,yX,and_self,if_true,true_and,go_sem]); (try simp only[p1,p2,q1,q2,Sp,World.Ck,go_sem]);refine hK _ ?_;clear hK K)
               refine wpStill_nil ?_
               refine wpListIn_step (fun K hK=> ?_)
               go_simp
               refine⟨rfl,RoundIn.mono Td ?_⟩
               rintro ex W3 ⟨bb,rfl,hq1,w6⟩
               refine hK _ _ ?_
               clear hK K
               refine wpListIn_step (fun K hK=> ?_)
               go_simp
               refine hK _ _ ?_
               clear hK K
               refine wpListIn_nil ?_
               rename_i Te
               refine Te _ _ ?_
               cases bb
               · clear Te Td
                 gi_wp2
                 refine⟨rfl,_,results_none (fn:=Tryz.f103) rfl _ _ _,⟨_,rfl⟩,?_⟩
                 exact .inr ⟨j2+1,hj3,w6 trivial⟩
               · obtain⟨hq3,hq4⟩:=hq1 rfl
                 clear Te Td
                 gi_wp2
                 exact⟨⟨i'+1,by omega,rfl,j2+1,hq3,zH,hj3,fun a v h1 h2=> (xy ((hq4 _ (.inl h1)).trans rfl)).trans (At a v h1 h2),(xy (a:=⟨Bx,1,none⟩) ((hq4 Bx (.inr hFx)).trans rfl)).trans Sp⟩,by simp only[intOf];omega⟩
        · have hl1: ¬ (i':Int) < (fh.length:Int) - 1:=by omega
          rw[xx (by omega),List.nil_append] at hG
          gi_wp2
          exact⟨⟨k+1,by omega,rfl,j2,F2,MN,hG,bM,At⟩,by simp only[intOf];omega⟩
    ·  have Yj: (fh.length:Int) - 1≤0:=by omega
       gi_wp2
       gi_loopw [20] (fun i w2=>i= .int .i64 0∧w2=wr.alloc (Obj.cells #[Value.int IntKind.i64 Sn,Value.slice Ra fh.length yJ,Value.int IntKind.i64 Rl,Value.int IntKind.i64 Rr] 51)) (fun i _=>0)
       case atStart=>exact⟨rfl,rfl⟩
       case round=>
        obtain⟨rfl,rfl⟩:=hrel
        rw[show ji sk n 0 fh=[] from xx (i:=0) (by omega),List.nil_append] at hG
        gi_wp2
        exact⟨⟨k+1,by omega,rfl,j,_,MN,hG,bM,So⟩,by simp only[intOf];omega⟩
  · have rB: ¬ (k:Int) < (rows.length:Int):=by omega
    have yk:k=rows.length:=by omega
    rw[List.drop_of_length_le (l:=rows.map (·.fh)) (by simp;omega)] at hG
    have hje:j=wk.length:=by
       have:=congrArg List.length hG
       simp[jk] at this;omega
    subst hje
    gi_wp2
    exact⟨rfl,_,results_none (fn:=Tryz.f103) rfl _ _ _,⟨_,rfl⟩,.inl ⟨F,hJ⟩⟩
end Go.Proofs
namespace Go.Proofs
open Go.RowKit Go.Shelf Go.AM
attribute [local go_sem] Oper.semAt_some
@[local go_sem] theorem Ym: (Fr none).round=none:=rfl
set_option maxRecDepth 100000 in
set_option maxHeartbeats 4000000 in
theorem H6 (l Bs Bo b off len cap:Nat) (vs:List (List Value)) (hlen:vs.length=len) (h2: ∀v ∈ vs,∃x y,v=[x,y]) (hbig:len< 4611686018427387904) (Kp:World→World→Prop) (hkt: ∀ {A B C},Kp A B→Kp B C→Kp A C) (hkr: ∀A,Kp A A)
  (hkb: ∀ {A B},Kp A B→A.cell? ⟨Bs,Bo,none⟩=some (.slice (some ⟨b,off,none⟩) len cap)→B.cell? ⟨Bs,Bo,none⟩=some (.slice (some ⟨b,off,none⟩) len cap))
  (hkc: ∀ {A B} j v,Kp A B→A.cell? ⟨b,j,none⟩=some v→B.cell? ⟨b,j,none⟩=some v)
  (Hr: ∀A:World,Kp A A.drew) (J Jx:Nat→World→Prop) (hJd: ∀k W,J k W→J k W.drew)
  (hY: ∀ (k:Nat) W1 x y z u,k+1 <len→vs[k]? =some [x,y]→vs[k+1]? =some [z,u]→J k W1→YieldAt (Fr none) 0 Tryz.prog l #[.int .i64 k,.agg #[x,y,z,u]] W1 fun e W'=>
    (e= .returned (.bool true)∧J (k+1) W'∧Kp W1 W')∨(e= .returned (.bool false)∧Jx (k+1) W'))
  (W:World) (hBs:W.cell? ⟨Bs,Bo,none⟩=some (.slice (some ⟨b,off,none⟩) len cap)) (hc: ∀ (j:Nat) x y,vs[j]? =some [x,y]→W.cell? ⟨b,off+j*2,none⟩=some x∧W.cell? ⟨b,off+j*2+1,none⟩=some y) (h0:J 0 W):
  CallsIn (Fr none) 1 Tryz.prog 101 #[.func (.yield l) #[] #[],.pointer (some ⟨Bs,Bo,none⟩)] W fun e W'=> (∃v,e= .returned v)∧(J (len - 1) W'∨ ∃k,k≤len - 1∧Jx k W'):=by
 refine callsIn_of_wp Tryz.func101 rfl trivial ?_ rfl
 simp only[Tryz.ntmps101,List.size_toArray,List.length_cons,List.length_nil,Nat.reduceAdd,Nat.reduceSub,Array.replicate_succ,Array.replicate_zero,List.push_toArray,List.append_toArray,List.nil_append,List.cons_append]
 have FP:Tryz.prog.follows .mixedOrders=true:=by kernel_rfl
 gi_wp2
 gi_loopw [3] (fun i wr=> ∃k:Nat,k≤len - 1∧i= .int .i64 k∧J k wr∧Kp W wr) (fun i _=>len - (intOf i).toNat)
 case atStart=>exact⟨0,Nat.zero_le _,rfl,h0,hkr _⟩
 case round=>
  obtain⟨k,hk,rfl,hJs,xj⟩:=hrel
  have hBr:=hkb xj hBs
  by_cases bl:k+1 <len
  · obtain⟨x,y,hxy⟩:=h2 vs[k] (List.getElem_mem (by omega))
    obtain⟨z,u,hzu⟩:=h2 vs[k+1] (List.getElem_mem (by omega))
    have KB:vs[k]? =some [x,y]:=by rw[List.getElem?_eq_getElem (by omega),hxy]
    have HP:vs[k+1]? =some [z,u]:=by rw[List.getElem?_eq_getElem (by omega),hzu]
    obtain⟨fn,tmps,assign,body,hy,hR⟩:=hY k wr.drew x y z u bl KB HP (hJd _ _ hJs)
    have yX:k<len:=by omega
    have Em: (k:Int)+1 < (len:Int):=by omega
    have Rj: (0:Int)≤(k:Int)+1:=by omega
    have Yl:IntKind.i64.wrap ((k:Int)+1)=(k:Int)+1:=wrap64 (by omega) (by omega)
    have Jb: ((k:Int)+1).toNat=k+1:=by omega
    have c1:=hkc _ _ xj (hc k x y KB).1
    have c2:=hkc _ _ xj (hc k x y KB).2
    have c3:=hkc _ _ xj (hc (k+1) z u HP).1
    have c4:=hkc _ _ xj (hc (k+1) z u HP).2
    gi_wp2
    have Td:=hR.mono (R':=fun e W'=> ∃bb,e= .returned (.bool bb)∧(bb=true→J (k+1) W'∧Kp wr.drew W')∧(bb=false→Jx (k+1) W')) (by
       rintro e W' (⟨rfl,q1,q2⟩ | ⟨rfl,q1⟩)
       · exact⟨true,rfl,fun _=> ⟨q1,q2⟩,by simp⟩
       · exact⟨false,rfl,by simp,fun _=>q1⟩)
    clear hR
    refine Au (n:=0) (gR 12 FP (by kernel_rfl) (by kernel_rfl) ?_)
    simp only[List.take_succ_cons,List.take_zero,List.drop_succ_cons,List.drop_zero]
    change wpStill _ _ (World.drew wr) (fun a'=>wpListIn _ _ _ _ _ _ a' (World.drew wr)) _ _
    iterate 12 (refine wpStill_step (fun K hK=> ?_);go_simp; (try simp only[Yl,Jb,Em,Rj,yX,and_self,if_true,true_and,go_sem]); (try simp only[c1,c2,c3,c4,hBr,World.Ck,go_sem]);refine hK _ ?_;clear hK K)
    refine wpStill_nil ?_
    refine wpListIn_step (fun K hK=> ?_)
    go_simp
    refine⟨rfl,RoundIn.mono Td ?_⟩
    rintro e W3 ⟨bb,rfl,hq1,w6⟩
    refine hK _ _ ?_
    clear hK K
    refine wpListIn_step (fun K hK=> ?_)
    go_simp
    refine hK _ _ ?_
    clear hK K
    refine wpListIn_nil ?_
    rename_i hk9 kk9 Te
    refine Te _ _ ?_
    cases bb
    ·  clear Te hk9 Td
       gi_wp2
       refine⟨rfl,_,results_none (fn:=Tryz.f101) rfl _ _ _,⟨_,rfl⟩,?_⟩
       exact .inr ⟨k+1,by omega,w6 trivial⟩
    ·  gi_wp2
       exact⟨⟨k+1,by omega,rfl,(hq1 rfl).1,hkt xj (hkt (Hr _) (hq1 rfl).2)⟩,by simp only[intOf];omega⟩
  · have Em: ¬ (k:Int)+1 < (len:Int):=by omega
    have Yl:IntKind.i64.wrap ((k:Int)+1)=(k:Int)+1:=wrap64 (by omega) (by omega)
    gi_wp2
    have yk:k=len - 1:=by omega
    refine⟨rfl,_,results_none (fn:=Tryz.f101) rfl _ _ _,⟨_,rfl⟩,?_⟩
    exact .inl (yk ▸ hJs)
set_option maxRecDepth 100000 in
set_option maxHeartbeats 4000000 in
theorem xz (l Bs Bo cap:Nat) (a0:Option Addr) (J Jx:Nat→World→Prop) (hJd: ∀k W,J k W→J k W.drew)
  (W:World) (hBs:W.cell? ⟨Bs,Bo,none⟩=some (.slice a0 0 cap)) (h0:J 0 W):
  CallsIn (Fr none) 1 Tryz.prog 101 #[.func (.yield l) #[] #[],.pointer (some ⟨Bs,Bo,none⟩)] W fun e W'=> (∃v,e= .returned v)∧(J 0 W'∨ ∃k,k≤0∧Jx k W'):=by
 refine callsIn_of_wp Tryz.func101 rfl trivial ?_ rfl
 simp only[Tryz.ntmps101,List.size_toArray,List.length_cons,List.length_nil,Nat.reduceAdd,Nat.reduceSub,Array.replicate_succ,Array.replicate_zero,List.push_toArray,List.append_toArray,List.nil_append,List.cons_append]
 have FP:Tryz.prog.follows .mixedOrders=true:=by kernel_rfl
 gi_wp2
 gi_loopw [3] (fun i wr=>i= .int .i64 0∧J 0 wr∧wr=W) (fun i _=>0)
 case atStart=>exact⟨rfl,h0,rfl⟩
 case round=>
  obtain⟨rfl,hJs,rfl⟩:=hrel
  have Yl:IntKind.i64.wrap ((0:Int)+1)=1:=by decide
  gi_wp2
  refine⟨rfl,_,results_none (fn:=Tryz.f101) rfl _ _ _,⟨_,rfl⟩,?_⟩
  exact .inl hJs
theorem pO (A:World):A.grownBy A.drew none:=⟨rfl,rfl,rfl,Nat.le_refl _,fun _ _ _=>rfl⟩
end Go.Proofs
namespace Go.Proofs
open Go.RowKit Go.AM
theorem Av: ∀ (ps:List V) (i:Nat),(jn i ps).length=ps.length - 1
 | [],_=>rfl
 | [_],_=>rfl
 | _::q::rest,i=>by simp only[jn,List.length_cons,Av (q::rest)];omega
theorem j7: ∀ (ps:List V) (i k:Nat) x,(jn i ps)[k]? =some x→ ∃p q,ps[k]? =some p∧ps[k+1]? =some q∧x=[.int .i64 ((i+k:Nat):Int),.agg (p.cells++q.cells)]
 | [],i,k,x,h=>by simp[jn] at h
 | [_],i,k,x,h=>by simp[jn] at h
 | p::q::rest,i,k,x,h=>by
   cases k with
   | zero=>simp[jn] at h;exact⟨p,q,by simp,by simp,h ▸ by simp⟩
   | succ k=>
     simp only[jn,List.getElem?_cons_succ] at h
     obtain⟨p',q',h1,h2,rfl⟩:=j7 (q::rest) (i+1) k x h
     exact⟨p',q',by simpa using h1,by simpa using h2,by rw[show i+1+k=i+(k+1) by omega]⟩
def E9 (vs:List Value) (n:Nat):List (Array Value):=(List.range n).map fun (k:Nat)=> #[.int .i64 (((k:Nat):Int)),.agg ((vs.getD k undef).cells++(vs.getD (k+1) undef).cells)]
theorem Cl (args:Array Value) (w:World): (callFunc 101 args).run Tryz.prog w= .ok (.enter 101 args) w:=by
 obtain⟨c,hc⟩: ∃c,Tryz.f101.body=some c:=⟨_,rfl⟩
 have hn:Tryz.f101.name≠ "runtime.NumGoroutine" :=by decide
 simp[callFunc,Sem.run_bind,program,Sem.run,Tryz.func101,hc,hn]
theorem vB {F:Fence} {n:Nat} {P:Program} {l:Nat} {v:Array Value} {W:World} {R R':Ending→World→Prop} (h:YieldAt F n P l v W R) (hm: ∀e W',R e W'→R' e W'):YieldAt F n P l v W R':=by
 obtain⟨fn,tmps,assign,body,hy,hR⟩:=h
 exact⟨fn,tmps,assign,body,hy,hR.mono hm⟩
theorem vC {F:Fence} {n:Nat} {P:Program} {g:Nat} {args:Array Value} {W:World} {J:Nat→(Nat→Prop)→World→Prop} {Jx:Nat→World→Prop} {m:Nat} {F0:Nat→Prop} (h:CallsIn F n P g args W fun e W'=> (∃v,e= .returned v)∧(J m F0 W'∨ ∃k,k≤m∧Jx k W')):
  CallsIn F n P g args W fun e W'=> (∃v,e= .returned v)∧((∃F,J m F W')∨ ∃k,k≤m∧Jx k W'):=
 CallsIn.mono h fun e W' h=> ⟨h.1,h.2.imp (fun h=> ⟨_,h⟩) id⟩
theorem Aw (   fn:FuncId→Option Nat) (tn:TypeId→Option Nat) (g:Nat) (hg:fn 101=some g):rj ⟨Tryz.prog,fn,tn⟩ g CK:=by
 refine⟨101,hg,fun caps xs rW B K μ lb Ba ho=> ?_⟩
 refine⟨Cl,?_⟩
 match caps,rW,Ba with
 | [.eptr .nils 0],rW,Ba=>
   simp only[CK,Option.some.injEq] at rW
   subst rW
   obtain⟨lb⟩:=lb
   match lb,Ba with
   | [v],Ba=>
     simp only[aj,and_true] at Ba
     obtain⟨_,_,b,o,sz,x,rfl,ez,bl,⟨a,rfl⟩,cP⟩:=Ba
     have hr:=(cP 0 _ rfl).2 0 (.slice a 0 0) (by simp[Value.cells])
     simp only[Nat.zero_mul,Nat.add_zero] at hr
     refine⟨[],rfl,fun i x v h=>by simp at h,fun l J Jx W0 mf hJ hJx hY h0=> ?_⟩
     have hc:W0.cell? ⟨b,o,none⟩=some (.slice a 0 0):=by rw[←hr];exact World.cell?_of_block (mf.block b bl)
     exact vC (callsIn_wide.2 (callsIn_wide.1 (xz l b o 0 a (fun k W=>J k (fun _=>False) W) Jx (fun k W h=>hJ.less k _ _ _ (hJ.grow k _ W _ h (pO W)) (fun b hb=>hb.elim)) W0 hc h0)))
 | [.eptr (.lit 2 ps) 0],rW,Ba=>
   simp only[CK] at rW
   split at rW
   case isFalse=>simp at rW
   case isTrue hbig=>
     simp only[Option.some.injEq] at rW
     subst rW
     obtain⟨lb⟩:=lb
     match lb,Ba with
     | [v],Ba=>
       simp only[aj,and_true] at Ba
       obtain⟨_,_,b,o,sz,x,rfl,ez,bl,⟨mh,gu,a,cap,vs,rfl,dz,pZ,Yn⟩,cP⟩:=Ba
       have hr:=(cP 0 _ rfl).2 0 (.slice a ps.length cap) (by simp[Value.cells])
       simp only[Nat.zero_mul,Nat.add_zero] at hr
       have BT:vs.length=ps.length:=pZ.length.symm
       have nq: ∀W0,Below μ.w.heap.size μ.w W0→W0.cell? ⟨b,o,none⟩=some (.slice a ps.length cap):=fun W0 mf=>by rw[←hr];exact World.cell?_of_block (mf.block b bl)
       have ab6: ∀p ∈ ps,p.c6=true:=List.all_eq_true.1 gu
       rcases Yn with rfl| ⟨b2,o2,rfl,ab7,fB,MO⟩
       · refine⟨[],rfl,fun i x v h=>by simp[jn] at h,fun l J Jx W0 mf hJ hJx hY h0=> ?_⟩
         exact vC (callsIn_wide.2 (callsIn_wide.1 (xz l b o cap a (fun k W=>J k (fun _=>False) W) Jx (fun k W h=>hJ.less k _ _ _ (hJ.grow k _ W _ h (pO W)) (fun b hb=>hb.elim)) W0 (nq W0 mf) h0)))
       · have nF: ∀k p,ps[k]? =some p→ ∃v x y,vs[k]? =some v∧ak ⟨⟨Tryz.prog,fn,tn⟩,B,K⟩ μ p v∧p.c6=true∧v.cells= #[x,y]:=fun k p hp=>by
           obtain⟨v,hv,Dg⟩:=pZ.get hp
           have hs:=(MO k v hv).1
           obtain⟨cs,db⟩: ∃cs,v.cells=cs:=⟨_,rfl⟩
           rw[db] at hs
           obtain⟨cs⟩:=cs
           match cs,hs with
           | [x,y],_=>exact⟨v,x,y,hv,Dg,ab6 p (List.mem_of_getElem? hp),db⟩
         have hgv: ∀ (k:Nat) v,vs[k]? =some v→ ∃x y,v.cells= #[x,y]:=fun k v hv=>by
           have hk:k<ps.length:=by rw[←BT];exact(List.getElem?_eq_some_iff.1 hv).1
           obtain⟨v',x,y,h1,_,_,h2⟩:=nF k _ (List.getElem?_eq_getElem hk)
           rw[hv] at h1;injection h1 with h1;subst h1;exact⟨x,y,h2⟩
         refine⟨E9 vs (ps.length - 1),by rw[Av];simp[E9],fun i x v hx hv=> ?_,fun l J Jx W0 mf hJ hJx hY h0=> ?_⟩
         · obtain⟨p,q,hp,hq,rfl⟩:=j7 ps 0 i x hx
           obtain⟨v1,x1,y1,h1,h2,h3,h4⟩:=nF i p hp
           obtain⟨v2,x2,y2,k1,k2,k3,k4⟩:=nF (i+1) q hq
           simp only[E9,List.getElem?_map,Option.map_eq_some_iff] at hv
           obtain⟨i',yg,rfl⟩:=hv
           obtain⟨_,rfl⟩:=List.getElem?_eq_some_iff.1 yg
           simp only[List.getElem_range,List.getD_eq_getElem?_getD,h1,k1,Option.getD_some]
           refine⟨by simp[ak],⟨by rw[List.all_append,h2.ju h3,k2.ju k3];rfl,_,rfl,?_⟩,trivial⟩
           rw[Array.toList_append]
           exact aj.append (h2.cells h3) (k2.cells k3)
         · have s8: (E9 vs (ps.length - 1)).length=ps.length - 1:=by unfold E9;rw[List.length_map,List.length_range]
           have Hn: ∀ (k:Nat) x y,(vs.map fun v=>v.cells.toList)[k]? =some [x,y]→ ∃v,vs[k]? =some v∧v.cells= #[x,y]:=fun k x y h=>by
            simp only[List.getElem?_map,Option.map_eq_some_iff] at h
            obtain⟨v,h1,h2⟩:=h
            exact⟨v,h1,by rw[←h2]⟩
           have key:=H6 l b o b2 o2 ps.length cap (vs.map fun v=>v.cells.toList) (by simpa using BT) (fun v hv=>by
              obtain⟨v0,hv0,rfl⟩:=List.mem_map.1 hv
              obtain⟨k,hk,Em⟩:=List.mem_iff_getElem.1 hv0
              obtain⟨x,y,h⟩:=hgv k v0 (by rw[List.getElem?_eq_getElem hk,Em])
              exact⟨x,y,by rw[h]⟩) hbig (Kept μ)
            (fun h1 h2 b hb hn=> (h2 b hb hn).trans (h1 b hb hn)) (fun A b hb hn=>rfl)
            (fun {A B} hk h=>by rw[←h];exact World.cell?_of_block (hk b bl fun h=>ez (.inl h)))
            (fun {A B} j v hk h=>by rw[←h];exact World.cell?_of_block (hk b2 fB fun h=>ab7 (.inl h)))
            (fun A b hb hn=>rfl) (fun k W=>J k (fun _=>False) W) Jx (fun k W h=>hJ.less k _ _ _ (hJ.grow k _ W _ h (pO W)) (fun b hb=>hb.elim))
            (fun k W1 x y z u hk h1 h2 hJ1=>by
              obtain⟨v1,e1,e2⟩:=Hn k x y h1
              obtain⟨v2,e3,e4⟩:=Hn (k+1) z u h2
              refine vB (hY k _ W1 _ ?_ hJ1) (fun e W' h=>h.imp (fun h=> ⟨h.1,h.2.1,h.2.2.1⟩) id)
              simp only[E9,List.getElem?_map,List.getElem?_range (show k<ps.length - 1 by omega),Option.map_some,List.getD_eq_getElem?_getD,e1,e3,Option.getD_some,e2,e4]
              rfl) W0 (nq W0 mf)
            (fun j x y h=>by
              obtain⟨v1,e1,e2⟩:=Hn j x y h
              have oH:=(MO j v1 e1).2
              rw[e2] at oH
              have c1:=oH 0 x rfl
              have c2:=oH 1 y rfl
              refine⟨?_,?_⟩
              · rw[World.cell?_of_block (mf.block b2 fB)];simpa using c1
              · rw[World.cell?_of_block (mf.block b2 fB)];exact c2) h0
           rw[s8]
           exact vC (callsIn_wide.2 (callsIn_wide.1 key))
#print axioms Aw
end Go.Proofs
namespace Go.Proofs
open Go.RowKit Go.AM
section
variable (X:Ctx) (μ:Mu)
def wA:List V→List (Value×Value)→Prop
 | [],[]=>True
 | p::ps,pr::fh=>ak X μ p (.agg #[pr.1,pr.2])∧wA ps fh
 | _,_=>False
def gr:List (List V)→List (Array Value)→Prop
 | [],[]=>True
 | x::xs,v::vs=>aj X μ x v.toList∧gr xs vs
 | _,_=>False
end
variable {X:Ctx} {μ:Mu}
theorem gr.append: ∀ {xs ys:List (List V)} {vs us:List (Array Value)},gr X μ xs vs→gr X μ ys us→gr X μ (xs++ys) (vs++us)
 | [],_,[],_,_,h=>by simpa using h
 | [],_,_::_,_,h,_=>by simp[gr] at h
 | _::_,_,[],_,h,_=>by simp[gr] at h
 | x::xs,ys,v::vs,us,h,h'=>by
   simp only[gr] at h
   simp only[List.cons_append,gr]
   exact⟨h.1,gr.append h.2 h'⟩
theorem gr.length: ∀ {xs:List (List V)} {vs:List (Array Value)},gr X μ xs vs→vs.length=xs.length
 | [],[],_=>rfl
 | [],_::_,h=>by simp[gr] at h
 | _::_,[],h=>by simp[gr] at h
 | _::_,_::_,h=>by simp only[gr] at h;simp[gr.length h.2]
theorem gr.get: ∀ {xs:List (List V)} {vs:List (Array Value)},gr X μ xs vs→ ∀ {i:Nat} {x:List V} {v:Array Value},xs[i]? =some x→vs[i]? =some v→aj X μ x v.toList
 | [],_,_,i,x,v,hx,_=>by simp at hx
 | _::_,[],h,_,_,_,_,_=>by simp[gr] at h
 | y::ys,u::us,h,i,x,v,hx,hv=>by
   simp only[gr] at h
   cases i with
   | zero=>simp at hx hv;subst hx hv;exact h.1
   | succ i=>simp at hx hv;exact gr.get h.2 hx hv
theorem Ax (skip:Bool) (n:Int): ∀ {ps:List V} {fh:List (Value×Value)} (i:Nat),wA X μ ps fh→gr X μ (uu skip n i ps) (ji skip n i fh)
 | [],[],_,_=>by simp[uu,ji,gr]
 | [],_::_,_,h=>by simp[wA] at h
 | _::_,[],_,h=>by simp[wA] at h
 | [_],[_],_,_=>by simp[uu,ji,gr]
 | [_],_::_::_,_,h=>by simp[wA] at h
 | _::_::_,[_],_,h=>by simp[wA] at h
 | p::q::rest,pr::qr::rr,i,h=>by
   simp only[wA] at h
   rw[uu,ji]
   refine gr.append ?_ (Ax skip n (i+1) (by simp only[wA];exact h.2))
   split
   · simp[gr]
   · simp only[gr,aj,and_true]
     exact⟨h.1,h.2.1⟩
theorem vD {w:World} {b off sz:Nat} {v:Value} {vs:List Value} (h:di w b off sz (v::vs)):di w b (off+sz) sz vs:=fun i u hu=>by
 obtain⟨h1,h2⟩:=h (i+1) u (by simpa using hu)
 refine⟨h1,fun j c hc=> ?_⟩
 have:=h2 j c hc
 rwa [show off+(i+1)*sz+j=off+sz+i*sz+j by rw[Nat.add_mul];omega] at this
theorem H7: ∀ {ps:List V} {vs:List Value} {b o:Nat},aj X μ ps vs→ps.all I7=true→di μ.w b o 2 vs→
   ∃fh:List (Value×Value),fh.length=ps.length∧wA X μ ps fh∧ ∀ (i:Nat) p,fh[i]? =some p→μ.w.cell? ⟨b,o+i*2,none⟩=some p.1∧μ.w.cell? ⟨b,o+i*2+1,none⟩=some p.2
 | [],[],_,_,_,_,_=> ⟨[],rfl,trivial,fun i p h=>by simp at h⟩
 | [],_::_,_,_,h,_,_=>by simp[aj] at h
 | _::_,[],_,_,h,_,_=>by simp[aj] at h
 | p::ps,v::vs,b,o,h,ha,hr=>by
   simp only[aj] at h
   simp only[List.all_cons,Bool.and_eq_true] at ha
   obtain⟨fh,e1,e2,e3⟩:=H7 h.2 ha.2 (vD hr)
   match p,ha.1,h.1 with
   | .agg [x,y],_,hv=>
     obtain⟨hc,us,rfl,hu⟩:=(show _∧ ∃vs,v= .agg vs∧aj X μ [x,y] vs.toList by simpa only[ak] using hv)
     obtain⟨us⟩:=us
     match us,hu with
     | [a,c],hu=>
       refine⟨(a,c)::fh,by simp[e1],⟨by simp only[ak];exact⟨hc,_,rfl,hu⟩,e2⟩,fun i q hq=> ?_⟩
       cases i with
       | zero=>
         simp at hq;subst hq
         have:=(hr 0 _ rfl).2
         exact⟨by simpa using this 0 a (by simp[Value.cells]),by simpa using this 1 c (by simp[Value.cells])⟩
       | succ i=>
         have:=e3 i q (by simpa using hq)
         rwa [show o+2+i*2=o+(i+1)*2 by omega] at this
theorem Dx {  e n:Int}: ∀ {es:List V} {vs:List Value} {b o k:Nat} {xs:List (List V)},aj X μ es vs→es.all V.c6=true→y8 e n k es=some xs→di μ.w b o 4 vs→
   ∃rows:List MM,rows.length=es.length∧gr X μ xs (jk e n k (rows.map (·.fh)))∧ ∀ (i:Nat) R,rows[i]? =some R→
     (μ.w.cell? ⟨b,o+i*4,none⟩=some (.int .i64 R.id)∧μ.w.cell? ⟨b,o+i*4+1,none⟩=some (.slice R.a R.fh.length R.cap)∧μ.w.cell? ⟨b,o+i*4+2,none⟩=some (.int .i64 R.l)∧μ.w.cell? ⟨b,o+i*4+3,none⟩=some (.int .i64 R.r))∧
     (R.fh≠[]→ ∃b2 o2,R.a=some ⟨b2,o2,none⟩∧(b2<μ.w.heap.size∧ ¬μ.own b2)∧ ∀ (i:Nat) p,R.fh[i]? =some p→μ.w.cell? ⟨b2,o2+i*2,none⟩=some p.1∧μ.w.cell? ⟨b2,o2+i*2+1,none⟩=some p.2)∧R.fh.length< 4611686018427387904
 | [],[],_,_,k,xs,_,_,hx,_=>by
   simp only[y8,Option.some.injEq] at hx
   subst hx
   exact⟨[],rfl,by simp[jk,gr],fun i R h=>by simp at h⟩
 | [],_::_,_,_,_,_,h,_,_,_=>by simp[aj] at h
 | _::_,[],_,_,_,_,h,_,_,_=>by simp[aj] at h
 | y::es,v::vs,b,o,k,xs,h,hl,hx,hr=>by
   simp only[aj] at h
   simp only[List.all_cons,Bool.and_eq_true] at hl
   unfold y8 at hx
   split at hx
   · simp at*
   · rename_i k' z1 ps z2 z3 ng heq
     injection heq with hy he
     subst hy he
     split at hx
     case isFalse=>simp at hx
     case isTrue hb=>
      obtain⟨IU,vZ,rfl⟩:=Option.map_eq_some_iff.1 hx
      obtain⟨rows,r1,r2,r3⟩:=Dx h.2 hl.2 vZ (vD hr)
      have hv:=h.1
      simp only[ak] at hv
      obtain⟨hc,us,rfl,hu⟩:=hv
      obtain⟨us⟩:=us
      match us,hu with
      | [u0,u1,u2,u3],hu=>
        simp only[aj,ak,and_true] at hu
        obtain⟨rfl,⟨mh,gu,a,cap,vs2,rfl,dz,pZ,Yn⟩,rfl,rfl⟩:=hu
        have cJ:=(hr 0 _ rfl).2
        have k0:=cJ 0 (.int .i64 z1) (by simp[Value.cells])
        have k1:=cJ 1 (.slice a ps.length cap) (by simp[Value.cells])
        have k2:=cJ 2 (.int .i64 z2) (by simp[Value.cells])
        have k3:=cJ 3 (.int .i64 z3) (by simp[Value.cells])
        have KW: ∃fh:List (Value×Value),fh.length=ps.length∧wA X μ ps fh∧(fh≠[]→ ∃b2 o2,a=some ⟨b2,o2,none⟩∧(b2<μ.w.heap.size∧ ¬μ.own b2)∧ ∀ (i:Nat) p,fh[i]? =some p→μ.w.cell? ⟨b2,o2+i*2,none⟩=some p.1∧μ.w.cell? ⟨b2,o2+i*2+1,none⟩=some p.2):=by
           rcases Yn with rfl| ⟨b2,o2,rfl,ez,bl,cP⟩
           · exact⟨[],rfl,trivial,fun h=>absurd rfl h⟩
           · obtain⟨fh,e1,e2,e3⟩:=H7 pZ hb.2 cP
             exact⟨fh,e1,e2,fun _=> ⟨b2,o2,rfl,⟨bl,fun h=>ez (.inl h)⟩,e3⟩⟩
        obtain⟨fh,e1,e2,e3⟩:=KW
        refine⟨⟨z1,a,cap,z2,z3,fh⟩::rows,by simp[r1],?_,fun i R hR=> ?_⟩
        ·  simp only[List.map_cons,jk]
           exact gr.append (Ax _ _ 0 e2) r2
        ·  cases i with
           | zero=>
             simp at hR;subst hR
             exact⟨⟨by simpa using k0,by rw[e1];simpa using k1,by simpa using k2,by simpa using k3⟩,e3,by show fh.length<_;rw[e1];exact hb.1⟩
           | succ i=>
             have:=r3 i R (by simpa using hR)
             rwa [show o+4+i*4=o+(i+1)*4 by omega] at this
   · simp at hx
theorem Cm (args:Array Value) (w:World): (callFunc 103 args).run Tryz.prog w= .ok (.enter 103 args) w:=by
 obtain⟨c,hc⟩: ∃c,Tryz.f103.body=some c:=⟨_,rfl⟩
 have hn:Tryz.f103.name≠ "runtime.NumGoroutine" :=by decide
 simp[callFunc,Sem.run_bind,program,Sem.run,Tryz.func103,hc,hn]
theorem Ay (    fn:FuncId→Option Nat) (tn:TypeId→Option Nat) (g:Nat) (hg:fn 103=some g):rj ⟨Tryz.prog,fn,tn⟩ g F7:=by
 refine⟨103,hg,fun caps xs rW B K μ lb Ba ho=> ?_⟩
 refine⟨Cm,?_⟩
 unfold F7 at rW
 split at rW
 · rename_i es y1 y2 y3 e n cs
   split at rW
   case isFalse=>simp at rW
   case isTrue hb=>
    obtain⟨lb⟩:=lb
    match lb,Ba with
    | [vm,vc],Ba=>
      simp only[aj,ak,and_true] at Ba
      obtain⟨⟨_,Mq,bm,om,szm,xm,rfl,ab8,Yo,⟨_,um,rfl,hum⟩,XJ⟩,⟨_,_,bc,oc,szc,xc,rfl,ab9,Sq,⟨_,uc,rfl,huc⟩,hrc⟩⟩:=Ba
      obtain⟨um⟩:=um
      obtain⟨uc⟩:=uc
      match um,hum,uc,huc with
      |   [s0,s1,s2,s3],hum,c0::c1::acU,huc=>
         simp only[aj,ak,and_true] at hum huc
         obtain⟨⟨mh,gu,a,cap,vs,rfl,dz,pZ,Yn⟩,_⟩:=hum
         obtain⟨rfl,rfl,_⟩:=huc
         have m0:=(XJ 0 _ rfl).2 0 _ (show (Value.agg _).cells[0]? =some (.slice a es.length cap) by simp[Value.cells])
         have q0:=(hrc 0 _ rfl).2 0 _ (show (Value.agg _).cells[0]? =some (.int .i64 e) by simp[Value.cells])
         have q1:=(hrc 0 _ rfl).2 1 _ (show (Value.agg _).cells[1]? =some (.int .i64 n) by simp[Value.cells])
         obtain⟨b,off,IT,KH,cP⟩: ∃b off,(es≠[]→a=some ⟨b,off,none⟩)∧(es≠[]→b<μ.w.heap.size∧ ¬μ.own b)∧di μ.w b off 4 vs:=by
            rcases Yn with rfl| ⟨b,off,rfl,ez,bl,cP⟩
            · refine⟨0,0,fun h=>absurd rfl h,fun h=>absurd rfl h,?_⟩
              have hv0:vs=[]:=by cases vs with
               | nil=>rfl
               | cons v vs=>simp[aj] at pZ
              subst hv0
              intro i v h;simp at h
            · exact⟨b,off,fun _=>rfl,fun _=> ⟨bl,fun h=>ez (.inl h)⟩,cP⟩
         obtain⟨rows,r1,r2,r3⟩:=Dx pZ gu rW cP
         refine⟨jk e n 0 (rows.map (·.fh)),r2.length,fun i x v hx hv=>r2.get hx hv,fun l J Jx W0 mf hJ hJx hY h0=> ?_⟩
         have nk: ∀ (a:Addr) v,a.block<μ.w.heap.size→μ.w.cell? a=some v→W0.cell? a=some v:=fun a v h1 h2=>by rw[←h2];exact World.cell?_of_block (mf.block a.block h1)
         have c7:rows≠[]→es≠[]:=fun h he=>h (by subst he;simpa using r1)
         have key:=H5 l bm (om+0) bc (oc+0) b off cap a e n rows (by rw[r1];exact hb.1) (fun R hR=>by
              obtain⟨i,hi⟩:=List.getElem?_of_mem hR
              exact(r3 i R hi).2.2) hb.2.1 hb.2.2 (fun b=>b<μ.w.heap.size∧ ¬μ.own b) J Jx (fun k F A B h1 h2=>hJ.grow k F A B h1 h2) (fun k F F' A h1 h2=>hJ.less k F F' A h1 h2)
            (jk e n 0 (rows.map (·.fh))) rfl (fun k F W1 v hv hJ1=>vB (hY k F W1 v hv hJ1) (fun ex W' h=>h.imp (fun h=> ⟨h.1,h.2.1,fun b hb=>hb.elim (fun hb=>h.2.2.1 b hb.1 hb.2) (fun hb=>h.2.2.2 b hb)⟩) id))
            W0 ⟨Yo,fun h=>ab8 (.inl h)⟩ ⟨Sq,fun h=>ab9 (.inl h)⟩ (fun h=>KH (c7 h)) (fun h=>IT (c7 h)) (by rw[r1];exact nk _ _ Yo (by simpa using m0)) (nk _ _ Sq (by simpa using q0)) (nk _ _ Sq (by simpa using q1))
            (fun k R hR=>by
              have bl:b<μ.w.heap.size:=(KH (c7 (by intro h;rw[h] at hR;simp at hR))).1
              obtain⟨⟨w0,w1,w2,w3⟩,_⟩:=r3 k R hR
              exact⟨nk _ _ bl w0,nk _ _ bl w1,nk _ _ bl w2,nk _ _ bl w3⟩)
            (fun k R hR hp=>by
              obtain⟨b2,o2,z1,z2,z3⟩:=(r3 k R hR).2.1 hp
              exact⟨b2,o2,z1,z2,fun i p h=> ⟨nk _ _ z2.1 (z3 i p h).1,nk _ _ z2.1 (z3 i p h).2⟩⟩) h0
         exact callsIn_wide.2 (callsIn_wide.1 key)
 · simp at rW
#print axioms Ay
end Go.Proofs
set_option maxRecDepth 100000
namespace Go.AM
open Go.Proofs
theorem acz:iz X0 Tryz.f29 4 2872193639704:=⟨⟨_,_,_,_,_,_,_,_,rfl,by kernel_rfl,by kernel_rfl,⟨.agg [.int .i64 0,.nils,.int .i64 0,.int .i64 0],by kernel_rfl,by decide,by kernel_rfl⟩,⟨_,_,_,51,rfl,by kernel_rfl,rfl,rfl,rfl,by kernel_rfl⟩⟩,rfl,by decide⟩
theorem acA:iz X0 Tryz.f30 5 2469078742875:=⟨⟨_,_,_,_,_,_,_,_,rfl,by kernel_rfl,by kernel_rfl,⟨.agg [.int .i64 0,.str [],.str [],.int .i64 0,.int .i64 0],by kernel_rfl,by decide,by kernel_rfl⟩,⟨_,_,_,54,rfl,by kernel_rfl,rfl,rfl,rfl,by kernel_rfl⟩⟩,rfl,by decide⟩
theorem acB:iz X0 Tryz.f31 8 1450901941607:=⟨⟨_,_,_,_,_,_,_,_,rfl,by kernel_rfl,by kernel_rfl,⟨.agg [.int .i64 0,.nils,.int .i64 0,.str [],.str [],.bool false,.int .i64 0,.int .i64 0],by kernel_rfl,by decide,by kernel_rfl⟩,⟨_,_,_,68,rfl,by kernel_rfl,rfl,rfl,rfl,by kernel_rfl⟩⟩,rfl,by decide⟩
theorem acC:iz X0 Tryz.f32 7 1927910799188:=⟨⟨_,_,_,_,_,_,_,_,rfl,by kernel_rfl,by kernel_rfl,⟨.agg [.int .i64 0,.int .i64 0,.int .i64 0,.str [],.str [],.int .i64 0,.int .i64 0],by kernel_rfl,by decide,by kernel_rfl⟩,⟨_,_,_,73,rfl,by kernel_rfl,rfl,rfl,rfl,by kernel_rfl⟩⟩,rfl,by decide⟩
theorem acD:iz X0 Tryz.f33 2 8278675785407:=⟨⟨_,_,_,_,_,_,_,_,rfl,by kernel_rfl,by kernel_rfl,⟨.agg [.int .i64 0,.int .i64 0],by kernel_rfl,by decide,by kernel_rfl⟩,⟨_,_,_,70,rfl,by kernel_rfl,rfl,rfl,rfl,by kernel_rfl⟩⟩,rfl,by decide⟩
theorem vy:iA Dy=true:=by kernel_rfl
theorem MP:iA (Dz.map (·.2))=true:=by kernel_rfl
theorem KX:j6 X0 Gp:=⟨⟨3,Tryz.f3,_,_,rfl,Tryz.func3,by kernel_rfl,rfl,adb.2,by decide+kernel⟩,
 ⟨6,Tryz.f6,_,_,rfl,Tryz.func6,by kernel_rfl,rfl,ade.2,by decide+kernel⟩,
 ⟨7,Tryz.f7,_,_,rfl,Tryz.func7,by kernel_rfl,rfl,adf.2,by decide+kernel⟩,
 ⟨8,Tryz.f8,_,_,rfl,Tryz.func8,by kernel_rfl,rfl,c79.2,by decide+kernel⟩,
 ⟨9,Tryz.f9,_,_,rfl,Tryz.func9,by kernel_rfl,rfl,adg.2,by decide+kernel⟩,
 ⟨10,Tryz.f10,_,_,rfl,Tryz.func10,by kernel_rfl,rfl,adh.2,by decide+kernel⟩,
 ⟨11,Tryz.f11,_,_,rfl,Tryz.func11,by kernel_rfl,rfl,adi.2,by decide+kernel⟩,
 ⟨12,Tryz.f12,_,_,rfl,Tryz.func12,by kernel_rfl,rfl,adj.2,by decide+kernel⟩,
 ⟨13,Tryz.f13,_,_,rfl,Tryz.func13,by kernel_rfl,rfl,c89.2,by decide+kernel⟩,
 ⟨14,Tryz.f14,_,_,rfl,Tryz.func14,by kernel_rfl,rfl,adk.2,by decide+kernel⟩,
 ⟨15,Tryz.f15,_,_,rfl,Tryz.func15,by kernel_rfl,rfl,adl.2,by decide+kernel⟩,
 ⟨17,Tryz.f17,_,_,rfl,Tryz.func17,by kernel_rfl,rfl,adm.2,by decide+kernel⟩,
 ⟨20,Tryz.f20,_,_,rfl,Tryz.func20,by kernel_rfl,rfl,adn.2,by decide+kernel⟩,
 ⟨21,Tryz.f21,_,_,rfl,Tryz.func21,by kernel_rfl,rfl,ado.2,by decide+kernel⟩,
 ⟨22,Tryz.f22,_,_,rfl,Tryz.func22,by kernel_rfl,rfl,adp.2,by decide+kernel⟩,
 ⟨23,Tryz.f23,_,_,rfl,Tryz.func23,by kernel_rfl,rfl,c77.2,by decide+kernel⟩,
 ⟨24,Tryz.f24,_,_,rfl,Tryz.func24,by kernel_rfl,rfl,c92.2,by decide+kernel⟩,
 ⟨25,Tryz.f25,_,_,rfl,Tryz.func25,by kernel_rfl,rfl,c93.2,by decide+kernel⟩,
 ⟨26,Tryz.f26,_,_,rfl,Tryz.func26,by kernel_rfl,rfl,c94.2,by decide+kernel⟩,
 ⟨27,Tryz.f27,_,_,rfl,Tryz.func27,by kernel_rfl,rfl,c95.2,by decide+kernel⟩,
 ⟨28,Tryz.f28,_,_,rfl,Tryz.func28,by kernel_rfl,rfl,adq.2,by decide+kernel⟩,
 ⟨34,Tryz.f34,_,_,rfl,Tryz.func34,by kernel_rfl,rfl,adr.2,by decide+kernel⟩,
 ⟨35,Tryz.f35,_,_,rfl,Tryz.func35,by kernel_rfl,rfl,ads.2,by decide+kernel⟩,
 ⟨36,Tryz.f36,_,_,rfl,Tryz.func36,by kernel_rfl,rfl,adt.2,by decide+kernel⟩,
 ⟨37,Tryz.f37,_,_,rfl,Tryz.func37,by kernel_rfl,rfl,adu.2,by decide+kernel⟩,
 ⟨38,Tryz.f38,_,_,rfl,Tryz.func38,by kernel_rfl,rfl,adv.2,by decide+kernel⟩,
 ⟨39,Tryz.f39,_,_,rfl,Tryz.func39,by kernel_rfl,rfl,adw.2,by decide+kernel⟩,
 ⟨40,Tryz.f40,_,_,rfl,Tryz.func40,by kernel_rfl,rfl,adx.2,by decide+kernel⟩,
 ⟨41,Tryz.f41,_,_,rfl,Tryz.func41,by kernel_rfl,rfl,ady.2,by decide+kernel⟩,
 ⟨42,Tryz.f42,_,_,rfl,Tryz.func42,by kernel_rfl,rfl,adz.2,by decide+kernel⟩,
 ⟨43,Tryz.f43,_,_,rfl,Tryz.func43,by kernel_rfl,rfl,adA.2,by decide+kernel⟩,
 ⟨44,Tryz.f44,_,_,rfl,Tryz.func44,by kernel_rfl,rfl,adB.2,by decide+kernel⟩,
 ⟨45,Tryz.f45,_,_,rfl,Tryz.func45,by kernel_rfl,rfl,c37.2,by decide+kernel⟩,
 ⟨46,Tryz.f46,_,_,rfl,Tryz.func46,by kernel_rfl,rfl,c27.2,by decide+kernel⟩,
 ⟨47,Tryz.f47,_,_,rfl,Tryz.func47,by kernel_rfl,rfl,adC.2,by decide+kernel⟩,
 ⟨48,Tryz.f48,_,_,rfl,Tryz.func48,by kernel_rfl,rfl,adD.2,by decide+kernel⟩,
 ⟨49,Tryz.f49,_,_,rfl,Tryz.func49,by kernel_rfl,rfl,adE.2,by decide+kernel⟩,
 ⟨50,Tryz.f50,_,_,rfl,Tryz.func50,by kernel_rfl,rfl,adF.2,by decide+kernel⟩,
 ⟨51,Tryz.f51,_,_,rfl,Tryz.func51,by kernel_rfl,rfl,adG.2,by decide+kernel⟩,
 ⟨52,Tryz.f52,_,_,rfl,Tryz.func52,by kernel_rfl,rfl,adH.2,by decide+kernel⟩,
 ⟨53,Tryz.f53,_,_,rfl,Tryz.func53,by kernel_rfl,rfl,adI.2,by decide+kernel⟩,
 ⟨54,Tryz.f54,_,_,rfl,Tryz.func54,by kernel_rfl,rfl,c83.2,by decide+kernel⟩,
 ⟨55,Tryz.f55,_,_,rfl,Tryz.func55,by kernel_rfl,rfl,c84.2,by decide+kernel⟩,
 ⟨56,Tryz.f56,_,_,rfl,Tryz.func56,by kernel_rfl,rfl,c85.2,by decide+kernel⟩,
 ⟨57,Tryz.f57,_,_,rfl,Tryz.func57,by kernel_rfl,rfl,c86.2,by decide+kernel⟩,
 ⟨58,Tryz.f58,_,_,rfl,Tryz.func58,by kernel_rfl,rfl,c87.2,by decide+kernel⟩,
 ⟨59,Tryz.f59,_,_,rfl,Tryz.func59,by kernel_rfl,rfl,adJ.2,by decide+kernel⟩,
 ⟨60,Tryz.f60,_,_,rfl,Tryz.func60,by kernel_rfl,rfl,adK.2,by decide+kernel⟩,
 ⟨61,Tryz.f61,_,_,rfl,Tryz.func61,by kernel_rfl,rfl,adL.2,by decide+kernel⟩,
 ⟨62,Tryz.f62,_,_,rfl,Tryz.func62,by kernel_rfl,rfl,adM.2,by decide+kernel⟩,
 ⟨63,Tryz.f63,_,_,rfl,Tryz.func63,by kernel_rfl,rfl,adN.2,by decide+kernel⟩,
 ⟨64,Tryz.f64,_,_,rfl,Tryz.func64,by kernel_rfl,rfl,adO.2,by decide+kernel⟩,
 ⟨65,Tryz.f65,_,_,rfl,Tryz.func65,by kernel_rfl,rfl,adP.2,by decide+kernel⟩,
 ⟨66,Tryz.f66,_,_,rfl,Tryz.func66,by kernel_rfl,rfl,adQ.2,by decide+kernel⟩,
 ⟨67,Tryz.f67,_,_,rfl,Tryz.func67,by kernel_rfl,rfl,adR.2,by decide+kernel⟩,
 ⟨68,Tryz.f68,_,_,rfl,Tryz.func68,by kernel_rfl,rfl,adS.2,by decide+kernel⟩,
 ⟨69,Tryz.f69,_,_,rfl,Tryz.func69,by kernel_rfl,rfl,adT.2,by decide+kernel⟩,
 ⟨70,Tryz.f70,_,_,rfl,Tryz.func70,by kernel_rfl,rfl,adU.2,by decide+kernel⟩,
 ⟨71,Tryz.f71,_,_,rfl,Tryz.func71,by kernel_rfl,rfl,adV.2,by decide+kernel⟩,
 ⟨72,Tryz.f72,_,_,rfl,Tryz.func72,by kernel_rfl,rfl,adW.2,by decide+kernel⟩,
 ⟨73,Tryz.f73,_,_,rfl,Tryz.func73,by kernel_rfl,rfl,adX.2,by decide+kernel⟩,
 ⟨74,Tryz.f74,_,_,rfl,Tryz.func74,by kernel_rfl,rfl,adY.2,by decide+kernel⟩,
 ⟨75,Tryz.f75,_,_,rfl,Tryz.func75,by kernel_rfl,rfl,adZ.2,by decide+kernel⟩,
 ⟨76,Tryz.f76,_,_,rfl,Tryz.func76,by kernel_rfl,rfl,c41.2,by decide+kernel⟩,
 ⟨77,Tryz.f77,_,_,rfl,Tryz.func77,by kernel_rfl,rfl,ad0.2,by decide+kernel⟩,
 ⟨78,Tryz.f78,_,_,rfl,Tryz.func78,by kernel_rfl,rfl,ad1.2,by decide+kernel⟩,
 ⟨79,Tryz.f79,_,_,rfl,Tryz.func79,by kernel_rfl,rfl,ad2.2,by decide+kernel⟩,
 ⟨80,Tryz.f80,_,_,rfl,Tryz.func80,by kernel_rfl,rfl,c40.2,by decide+kernel⟩,
 ⟨81,Tryz.f81,_,_,rfl,Tryz.func81,by kernel_rfl,rfl,c22.2,by decide+kernel⟩,
 ⟨82,Tryz.f82,_,_,rfl,Tryz.func82,by kernel_rfl,rfl,c23.2,by decide+kernel⟩,
 ⟨83,Tryz.f83,_,_,rfl,Tryz.func83,by kernel_rfl,rfl,ad3.2,by decide+kernel⟩,
 ⟨84,Tryz.f84,_,_,rfl,Tryz.func84,by kernel_rfl,rfl,ad4.2,by decide+kernel⟩,
 ⟨85,Tryz.f85,_,_,rfl,Tryz.func85,by kernel_rfl,rfl,ad5.2,by decide+kernel⟩,
 ⟨86,Tryz.f86,_,_,rfl,Tryz.func86,by kernel_rfl,rfl,ad6.2,by decide+kernel⟩,
 ⟨87,Tryz.f87,_,_,rfl,Tryz.func87,by kernel_rfl,rfl,ad7.2,by decide+kernel⟩,
 ⟨88,Tryz.f88,_,_,rfl,Tryz.func88,by kernel_rfl,rfl,ad8.2,by decide+kernel⟩,
 ⟨89,Tryz.f89,_,_,rfl,Tryz.func89,by kernel_rfl,rfl,ad9.2,by decide+kernel⟩,
 ⟨90,Tryz.f90,_,_,rfl,Tryz.func90,by kernel_rfl,rfl,aea.2,by decide+kernel⟩,
 ⟨91,Tryz.f91,_,_,rfl,Tryz.func91,by kernel_rfl,rfl,aeb.2,by decide+kernel⟩,
 ⟨92,Tryz.f92,_,_,rfl,Tryz.func92,by kernel_rfl,rfl,aec.2,by decide+kernel⟩,
 ⟨93,Tryz.f93,_,_,rfl,Tryz.func93,by kernel_rfl,rfl,aed.2,by decide+kernel⟩,
 ⟨94,Tryz.f94,_,_,rfl,Tryz.func94,by kernel_rfl,rfl,aee.2,by decide+kernel⟩,
 ⟨95,Tryz.f95,_,_,rfl,Tryz.func95,by kernel_rfl,rfl,aef.2,by decide+kernel⟩,
 ⟨96,Tryz.f96,_,_,rfl,Tryz.func96,by kernel_rfl,rfl,aeg.2,by decide+kernel⟩,
 ⟨97,Tryz.f97,_,_,rfl,Tryz.func97,by kernel_rfl,rfl,aeh.2,by decide+kernel⟩,
 ⟨98,Tryz.f98,_,_,rfl,Tryz.func98,by kernel_rfl,rfl,aei.2,by decide+kernel⟩,
 ⟨99,Tryz.f99,_,_,rfl,Tryz.func99,by kernel_rfl,rfl,aej.2,by decide+kernel⟩,
 ⟨100,Tryz.f100,_,_,rfl,Tryz.func100,by kernel_rfl,rfl,aek.2,by decide+kernel⟩,
 ⟨102,Tryz.f102,_,_,rfl,Tryz.func102,by kernel_rfl,rfl,ael.2,by decide+kernel⟩,
 ⟨104,Tryz.f104,_,_,rfl,Tryz.func104,by kernel_rfl,rfl,aem.2,by decide+kernel⟩,
 ⟨105,Tryz.f105,_,_,rfl,Tryz.func105,by kernel_rfl,rfl,aen.2,by decide+kernel⟩,
 ⟨106,Tryz.f106,_,_,rfl,Tryz.func106,by kernel_rfl,rfl,aeo.2,by decide+kernel⟩,
 ⟨107,Tryz.f107,_,_,rfl,Tryz.func107,by kernel_rfl,rfl,c33.2,by decide+kernel⟩,
 ⟨109,Tryz.f109,_,_,rfl,Tryz.func109,by kernel_rfl,rfl,aep.2,by decide+kernel⟩,
 ⟨117,Tryz.f117,_,_,rfl,Tryz.func117,by kernel_rfl,rfl,c50.2,by decide+kernel⟩,
 ⟨118,Tryz.f118,_,_,rfl,Tryz.func118,by kernel_rfl,rfl,c51.2,by decide+kernel⟩,
 ⟨119,Tryz.f119,_,_,rfl,Tryz.func119,by kernel_rfl,rfl,c36.2,by decide+kernel⟩,
 ⟨120,Tryz.f120,_,_,rfl,Tryz.func120,by kernel_rfl,rfl,aeq.2,by decide+kernel⟩,
 ⟨121,Tryz.f121,_,_,rfl,Tryz.func121,by kernel_rfl,rfl,aer.2,by decide+kernel⟩,
 ⟨122,Tryz.f122,_,_,rfl,Tryz.func122,by kernel_rfl,rfl,aes.2,by decide+kernel⟩,
 ⟨123,Tryz.f123,_,_,rfl,Tryz.func123,by kernel_rfl,rfl,aet.2,by decide+kernel⟩,
 ⟨124,Tryz.f124,_,_,rfl,Tryz.func124,by kernel_rfl,rfl,aeu.2,by decide+kernel⟩,
 ⟨125,Tryz.f125,_,_,rfl,Tryz.func125,by kernel_rfl,rfl,aev.2,by decide+kernel⟩,
 ⟨126,Tryz.f126,_,_,rfl,Tryz.func126,by kernel_rfl,rfl,aew.2,by decide+kernel⟩,
 ⟨127,Tryz.f127,_,_,rfl,Tryz.func127,by kernel_rfl,rfl,aex.2,by decide+kernel⟩,
 ⟨128,Tryz.f128,_,_,rfl,Tryz.func128,by kernel_rfl,rfl,aey.2,by decide+kernel⟩,
 ⟨129,Tryz.f129,_,_,rfl,Tryz.func129,by kernel_rfl,rfl,aez.2,by decide+kernel⟩,
 ⟨130,Tryz.f130,_,_,rfl,Tryz.func130,by kernel_rfl,rfl,aeA.2,by decide+kernel⟩,
 ⟨131,Tryz.f131,_,_,rfl,Tryz.func131,by kernel_rfl,rfl,aeB.2,by decide+kernel⟩,
 ⟨132,Tryz.f132,_,_,rfl,Tryz.func132,by kernel_rfl,rfl,aeC.2,by decide+kernel⟩,
 ⟨133,Tryz.f133,_,_,rfl,Tryz.func133,by kernel_rfl,rfl,aeD.2,by decide+kernel⟩,
 ⟨134,Tryz.f134,_,_,rfl,Tryz.func134,by kernel_rfl,rfl,aeE.2,by decide+kernel⟩,
 ⟨135,Tryz.f135,_,_,rfl,Tryz.func135,by kernel_rfl,rfl,aeF.2,by decide+kernel⟩,
 ⟨136,Tryz.f136,_,_,rfl,Tryz.func136,by kernel_rfl,rfl,aeG.2,by decide+kernel⟩,
 ⟨137,Tryz.f137,_,_,rfl,Tryz.func137,by kernel_rfl,rfl,aeH.2,by decide+kernel⟩,
 ⟨138,Tryz.f138,_,_,rfl,Tryz.func138,by kernel_rfl,rfl,aeI.2,by decide+kernel⟩,
 ⟨139,Tryz.f139,_,_,rfl,Tryz.func139,by kernel_rfl,rfl,aeJ.2,by decide+kernel⟩,
 ⟨140,Tryz.f140,_,_,rfl,Tryz.func140,by kernel_rfl,rfl,aeK.2,by decide+kernel⟩,
 ⟨146,Tryz.f146,_,_,rfl,Tryz.func146,by kernel_rfl,rfl,aeL.2,by decide+kernel⟩,
 ⟨147,Tryz.f147,_,_,rfl,Tryz.func147,by kernel_rfl,rfl,aeM.2,by decide+kernel⟩,
 ⟨148,Tryz.f148,_,_,rfl,Tryz.func148,by kernel_rfl,rfl,aeN.2,by decide+kernel⟩,
 ⟨149,Tryz.f149,_,_,rfl,Tryz.func149,by kernel_rfl,rfl,aeO.2,by decide+kernel⟩,
 ⟨150,Tryz.f150,_,_,rfl,Tryz.func150,by kernel_rfl,rfl,aeP.2,by decide+kernel⟩,
 ⟨151,Tryz.f151,_,_,rfl,Tryz.func151,by kernel_rfl,rfl,aeQ.2,by decide+kernel⟩,
 ⟨152,Tryz.f152,_,_,rfl,Tryz.func152,by kernel_rfl,rfl,aeR.2,by decide+kernel⟩,
 ⟨153,Tryz.f153,_,_,rfl,Tryz.func153,by kernel_rfl,rfl,aeS.2,by decide+kernel⟩,
 ⟨154,Tryz.f154,_,_,rfl,Tryz.func154,by kernel_rfl,rfl,aeT.2,by decide+kernel⟩,
 ⟨155,Tryz.f155,_,_,rfl,Tryz.func155,by kernel_rfl,rfl,aeU.2,by decide+kernel⟩,
 ⟨156,Tryz.f156,_,_,rfl,Tryz.func156,by kernel_rfl,rfl,aeV.2,by decide+kernel⟩,
 ⟨157,Tryz.f157,_,_,rfl,Tryz.func157,by kernel_rfl,rfl,aeW.2,by decide+kernel⟩,
 ⟨159,Tryz.f159,_,_,rfl,Tryz.func159,by kernel_rfl,rfl,aeX.2,by decide+kernel⟩,
 ⟨160,Tryz.f160,_,_,rfl,Tryz.func160,by kernel_rfl,rfl,aeY.2,by decide+kernel⟩,
 ⟨161,Tryz.f161,_,_,rfl,Tryz.func161,by kernel_rfl,rfl,aeZ.2,by decide+kernel⟩,
 ⟨162,Tryz.f162,_,_,rfl,Tryz.func162,by kernel_rfl,rfl,ae1.2,by decide+kernel⟩,
 ⟨163,Tryz.f163,_,_,rfl,Tryz.func163,by kernel_rfl,rfl,ae2.2,by decide+kernel⟩,
 ⟨164,Tryz.f164,_,_,rfl,Tryz.func164,by kernel_rfl,rfl,ae3.2,by decide+kernel⟩,
 ⟨165,Tryz.f165,_,_,rfl,Tryz.func165,by kernel_rfl,rfl,ae4.2,by decide+kernel⟩,
 ⟨166,Tryz.f166,_,_,rfl,Tryz.func166,by kernel_rfl,rfl,ae5.2,by decide+kernel⟩,
 ⟨167,Tryz.f167,_,_,rfl,Tryz.func167,by kernel_rfl,rfl,ae6.2,by decide+kernel⟩,
 ⟨168,Tryz.f168,_,_,rfl,Tryz.func168,by kernel_rfl,rfl,ae7.2,by decide+kernel⟩,
 ⟨169,Tryz.f169,_,_,rfl,Tryz.func169,by kernel_rfl,rfl,ae8.2,by decide+kernel⟩,
 ⟨170,Tryz.f170,_,_,rfl,Tryz.func170,by kernel_rfl,rfl,ae9.2,by decide+kernel⟩,
 ⟨178,Tryz.f178,_,_,rfl,Tryz.func178,by kernel_rfl,rfl,afa.2,by decide+kernel⟩,
 ⟨179,Tryz.f179,_,_,rfl,Tryz.func179,by kernel_rfl,rfl,afb.2,by decide+kernel⟩,
 ⟨180,Tryz.f180,_,_,rfl,Tryz.func180,by kernel_rfl,rfl,afc.2,by decide+kernel⟩,
 ⟨181,Tryz.f181,_,_,rfl,Tryz.func181,by kernel_rfl,rfl,afd.2,by decide+kernel⟩,
 ⟨185,Tryz.f185,_,_,rfl,Tryz.func185,by kernel_rfl,rfl,afe.2,by decide+kernel⟩,trivial⟩
theorem Az: ∀t1 t2 k,X0.jb t1=some k→X0.jb t2=some k→t1=t2:=(Ao (P:=Tryz.prog) (fl:=Dy) (tl:=Dz) (tab:=[]) (ext:=[]) (hyb:=[]) (iter:=[]) vy MP (by kernel_rfl) trivial trivial trivial trivial).inj
theorem H8:pM X0 Gq:=⟨⟨29,rfl,fun _ _ h=>iV Az Tryz.func29 (by kernel_rfl) acz h⟩,
 ⟨30,rfl,fun _ _ h=>iV Az Tryz.func30 (by kernel_rfl) acA h⟩,
 ⟨31,rfl,fun _ _ h=>iV Az Tryz.func31 (by kernel_rfl) acB h⟩,
 ⟨32,rfl,fun _ _ h=>iV Az Tryz.func32 (by kernel_rfl) acC h⟩,
 ⟨33,rfl,fun _ _ h=>iV Az Tryz.func33 (by kernel_rfl) acD h⟩,
 ⟨108,rfl,fun _ _ h=>Ca Tryz.func108 (by kernel_rfl) (by kernel_rfl) (by kernel_rfl) rfl h⟩,trivial⟩
theorem Fa:mw X0 CW:=⟨Aw _ _ 221 rfl,Ay _ _ 564 rfl,trivial⟩
theorem Yg:vu X0 E:=Ao (P:=Tryz.prog) (fl:=Dy) (tl:=Dz) vy MP (by kernel_rfl) KX H8 trivial Fa
end Go.AM
