/-
  Texts of the proof, joined by program: AmOw, AmIter, AmIterF, AmOwF, AmTrDa. Own work.
-/
import Derived.Test.YtkdfnbahehdhmaaGreatBase
import Derived.Test.YtkdfnbahehdhmaaGreatOpsC
import Derived.Test.YtkdfnbahehdhmaaGreatTail
import Derived.Test.YtkdfnbahehdhmaaGreatFns
import Derived.StillTailTactics
import Derived.Test.YtkdfnbahehdhmaaGreatProg
import Derived.RangeFuncNested
import Derived.RangeFuncLeaves
import Derived.Shelf.Abstract
import Derived.Shelf.RegionOpen
import Derived.WalkKit
import Derived.OwnWalkIn
import Derived.TacticsInMore
import Derived.LoopNIn
import Derived.LoopIn
import Derived.Test.YtkdfnbahehdhmaaGreatRows
set_option linter.unusedSimpArgs false
set_option linter.unusedVariables false
namespace Go.Proofs
open Go.RowKit Go.Shelf Go.AM
attribute [local go_sem] Oper.semAt_some
@[local go_sem] theorem Tb: (Fr none).round=none:=rfl
def ji (skip:Bool) (n:Int):Nat→List (Value×Value)→List (Array Value)
 | i,p::q::rest=> (if skip && (decide ((i:Int)=n - 1) || decide ((i:Int)=n)) then [] else [#[.agg #[p.1,p.2],.agg #[q.1,q.2]]])++ji skip n (i+1) (q::rest)
 | _,_=> []
def jk (e n:Int):Nat→List (List (Value×Value))→List (Array Value)
 | _,[]=> []
 | k,ps::rest=>ji (decide ((k:Int)=e)) n 0 ps++jk e n (k+1) rest
structure MM where
 id:Int
 a:Option Addr
 cap:Nat
 l:Int
 r:Int
 fh:List (Value×Value)
theorem Cg {skip:Bool} {n:Int} {i:Nat} {ps:List (Value×Value)} {p q:Value×Value} (hp:ps[i]? =some p) (hq:ps[i+1]? =some q):
  ji skip n i (ps.drop i)=(if skip && (decide ((i:Int)=n - 1) || decide ((i:Int)=n)) then [] else [#[.agg #[p.1,p.2],.agg #[q.1,q.2]]])++ji skip n (i+1) (ps.drop (i+1)):=by
 obtain⟨h1,rfl⟩:=List.getElem?_eq_some_iff.1 hp
 obtain⟨h2,rfl⟩:=List.getElem?_eq_some_iff.1 hq
 rw[List.drop_eq_getElem_cons h1,List.drop_eq_getElem_cons h2]
 rw[ji]
theorem xx {skip:Bool} {n:Int} {i:Nat} {ps:List (Value×Value)} (h:ps.length - 1≤i):ji skip n i (ps.drop i)=[]:=by
 rcases hd:ps.drop i with _| ⟨p,_| ⟨q,rest⟩⟩
 · rfl
 · rfl
 · have:=congrArg List.length hd
   simp at this;omega
theorem Ch {e n:Int} {k:Nat} {rs:List (List (Value×Value))} {ps:List (Value×Value)} (h:rs[k]? =some ps):jk e n k (rs.drop k)=ji (decide ((k:Int)=e)) n 0 ps++jk e n (k+1) (rs.drop (k+1)):=by
 obtain⟨h1,rfl⟩:=List.getElem?_eq_some_iff.1 h
 rw[List.drop_eq_getElem_cons h1,jk]
theorem Ci {w:World} {o:Obj} {a:Addr} {v:Value} (h:w.cell? a=some v): (w.alloc o).cell? a=some v:=by
 have bl:a.block<w.heap.size:=by
  rcases Nat.lt_or_ge a.block w.heap.size with hl| hl
  · exact hl
  · simp[World.cell?,Array.getElem?_eq_none hl] at h
 rw[←h]
 simp only[World.cell?,Below.heap_alloc w o a.block bl]
theorem As (w:World) (o:Obj):w.grownBy (w.alloc o) none:=by
 have b1:Below w.heap.size w (w.alloc o):=(Below.refl _ w).alloc (Nat.le_refl _) _
 exact⟨b1.os,b1.tape,b1.output,b1.size,fun k hk _=>b1.block k hk⟩
theorem H4 (A:World):A.grownBy A.drew none:=⟨rfl,rfl,rfl,Nat.le_refl _,fun _ _ _=>rfl⟩
theorem xy {A B:World} {a:Addr} (h:B.heap[a.block]? =A.heap[a.block]?):B.cell? a=A.cell? a:=by
 simp only[World.cell?,h]
set_option maxRecDepth 100000 in
set_option maxHeartbeats 4000000 in
theorem H5 (     l Bm Om Bc Oc b off cap:Nat) (a0:Option Addr) (e n:Int) (rows:List MM) (hbig:rows.length< 4611686018427387904) (Yh: ∀R ∈ rows,R.fh.length< 4611686018427387904) (Rw:0≤n) (Mo:n< 4611686018427387904)
  (S:Nat→Prop) (J:Nat→(Nat→Prop)→World→Prop) (Jx:Nat→World→Prop)
  (hJg: ∀k F A B,J k F A→A.grownBy B none→J k (fun b=>F b∨(A.heap.size≤b∧b<B.heap.size)) B) (hJl: ∀k F F' A,J k F A→(∀b,F' b→F b)→J k F' A)
  (wk:List (Array Value)) (ab2:wk.drop 0=jk e n 0 (rows.map (·.fh)))
  (hY: ∀ (k:Nat) F W1 v,wk[k]? =some v→J k F W1→YieldAt (Fr none) 0 Tryz.prog l v W1 fun e W'=>
    (e= .returned (.bool true)∧J (k+1) F W'∧ ∀b,S b∨F b→W'.heap[b]? =W1.heap[b]?)∨(e= .returned (.bool false)∧Jx (k+1) W'))
  (W:World) (hSm:S Bm) (hSc:S Bc) (Tc:rows≠[]→S b) (IX:rows≠[]→a0=some ⟨b,off,none⟩) (hBm:W.cell? ⟨Bm,Om,none⟩=some (.slice a0 rows.length cap))
  (ab3:W.cell? ⟨Bc,Oc,none⟩=some (.int .i64 e)) (ab4:W.cell? ⟨Bc,Oc+1,none⟩=some (.int .i64 n))
  (hc: ∀ (k:Nat) R,rows[k]? =some R→W.cell? ⟨b,off+k*4,none⟩=some (.int .i64 R.id)∧W.cell? ⟨b,off+k*4+1,none⟩=some (.slice R.a R.fh.length R.cap)∧W.cell? ⟨b,off+k*4+2,none⟩=some (.int .i64 R.l)∧W.cell? ⟨b,off+k*4+3,none⟩=some (.int .i64 R.r))
  (Xi: ∀ (k:Nat) R,rows[k]? =some R→R.fh≠[]→ ∃b2 o2,R.a=some ⟨b2,o2,none⟩∧S b2∧ ∀ (i:Nat) p,R.fh[i]? =some p→W.cell? ⟨b2,o2+i*2,none⟩=some p.1∧W.cell? ⟨b2,o2+i*2+1,none⟩=some p.2)
  (h0:J 0 (fun _=>False) W):
  CallsIn (Fr none) 1 Tryz.prog 103 #[.func (.yield l) #[] #[],.pointer (some ⟨Bm,Om,none⟩),.pointer (some ⟨Bc,Oc,none⟩)] W fun ex W'=> (∃v,ex= .returned v)∧((∃F,J wk.length F W')∨ ∃k,k≤wk.length∧Jx k W'):=by
 refine callsIn_of_wp Tryz.func103 rfl trivial ?_ rfl
 simp only[Tryz.ntmps103,List.size_toArray,List.length_cons,List.length_nil,Nat.reduceAdd,Nat.reduceSub,Array.replicate_succ,Array.replicate_zero,List.push_toArray,List.append_toArray,List.nil_append,List.cons_append]
 have FP:Tryz.prog.follows .mixedOrders=true:=by kernel_rfl
 gi_wp2
 gi_loopw [10] (fun i wr=> ∃k:Nat,k≤rows.length∧i= .int .i64 k∧ ∃j F,J j F wr∧wk.drop j=jk e n k ((rows.map (·.fh)).drop k)∧j≤wk.length∧ ∀a v,S a.block→W.cell? a=some v→wr.cell? a=some v) (fun i _=>rows.length - (intOf i).toNat)
 case atStart=>exact⟨0,Nat.zero_le _,rfl,0,_,h0,ab2,Nat.zero_le _,fun a v _ h=>h⟩
 case round=>
  obtain⟨k,hk,rfl,j,F,hJ,hG,bM,At⟩:=hrel
  by_cases bl:k<rows.length
  · have rB: (   k:Int) < (rows.length:Int):=by omega
    have hR:rows[k]? =some rows[k]:=List.getElem?_eq_getElem bl
    have c7:rows≠[]:=by intro h;rw[h] at bl;simp at bl
    obtain rfl:=IX c7
    replace Tc:=Tc c7
    clear IX c7
    obtain⟨c0,c1,c2,c3⟩:=hc k _ hR
    replace c0:=At _ _ Tc c0
    replace c1:=At _ _ Tc c1
    replace c2:=At _ _ Tc c2
    replace c3:=At _ _ Tc c3
    have hRp:=Yh rows[k] (List.getElem_mem bl)
    have KW:=Xi k _ hR
    have hrk: (rows.map (·.fh))[k]? =some rows[k].fh:=by simp[hR]
    rw[Ch hrk] at hG
    generalize Yi:decide ((k:Int)=e)=sk at hG
    clear hrk hR
    generalize rows[k]=R at*
    obtain⟨Sn,Ra,yJ,Rl,Rr,fh⟩:=R
    dsimp only at c0 c1 c2 c3 hRp KW hG
    have hgr:=As wr (Obj.cells #[Value.int IntKind.i64 Sn,Value.slice Ra fh.length yJ,Value.int IntKind.i64 Rl,Value.int IntKind.i64 Rr] 51)
    have So: ∀a v,S a.block→W.cell? a=some v→(wr.alloc (Obj.cells #[Value.int IntKind.i64 Sn,Value.slice Ra fh.length yJ,Value.int IntKind.i64 Rl,Value.int IntKind.i64 Rr] 51)).cell? a=some v:=fun a v h1 h2=>Ci (At a v h1 h2)
    have cH: (wr.alloc (Obj.cells #[Value.int IntKind.i64 Sn,Value.slice Ra fh.length yJ,Value.int IntKind.i64 Rl,Value.int IntKind.i64 Rr] 51)).heap.size=wr.heap.size+1:=World.size_alloc _ _
    have Sp: (wr.alloc (Obj.cells #[Value.int IntKind.i64 Sn,Value.slice Ra fh.length yJ,Value.int IntKind.i64 Rl,Value.int IntKind.i64 Rr] 51)).cell? ⟨wr.heap.size,1,none⟩=some (.slice Ra fh.length yJ):=by
       simp only[World.cell?]
       rw[World.alloc_heap_new]
       rfl
    obtain⟨F2,hFx,MN⟩: ∃F2:Nat→Prop,F2 wr.heap.size∧J j F2 (wr.alloc (Obj.cells #[Value.int IntKind.i64 Sn,Value.slice Ra fh.length yJ,Value.int IntKind.i64 Rl,Value.int IntKind.i64 Rr] 51)):=
       ⟨_,.inr ⟨Nat.le_refl _,by omega⟩,hJg _ _ _ _ hJ hgr⟩
    by_cases h1: (1:Int) < (fh.length:Int)
    ·  have Yj: ( 0:Int)≤(fh.length:Int) - 1:=by omega
       obtain⟨b2,o2,rfl,hS2,hpc⟩:=KW (by intro h;rw[h] at h1;simp at h1)
       gi_wp2
       generalize wr.alloc (Obj.cells #[Value.int IntKind.i64 Sn,Value.slice (some ⟨b2,o2,none⟩) fh.length yJ,Value.int IntKind.i64 Rl,Value.int IntKind.i64 Rr] 51)=wa at*
       generalize wr.heap.size=Bx at*
       gi_loopw [20] (fun i w2=> ∃i':Nat,i'≤fh.length - 1∧i= .int .i64 i'∧ ∃j2,J j2 F2 w2∧wk.drop j2=ji sk n i' (fh.drop i')++jk e n (k+1) ((rows.map (·.fh)).drop (k+1))∧j2≤wk.length∧(∀a v,S a.block→W.cell? a=some v→w2.cell? a=some v)∧w2.cell? ⟨Bx,1,none⟩=some (.slice (some ⟨b2,o2,none⟩) fh.length yJ)) (fun i _=>fh.length - (intOf i).toNat)
       case atStart=>exact⟨0,Nat.zero_le _,rfl,j,MN,by simpa using hG,bM,So,Sp⟩
       case round=>
        clear hJ MN hG bM At So Sp
        obtain⟨i',yg,rfl,j2,MN,hG,bM,At,Sp⟩:=hrel
        have ac3:=At _ _ hSc ab3
        have ac4:=At _ _ hSc ab4
        by_cases fB:i'<fh.length - 1
        · have hl1: (i':Int) < (fh.length:Int) - 1:=by omega
          have hgp:fh[i']? =some fh[i']:=List.getElem?_eq_getElem (by omega)
          have hgq:fh[i'+1]? =some fh[i'+1]:=List.getElem?_eq_getElem (by omega)
          rw[Cg hgp hgq] at hG
          obtain⟨p1,p2⟩:=hpc _ _ hgp
          obtain⟨q1,q2⟩:=hpc _ _ hgq
          replace p1:=At _ _ hS2 p1
          replace p2:=At _ _ hS2 p2
          replace q1:=At _ _ hS2 q1
          replace q2:=At _ _ hS2 q2
          generalize fh[i']=P at*
          generalize fh[i'+1]=Q2 at*
          have Jb:IntKind.i64.wrap (n - 1)=n - 1:=wrap64 (by omega) (by omega)
          by_cases Yk: (k:Int)=e∧((i':Int)=n - 1∨(i':Int)=n)
          ·  obtain⟨yk,lH⟩:=Yk
             have zH:wk.drop j2=ji sk n (i'+1) (fh.drop (i'+1))++jk e n (k+1) ((rows.map (·.fh)).drop (k+1)):=by
               rw[hG,if_pos (by rw[←Yi];simp[yk];exact lH)];rfl
             rcases lH with lH| lH
             · obtain rfl:n=(i':Int)+1:=by omega
               clear lH Jb hG
               have ac5:IntKind.i64.wrap ((i':Int)+1 - 1)=(i':Int):=(wrap64 (by omega) (by omega)).trans (by omega)
               gi_wp2
               exact⟨⟨i'+1,by omega,rfl,j2,MN,zH,bM,At,Sp⟩,by simp only[intOf];omega⟩
             · obtain rfl:n=(i':Int):=lH.symm
               clear hG
               have XN: ¬ (i':Int)=(i':Int) - 1:=by omega
               gi_wp2
               exact⟨⟨i'+1,by omega,rfl,j2,MN,zH,bM,At,Sp⟩,by simp only[intOf];omega⟩
          ·  obtain⟨v,hve⟩: ∃v:Array Value,v= #[.agg #[P.1,P.2],.agg #[Q2.1,Q2.2]]:=⟨_,rfl⟩
             have Cj:wk.drop j2=v:: (ji sk n (i'+1) (fh.drop (i'+1))++jk e n (k+1) ((rows.map (·.fh)).drop (k+1))):=by
               rw[hG,if_neg (by rw[←Yi];simpa using Yk),hve];rfl
             have hv:wk[j2]? =some v:=by
               have:=congrArg (fun l=>l[0]?) Cj
               simpa using this
             have zH:wk.drop (j2+1)=ji sk n (i'+1) (fh.drop (i'+1))++jk e n (k+1) ((rows.map (·.fh)).drop (k+1)):=by
               have:=congrArg (List.drop 1) Cj
               simpa [List.drop_drop] using this
             have hj3:j2+1≤wk.length:=(List.getElem?_eq_some_iff.1 hv).1
             have hJd:J j2 F2 wr.drew:=hJl _ _ _ _ (hJg _ _ _ _ MN (H4 wr)) (fun b hb=> .inl hb)
             obtain⟨fn,tmps,assign,body,hy,hR⟩:=hY j2 F2 wr.drew v hv hJd
             rw[hve] at hy
             have qV: ((k:Int)=e∧ ¬ (i':Int)=n - 1∧ ¬ (i':Int)=n)∨ ¬ (k:Int)=e:=by
               by_cases yk: (k:Int)=e
               · exact .inl ⟨yk,fun h=>Yk ⟨yk,.inl h⟩,fun h=>Yk ⟨yk,.inr h⟩⟩
               · exact .inr yk
             have Yl:IntKind.i64.wrap ((i':Int)+1)=(i':Int)+1:=wrap64 (by omega) (by omega)
             have ab5: ((i':Int)+1).toNat=i'+1:=by omega
             have yX:i'<fh.length:=by omega
             have Em: (i':Int)+1 < (fh.length:Int):=by omega
             have Rj: (0:Int)≤(i':Int)+1:=by omega
             clear Yk hG Cj hve
             have Td:=hR.mono (R':=fun ex W'=> ∃bb,ex= .returned (.bool bb)∧(bb=true→J (j2+1) F2 W'∧ ∀b,S b∨F2 b→W'.heap[b]? =wr.drew.heap[b]?)∧(bb=false→Jx (j2+1) W')) (by
               rintro ex W' (⟨rfl,q1,q2⟩ | ⟨rfl,q1⟩)
               · exact⟨true,rfl,fun _=> ⟨q1,q2⟩,by simp⟩
               · exact⟨false,rfl,by simp,fun _=>q1⟩)
             clear hR
             rcases qV with⟨yk,lH,sh⟩ | yk
             all_goals
               gi_wp2
               refine Au (n:=0) (gR 12 FP (by kernel_rfl) (by kernel_rfl) ?_)
               simp only[List.take_succ_cons,List.take_zero,List.drop_succ_cons,List.drop_zero]
               change wpStill _ _ (World.drew wr) (fun a'=>wpListIn _ _ _ _ _ _ a' (World.drew wr)) _ _
               iterate 12 (refine wpStill_step (fun K hK=> ?_);go_simp; (try simp only[Yl,ab5,Em,Rj,yX,and_self,if_true,true_and,go_sem]); (try simp only[p1,p2,q1,q2,Sp,World.Ck,go_sem]);refine hK _ ?_;clear hK K)
               refine wpStill_nil ?_
               refine wpListIn_step (fun K hK=> ?_)
               go_simp
               refine⟨rfl,RoundIn.mono Td ?_⟩
               rintro ex W3 ⟨bb,rfl,hq1,w6⟩
               refine hK _ _ ?_
               clear hK K
               refine wpListIn_step (fun K hK=> ?_)
               go_simp
               refine hK _ _ ?_
               clear hK K
               refine wpListIn_nil ?_
               rename_i Te
               refine Te _ _ ?_
               cases bb
               · clear Te Td
                 gi_wp2
                 refine⟨rfl,_,results_none (fn:=Tryz.f103) rfl _ _ _,⟨_,rfl⟩,?_⟩
                 exact .inr ⟨j2+1,hj3,w6 trivial⟩
               · obtain⟨hq3,hq4⟩:=hq1 rfl
                 clear Te Td
                 gi_wp2
                 exact⟨⟨i'+1,by omega,rfl,j2+1,hq3,zH,hj3,fun a v h1 h2=> (xy ((hq4 _ (.inl h1)).trans rfl)).trans (At a v h1 h2),(xy (a:=⟨Bx,1,none⟩) ((hq4 Bx (.inr hFx)).trans rfl)).trans Sp⟩,by simp only[intOf];omega⟩
        · have hl1: ¬ (i':Int) < (fh.length:Int) - 1:=by omega
          rw[xx (by omega),List.nil_append] at hG
          gi_wp2
          exact⟨⟨k+1,by omega,rfl,j2,F2,MN,hG,bM,At⟩,by simp only[intOf];omega⟩
    ·  have Yj: (fh.length:Int) - 1≤0:=by omega
       gi_wp2
       gi_loopw [20] (fun i w2=>i= .int .i64 0∧w2=wr.alloc (Obj.cells #[Value.int IntKind.i64 Sn,Value.slice Ra fh.length yJ,Value.int IntKind.i64 Rl,Value.int IntKind.i64 Rr] 51)) (fun i _=>0)
       case atStart=>exact⟨rfl,rfl⟩
       case round=>
        obtain⟨rfl,rfl⟩:=hrel
        rw[show ji sk n 0 fh=[] from xx (i:=0) (by omega),List.nil_append] at hG
        gi_wp2
        exact⟨⟨k+1,by omega,rfl,j,_,MN,hG,bM,So⟩,by simp only[intOf];omega⟩
  · have rB: ¬ (k:Int) < (rows.length:Int):=by omega
    have yk:k=rows.length:=by omega
    rw[List.drop_of_length_le (l:=rows.map (·.fh)) (by simp;omega)] at hG
    have hje:j=wk.length:=by
       have:=congrArg List.length hG
       simp[jk] at this;omega
    subst hje
    gi_wp2
    exact⟨rfl,_,results_none (fn:=Tryz.f103) rfl _ _ _,⟨_,rfl⟩,.inl ⟨F,hJ⟩⟩
end Go.Proofs
namespace Go.Proofs
open Go.RowKit Go.Shelf Go.AM
attribute [local go_sem] Oper.semAt_some
@[local go_sem] theorem Ym: (Fr none).round=none:=rfl
set_option maxRecDepth 100000 in
set_option maxHeartbeats 4000000 in
theorem H6 (l Bs Bo b off len cap:Nat) (vs:List (List Value)) (hlen:vs.length=len) (h2: ∀v ∈ vs,∃x y,v=[x,y]) (hbig:len< 4611686018427387904) (Kp:World→World→Prop) (hkt: ∀ {A B C},Kp A B→Kp B C→Kp A C) (hkr: ∀A,Kp A A)
  (hkb: ∀ {A B},Kp A B→A.cell? ⟨Bs,Bo,none⟩=some (.slice (some ⟨b,off,none⟩) len cap)→B.cell? ⟨Bs,Bo,none⟩=some (.slice (some ⟨b,off,none⟩) len cap))
  (hkc: ∀ {A B} j v,Kp A B→A.cell? ⟨b,j,none⟩=some v→B.cell? ⟨b,j,none⟩=some v)
  (Hr: ∀A:World,Kp A A.drew) (J Jx:Nat→World→Prop) (hJd: ∀k W,J k W→J k W.drew)
  (hY: ∀ (k:Nat) W1 x y z u,k+1 <len→vs[k]? =some [x,y]→vs[k+1]? =some [z,u]→J k W1→YieldAt (Fr none) 0 Tryz.prog l #[.int .i64 k,.agg #[x,y,z,u]] W1 fun e W'=>
    (e= .returned (.bool true)∧J (k+1) W'∧Kp W1 W')∨(e= .returned (.bool false)∧Jx (k+1) W'))
  (W:World) (hBs:W.cell? ⟨Bs,Bo,none⟩=some (.slice (some ⟨b,off,none⟩) len cap)) (hc: ∀ (j:Nat) x y,vs[j]? =some [x,y]→W.cell? ⟨b,off+j*2,none⟩=some x∧W.cell? ⟨b,off+j*2+1,none⟩=some y) (h0:J 0 W):
  CallsIn (Fr none) 1 Tryz.prog 101 #[.func (.yield l) #[] #[],.pointer (some ⟨Bs,Bo,none⟩)] W fun e W'=> (∃v,e= .returned v)∧(J (len - 1) W'∨ ∃k,k≤len - 1∧Jx k W'):=by
 refine callsIn_of_wp Tryz.func101 rfl trivial ?_ rfl
 simp only[Tryz.ntmps101,List.size_toArray,List.length_cons,List.length_nil,Nat.reduceAdd,Nat.reduceSub,Array.replicate_succ,Array.replicate_zero,List.push_toArray,List.append_toArray,List.nil_append,List.cons_append]
 have FP:Tryz.prog.follows .mixedOrders=true:=by kernel_rfl
 gi_wp2
 gi_loopw [3] (fun i wr=> ∃k:Nat,k≤len - 1∧i= .int .i64 k∧J k wr∧Kp W wr) (fun i _=>len - (intOf i).toNat)
 case atStart=>exact⟨0,Nat.zero_le _,rfl,h0,hkr _⟩
 case round=>
  obtain⟨k,hk,rfl,hJs,xj⟩:=hrel
  have hBr:=hkb xj hBs
  by_cases bl:k+1 <len
  · obtain⟨x,y,hxy⟩:=h2 vs[k] (List.getElem_mem (by omega))
    obtain⟨z,u,hzu⟩:=h2 vs[k+1] (List.getElem_mem (by omega))
    have KB:vs[k]? =some [x,y]:=by rw[List.getElem?_eq_getElem (by omega),hxy]
    have HP:vs[k+1]? =some [z,u]:=by rw[List.getElem?_eq_getElem (by omega),hzu]
    obtain⟨fn,tmps,assign,body,hy,hR⟩:=hY k wr.drew x y z u bl KB HP (hJd _ _ hJs)
    have yX:k<len:=by omega
    have Em: (k:Int)+1 < (len:Int):=by omega
    have Rj: (0:Int)≤(k:Int)+1:=by omega
    have Yl:IntKind.i64.wrap ((k:Int)+1)=(k:Int)+1:=wrap64 (by omega) (by omega)
    have Jb: ((k:Int)+1).toNat=k+1:=by omega
    have c1:=hkc _ _ xj (hc k x y KB).1
    have c2:=hkc _ _ xj (hc k x y KB).2
    have c3:=hkc _ _ xj (hc (k+1) z u HP).1
    have c4:=hkc _ _ xj (hc (k+1) z u HP).2
    gi_wp2
    have Td:=hR.mono (R':=fun e W'=> ∃bb,e= .returned (.bool bb)∧(bb=true→J (k+1) W'∧Kp wr.drew W')∧(bb=false→Jx (k+1) W')) (by
       rintro e W' (⟨rfl,q1,q2⟩ | ⟨rfl,q1⟩)
       · exact⟨true,rfl,fun _=> ⟨q1,q2⟩,by simp⟩
       · exact⟨false,rfl,by simp,fun _=>q1⟩)
    clear hR
    refine Au (n:=0) (gR 12 FP (by kernel_rfl) (by kernel_rfl) ?_)
    simp only[List.take_succ_cons,List.take_zero,List.drop_succ_cons,List.drop_zero]
    change wpStill _ _ (World.drew wr) (fun a'=>wpListIn _ _ _ _ _ _ a' (World.drew wr)) _ _
    iterate 12 (refine wpStill_step (fun K hK=> ?_);go_simp; (try simp only[Yl,Jb,Em,Rj,yX,and_self,if_true,true_and,go_sem]); (try simp only[c1,c2,c3,c4,hBr,World.Ck,go_sem]);refine hK _ ?_;clear hK K)
    refine wpStill_nil ?_
    refine wpListIn_step (fun K hK=> ?_)
    go_simp
    refine⟨rfl,RoundIn.mono Td ?_⟩
    rintro e W3 ⟨bb,rfl,hq1,w6⟩
    refine hK _ _ ?_
    clear hK K
    refine wpListIn_step (fun K hK=> ?_)
    go_simp
    refine hK _ _ ?_
    clear hK K
    refine wpListIn_nil ?_
    rename_i hk9 kk9 Te
    refine Te _ _ ?_
    cases bb
    ·  clear Te hk9 Td
       gi_wp2
       refine⟨rfl,_,results_none (fn:=Tryz.f101) rfl _ _ _,⟨_,rfl⟩,?_⟩
       exact .inr ⟨k+1,by omega,w6 trivial⟩
    ·  gi_wp2
       exact⟨⟨k+1,by omega,rfl,(hq1 rfl).1,hkt xj (hkt (Hr _) (hq1 rfl).2)⟩,by simp only[intOf];omega⟩
  · have Em: ¬ (k:Int)+1 < (len:Int):=by omega
    have Yl:IntKind.i64.wrap ((k:Int)+1)=(k:Int)+1:=wrap64 (by omega) (by omega)
    gi_wp2
    have yk:k=len - 1:=by omega
    refine⟨rfl,_,results_none (fn:=Tryz.f101) rfl _ _ _,⟨_,rfl⟩,?_⟩
    exact .inl (yk ▸ hJs)
set_option maxRecDepth 100000 in
set_option maxHeartbeats 4000000 in
theorem xz (l Bs Bo cap:Nat) (a0:Option Addr) (J Jx:Nat→World→Prop) (hJd: ∀k W,J k W→J k W.drew)
  (W:World) (hBs:W.cell? ⟨Bs,Bo,none⟩=some (.slice a0 0 cap)) (h0:J 0 W):
  CallsIn (Fr none) 1 Tryz.prog 101 #[.func (.yield l) #[] #[],.pointer (some ⟨Bs,Bo,none⟩)] W fun e W'=> (∃v,e= .returned v)∧(J 0 W'∨ ∃k,k≤0∧Jx k W'):=by
 refine callsIn_of_wp Tryz.func101 rfl trivial ?_ rfl
 simp only[Tryz.ntmps101,List.size_toArray,List.length_cons,List.length_nil,Nat.reduceAdd,Nat.reduceSub,Array.replicate_succ,Array.replicate_zero,List.push_toArray,List.append_toArray,List.nil_append,List.cons_append]
 have FP:Tryz.prog.follows .mixedOrders=true:=by kernel_rfl
 gi_wp2
 gi_loopw [3] (fun i wr=>i= .int .i64 0∧J 0 wr∧wr=W) (fun i _=>0)
 case atStart=>exact⟨rfl,h0,rfl⟩
 case round=>
  obtain⟨rfl,hJs,rfl⟩:=hrel
  have Yl:IntKind.i64.wrap ((0:Int)+1)=1:=by decide
  gi_wp2
  refine⟨rfl,_,results_none (fn:=Tryz.f101) rfl _ _ _,⟨_,rfl⟩,?_⟩
  exact .inl hJs
theorem pO (A:World):A.grownBy A.drew none:=⟨rfl,rfl,rfl,Nat.le_refl _,fun _ _ _=>rfl⟩
end Go.Proofs
namespace Go.Proofs
open Go.RowKit Go.AM
theorem Av: ∀ (ps:List V) (i:Nat),(jn i ps).length=ps.length - 1
 | [],_=>rfl
 | [_],_=>rfl
 | _::q::rest,i=>by simp only[jn,List.length_cons,Av (q::rest)];omega
theorem j7: ∀ (ps:List V) (i k:Nat) x,(jn i ps)[k]? =some x→ ∃p q,ps[k]? =some p∧ps[k+1]? =some q∧x=[.int .i64 ((i+k:Nat):Int),.agg (p.cells++q.cells)]
 | [],i,k,x,h=>by simp[jn] at h
 | [_],i,k,x,h=>by simp[jn] at h
 | p::q::rest,i,k,x,h=>by
   cases k with
   | zero=>simp[jn] at h;exact⟨p,q,by simp,by simp,h ▸ by simp⟩
   | succ k=>
     simp only[jn,List.getElem?_cons_succ] at h
     obtain⟨p',q',h1,h2,rfl⟩:=j7 (q::rest) (i+1) k x h
     exact⟨p',q',by simpa using h1,by simpa using h2,by rw[show i+1+k=i+(k+1) by omega]⟩
def E9 (vs:List Value) (n:Nat):List (Array Value):=(List.range n).map fun (k:Nat)=> #[.int .i64 (((k:Nat):Int)),.agg ((vs.getD k undef).cells++(vs.getD (k+1) undef).cells)]
theorem Cl (args:Array Value) (w:World): (callFunc 101 args).run Tryz.prog w= .ok (.enter 101 args) w:=by
 obtain⟨c,hc⟩: ∃c,Tryz.f101.body=some c:=⟨_,rfl⟩
 have hn:Tryz.f101.name≠ "runtime.NumGoroutine" :=by decide
 simp[callFunc,Sem.run_bind,program,Sem.run,Tryz.func101,hc,hn]
theorem vB {F:Fence} {n:Nat} {P:Program} {l:Nat} {v:Array Value} {W:World} {R R':Ending→World→Prop} (h:YieldAt F n P l v W R) (hm: ∀e W',R e W'→R' e W'):YieldAt F n P l v W R':=by
 obtain⟨fn,tmps,assign,body,hy,hR⟩:=h
 exact⟨fn,tmps,assign,body,hy,hR.mono hm⟩
theorem vC {F:Fence} {n:Nat} {P:Program} {g:Nat} {args:Array Value} {W:World} {J:Nat→(Nat→Prop)→World→Prop} {Jx:Nat→World→Prop} {m:Nat} {F0:Nat→Prop} (h:CallsIn F n P g args W fun e W'=> (∃v,e= .returned v)∧(J m F0 W'∨ ∃k,k≤m∧Jx k W')):
  CallsIn F n P g args W fun e W'=> (∃v,e= .returned v)∧((∃F,J m F W')∨ ∃k,k≤m∧Jx k W'):=
 CallsIn.mono h fun e W' h=> ⟨h.1,h.2.imp (fun h=> ⟨_,h⟩) id⟩
theorem Aw (   fn:FuncId→Option Nat) (tn:TypeId→Option Nat) (g:Nat) (hg:fn 101=some g):rj ⟨Tryz.prog,fn,tn⟩ g CK:=by
 refine⟨101,hg,fun caps xs rW B K μ lb Ba ho=> ?_⟩
 refine⟨Cl,?_⟩
 match caps,rW,Ba with
 | [.eptr .nils 0],rW,Ba=>
   simp only[CK,Option.some.injEq] at rW
   subst rW
   obtain⟨lb⟩:=lb
   match lb,Ba with
   | [v],Ba=>
     simp only[aj,and_true] at Ba
     obtain⟨_,_,b,o,sz,x,rfl,ez,bl,⟨a,rfl⟩,cP⟩:=Ba
     have hr:=(cP 0 _ rfl).2 0 (.slice a 0 0) (by simp[Value.cells])
     simp only[Nat.zero_mul,Nat.add_zero] at hr
     refine⟨[],rfl,fun i x v h=>by simp at h,fun l J Jx W0 mf hJ hJx hY h0=> ?_⟩
     have hc:W0.cell? ⟨b,o,none⟩=some (.slice a 0 0):=by rw[←hr];exact World.cell?_of_block (mf.block b bl)
     exact vC (callsIn_wide.2 (callsIn_wide.1 (xz l b o 0 a (fun k W=>J k (fun _=>False) W) Jx (fun k W h=>hJ.less k _ _ _ (hJ.grow k _ W _ h (pO W)) (fun b hb=>hb.elim)) W0 hc h0)))
 | [.eptr (.lit 2 ps) 0],rW,Ba=>
   simp only[CK] at rW
   split at rW
   case isFalse=>simp at rW
   case isTrue hbig=>
     simp only[Option.some.injEq] at rW
     subst rW
     obtain⟨lb⟩:=lb
     match lb,Ba with
     | [v],Ba=>
       simp only[aj,and_true] at Ba
       obtain⟨_,_,b,o,sz,x,rfl,ez,bl,⟨mh,gu,a,cap,vs,rfl,dz,pZ,Yn⟩,cP⟩:=Ba
       have hr:=(cP 0 _ rfl).2 0 (.slice a ps.length cap) (by simp[Value.cells])
       simp only[Nat.zero_mul,Nat.add_zero] at hr
       have BT:vs.length=ps.length:=pZ.length.symm
       have nq: ∀W0,Below μ.w.heap.size μ.w W0→W0.cell? ⟨b,o,none⟩=some (.slice a ps.length cap):=fun W0 mf=>by rw[←hr];exact World.cell?_of_block (mf.block b bl)
       have ab6: ∀p ∈ ps,p.c6=true:=List.all_eq_true.1 gu
       rcases Yn with rfl| ⟨b2,o2,rfl,ab7,fB,MO⟩
       · refine⟨[],rfl,fun i x v h=>by simp[jn] at h,fun l J Jx W0 mf hJ hJx hY h0=> ?_⟩
         exact vC (callsIn_wide.2 (callsIn_wide.1 (xz l b o cap a (fun k W=>J k (fun _=>False) W) Jx (fun k W h=>hJ.less k _ _ _ (hJ.grow k _ W _ h (pO W)) (fun b hb=>hb.elim)) W0 (nq W0 mf) h0)))
       · have nF: ∀k p,ps[k]? =some p→ ∃v x y,vs[k]? =some v∧ak ⟨⟨Tryz.prog,fn,tn⟩,B,K⟩ μ p v∧p.c6=true∧v.cells= #[x,y]:=fun k p hp=>by
           obtain⟨v,hv,Dg⟩:=pZ.get hp
           have hs:=(MO k v hv).1
           obtain⟨cs,db⟩: ∃cs,v.cells=cs:=⟨_,rfl⟩
           rw[db] at hs
           obtain⟨cs⟩:=cs
           match cs,hs with
           | [x,y],_=>exact⟨v,x,y,hv,Dg,ab6 p (List.mem_of_getElem? hp),db⟩
         have hgv: ∀ (k:Nat) v,vs[k]? =some v→ ∃x y,v.cells= #[x,y]:=fun k v hv=>by
           have hk:k<ps.length:=by rw[←BT];exact(List.getElem?_eq_some_iff.1 hv).1
           obtain⟨v',x,y,h1,_,_,h2⟩:=nF k _ (List.getElem?_eq_getElem hk)
           rw[hv] at h1;injection h1 with h1;subst h1;exact⟨x,y,h2⟩
         refine⟨E9 vs (ps.length - 1),by rw[Av];simp[E9],fun i x v hx hv=> ?_,fun l J Jx W0 mf hJ hJx hY h0=> ?_⟩
         · obtain⟨p,q,hp,hq,rfl⟩:=j7 ps 0 i x hx
           obtain⟨v1,x1,y1,h1,h2,h3,h4⟩:=nF i p hp
           obtain⟨v2,x2,y2,k1,k2,k3,k4⟩:=nF (i+1) q hq
           simp only[E9,List.getElem?_map,Option.map_eq_some_iff] at hv
           obtain⟨i',yg,rfl⟩:=hv
           obtain⟨_,rfl⟩:=List.getElem?_eq_some_iff.1 yg
           simp only[List.getElem_range,List.getD_eq_getElem?_getD,h1,k1,Option.getD_some]
           refine⟨by simp[ak],⟨by rw[List.all_append,h2.ju h3,k2.ju k3];rfl,_,rfl,?_⟩,trivial⟩
           rw[Array.toList_append]
           exact aj.append (h2.cells h3) (k2.cells k3)
         · have s8: (E9 vs (ps.length - 1)).length=ps.length - 1:=by unfold E9;rw[List.length_map,List.length_range]
           have Hn: ∀ (k:Nat) x y,(vs.map fun v=>v.cells.toList)[k]? =some [x,y]→ ∃v,vs[k]? =some v∧v.cells= #[x,y]:=fun k x y h=>by
            simp only[List.getElem?_map,Option.map_eq_some_iff] at h
            obtain⟨v,h1,h2⟩:=h
            exact⟨v,h1,by rw[←h2]⟩
           have key:=H6 l b o b2 o2 ps.length cap (vs.map fun v=>v.cells.toList) (by simpa using BT) (fun v hv=>by
              obtain⟨v0,hv0,rfl⟩:=List.mem_map.1 hv
              obtain⟨k,hk,Em⟩:=List.mem_iff_getElem.1 hv0
              obtain⟨x,y,h⟩:=hgv k v0 (by rw[List.getElem?_eq_getElem hk,Em])
              exact⟨x,y,by rw[h]⟩) hbig (Kept μ)
            (fun h1 h2 b hb hn=> (h2 b hb hn).trans (h1 b hb hn)) (fun A b hb hn=>rfl)
            (fun {A B} hk h=>by rw[←h];exact World.cell?_of_block (hk b bl fun h=>ez (.inl h)))
            (fun {A B} j v hk h=>by rw[←h];exact World.cell?_of_block (hk b2 fB fun h=>ab7 (.inl h)))
            (fun A b hb hn=>rfl) (fun k W=>J k (fun _=>False) W) Jx (fun k W h=>hJ.less k _ _ _ (hJ.grow k _ W _ h (pO W)) (fun b hb=>hb.elim))
            (fun k W1 x y z u hk h1 h2 hJ1=>by
              obtain⟨v1,e1,e2⟩:=Hn k x y h1
              obtain⟨v2,e3,e4⟩:=Hn (k+1) z u h2
              refine vB (hY k _ W1 _ ?_ hJ1) (fun e W' h=>h.imp (fun h=> ⟨h.1,h.2.1,h.2.2.1⟩) id)
              simp only[E9,List.getElem?_map,List.getElem?_range (show k<ps.length - 1 by omega),Option.map_some,List.getD_eq_getElem?_getD,e1,e3,Option.getD_some,e2,e4]
              rfl) W0 (nq W0 mf)
            (fun j x y h=>by
              obtain⟨v1,e1,e2⟩:=Hn j x y h
              have oH:=(MO j v1 e1).2
              rw[e2] at oH
              have c1:=oH 0 x rfl
              have c2:=oH 1 y rfl
              refine⟨?_,?_⟩
              · rw[World.cell?_of_block (mf.block b2 fB)];simpa using c1
              · rw[World.cell?_of_block (mf.block b2 fB)];exact c2) h0
           rw[s8]
           exact vC (callsIn_wide.2 (callsIn_wide.1 key))
#print axioms Aw
end Go.Proofs
namespace Go.Proofs
open Go.RowKit Go.AM
section
variable (X:Ctx) (μ:Mu)
def wA:List V→List (Value×Value)→Prop
 | [],[]=>True
 | p::ps,pr::fh=>ak X μ p (.agg #[pr.1,pr.2])∧wA ps fh
 | _,_=>False
def gr:List (List V)→List (Array Value)→Prop
 | [],[]=>True
 | x::xs,v::vs=>aj X μ x v.toList∧gr xs vs
 | _,_=>False
end
variable {X:Ctx} {μ:Mu}
theorem gr.append: ∀ {xs ys:List (List V)} {vs us:List (Array Value)},gr X μ xs vs→gr X μ ys us→gr X μ (xs++ys) (vs++us)
 | [],_,[],_,_,h=>by simpa using h
 | [],_,_::_,_,h,_=>by simp[gr] at h
 | _::_,_,[],_,h,_=>by simp[gr] at h
 | x::xs,ys,v::vs,us,h,h'=>by
   simp only[gr] at h
   simp only[List.cons_append,gr]
   exact⟨h.1,gr.append h.2 h'⟩
theorem gr.length: ∀ {xs:List (List V)} {vs:List (Array Value)},gr X μ xs vs→vs.length=xs.length
 | [],[],_=>rfl
 | [],_::_,h=>by simp[gr] at h
 | _::_,[],h=>by simp[gr] at h
 | _::_,_::_,h=>by simp only[gr] at h;simp[gr.length h.2]
theorem gr.get: ∀ {xs:List (List V)} {vs:List (Array Value)},gr X μ xs vs→ ∀ {i:Nat} {x:List V} {v:Array Value},xs[i]? =some x→vs[i]? =some v→aj X μ x v.toList
 | [],_,_,i,x,v,hx,_=>by simp at hx
 | _::_,[],h,_,_,_,_,_=>by simp[gr] at h
 | y::ys,u::us,h,i,x,v,hx,hv=>by
   simp only[gr] at h
   cases i with
   | zero=>simp at hx hv;subst hx hv;exact h.1
   | succ i=>simp at hx hv;exact gr.get h.2 hx hv
theorem Ax (skip:Bool) (n:Int): ∀ {ps:List V} {fh:List (Value×Value)} (i:Nat),wA X μ ps fh→gr X μ (uu skip n i ps) (ji skip n i fh)
 | [],[],_,_=>by simp[uu,ji,gr]
 | [],_::_,_,h=>by simp[wA] at h
 | _::_,[],_,h=>by simp[wA] at h
 | [_],[_],_,_=>by simp[uu,ji,gr]
 | [_],_::_::_,_,h=>by simp[wA] at h
 | _::_::_,[_],_,h=>by simp[wA] at h
 | p::q::rest,pr::qr::rr,i,h=>by
   simp only[wA] at h
   rw[uu,ji]
   refine gr.append ?_ (Ax skip n (i+1) (by simp only[wA];exact h.2))
   split
   · simp[gr]
   · simp only[gr,aj,and_true]
     exact⟨h.1,h.2.1⟩
theorem vD {w:World} {b off sz:Nat} {v:Value} {vs:List Value} (h:di w b off sz (v::vs)):di w b (off+sz) sz vs:=fun i u hu=>by
 obtain⟨h1,h2⟩:=h (i+1) u (by simpa using hu)
 refine⟨h1,fun j c hc=> ?_⟩
 have:=h2 j c hc
 rwa [show off+(i+1)*sz+j=off+sz+i*sz+j by rw[Nat.add_mul];omega] at this
theorem H7: ∀ {ps:List V} {vs:List Value} {b o:Nat},aj X μ ps vs→ps.all I7=true→di μ.w b o 2 vs→
   ∃fh:List (Value×Value),fh.length=ps.length∧wA X μ ps fh∧ ∀ (i:Nat) p,fh[i]? =some p→μ.w.cell? ⟨b,o+i*2,none⟩=some p.1∧μ.w.cell? ⟨b,o+i*2+1,none⟩=some p.2
 | [],[],_,_,_,_,_=> ⟨[],rfl,trivial,fun i p h=>by simp at h⟩
 | [],_::_,_,_,h,_,_=>by simp[aj] at h
 | _::_,[],_,_,h,_,_=>by simp[aj] at h
 | p::ps,v::vs,b,o,h,ha,hr=>by
   simp only[aj] at h
   simp only[List.all_cons,Bool.and_eq_true] at ha
   obtain⟨fh,e1,e2,e3⟩:=H7 h.2 ha.2 (vD hr)
   match p,ha.1,h.1 with
   | .agg [x,y],_,hv=>
     obtain⟨hc,us,rfl,hu⟩:=(show _∧ ∃vs,v= .agg vs∧aj X μ [x,y] vs.toList by simpa only[ak] using hv)
     obtain⟨us⟩:=us
     match us,hu with
     | [a,c],hu=>
       refine⟨(a,c)::fh,by simp[e1],⟨by simp only[ak];exact⟨hc,_,rfl,hu⟩,e2⟩,fun i q hq=> ?_⟩
       cases i with
       | zero=>
         simp at hq;subst hq
         have:=(hr 0 _ rfl).2
         exact⟨by simpa using this 0 a (by simp[Value.cells]),by simpa using this 1 c (by simp[Value.cells])⟩
       | succ i=>
         have:=e3 i q (by simpa using hq)
         rwa [show o+2+i*2=o+(i+1)*2 by omega] at this
theorem Dx {  e n:Int}: ∀ {es:List V} {vs:List Value} {b o k:Nat} {xs:List (List V)},aj X μ es vs→es.all V.c6=true→y8 e n k es=some xs→di μ.w b o 4 vs→
   ∃rows:List MM,rows.length=es.length∧gr X μ xs (jk e n k (rows.map (·.fh)))∧ ∀ (i:Nat) R,rows[i]? =some R→
     (μ.w.cell? ⟨b,o+i*4,none⟩=some (.int .i64 R.id)∧μ.w.cell? ⟨b,o+i*4+1,none⟩=some (.slice R.a R.fh.length R.cap)∧μ.w.cell? ⟨b,o+i*4+2,none⟩=some (.int .i64 R.l)∧μ.w.cell? ⟨b,o+i*4+3,none⟩=some (.int .i64 R.r))∧
     (R.fh≠[]→ ∃b2 o2,R.a=some ⟨b2,o2,none⟩∧(b2<μ.w.heap.size∧ ¬μ.own b2)∧ ∀ (i:Nat) p,R.fh[i]? =some p→μ.w.cell? ⟨b2,o2+i*2,none⟩=some p.1∧μ.w.cell? ⟨b2,o2+i*2+1,none⟩=some p.2)∧R.fh.length< 4611686018427387904
 | [],[],_,_,k,xs,_,_,hx,_=>by
   simp only[y8,Option.some.injEq] at hx
   subst hx
   exact⟨[],rfl,by simp[jk,gr],fun i R h=>by simp at h⟩
 | [],_::_,_,_,_,_,h,_,_,_=>by simp[aj] at h
 | _::_,[],_,_,_,_,h,_,_,_=>by simp[aj] at h
 | y::es,v::vs,b,o,k,xs,h,hl,hx,hr=>by
   simp only[aj] at h
   simp only[List.all_cons,Bool.and_eq_true] at hl
   unfold y8 at hx
   split at hx
   · simp at*
   · rename_i k' z1 ps z2 z3 ng heq
     injection heq with hy he
     subst hy he
     split at hx
     case isFalse=>simp at hx
     case isTrue hb=>
      obtain⟨IU,vZ,rfl⟩:=Option.map_eq_some_iff.1 hx
      obtain⟨rows,r1,r2,r3⟩:=Dx h.2 hl.2 vZ (vD hr)
      have hv:=h.1
      simp only[ak] at hv
      obtain⟨hc,us,rfl,hu⟩:=hv
      obtain⟨us⟩:=us
      match us,hu with
      | [u0,u1,u2,u3],hu=>
        simp only[aj,ak,and_true] at hu
        obtain⟨rfl,⟨mh,gu,a,cap,vs2,rfl,dz,pZ,Yn⟩,rfl,rfl⟩:=hu
        have cJ:=(hr 0 _ rfl).2
        have k0:=cJ 0 (.int .i64 z1) (by simp[Value.cells])
        have k1:=cJ 1 (.slice a ps.length cap) (by simp[Value.cells])
        have k2:=cJ 2 (.int .i64 z2) (by simp[Value.cells])
        have k3:=cJ 3 (.int .i64 z3) (by simp[Value.cells])
        have KW: ∃fh:List (Value×Value),fh.length=ps.length∧wA X μ ps fh∧(fh≠[]→ ∃b2 o2,a=some ⟨b2,o2,none⟩∧(b2<μ.w.heap.size∧ ¬μ.own b2)∧ ∀ (i:Nat) p,fh[i]? =some p→μ.w.cell? ⟨b2,o2+i*2,none⟩=some p.1∧μ.w.cell? ⟨b2,o2+i*2+1,none⟩=some p.2):=by
           rcases Yn with rfl| ⟨b2,o2,rfl,ez,bl,cP⟩
           · exact⟨[],rfl,trivial,fun h=>absurd rfl h⟩
           · obtain⟨fh,e1,e2,e3⟩:=H7 pZ hb.2 cP
             exact⟨fh,e1,e2,fun _=> ⟨b2,o2,rfl,⟨bl,fun h=>ez (.inl h)⟩,e3⟩⟩
        obtain⟨fh,e1,e2,e3⟩:=KW
        refine⟨⟨z1,a,cap,z2,z3,fh⟩::rows,by simp[r1],?_,fun i R hR=> ?_⟩
        ·  simp only[List.map_cons,jk]
           exact gr.append (Ax _ _ 0 e2) r2
        ·  cases i with
           | zero=>
             simp at hR;subst hR
             exact⟨⟨by simpa using k0,by rw[e1];simpa using k1,by simpa using k2,by simpa using k3⟩,e3,by show fh.length<_;rw[e1];exact hb.1⟩
           | succ i=>
             have:=r3 i R (by simpa using hR)
             rwa [show o+4+i*4=o+(i+1)*4 by omega] at this
   · simp at hx
theorem Cm (args:Array Value) (w:World): (callFunc 103 args).run Tryz.prog w= .ok (.enter 103 args) w:=by
 obtain⟨c,hc⟩: ∃c,Tryz.f103.body=some c:=⟨_,rfl⟩
 have hn:Tryz.f103.name≠ "runtime.NumGoroutine" :=by decide
 simp[callFunc,Sem.run_bind,program,Sem.run,Tryz.func103,hc,hn]
theorem Ay (    fn:FuncId→Option Nat) (tn:TypeId→Option Nat) (g:Nat) (hg:fn 103=some g):rj ⟨Tryz.prog,fn,tn⟩ g F7:=by
 refine⟨103,hg,fun caps xs rW B K μ lb Ba ho=> ?_⟩
 refine⟨Cm,?_⟩
 unfold F7 at rW
 split at rW
 · rename_i es y1 y2 y3 e n cs
   split at rW
   case isFalse=>simp at rW
   case isTrue hb=>
    obtain⟨lb⟩:=lb
    match lb,Ba with
    | [vm,vc],Ba=>
      simp only[aj,ak,and_true] at Ba
      obtain⟨⟨_,Mq,bm,om,szm,xm,rfl,ab8,Yo,⟨_,um,rfl,hum⟩,XJ⟩,⟨_,_,bc,oc,szc,xc,rfl,ab9,Sq,⟨_,uc,rfl,huc⟩,hrc⟩⟩:=Ba
      obtain⟨um⟩:=um
      obtain⟨uc⟩:=uc
      match um,hum,uc,huc with
      |   [s0,s1,s2,s3],hum,c0::c1::acU,huc=>
         simp only[aj,ak,and_true] at hum huc
         obtain⟨⟨mh,gu,a,cap,vs,rfl,dz,pZ,Yn⟩,_⟩:=hum
         obtain⟨rfl,rfl,_⟩:=huc
         have m0:=(XJ 0 _ rfl).2 0 _ (show (Value.agg _).cells[0]? =some (.slice a es.length cap) by simp[Value.cells])
         have q0:=(hrc 0 _ rfl).2 0 _ (show (Value.agg _).cells[0]? =some (.int .i64 e) by simp[Value.cells])
         have q1:=(hrc 0 _ rfl).2 1 _ (show (Value.agg _).cells[1]? =some (.int .i64 n) by simp[Value.cells])
         obtain⟨b,off,IT,KH,cP⟩: ∃b off,(es≠[]→a=some ⟨b,off,none⟩)∧(es≠[]→b<μ.w.heap.size∧ ¬μ.own b)∧di μ.w b off 4 vs:=by
            rcases Yn with rfl| ⟨b,off,rfl,ez,bl,cP⟩
            · refine⟨0,0,fun h=>absurd rfl h,fun h=>absurd rfl h,?_⟩
              have hv0:vs=[]:=by cases vs with
               | nil=>rfl
               | cons v vs=>simp[aj] at pZ
              subst hv0
              intro i v h;simp at h
            · exact⟨b,off,fun _=>rfl,fun _=> ⟨bl,fun h=>ez (.inl h)⟩,cP⟩
         obtain⟨rows,r1,r2,r3⟩:=Dx pZ gu rW cP
         refine⟨jk e n 0 (rows.map (·.fh)),r2.length,fun i x v hx hv=>r2.get hx hv,fun l J Jx W0 mf hJ hJx hY h0=> ?_⟩
         have nk: ∀ (a:Addr) v,a.block<μ.w.heap.size→μ.w.cell? a=some v→W0.cell? a=some v:=fun a v h1 h2=>by rw[←h2];exact World.cell?_of_block (mf.block a.block h1)
         have c7:rows≠[]→es≠[]:=fun h he=>h (by subst he;simpa using r1)
         have key:=H5 l bm (om+0) bc (oc+0) b off cap a e n rows (by rw[r1];exact hb.1) (fun R hR=>by
              obtain⟨i,hi⟩:=List.getElem?_of_mem hR
              exact(r3 i R hi).2.2) hb.2.1 hb.2.2 (fun b=>b<μ.w.heap.size∧ ¬μ.own b) J Jx (fun k F A B h1 h2=>hJ.grow k F A B h1 h2) (fun k F F' A h1 h2=>hJ.less k F F' A h1 h2)
            (jk e n 0 (rows.map (·.fh))) rfl (fun k F W1 v hv hJ1=>vB (hY k F W1 v hv hJ1) (fun ex W' h=>h.imp (fun h=> ⟨h.1,h.2.1,fun b hb=>hb.elim (fun hb=>h.2.2.1 b hb.1 hb.2) (fun hb=>h.2.2.2 b hb)⟩) id))
            W0 ⟨Yo,fun h=>ab8 (.inl h)⟩ ⟨Sq,fun h=>ab9 (.inl h)⟩ (fun h=>KH (c7 h)) (fun h=>IT (c7 h)) (by rw[r1];exact nk _ _ Yo (by simpa using m0)) (nk _ _ Sq (by simpa using q0)) (nk _ _ Sq (by simpa using q1))
            (fun k R hR=>by
              have bl:b<μ.w.heap.size:=(KH (c7 (by intro h;rw[h] at hR;simp at hR))).1
              obtain⟨⟨w0,w1,w2,w3⟩,_⟩:=r3 k R hR
              exact⟨nk _ _ bl w0,nk _ _ bl w1,nk _ _ bl w2,nk _ _ bl w3⟩)
            (fun k R hR hp=>by
              obtain⟨b2,o2,z1,z2,z3⟩:=(r3 k R hR).2.1 hp
              exact⟨b2,o2,z1,z2,fun i p h=> ⟨nk _ _ z2.1 (z3 i p h).1,nk _ _ z2.1 (z3 i p h).2⟩⟩) h0
         exact callsIn_wide.2 (callsIn_wide.1 key)
 · simp at rW
#print axioms Ay
end Go.Proofs
set_option maxRecDepth 100000
namespace Go.AM
open Go.Proofs
theorem acz:iz X0 Tryz.f29 4 2872193639704:=⟨⟨_,_,_,_,_,_,_,_,rfl,by kernel_rfl,by kernel_rfl,⟨.agg [.int .i64 0,.nils,.int .i64 0,.int .i64 0],by kernel_rfl,by decide,by kernel_rfl⟩,⟨_,_,_,51,rfl,by kernel_rfl,rfl,rfl,rfl,by kernel_rfl⟩⟩,rfl,by decide⟩
theorem acA:iz X0 Tryz.f30 5 2469078742875:=⟨⟨_,_,_,_,_,_,_,_,rfl,by kernel_rfl,by kernel_rfl,⟨.agg [.int .i64 0,.str [],.str [],.int .i64 0,.int .i64 0],by kernel_rfl,by decide,by kernel_rfl⟩,⟨_,_,_,54,rfl,by kernel_rfl,rfl,rfl,rfl,by kernel_rfl⟩⟩,rfl,by decide⟩
theorem acB:iz X0 Tryz.f31 8 1450901941607:=⟨⟨_,_,_,_,_,_,_,_,rfl,by kernel_rfl,by kernel_rfl,⟨.agg [.int .i64 0,.nils,.int .i64 0,.str [],.str [],.bool false,.int .i64 0,.int .i64 0],by kernel_rfl,by decide,by kernel_rfl⟩,⟨_,_,_,68,rfl,by kernel_rfl,rfl,rfl,rfl,by kernel_rfl⟩⟩,rfl,by decide⟩
theorem acC:iz X0 Tryz.f32 7 1927910799188:=⟨⟨_,_,_,_,_,_,_,_,rfl,by kernel_rfl,by kernel_rfl,⟨.agg [.int .i64 0,.int .i64 0,.int .i64 0,.str [],.str [],.int .i64 0,.int .i64 0],by kernel_rfl,by decide,by kernel_rfl⟩,⟨_,_,_,73,rfl,by kernel_rfl,rfl,rfl,rfl,by kernel_rfl⟩⟩,rfl,by decide⟩
theorem acD:iz X0 Tryz.f33 2 8278675785407:=⟨⟨_,_,_,_,_,_,_,_,rfl,by kernel_rfl,by kernel_rfl,⟨.agg [.int .i64 0,.int .i64 0],by kernel_rfl,by decide,by kernel_rfl⟩,⟨_,_,_,70,rfl,by kernel_rfl,rfl,rfl,rfl,by kernel_rfl⟩⟩,rfl,by decide⟩
theorem vy:iA Dy=true:=by kernel_rfl
theorem MP:iA (Dz.map (·.2))=true:=by kernel_rfl
theorem ai0 {g F:Nat} {af:aF} {h:Hints} {fn:Func} (h2:X0.P.funcs[F]? =some fn) (h5:az X0 h fn=some af) (h1:X0.jR F=some g:=by rfl) (h3: (fn.name== "runtime.NumGoroutine")=false:=by kernel_rfl) (h4: ∃c,fn.body=some c:=by exact⟨_,rfl⟩) (h6:af.nparams≤fn.ntmps:=by decide+kernel):HT X0 g af:=
 h4.elim fun c h4=> ⟨F,fn,h,c,h1,h2,h3,h4,h5,h6⟩
theorem KX:j6 X0 Gp:=⟨ai0 Tryz.func4 ahy.2,
 ai0 Tryz.func6 ade.2,
 ai0 Tryz.func7 adf.2,
 ai0 Tryz.func8 c79.2,
 ai0 Tryz.func10 adh.2,
 ai0 Tryz.func12 adj.2,
 ai0 Tryz.func14 adk.2,
 ai0 Tryz.func15 adl.2,
 ai0 Tryz.func16 c10.2,
 ai0 Tryz.func17 adm.2,
 ai0 Tryz.func18 ahz.2,
 ai0 Tryz.func20 adn.2,
 ai0 Tryz.func21 ado.2,
 ai0 Tryz.func22 adp.2,
 ai0 Tryz.func23 c77.2,
 ai0 Tryz.func24 c92.2,
 ai0 Tryz.func25 c93.2,
 ai0 Tryz.func26 c94.2,
 ai0 Tryz.func27 c95.2,
 ai0 Tryz.func28 adq.2,
 ai0 Tryz.func34 adr.2,
 ai0 Tryz.func35 ads.2,
 ai0 Tryz.func37 adu.2,
 ai0 Tryz.func38 adv.2,
 ai0 Tryz.func39 adw.2,
 ai0 Tryz.func40 adx.2,
 ai0 Tryz.func41 ady.2,
 ai0 Tryz.func44 adB.2,
 ai0 Tryz.func45 c37.2,
 ai0 Tryz.func46 c27.2,
 ai0 Tryz.func47 adC.2,
 ai0 Tryz.func48 adD.2,
 ai0 Tryz.func49 adE.2,
 ai0 Tryz.func50 adF.2,
 ai0 Tryz.func51 adG.2,
 ai0 Tryz.func52 adH.2,
 ai0 Tryz.func53 adI.2,
 ai0 Tryz.func54 c83.2,
 ai0 Tryz.func55 c84.2,
 ai0 Tryz.func56 c85.2,
 ai0 Tryz.func57 c86.2,
 ai0 Tryz.func58 c87.2,
 ai0 Tryz.func59 adJ.2,
 ai0 Tryz.func60 adK.2,
 ai0 Tryz.func61 adL.2,
 ai0 Tryz.func62 adM.2,
 ai0 Tryz.func63 adN.2,
 ai0 Tryz.func64 adO.2,
 ai0 Tryz.func65 adP.2,
 ai0 Tryz.func66 adQ.2,
 ai0 Tryz.func67 adR.2,
 ai0 Tryz.func68 adS.2,
 ai0 Tryz.func69 adT.2,
 ai0 Tryz.func70 adU.2,
 ai0 Tryz.func71 adV.2,
 ai0 Tryz.func72 adW.2,
 ai0 Tryz.func73 adX.2,
 ai0 Tryz.func74 adY.2,
 ai0 Tryz.func75 adZ.2,
 ai0 Tryz.func76 c41.2,
 ai0 Tryz.func77 ad0.2,
 ai0 Tryz.func78 ad1.2,
 ai0 Tryz.func79 ad2.2,
 ai0 Tryz.func80 c40.2,
 ai0 Tryz.func81 c22.2,
 ai0 Tryz.func82 c23.2,
 ai0 Tryz.func83 ad3.2,
 ai0 Tryz.func84 ad4.2,
 ai0 Tryz.func85 ad5.2,
 ai0 Tryz.func86 ad6.2,
 ai0 Tryz.func87 ad7.2,
 ai0 Tryz.func88 ad8.2,
 ai0 Tryz.func89 ad9.2,
 ai0 Tryz.func90 aea.2,
 ai0 Tryz.func91 aeb.2,
 ai0 Tryz.func92 aec.2,
 ai0 Tryz.func93 aed.2,
 ai0 Tryz.func94 aee.2,
 ai0 Tryz.func95 aef.2,
 ai0 Tryz.func96 aeg.2,
 ai0 Tryz.func97 aeh.2,
 ai0 Tryz.func98 aei.2,
 ai0 Tryz.func99 aej.2,
 ai0 Tryz.func100 aek.2,
 ai0 Tryz.func102 ael.2,
 ai0 Tryz.func104 aem.2,
 ai0 Tryz.func105 aen.2,
 ai0 Tryz.func106 aeo.2,
 ai0 Tryz.func107 c33.2,
 ai0 Tryz.func109 aep.2,
 ai0 Tryz.func110 ahA.2,
 ai0 Tryz.func111 ahC.2,
 ai0 Tryz.func112 ahE.2,
 ai0 Tryz.func113 ahG.2,
 ai0 Tryz.func114 ahI.2,
 ai0 Tryz.func115 ahK.2,
 ai0 Tryz.func116 ahL.2,
 ai0 Tryz.func117 c50.2,
 ai0 Tryz.func118 c51.2,
 ai0 Tryz.func119 c36.2,
 ai0 Tryz.func120 aeq.2,
 ai0 Tryz.func121 aer.2,
 ai0 Tryz.func122 aes.2,
 ai0 Tryz.func123 aet.2,
 ai0 Tryz.func124 aeu.2,
 ai0 Tryz.func125 aev.2,
 ai0 Tryz.func126 aew.2,
 ai0 Tryz.func127 aex.2,
 ai0 Tryz.func128 aey.2,
 ai0 Tryz.func129 aez.2,
 ai0 Tryz.func130 aeA.2,
 ai0 Tryz.func131 aeB.2,
 ai0 Tryz.func132 aeC.2,
 ai0 Tryz.func133 aeD.2,
 ai0 Tryz.func134 aeE.2,
 ai0 Tryz.func135 aeF.2,
 ai0 Tryz.func136 aeG.2,
 ai0 Tryz.func137 aeH.2,
 ai0 Tryz.func138 aeI.2,
 ai0 Tryz.func139 aeJ.2,
 ai0 Tryz.func140 aeK.2,
 ai0 Tryz.func141 ahM.2,
 ai0 Tryz.func142 c54.2,
 ai0 Tryz.func143 c55.2,
 ai0 Tryz.func144 ahO.2,
 ai0 Tryz.func145 ahQ.2,
 ai0 Tryz.func146 aeL.2,
 ai0 Tryz.func147 aeM.2,
 ai0 Tryz.func148 aeN.2,
 ai0 Tryz.func149 aeO.2,
 ai0 Tryz.func150 aeP.2,
 ai0 Tryz.func151 aeQ.2,
 ai0 Tryz.func152 aeR.2,
 ai0 Tryz.func153 aeS.2,
 ai0 Tryz.func154 aeT.2,
 ai0 Tryz.func155 aeU.2,
 ai0 Tryz.func156 aeV.2,
 ai0 Tryz.func157 aeW.2,
 ai0 Tryz.func158 ahS.2,
 ai0 Tryz.func159 aeX.2,
 ai0 Tryz.func160 aeY.2,
 ai0 Tryz.func161 aeZ.2,
 ai0 Tryz.func162 ae1.2,
 ai0 Tryz.func163 ae2.2,
 ai0 Tryz.func164 ae3.2,
 ai0 Tryz.func165 ae4.2,
 ai0 Tryz.func166 ae5.2,
 ai0 Tryz.func167 ae6.2,
 ai0 Tryz.func168 ae7.2,
 ai0 Tryz.func169 ae8.2,
 ai0 Tryz.func170 ae9.2,
 ai0 Tryz.func171 ahU.2,
 ai0 Tryz.func172 ahV.2,
 ai0 Tryz.func173 ahW.2,
 ai0 Tryz.func174 ahX.2,
 ai0 Tryz.func175 ahY.2,
 ai0 Tryz.func176 ahZ.2,
 ai0 Tryz.func177 ah0.2,
 ai0 Tryz.func178 afa.2,
 ai0 Tryz.func179 afb.2,
 ai0 Tryz.func180 afc.2,
 ai0 Tryz.func181 afd.2,
 ai0 Tryz.func182 ah1.2,
 ai0 Tryz.func183 ah2.2,
 ai0 Tryz.func184 ah3.2,
 ai0 Tryz.func185 afe.2,
 ai0 Tryz.func186 ah4.2,trivial⟩
theorem Az: ∀t1 t2 k,X0.jb t1=some k→X0.jb t2=some k→t1=t2:=(Ao (P:=Tryz.prog) (fl:=Dy) (tl:=Dz) (tab:=[]) (ext:=[]) (hyb:=[]) (iter:=[]) vy MP (by kernel_rfl) trivial trivial trivial trivial).inj
theorem H8:pM X0 Gq:=⟨⟨29,rfl,fun _ _ h=>iV Az Tryz.func29 (by kernel_rfl) acz h⟩,
 ⟨30,rfl,fun _ _ h=>iV Az Tryz.func30 (by kernel_rfl) acA h⟩,
 ⟨31,rfl,fun _ _ h=>iV Az Tryz.func31 (by kernel_rfl) acB h⟩,
 ⟨32,rfl,fun _ _ h=>iV Az Tryz.func32 (by kernel_rfl) acC h⟩,
 ⟨33,rfl,fun _ _ h=>iV Az Tryz.func33 (by kernel_rfl) acD h⟩,
 ⟨108,rfl,fun _ _ h=>Ca Tryz.func108 (by kernel_rfl) (by kernel_rfl) (by kernel_rfl) rfl h⟩,trivial⟩
theorem Fa:mw X0 CW:=⟨Aw _ _ 221 rfl,Ay _ _ 564 rfl,trivial⟩
theorem Yg:vu X0 E:=Ao (P:=Tryz.prog) (fl:=Dy) (tl:=Dz) vy MP (by kernel_rfl) KX H8 trivial Fa
end Go.AM
