/-
  Texts of the proof, joined by program: AmOw, AmIter, AmIterF, AmOwF, AmTrDr. Own work.
-/
import Derived.Test.YtkdfnbahehdhmaaGreatBase
import Derived.Test.YtkdfnbahehdhmaaGreatOpsC
import Derived.Test.YtkdfnbahehdhmaaGreatTail
import Derived.Test.YtkdfnbahehdhmaaGreatFns
import Derived.StillTailTactics
import Derived.Test.YtkdfnbahehdhmaaGreatProg
import Derived.RangeFuncNested
import Derived.RangeFuncLeaves
import Derived.Shelf.Abstract
import Derived.Shelf.RegionOpen
import Derived.WalkKit
import Derived.OwnWalkIn
import Derived.TacticsInMore
import Derived.LoopNIn
import Derived.LoopIn
import Derived.Test.YtkdfnbahehdhmaaGreatRows
set_option linter.unusedSimpArgs false
set_option linter.unusedVariables false
namespace Go.Proofs
open Go.RowKit Go.Shelf Go.AM
attribute [local go_sem] Oper.semAt_some
@[local go_sem] theorem aak: (Fr none).round=none:=rfl
def gD (skip:Bool) (n:Int):Nat→List (Value×Value)→List (Array Value)
 | i,p::q::rest=> (if skip && (decide ((i:Int)=n - 1) || decide ((i:Int)=n)) then [] else [#[.agg #[p.1,p.2],.agg #[q.1,q.2]]])++gD skip n (i+1) (q::rest)
 | _,_=> []
def gE (e n:Int):Nat→List (List (Value×Value))→List (Array Value)
 | _,[]=> []
 | k,ps::rest=>gD (decide ((k:Int)=e)) n 0 ps++gE e n (k+1) rest
structure HH where
 id:Int
 a:Option Addr
 cap:Nat
 l:Int
 r:Int
 dP:List (Value×Value)
theorem zu {skip:Bool} {n:Int} {i:Nat} {ps:List (Value×Value)} {p q:Value×Value} (hp:ps[i]? =some p) (hq:ps[i+1]? =some q):
  gD skip n i (ps.drop i)=(if skip && (decide ((i:Int)=n - 1) || decide ((i:Int)=n)) then [] else [#[.agg #[p.1,p.2],.agg #[q.1,q.2]]])++gD skip n (i+1) (ps.drop (i+1)):=by
 obtain⟨h1,rfl⟩:=List.getElem?_eq_some_iff.1 hp
 obtain⟨h2,rfl⟩:=List.getElem?_eq_some_iff.1 hq
 rw[List.drop_eq_getElem_cons h1,List.drop_eq_getElem_cons h2]
 rw[gD]
theorem uz {skip:Bool} {n:Int} {i:Nat} {ps:List (Value×Value)} (h:ps.length - 1≤i):gD skip n i (ps.drop i)=[]:=by
 rcases hd:ps.drop i with _| ⟨p,_| ⟨q,rest⟩⟩
 · rfl
 · rfl
 · have:=congrArg List.length hd
   simp at this;omega
theorem zw {e n:Int} {k:Nat} {rs:List (List (Value×Value))} {ps:List (Value×Value)} (h:rs[k]? =some ps):gE e n k (rs.drop k)=gD (decide ((k:Int)=e)) n 0 ps++gE e n (k+1) (rs.drop (k+1)):=by
 obtain⟨h1,rfl⟩:=List.getElem?_eq_some_iff.1 h
 rw[List.drop_eq_getElem_cons h1,gE]
theorem zx {w:World} {o:Obj} {a:Addr} {v:Value} (h:w.cell? a=some v): (w.alloc o).cell? a=some v:=by
 have bJ:a.block<w.heap.size:=by
  rcases Nat.lt_or_ge a.block w.heap.size with hl| hl
  · exact hl
  · simp[World.cell?,Array.getElem?_eq_none hl] at h
 rw[←h]
 simp only[World.cell?,Below.heap_alloc w o a.block bJ]
theorem xw (w:World) (o:Obj):w.grownBy (w.alloc o) none:=by
 have b1:Below w.heap.size w (w.alloc o):=(Below.refl _ w).alloc (Nat.le_refl _) _
 exact⟨b1.os,b1.tape,b1.output,b1.size,fun k hk _=>b1.block k hk⟩
theorem D0 (A:World):A.grownBy A.drew none:=⟨rfl,rfl,rfl,Nat.le_refl _,fun _ _ _=>rfl⟩
theorem uA {A B:World} {a:Addr} (h:B.heap[a.block]? =A.heap[a.block]?):B.cell? a=A.cell? a:=by
 simp only[World.cell?,h]
set_option maxRecDepth 100000 in
set_option maxHeartbeats 4000000 in
theorem D1 (     l Bm Om Bc Oc b off cap:Nat) (a0:Option Addr) (e n:Int) (rows:List HH) (hbig:rows.length< 4611686018427387904) (RV: ∀R ∈ rows,R.dP.length< 4611686018427387904) (Lh:0≤n) (Mv:n< 4611686018427387904)
  (S:Nat→Prop) (J:Nat→(Nat→Prop)→World→Prop) (Jx:Nat→World→Prop)
  (Yn: ∀k F A B,J k F A→A.grownBy B none→J k (fun b=>F b∨(A.heap.size≤b∧b<B.heap.size)) B) (hJl: ∀k F F' A,J k F A→(∀b,F' b→F b)→J k F' A)
  (tj:List (Array Value)) (WB:tj.drop 0=gE e n 0 (rows.map (·.dP)))
  (hY: ∀ (k:Nat) F W1 v,tj[k]? =some v→J k F W1→YieldAt (Fr none) 0 Tryz.prog l v W1 fun e W'=>
    (e= .returned (.bool true)∧J (k+1) F W'∧ ∀b,S b∨F b→W'.heap[b]? =W1.heap[b]?)∨(e= .returned (.bool false)∧Jx (k+1) W'))
  (W:World) (hSm:S Bm) (Yo:S Bc) (MO:rows≠[]→S b) (EM:rows≠[]→a0=some ⟨b,off,none⟩) (hBm:W.cell? ⟨Bm,Om,none⟩=some (.slice a0 rows.length cap))
  (WC:W.cell? ⟨Bc,Oc,none⟩=some (.int .i64 e)) (WD:W.cell? ⟨Bc,Oc+1,none⟩=some (.int .i64 n))
  (hc: ∀ (k:Nat) R,rows[k]? =some R→W.cell? ⟨b,off+k*4,none⟩=some (.int .i64 R.id)∧W.cell? ⟨b,off+k*4+1,none⟩=some (.slice R.a R.dP.length R.cap)∧W.cell? ⟨b,off+k*4+2,none⟩=some (.int .i64 R.l)∧W.cell? ⟨b,off+k*4+3,none⟩=some (.int .i64 R.r))
  (hpt: ∀ (k:Nat) R,rows[k]? =some R→R.dP≠[]→ ∃b2 o2,R.a=some ⟨b2,o2,none⟩∧S b2∧ ∀ (i:Nat) p,R.dP[i]? =some p→W.cell? ⟨b2,o2+i*2,none⟩=some p.1∧W.cell? ⟨b2,o2+i*2+1,none⟩=some p.2)
  (h0:J 0 (fun _=>False) W):
  CallsIn (Fr none) 1 Tryz.prog 103 #[.func (.yield l) #[] #[],.pointer (some ⟨Bm,Om,none⟩),.pointer (some ⟨Bc,Oc,none⟩)] W fun ex W'=> (∃v,ex= .returned v)∧((∃F,J tj.length F W')∨ ∃k,k≤tj.length∧Jx k W'):=by
 refine callsIn_of_wp Tryz.func103 rfl trivial ?_ rfl
 simp only[Tryz.ntmps103,List.size_toArray,List.length_cons,List.length_nil,Nat.reduceAdd,Nat.reduceSub,Array.replicate_succ,Array.replicate_zero,List.push_toArray,List.append_toArray,List.nil_append,List.cons_append]
 have EI:Tryz.prog.follows .mixedOrders=true:=by kernel_rfl
 gi_wp2
 gi_loopw [10] (fun i wr=> ∃k:Nat,k≤rows.length∧i= .int .i64 k∧ ∃j F,J j F wr∧tj.drop j=gE e n k ((rows.map (·.dP)).drop k)∧j≤tj.length∧ ∀a v,S a.block→W.cell? a=some v→wr.cell? a=some v) (fun i _=>rows.length - (intOf i).toNat)
 case atStart=>exact⟨0,Nat.zero_le _,rfl,0,_,h0,WB,Nat.zero_le _,fun a v _ h=>h⟩
 case round=>
  obtain⟨k,hk,rfl,j,F,hJ,fq,EP,xx⟩:=hrel
  by_cases bJ:k<rows.length
  · have pt: (   k:Int) < (rows.length:Int):=by omega
    have hR:rows[k]? =some rows[k]:=List.getElem?_eq_getElem bJ
    have cB:rows≠[]:=by intro h;rw[h] at bJ;simp at bJ
    obtain rfl:=EM cB
    replace MO:=MO cB
    clear EM cB
    obtain⟨c0,c1,c2,c3⟩:=hc k _ hR
    replace c0:=xx _ _ MO c0
    replace c1:=xx _ _ MO c1
    replace c2:=xx _ _ MO c2
    replace c3:=xx _ _ MO c3
    have hRp:=RV rows[k] (List.getElem_mem bJ)
    have zy:=hpt k _ hR
    have Yp: (rows.map (·.dP))[k]? =some rows[k].dP:=by simp[hR]
    rw[zw Yp] at fq
    generalize RW:decide ((k:Int)=e)=sk at fq
    clear Yp hR
    generalize rows[k]=R at*
    obtain⟨L9,Ra,vI,Rl,Rr,dP⟩:=R
    dsimp only at c0 c1 c2 c3 hRp zy fq
    have hgr:=xw wr (Obj.cells #[Value.int IntKind.i64 L9,Value.slice Ra dP.length vI,Value.int IntKind.i64 Rl,Value.int IntKind.i64 Rr] 51)
    have Ma: ∀a v,S a.block→W.cell? a=some v→(wr.alloc (Obj.cells #[Value.int IntKind.i64 L9,Value.slice Ra dP.length vI,Value.int IntKind.i64 Rl,Value.int IntKind.i64 Rr] 51)).cell? a=some v:=fun a v h1 h2=>zx (xx a v h1 h2)
    have b5: (wr.alloc (Obj.cells #[Value.int IntKind.i64 L9,Value.slice Ra dP.length vI,Value.int IntKind.i64 Rl,Value.int IntKind.i64 Rr] 51)).heap.size=wr.heap.size+1:=World.size_alloc _ _
    have Mb: (wr.alloc (Obj.cells #[Value.int IntKind.i64 L9,Value.slice Ra dP.length vI,Value.int IntKind.i64 Rl,Value.int IntKind.i64 Rr] 51)).cell? ⟨wr.heap.size,1,none⟩=some (.slice Ra dP.length vI):=by
       simp only[World.cell?]
       rw[World.alloc_heap_new]
       rfl
    obtain⟨F2,hFx,HI⟩: ∃F2:Nat→Prop,F2 wr.heap.size∧J j F2 (wr.alloc (Obj.cells #[Value.int IntKind.i64 L9,Value.slice Ra dP.length vI,Value.int IntKind.i64 Rl,Value.int IntKind.i64 Rr] 51)):=
       ⟨_,.inr ⟨Nat.le_refl _,by omega⟩,Yn _ _ _ _ hJ hgr⟩
    by_cases h1: (1:Int) < (dP.length:Int)
    ·  have RX: ( 0:Int)≤(dP.length:Int) - 1:=by omega
       obtain⟨b2,o2,rfl,UA,Yq⟩:=zy (by intro h;rw[h] at h1;simp at h1)
       gi_wp2
       generalize wr.alloc (Obj.cells #[Value.int IntKind.i64 L9,Value.slice (some ⟨b2,o2,none⟩) dP.length vI,Value.int IntKind.i64 Rl,Value.int IntKind.i64 Rr] 51)=wa at*
       generalize wr.heap.size=Bx at*
       gi_loopw [20] (fun i w2=> ∃i':Nat,i'≤dP.length - 1∧i= .int .i64 i'∧ ∃j2,J j2 F2 w2∧tj.drop j2=gD sk n i' (dP.drop i')++gE e n (k+1) ((rows.map (·.dP)).drop (k+1))∧j2≤tj.length∧(∀a v,S a.block→W.cell? a=some v→w2.cell? a=some v)∧w2.cell? ⟨Bx,1,none⟩=some (.slice (some ⟨b2,o2,none⟩) dP.length vI)) (fun i _=>dP.length - (intOf i).toNat)
       case atStart=>exact⟨0,Nat.zero_le _,rfl,j,HI,by simpa using fq,EP,Ma,Mb⟩
       case round=>
        clear hJ HI fq EP xx Ma Mb
        obtain⟨i',wN,rfl,j2,HI,fq,EP,xx,Mb⟩:=hrel
        have aac:=xx _ _ Yo WC
        have aad:=xx _ _ Yo WD
        by_cases jd:i'<dP.length - 1
        · have Ug: (i':Int) < (dP.length:Int) - 1:=by omega
          have Yr:dP[i']? =some dP[i']:=List.getElem?_eq_getElem (by omega)
          have Ys:dP[i'+1]? =some dP[i'+1]:=List.getElem?_eq_getElem (by omega)
          rw[zu Yr Ys] at fq
          obtain⟨p1,p2⟩:=Yq _ _ Yr
          obtain⟨q1,q2⟩:=Yq _ _ Ys
          replace p1:=xx _ _ UA p1
          replace p2:=xx _ _ UA p2
          replace q1:=xx _ _ UA q1
          replace q2:=xx _ _ UA q2
          generalize dP[i']=P at*
          generalize dP[i'+1]=Q2 at*
          have MP:IntKind.i64.wrap (n - 1)=n - 1:=wrap64 (by omega) (by omega)
          by_cases RY: (k:Int)=e∧((i':Int)=n - 1∨(i':Int)=n)
          ·  obtain⟨vl,jN⟩:=RY
             have s7:tj.drop j2=gD sk n (i'+1) (dP.drop (i'+1))++gE e n (k+1) ((rows.map (·.dP)).drop (k+1)):=by
               rw[fq,if_pos (by rw[←RW];simp[vl];exact jN)];rfl
             rcases jN with jN| jN
             · obtain rfl:n=(i':Int)+1:=by omega
               clear jN MP fq
               have aae:IntKind.i64.wrap ((i':Int)+1 - 1)=(i':Int):=(wrap64 (by omega) (by omega)).trans (by omega)
               gi_wp2
               exact⟨⟨i'+1,by omega,rfl,j2,HI,s7,EP,xx,Mb⟩,by simp only[intOf];omega⟩
             · obtain rfl:n=(i':Int):=jN.symm
               clear fq
               have Rt: ¬ (i':Int)=(i':Int) - 1:=by omega
               gi_wp2
               exact⟨⟨i'+1,by omega,rfl,j2,HI,s7,EP,xx,Mb⟩,by simp only[intOf];omega⟩
          ·  obtain⟨v,WE⟩: ∃v:Array Value,v= #[.agg #[P.1,P.2],.agg #[Q2.1,Q2.2]]:=⟨_,rfl⟩
             have zz:tj.drop j2=v:: (gD sk n (i'+1) (dP.drop (i'+1))++gE e n (k+1) ((rows.map (·.dP)).drop (k+1))):=by
               rw[fq,if_neg (by rw[←RW];simpa using RY),WE];rfl
             have hv:tj[j2]? =some v:=by
               have:=congrArg (fun l=>l[0]?) zz
               simpa using this
             have s7:tj.drop (j2+1)=gD sk n (i'+1) (dP.drop (i'+1))++gE e n (k+1) ((rows.map (·.dP)).drop (k+1)):=by
               have:=congrArg (List.drop 1) zz
               simpa [List.drop_drop] using this
             have Yt:j2+1≤tj.length:=(List.getElem?_eq_some_iff.1 hv).1
             have UB:J j2 F2 wr.drew:=hJl _ _ _ _ (Yn _ _ _ _ HI (D0 wr)) (fun b hb=> .inl hb)
             obtain⟨fn,tmps,assign,body,hy,hR⟩:=hY j2 F2 wr.drew v hv UB
             rw[WE] at hy
             have ox: ((k:Int)=e∧ ¬ (i':Int)=n - 1∧ ¬ (i':Int)=n)∨ ¬ (k:Int)=e:=by
               by_cases vl: (k:Int)=e
               · exact .inl ⟨vl,fun h=>RY ⟨vl,.inl h⟩,fun h=>RY ⟨vl,.inr h⟩⟩
               · exact .inr vl
             have RZ:IntKind.i64.wrap ((i':Int)+1)=(i':Int)+1:=wrap64 (by omega) (by omega)
             have WG: ((i':Int)+1).toNat=i'+1:=by omega
             have vQ:i'<dP.length:=by omega
             have Cc: (i':Int)+1 < (dP.length:Int):=by omega
             have WH: (0:Int)≤(i':Int)+1:=by omega
             clear RY fq zz WE
             have MQ:=hR.mono (R':=fun ex W'=> ∃bb,ex= .returned (.bool bb)∧(bb=true→J (j2+1) F2 W'∧ ∀b,S b∨F2 b→W'.heap[b]? =wr.drew.heap[b]?)∧(bb=false→Jx (j2+1) W')) (by
               rintro ex W' (⟨rfl,q1,q2⟩ | ⟨rfl,q1⟩)
               · exact⟨true,rfl,fun _=> ⟨q1,q2⟩,by simp⟩
               · exact⟨false,rfl,by simp,fun _=>q1⟩)
             clear hR
             rcases ox with⟨vl,jN,pI⟩ | vl
             all_goals
               gi_wp2
               refine xy (n:=0) (fi 12 EI (by kernel_rfl) (by kernel_rfl) ?_)
               simp only[List.take_succ_cons,List.take_zero,List.drop_succ_cons,List.drop_zero]
               change wpStill _ _ (World.drew wr) (fun a'=>wpListIn _ _ _ _ _ _ a' (World.drew wr)) _ _
               iterate 12 (refine wpStill_step (fun K hK=> ?_);go_simp; (try simp only[RZ,WG,Cc,WH,vQ,and_self,if_true,true_and,go_sem]); (try simp only[p1,p2,q1,q2,Mb,World.zA,go_sem]);refine hK _ ?_;clear hK K)
               refine wpStill_nil ?_
               refine wpListIn_step (fun K hK=> ?_)
               go_simp
               refine⟨rfl,RoundIn.mono MQ ?_⟩
               rintro ex W3 ⟨bb,rfl,UC,EJ⟩
               refine hK _ _ ?_
               clear hK K
               refine wpListIn_step (fun K hK=> ?_)
               go_simp
               refine hK _ _ ?_
               clear hK K
               refine wpListIn_nil ?_
               rename_i MR
               refine MR _ _ ?_
               cases bb
               · clear MR MQ
                 gi_wp2
                 refine⟨rfl,_,results_none (fn:=Tryz.f103) rfl _ _ _,⟨_,rfl⟩,?_⟩
                 exact .inr ⟨j2+1,Yt,EJ trivial⟩
               · obtain⟨hq3,Yu⟩:=UC rfl
                 clear MR MQ
                 gi_wp2
                 exact⟨⟨i'+1,by omega,rfl,j2+1,hq3,s7,Yt,fun a v h1 h2=> (uA ((Yu _ (.inl h1)).trans rfl)).trans (xx a v h1 h2),(uA (a:=⟨Bx,1,none⟩) ((Yu Bx (.inr hFx)).trans rfl)).trans Mb⟩,by simp only[intOf];omega⟩
        · have Ug: ¬ (i':Int) < (dP.length:Int) - 1:=by omega
          rw[uz (by omega),List.nil_append] at fq
          gi_wp2
          exact⟨⟨k+1,by omega,rfl,j2,F2,HI,fq,EP,xx⟩,by simp only[intOf];omega⟩
    ·  have RX: (dP.length:Int) - 1≤0:=by omega
       gi_wp2
       gi_loopw [20] (fun i w2=>i= .int .i64 0∧w2=wr.alloc (Obj.cells #[Value.int IntKind.i64 L9,Value.slice Ra dP.length vI,Value.int IntKind.i64 Rl,Value.int IntKind.i64 Rr] 51)) (fun i _=>0)
       case atStart=>exact⟨rfl,rfl⟩
       case round=>
        obtain⟨rfl,rfl⟩:=hrel
        rw[show gD sk n 0 dP=[] from uz (i:=0) (by omega),List.nil_append] at fq
        gi_wp2
        exact⟨⟨k+1,by omega,rfl,j,_,HI,fq,EP,Ma⟩,by simp only[intOf];omega⟩
  · have pt: ¬ (k:Int) < (rows.length:Int):=by omega
    have vl:k=rows.length:=by omega
    rw[List.drop_of_length_le (l:=rows.map (·.dP)) (by simp;omega)] at fq
    have VX:j=tj.length:=by
       have:=congrArg List.length fq
       simp[gE] at this;omega
    subst VX
    gi_wp2
    exact⟨rfl,_,results_none (fn:=Tryz.f103) rfl _ _ _,⟨_,rfl⟩,.inl ⟨F,hJ⟩⟩
end Go.Proofs
namespace Go.Proofs
open Go.RowKit Go.Shelf Go.AM
attribute [local go_sem] Oper.semAt_some
@[local go_sem] theorem DZ: (Fr none).round=none:=rfl
set_option maxRecDepth 100000 in
set_option maxHeartbeats 4000000 in
theorem D2 (l Bs Bo b off len cap:Nat) (vs:List (List Value)) (hlen:vs.length=len) (h2: ∀v ∈ vs,∃x y,v=[x,y]) (hbig:len< 4611686018427387904) (Kp:World→World→Prop) (Yv: ∀ {A B C},Kp A B→Kp B C→Kp A C) (Wh: ∀A,Kp A A)
  (hkb: ∀ {A B},Kp A B→A.cell? ⟨Bs,Bo,none⟩=some (.slice (some ⟨b,off,none⟩) len cap)→B.cell? ⟨Bs,Bo,none⟩=some (.slice (some ⟨b,off,none⟩) len cap))
  (UD: ∀ {A B} j v,Kp A B→A.cell? ⟨b,j,none⟩=some v→B.cell? ⟨b,j,none⟩=some v)
  (Dn: ∀A:World,Kp A A.drew) (J Jx:Nat→World→Prop) (UB: ∀k W,J k W→J k W.drew)
  (hY: ∀ (k:Nat) W1 x y z u,k+1 <len→vs[k]? =some [x,y]→vs[k+1]? =some [z,u]→J k W1→YieldAt (Fr none) 0 Tryz.prog l #[.int .i64 k,.agg #[x,y,z,u]] W1 fun e W'=>
    (e= .returned (.bool true)∧J (k+1) W'∧Kp W1 W')∨(e= .returned (.bool false)∧Jx (k+1) W'))
  (W:World) (Yw:W.cell? ⟨Bs,Bo,none⟩=some (.slice (some ⟨b,off,none⟩) len cap)) (hc: ∀ (j:Nat) x y,vs[j]? =some [x,y]→W.cell? ⟨b,off+j*2,none⟩=some x∧W.cell? ⟨b,off+j*2+1,none⟩=some y) (h0:J 0 W):
  CallsIn (Fr none) 1 Tryz.prog 101 #[.func (.yield l) #[] #[],.pointer (some ⟨Bs,Bo,none⟩)] W fun e W'=> (∃v,e= .returned v)∧(J (len - 1) W'∨ ∃k,k≤len - 1∧Jx k W'):=by
 refine callsIn_of_wp Tryz.func101 rfl trivial ?_ rfl
 simp only[Tryz.ntmps101,List.size_toArray,List.length_cons,List.length_nil,Nat.reduceAdd,Nat.reduceSub,Array.replicate_succ,Array.replicate_zero,List.push_toArray,List.append_toArray,List.nil_append,List.cons_append]
 have EI:Tryz.prog.follows .mixedOrders=true:=by kernel_rfl
 gi_wp2
 gi_loopw [3] (fun i wr=> ∃k:Nat,k≤len - 1∧i= .int .i64 k∧J k wr∧Kp W wr) (fun i _=>len - (intOf i).toNat)
 case atStart=>exact⟨0,Nat.zero_le _,rfl,h0,Wh _⟩
 case round=>
  obtain⟨k,hk,rfl,UE,yl⟩:=hrel
  have hBr:=hkb yl Yw
  by_cases bJ:k+1 <len
  · obtain⟨x,y,Uq⟩:=h2 vs[k] (List.getElem_mem (by omega))
    obtain⟨z,u,hzu⟩:=h2 vs[k+1] (List.getElem_mem (by omega))
    have De:vs[k]? =some [x,y]:=by rw[List.getElem?_eq_getElem (by omega),Uq]
    have BH:vs[k+1]? =some [z,u]:=by rw[List.getElem?_eq_getElem (by omega),hzu]
    obtain⟨fn,tmps,assign,body,hy,hR⟩:=hY k wr.drew x y z u bJ De BH (UB _ _ UE)
    have vQ:k<len:=by omega
    have Cc: (k:Int)+1 < (len:Int):=by omega
    have WH: (0:Int)≤(k:Int)+1:=by omega
    have RZ:IntKind.i64.wrap ((k:Int)+1)=(k:Int)+1:=wrap64 (by omega) (by omega)
    have MP: ((k:Int)+1).toNat=k+1:=by omega
    have c1:=UD _ _ yl (hc k x y De).1
    have c2:=UD _ _ yl (hc k x y De).2
    have c3:=UD _ _ yl (hc (k+1) z u BH).1
    have c4:=UD _ _ yl (hc (k+1) z u BH).2
    gi_wp2
    have MQ:=hR.mono (R':=fun e W'=> ∃bb,e= .returned (.bool bb)∧(bb=true→J (k+1) W'∧Kp wr.drew W')∧(bb=false→Jx (k+1) W')) (by
       rintro e W' (⟨rfl,q1,q2⟩ | ⟨rfl,q1⟩)
       · exact⟨true,rfl,fun _=> ⟨q1,q2⟩,by simp⟩
       · exact⟨false,rfl,by simp,fun _=>q1⟩)
    clear hR
    refine xy (n:=0) (fi 12 EI (by kernel_rfl) (by kernel_rfl) ?_)
    simp only[List.take_succ_cons,List.take_zero,List.drop_succ_cons,List.drop_zero]
    change wpStill _ _ (World.drew wr) (fun a'=>wpListIn _ _ _ _ _ _ a' (World.drew wr)) _ _
    iterate 12 (refine wpStill_step (fun K hK=> ?_);go_simp; (try simp only[RZ,MP,Cc,WH,vQ,and_self,if_true,true_and,go_sem]); (try simp only[c1,c2,c3,c4,hBr,World.zA,go_sem]);refine hK _ ?_;clear hK K)
    refine wpStill_nil ?_
    refine wpListIn_step (fun K hK=> ?_)
    go_simp
    refine⟨rfl,RoundIn.mono MQ ?_⟩
    rintro e W3 ⟨bb,rfl,UC,EJ⟩
    refine hK _ _ ?_
    clear hK K
    refine wpListIn_step (fun K hK=> ?_)
    go_simp
    refine hK _ _ ?_
    clear hK K
    refine wpListIn_nil ?_
    rename_i hk9 kk9 MR
    refine MR _ _ ?_
    cases bb
    ·  clear MR hk9 MQ
       gi_wp2
       refine⟨rfl,_,results_none (fn:=Tryz.f101) rfl _ _ _,⟨_,rfl⟩,?_⟩
       exact .inr ⟨k+1,by omega,EJ trivial⟩
    ·  gi_wp2
       exact⟨⟨k+1,by omega,rfl,(UC rfl).1,Yv yl (Yv (Dn _) (UC rfl).2)⟩,by simp only[intOf];omega⟩
  · have Cc: ¬ (k:Int)+1 < (len:Int):=by omega
    have RZ:IntKind.i64.wrap ((k:Int)+1)=(k:Int)+1:=wrap64 (by omega) (by omega)
    gi_wp2
    have vl:k=len - 1:=by omega
    refine⟨rfl,_,results_none (fn:=Tryz.f101) rfl _ _ _,⟨_,rfl⟩,?_⟩
    exact .inl (vl ▸ UE)
set_option maxRecDepth 100000 in
set_option maxHeartbeats 4000000 in
theorem uB (l Bs Bo cap:Nat) (a0:Option Addr) (J Jx:Nat→World→Prop) (UB: ∀k W,J k W→J k W.drew)
  (W:World) (Yw:W.cell? ⟨Bs,Bo,none⟩=some (.slice a0 0 cap)) (h0:J 0 W):
  CallsIn (Fr none) 1 Tryz.prog 101 #[.func (.yield l) #[] #[],.pointer (some ⟨Bs,Bo,none⟩)] W fun e W'=> (∃v,e= .returned v)∧(J 0 W'∨ ∃k,k≤0∧Jx k W'):=by
 refine callsIn_of_wp Tryz.func101 rfl trivial ?_ rfl
 simp only[Tryz.ntmps101,List.size_toArray,List.length_cons,List.length_nil,Nat.reduceAdd,Nat.reduceSub,Array.replicate_succ,Array.replicate_zero,List.push_toArray,List.append_toArray,List.nil_append,List.cons_append]
 have EI:Tryz.prog.follows .mixedOrders=true:=by kernel_rfl
 gi_wp2
 gi_loopw [3] (fun i wr=>i= .int .i64 0∧J 0 wr∧wr=W) (fun i _=>0)
 case atStart=>exact⟨rfl,h0,rfl⟩
 case round=>
  obtain⟨rfl,UE,rfl⟩:=hrel
  have RZ:IntKind.i64.wrap ((0:Int)+1)=1:=by decide
  gi_wp2
  refine⟨rfl,_,results_none (fn:=Tryz.f101) rfl _ _ _,⟨_,rfl⟩,?_⟩
  exact .inl UE
theorem nd (A:World):A.grownBy A.drew none:=⟨rfl,rfl,rfl,Nat.le_refl _,fun _ _ _=>rfl⟩
end Go.Proofs
namespace Go.Proofs
open Go.RowKit Go.AM
theorem xz: ∀ (ps:List V) (i:Nat),(gW i ps).length=ps.length - 1
 | [],_=>rfl
 | [_],_=>rfl
 | _::q::rest,i=>by simp only[gW,List.length_cons,xz (q::rest)];omega
theorem jB: ∀ (ps:List V) (i k:Nat) x,(gW i ps)[k]? =some x→ ∃p q,ps[k]? =some p∧ps[k+1]? =some q∧x=[.int .i64 ((i+k:Nat):Int),.agg (p.cells++q.cells)]
 | [],i,k,x,h=>by simp[gW] at h
 | [_],i,k,x,h=>by simp[gW] at h
 | p::q::rest,i,k,x,h=>by
   cases k with
   | zero=>simp[gW] at h;exact⟨p,q,by simp,by simp,h ▸ by simp⟩
   | succ k=>
     simp only[gW,List.getElem?_cons_succ] at h
     obtain⟨p',q',h1,h2,rfl⟩:=jB (q::rest) (i+1) k x h
     exact⟨p',q',by simpa using h1,by simpa using h2,by rw[show i+1+k=i+(k+1) by omega]⟩
def BM (vs:List Value) (n:Nat):List (Array Value):=(List.range n).map fun (k:Nat)=> #[.int .i64 (((k:Nat):Int)),.agg ((vs.getD k undef).cells++(vs.getD (k+1) undef).cells)]
theorem zB (args:Array Value) (w:World): (callFunc 101 args).run Tryz.prog w= .ok (.enter 101 args) w:=by
 obtain⟨c,hc⟩: ∃c,Tryz.f101.body=some c:=⟨_,rfl⟩
 have hn:Tryz.f101.name≠ "runtime.NumGoroutine" :=by decide
 simp[callFunc,Sem.run_bind,program,Sem.run,Tryz.func101,hc,hn]
theorem sC {F:Fence} {n:Nat} {P:Program} {l:Nat} {v:Array Value} {W:World} {R R':Ending→World→Prop} (h:YieldAt F n P l v W R) (hm: ∀e W',R e W'→R' e W'):YieldAt F n P l v W R':=by
 obtain⟨fn,tmps,assign,body,hy,hR⟩:=h
 exact⟨fn,tmps,assign,body,hy,hR.mono hm⟩
theorem sD {F:Fence} {n:Nat} {P:Program} {g:Nat} {args:Array Value} {W:World} {J:Nat→(Nat→Prop)→World→Prop} {Jx:Nat→World→Prop} {m:Nat} {F0:Nat→Prop} (h:CallsIn F n P g args W fun e W'=> (∃v,e= .returned v)∧(J m F0 W'∨ ∃k,k≤m∧Jx k W')):
  CallsIn F n P g args W fun e W'=> (∃v,e= .returned v)∧((∃F,J m F W')∨ ∃k,k≤m∧Jx k W'):=
 CallsIn.mono h fun e W' h=> ⟨h.1,h.2.imp (fun h=> ⟨_,h⟩) id⟩
theorem xA (   fn:FuncId→Option Nat) (tn:TypeId→Option Nat) (g:Nat) (hg:fn 101=some g):oJ ⟨Tryz.prog,fn,tn⟩ g zQ:=by
 refine⟨101,hg,fun caps xs po B K μ lb yo ho=> ?_⟩
 refine⟨zB,?_⟩
 match caps,po,yo with
 | [.eptr .nils 0],po,yo=>
   simp only[zQ,Option.some.injEq] at po
   subst po
   obtain⟨lb⟩:=lb
   match lb,yo with
   | [v],yo=>
     simp only[ah,and_true] at yo
     obtain⟨_,_,b,o,sz,x,rfl,ef,bJ,⟨a,rfl⟩,dn⟩:=yo
     have hr:=(dn 0 _ rfl).2 0 (.slice a 0 0) (by simp[Value.cells])
     simp only[Nat.zero_mul,Nat.add_zero] at hr
     refine⟨[],rfl,fun i x v h=>by simp at h,fun l J Jx W0 jQ hJ WI hY h0=> ?_⟩
     have hc:W0.cell? ⟨b,o,none⟩=some (.slice a 0 0):=by rw[←hr];exact World.cell?_of_block (jQ.block b bJ)
     exact sD (callsIn_wide.2 (callsIn_wide.1 (uB l b o 0 a (fun k W=>J k (fun _=>False) W) Jx (fun k W h=>hJ.less k _ _ _ (hJ.grow k _ W _ h (nd W)) (fun b hb=>hb.elim)) W0 hc h0)))
 | [.eptr (.lit 2 ps) 0],po,yo=>
   simp only[zQ] at po
   split at po
   case isFalse=>simp at po
   case isTrue hbig=>
     simp only[Option.some.injEq] at po
     subst po
     obtain⟨lb⟩:=lb
     match lb,yo with
     | [v],yo=>
       simp only[ah,and_true] at yo
       obtain⟨_,_,b,o,sz,x,rfl,ef,bJ,⟨jS,wx,a,cap,vs,rfl,cP,nn,R0⟩,dn⟩:=yo
       have hr:=(dn 0 _ rfl).2 0 (.slice a ps.length cap) (by simp[Value.cells])
       simp only[Nat.zero_mul,Nat.add_zero] at hr
       have y9:vs.length=ps.length:=nn.length.symm
       have kK: ∀W0,Below μ.w.heap.size μ.w W0→W0.cell? ⟨b,o,none⟩=some (.slice a ps.length cap):=fun W0 jQ=>by rw[←hr];exact World.cell?_of_block (jQ.block b bJ)
       have WJ: ∀p ∈ ps,p.cw=true:=List.all_eq_true.1 wx
       rcases R0 with rfl| ⟨b2,o2,rfl,WK,jd,HJ⟩
       · refine⟨[],rfl,fun i x v h=>by simp[gW] at h,fun l J Jx W0 jQ hJ WI hY h0=> ?_⟩
         exact sD (callsIn_wide.2 (callsIn_wide.1 (uB l b o cap a (fun k W=>J k (fun _=>False) W) Jx (fun k W h=>hJ.less k _ _ _ (hJ.grow k _ W _ h (nd W)) (fun b hb=>hb.elim)) W0 (kK W0 jQ) h0)))
       · have kY: ∀k p,ps[k]? =some p→ ∃v x y,vs[k]? =some v∧aj ⟨⟨Tryz.prog,fn,tn⟩,B,K⟩ μ p v∧p.cw=true∧v.cells= #[x,y]:=fun k p hp=>by
           obtain⟨v,hv,Ad⟩:=nn.get hp
           have hs:=(HJ k v hv).1
           obtain⟨cs,jc⟩: ∃cs,v.cells=cs:=⟨_,rfl⟩
           rw[jc] at hs
           obtain⟨cs⟩:=cs
           match cs,hs with
           | [x,y],_=>exact⟨v,x,y,hv,Ad,WJ p (List.mem_of_getElem? hp),jc⟩
         have hgv: ∀ (k:Nat) v,vs[k]? =some v→ ∃x y,v.cells= #[x,y]:=fun k v hv=>by
           have hk:k<ps.length:=by rw[←y9];exact(List.getElem?_eq_some_iff.1 hv).1
           obtain⟨v',x,y,h1,_,_,h2⟩:=kY k _ (List.getElem?_eq_getElem hk)
           rw[hv] at h1;injection h1 with h1;subst h1;exact⟨x,y,h2⟩
         refine⟨BM vs (ps.length - 1),by rw[xz];simp[BM],fun i x v hx hv=> ?_,fun l J Jx W0 jQ hJ WI hY h0=> ?_⟩
         · obtain⟨p,q,hp,hq,rfl⟩:=jB ps 0 i x hx
           obtain⟨v1,x1,y1,h1,h2,h3,h4⟩:=kY i p hp
           obtain⟨v2,x2,y2,k1,k2,k3,k4⟩:=kY (i+1) q hq
           simp only[BM,List.getElem?_map,Option.map_eq_some_iff] at hv
           obtain⟨i',wN,rfl⟩:=hv
           obtain⟨_,rfl⟩:=List.getElem?_eq_some_iff.1 wN
           simp only[List.getElem_range,List.getD_eq_getElem?_getD,h1,k1,Option.getD_some]
           refine⟨by simp[aj],⟨by rw[List.all_append,h2.gL h3,k2.gL k3];rfl,_,rfl,?_⟩,trivial⟩
           rw[Array.toList_append]
           exact ah.append (h2.cells h3) (k2.cells k3)
         · have qi: (BM vs (ps.length - 1)).length=ps.length - 1:=by unfold BM;rw[List.length_map,List.length_range]
           have Dj: ∀ (k:Nat) x y,(vs.map fun v=>v.cells.toList)[k]? =some [x,y]→ ∃v,vs[k]? =some v∧v.cells= #[x,y]:=fun k x y h=>by
            simp only[List.getElem?_map,Option.map_eq_some_iff] at h
            obtain⟨v,h1,h2⟩:=h
            exact⟨v,h1,by rw[←h2]⟩
           have key:=D2 l b o b2 o2 ps.length cap (vs.map fun v=>v.cells.toList) (by simpa using y9) (fun v hv=>by
              obtain⟨v0,Ur,rfl⟩:=List.mem_map.1 hv
              obtain⟨k,hk,Cc⟩:=List.mem_iff_getElem.1 Ur
              obtain⟨x,y,h⟩:=hgv k v0 (by rw[List.getElem?_eq_getElem hk,Cc])
              exact⟨x,y,by rw[h]⟩) hbig (Kept μ)
            (fun h1 h2 b hb hn=> (h2 b hb hn).trans (h1 b hb hn)) (fun A b hb hn=>rfl)
            (fun {A B} hk h=>by rw[←h];exact World.cell?_of_block (hk b bJ fun h=>ef (.inl h)))
            (fun {A B} j v hk h=>by rw[←h];exact World.cell?_of_block (hk b2 jd fun h=>WK (.inl h)))
            (fun A b hb hn=>rfl) (fun k W=>J k (fun _=>False) W) Jx (fun k W h=>hJ.less k _ _ _ (hJ.grow k _ W _ h (nd W)) (fun b hb=>hb.elim))
            (fun k W1 x y z u hk h1 h2 WL=>by
              obtain⟨v1,e1,e2⟩:=Dj k x y h1
              obtain⟨v2,e3,e4⟩:=Dj (k+1) z u h2
              refine sC (hY k _ W1 _ ?_ WL) (fun e W' h=>h.imp (fun h=> ⟨h.1,h.2.1,h.2.2.1⟩) id)
              simp only[BM,List.getElem?_map,List.getElem?_range (show k<ps.length - 1 by omega),Option.map_some,List.getD_eq_getElem?_getD,e1,e3,Option.getD_some,e2,e4]
              rfl) W0 (kK W0 jQ)
            (fun j x y h=>by
              obtain⟨v1,e1,e2⟩:=Dj j x y h
              have mC:=(HJ j v1 e1).2
              rw[e2] at mC
              have c1:=mC 0 x rfl
              have c2:=mC 1 y rfl
              refine⟨?_,?_⟩
              · rw[World.cell?_of_block (jQ.block b2 jd)];simpa using c1
              · rw[World.cell?_of_block (jQ.block b2 jd)];exact c2) h0
           rw[qi]
           exact sD (callsIn_wide.2 (callsIn_wide.1 key))
#print axioms xA
end Go.Proofs
namespace Go.Proofs
open Go.RowKit Go.AM
section
variable (X:Ctx) (μ:Mu)
def tB:List V→List (Value×Value)→Prop
 | [],[]=>True
 | p::ps,pr::dP=>aj X μ p (.agg #[pr.1,pr.2])∧tB ps dP
 | _,_=>False
def eR:List (List V)→List (Array Value)→Prop
 | [],[]=>True
 | x::xs,v::vs=>ah X μ x v.toList∧eR xs vs
 | _,_=>False
end
variable {X:Ctx} {μ:Mu}
theorem eR.append: ∀ {xs ys:List (List V)} {vs us:List (Array Value)},eR X μ xs vs→eR X μ ys us→eR X μ (xs++ys) (vs++us)
 | [],_,[],_,_,h=>by simpa using h
 | [],_,_::_,_,h,_=>by simp[eR] at h
 | _::_,_,[],_,h,_=>by simp[eR] at h
 | x::xs,ys,v::vs,us,h,h'=>by
   simp only[eR] at h
   simp only[List.cons_append,eR]
   exact⟨h.1,eR.append h.2 h'⟩
theorem eR.length: ∀ {xs:List (List V)} {vs:List (Array Value)},eR X μ xs vs→vs.length=xs.length
 | [],[],_=>rfl
 | [],_::_,h=>by simp[eR] at h
 | _::_,[],h=>by simp[eR] at h
 | _::_,_::_,h=>by simp only[eR] at h;simp[eR.length h.2]
theorem eR.get: ∀ {xs:List (List V)} {vs:List (Array Value)},eR X μ xs vs→ ∀ {i:Nat} {x:List V} {v:Array Value},xs[i]? =some x→vs[i]? =some v→ah X μ x v.toList
 | [],_,_,i,x,v,hx,_=>by simp at hx
 | _::_,[],h,_,_,_,_,_=>by simp[eR] at h
 | y::ys,u::us,h,i,x,v,hx,hv=>by
   simp only[eR] at h
   cases i with
   | zero=>simp at hx hv;subst hx hv;exact h.1
   | succ i=>simp at hx hv;exact eR.get h.2 hx hv
theorem xB (skip:Bool) (n:Int): ∀ {ps:List V} {dP:List (Value×Value)} (i:Nat),tB X μ ps dP→eR X μ (qC skip n i ps) (gD skip n i dP)
 | [],[],_,_=>by simp[qC,gD,eR]
 | [],_::_,_,h=>by simp[tB] at h
 | _::_,[],_,h=>by simp[tB] at h
 | [_],[_],_,_=>by simp[qC,gD,eR]
 | [_],_::_::_,_,h=>by simp[tB] at h
 | _::_::_,[_],_,h=>by simp[tB] at h
 | p::q::rest,pr::qr::rr,i,h=>by
   simp only[tB] at h
   rw[qC,gD]
   refine eR.append ?_ (xB skip n (i+1) (by simp only[tB];exact h.2))
   split
   · simp[eR]
   · simp only[eR,ah,and_true]
     exact⟨h.1,h.2.1⟩
theorem sG {w:World} {b off sz:Nat} {v:Value} {vs:List Value} (h:cH w b off sz (v::vs)):cH w b (off+sz) sz vs:=fun i u hu=>by
 obtain⟨h1,h2⟩:=h (i+1) u (by simpa using hu)
 refine⟨h1,fun j c hc=> ?_⟩
 have:=h2 j c hc
 rwa [show off+(i+1)*sz+j=off+sz+i*sz+j by rw[Nat.add_mul];omega] at this
theorem D3: ∀ {ps:List V} {vs:List Value} {b o:Nat},ah X μ ps vs→ps.all EV=true→cH μ.w b o 2 vs→
   ∃dP:List (Value×Value),dP.length=ps.length∧tB X μ ps dP∧ ∀ (i:Nat) p,dP[i]? =some p→μ.w.cell? ⟨b,o+i*2,none⟩=some p.1∧μ.w.cell? ⟨b,o+i*2+1,none⟩=some p.2
 | [],[],_,_,_,_,_=> ⟨[],rfl,trivial,fun i p h=>by simp at h⟩
 | [],_::_,_,_,h,_,_=>by simp[ah] at h
 | _::_,[],_,_,h,_,_=>by simp[ah] at h
 | p::ps,v::vs,b,o,h,ha,hr=>by
   simp only[ah] at h
   simp only[List.all_cons,Bool.and_eq_true] at ha
   obtain⟨dP,e1,e2,e3⟩:=D3 h.2 ha.2 (sG hr)
   match p,ha.1,h.1 with
   | .agg [x,y],_,hv=>
     obtain⟨hc,us,rfl,hu⟩:=(show _∧ ∃vs,v= .agg vs∧ah X μ [x,y] vs.toList by simpa only[aj] using hv)
     obtain⟨us⟩:=us
     match us,hu with
     | [a,c],hu=>
       refine⟨(a,c)::dP,by simp[e1],⟨by simp only[aj];exact⟨hc,_,rfl,hu⟩,e2⟩,fun i q hq=> ?_⟩
       cases i with
       | zero=>
         simp at hq;subst hq
         have:=(hr 0 _ rfl).2
         exact⟨by simpa using this 0 a (by simp[Value.cells]),by simpa using this 1 c (by simp[Value.cells])⟩
       | succ i=>
         have:=e3 i q (by simpa using hq)
         rwa [show o+2+i*2=o+(i+1)*2 by omega] at this
theorem As {  e n:Int}: ∀ {es:List V} {vs:List Value} {b o k:Nat} {xs:List (List V)},ah X μ es vs→es.all V.cw=true→vW e n k es=some xs→cH μ.w b o 4 vs→
   ∃rows:List HH,rows.length=es.length∧eR X μ xs (gE e n k (rows.map (·.dP)))∧ ∀ (i:Nat) R,rows[i]? =some R→
     (μ.w.cell? ⟨b,o+i*4,none⟩=some (.int .i64 R.id)∧μ.w.cell? ⟨b,o+i*4+1,none⟩=some (.slice R.a R.dP.length R.cap)∧μ.w.cell? ⟨b,o+i*4+2,none⟩=some (.int .i64 R.l)∧μ.w.cell? ⟨b,o+i*4+3,none⟩=some (.int .i64 R.r))∧
     (R.dP≠[]→ ∃b2 o2,R.a=some ⟨b2,o2,none⟩∧(b2<μ.w.heap.size∧ ¬μ.own b2)∧ ∀ (i:Nat) p,R.dP[i]? =some p→μ.w.cell? ⟨b2,o2+i*2,none⟩=some p.1∧μ.w.cell? ⟨b2,o2+i*2+1,none⟩=some p.2)∧R.dP.length< 4611686018427387904
 | [],[],_,_,k,xs,_,_,hx,_=>by
   simp only[vW,Option.some.injEq] at hx
   subst hx
   exact⟨[],rfl,by simp[gE,eR],fun i R h=>by simp at h⟩
 | [],_::_,_,_,_,_,h,_,_,_=>by simp[ah] at h
 | _::_,[],_,_,_,_,h,_,_,_=>by simp[ah] at h
 | y::es,v::vs,b,o,k,xs,h,hl,hx,hr=>by
   simp only[ah] at h
   simp only[List.all_cons,Bool.and_eq_true] at hl
   unfold vW at hx
   split at hx
   · simp at*
   · rename_i k' z1 ps z2 z3 kG heq
     injection heq with hy he
     subst hy he
     split at hx
     case isFalse=>simp at hx
     case isTrue hb=>
      obtain⟨EK,oU,rfl⟩:=Option.map_eq_some_iff.1 hx
      obtain⟨rows,r1,r2,r3⟩:=As h.2 hl.2 oU (sG hr)
      have hv:=h.1
      simp only[aj] at hv
      obtain⟨hc,us,rfl,hu⟩:=hv
      obtain⟨us⟩:=us
      match us,hu with
      | [u0,u1,u2,u3],hu=>
        simp only[ah,aj,and_true] at hu
        obtain⟨rfl,⟨jS,wx,a,cap,YM,rfl,cP,nn,R0⟩,rfl,rfl⟩:=hu
        have im:=(hr 0 _ rfl).2
        have k0:=im 0 (.int .i64 z1) (by simp[Value.cells])
        have k1:=im 1 (.slice a ps.length cap) (by simp[Value.cells])
        have k2:=im 2 (.int .i64 z2) (by simp[Value.cells])
        have k3:=im 3 (.int .i64 z3) (by simp[Value.cells])
        have zy: ∃dP:List (Value×Value),dP.length=ps.length∧tB X μ ps dP∧(dP≠[]→ ∃b2 o2,a=some ⟨b2,o2,none⟩∧(b2<μ.w.heap.size∧ ¬μ.own b2)∧ ∀ (i:Nat) p,dP[i]? =some p→μ.w.cell? ⟨b2,o2+i*2,none⟩=some p.1∧μ.w.cell? ⟨b2,o2+i*2+1,none⟩=some p.2):=by
           rcases R0 with rfl| ⟨b2,o2,rfl,ef,bJ,dn⟩
           · exact⟨[],rfl,trivial,fun h=>absurd rfl h⟩
           · obtain⟨dP,e1,e2,e3⟩:=D3 nn hb.2 dn
             exact⟨dP,e1,e2,fun _=> ⟨b2,o2,rfl,⟨bJ,fun h=>ef (.inl h)⟩,e3⟩⟩
        obtain⟨dP,e1,e2,e3⟩:=zy
        refine⟨⟨z1,a,cap,z2,z3,dP⟩::rows,by simp[r1],?_,fun i R hR=> ?_⟩
        ·  simp only[List.map_cons,gE]
           exact eR.append (xB _ _ 0 e2) r2
        ·  cases i with
           | zero=>
             simp at hR;subst hR
             exact⟨⟨by simpa using k0,by rw[e1];simpa using k1,by simpa using k2,by simpa using k3⟩,e3,by show dP.length<_;rw[e1];exact hb.1⟩
           | succ i=>
             have:=r3 i R (by simpa using hR)
             rwa [show o+4+i*4=o+(i+1)*4 by omega] at this
   · simp at hx
theorem zC (args:Array Value) (w:World): (callFunc 103 args).run Tryz.prog w= .ok (.enter 103 args) w:=by
 obtain⟨c,hc⟩: ∃c,Tryz.f103.body=some c:=⟨_,rfl⟩
 have hn:Tryz.f103.name≠ "runtime.NumGoroutine" :=by decide
 simp[callFunc,Sem.run_bind,program,Sem.run,Tryz.func103,hc,hn]
theorem xC (    fn:FuncId→Option Nat) (tn:TypeId→Option Nat) (g:Nat) (hg:fn 103=some g):oJ ⟨Tryz.prog,fn,tn⟩ g Cu:=by
 refine⟨103,hg,fun caps xs po B K μ lb yo ho=> ?_⟩
 refine⟨zC,?_⟩
 unfold Cu at po
 split at po
 · rename_i es y1 y2 y3 e n cs
   split at po
   case isFalse=>simp at po
   case isTrue hb=>
    obtain⟨lb⟩:=lb
    match lb,yo with
    | [vm,vc],yo=>
      simp only[ah,aj,and_true] at yo
      obtain⟨⟨_,Li,bm,om,szm,xm,rfl,WM,R1,⟨_,um,rfl,UF⟩,Ro⟩,⟨_,_,bc,oc,szc,xc,rfl,WN,Mc,⟨_,uc,rfl,UG⟩,Yx⟩⟩:=yo
      obtain⟨um⟩:=um
      obtain⟨uc⟩:=uc
      match um,UF,uc,UG with
      |   [s0,s1,s2,s3],UF,c0::c1::Yy,UG=>
         simp only[ah,aj,and_true] at UF UG
         obtain⟨⟨jS,wx,a,cap,vs,rfl,cP,nn,R0⟩,_⟩:=UF
         obtain⟨rfl,rfl,_⟩:=UG
         have m0:=(Ro 0 _ rfl).2 0 _ (show (Value.agg _).cells[0]? =some (.slice a es.length cap) by simp[Value.cells])
         have q0:=(Yx 0 _ rfl).2 0 _ (show (Value.agg _).cells[0]? =some (.int .i64 e) by simp[Value.cells])
         have q1:=(Yx 0 _ rfl).2 1 _ (show (Value.agg _).cells[1]? =some (.int .i64 n) by simp[Value.cells])
         obtain⟨b,off,EH,Gi,dn⟩: ∃b off,(es≠[]→a=some ⟨b,off,none⟩)∧(es≠[]→b<μ.w.heap.size∧ ¬μ.own b)∧cH μ.w b off 4 vs:=by
            rcases R0 with rfl| ⟨b,off,rfl,ef,bJ,dn⟩
            · refine⟨0,0,fun h=>absurd rfl h,fun h=>absurd rfl h,?_⟩
              have Ur:vs=[]:=by cases vs with
               | nil=>rfl
               | cons v vs=>simp[ah] at nn
              subst Ur
              intro i v h;simp at h
            · exact⟨b,off,fun _=>rfl,fun _=> ⟨bJ,fun h=>ef (.inl h)⟩,dn⟩
         obtain⟨rows,r1,r2,r3⟩:=As nn wx po dn
         refine⟨gE e n 0 (rows.map (·.dP)),r2.length,fun i x v hx hv=>r2.get hx hv,fun l J Jx W0 jQ hJ WI hY h0=> ?_⟩
         have pz: ∀ (a:Addr) v,a.block<μ.w.heap.size→μ.w.cell? a=some v→W0.cell? a=some v:=fun a v h1 h2=>by rw[←h2];exact World.cell?_of_block (jQ.block a.block h1)
         have cB:rows≠[]→es≠[]:=fun h he=>h (by subst he;simpa using r1)
         have key:=D1 l bm (om+0) bc (oc+0) b off cap a e n rows (by rw[r1];exact hb.1) (fun R hR=>by
              obtain⟨i,hi⟩:=List.getElem?_of_mem hR
              exact(r3 i R hi).2.2) hb.2.1 hb.2.2 (fun b=>b<μ.w.heap.size∧ ¬μ.own b) J Jx (fun k F A B h1 h2=>hJ.grow k F A B h1 h2) (fun k F F' A h1 h2=>hJ.less k F F' A h1 h2)
            (gE e n 0 (rows.map (·.dP))) rfl (fun k F W1 v hv WL=>sC (hY k F W1 v hv WL) (fun ex W' h=>h.imp (fun h=> ⟨h.1,h.2.1,fun b hb=>hb.elim (fun hb=>h.2.2.1 b hb.1 hb.2) (fun hb=>h.2.2.2 b hb)⟩) id))
            W0 ⟨R1,fun h=>WM (.inl h)⟩ ⟨Mc,fun h=>WN (.inl h)⟩ (fun h=>Gi (cB h)) (fun h=>EH (cB h)) (by rw[r1];exact pz _ _ R1 (by simpa using m0)) (pz _ _ Mc (by simpa using q0)) (pz _ _ Mc (by simpa using q1))
            (fun k R hR=>by
              have bJ:b<μ.w.heap.size:=(Gi (cB (by intro h;rw[h] at hR;simp at hR))).1
              obtain⟨⟨w0,w1,w2,w3⟩,_⟩:=r3 k R hR
              exact⟨pz _ _ bJ w0,pz _ _ bJ w1,pz _ _ bJ w2,pz _ _ bJ w3⟩)
            (fun k R hR hp=>by
              obtain⟨b2,o2,z1,z2,z3⟩:=(r3 k R hR).2.1 hp
              exact⟨b2,o2,z1,z2,fun i p h=> ⟨pz _ _ z2.1 (z3 i p h).1,pz _ _ z2.1 (z3 i p h).2⟩⟩) h0
         exact callsIn_wide.2 (callsIn_wide.1 key)
 · simp at po
#print axioms xC
end Go.Proofs
set_option maxRecDepth 100000
namespace Go.AM
open Go.Proofs
def At:List Nat:=[0,1,2,518,519,520,521,522,79,523,524,525,526,89,527,528,10,529,530,531,532,165,533,77,92,93,94,95,534,28,29,30,31,32,535,536,537,538,539,540,144,541,125,126,219,37,27,542,161,127,543,544,545,546,83,84,85,86,87,130,131,547,548,549,550,179,551,181,182,183,184,552,553,554,555,556,41,216,557,558,40,22,23,113,114,115,116,117,118,119,120,121,122,559,560,561,562,563,187,220,189,221,222,564,565,566,186,33,52,567,568,569,570,571,572,573,574,50,51,36,162,163,164,575,576,577,578,579,580,581,224,227,251,252,253,254,255,175,223,429,430,582,54,55,583,584,198,199,200,201,202,282,271,259,260,276,277,278,585,235,236,237,238,283,284,285,280,287,288,289,290,291,292,293,294,295,296,297,270,298,299,300,301,302,303,304,305,59,60,61,62,63,64,65,66,67,68,69,70,71,72,73,74]
def Au:List (Nat×Nat):=[(9,9)]
noncomputable def X0:TrEnv:=⟨Tryz.prog,fun F=>At[F]?,fun t=> (Au.find? (·.1==t)).map (·.2)⟩
theorem R2:az X0 ⟨[],[],[],[(6,[4,5,8,7]),(9,[4,5,8,7]),(14,[0,2,0,0])],[],[(7,25,129)],[],[],[],[],none,[],0⟩ Tryz.f5=some HZ:=by kernel_rfl
theorem R3:az X0 ⟨[],[],[],[(1,[4,5,8,7]),(3,[4,5,8,7])],[],[(5,55,97)],[],[],[],[],none,[],0⟩ Tryz.f6=some H2:=by kernel_rfl
theorem R4:az X0 ⟨[],[],[],[(2,[4,5,8,7])],[],[],[],[],[],[],none,[],0⟩ Tryz.f7=some H4:=by kernel_rfl
theorem R5:az X0 ⟨[],[],[(28,65)],[(5,[0,2,0,0])],[(2,49,2),(3,65,2)],[(3,28,65)],[],[],[],[],none,[],0⟩ Tryz.f9=some H6:=by kernel_rfl
theorem R6:az X0 ⟨[],[31,34,37,40],[],[(6,[4,5,8,7]),(20,[4,5,8,7]),(41,[4,5,8,7]),(11,[4,5,8,7])],[],[],[],[],[],[],none,[],0⟩ Tryz.f10=some H8:=by kernel_rfl
theorem R7:az X0 ⟨[],[],[],[],[],[],[],[],[],[],none,[],0⟩ Tryz.f12=some Ia:=by kernel_rfl
theorem R8:az X0 ⟨[],[],[],[],[],[],[],[],[],[],none,[],0⟩ Tryz.f14=some Ic:=by kernel_rfl
theorem R9:az X0 ⟨[],[],[(63,97),(76,161)],[(7,[0,2,0,0])],[(4,81,5),(5,97,5),(9,161,5)],[(5,63,97),(9,76,161)],[],[],[],[],none,[],0⟩ Tryz.f17=some M5:=by kernel_rfl
theorem Sa:az X0 ⟨[],[],[],[(7,[0,2,0,0])],[],[],[],[],[],[],none,[],0⟩ Tryz.f19=some Ih:=by kernel_rfl
theorem Sb:az X0 ⟨[],[],[],[(0,[4,5,8,7]),(1,[4,5,8,7]),(4,[0,2,0,0]),(7,[0,2,0,0]),(10,[0,2,0,0])],[],[],[],[],[],[],none,[],0⟩ Tryz.f20=some M6:=by kernel_rfl
theorem Sc:az X0 ⟨[],[],[],[],[],[],[],[],[],[],none,[],0⟩ Tryz.f21=some f165:=by kernel_rfl
theorem Sd:az X0 ⟨[],[],[(24,65)],[],[(2,49,2),(3,65,2)],[(3,24,65)],[],[],[],[],none,[],0⟩ Tryz.f22=some M7:=by kernel_rfl
theorem WO:az X0 ⟨[],[13,67,72],[],[(2,[4,5,8,7]),(3,[4,5,8,7]),(20,[1,0])],[],[],[],[],[],[],none,[],0⟩ Tryz.f23=some f77:=by kernel_rfl
theorem WQ:az X0 ⟨[],[],[],[],[],[],[],[],[],[],none,[],0⟩ Tryz.f25=some f93:=by kernel_rfl
theorem Se:az X0 ⟨[],[],[],[],[],[],[],[],[],[],none,[],0⟩ Tryz.f28=some Io:=by kernel_rfl
theorem Sg:az X0 ⟨[],[12],[],[(4,[2])],[],[],[],[],[],[],none,[],0⟩ Tryz.f34=some Iq:=by kernel_rfl
theorem Si:az X0 ⟨[],[],[],[],[],[],[],[],[],[],none,[],0⟩ Tryz.f39=some Is:=by kernel_rfl
theorem Sj:az X0 ⟨[],[],[],[],[],[],[],[],[],[],none,[],0⟩ Tryz.f40=some f144:=by kernel_rfl
theorem Sk:az X0 ⟨[],[],[],[],[],[],[],[],[],[],none,[],0⟩ Tryz.f41=some Iv:=by kernel_rfl
theorem Sl:az X0 ⟨[],[],[],[],[],[],[],[],[],[],none,[],0⟩ Tryz.f44=some Ix:=by kernel_rfl
theorem WR:az X0 ⟨[],[],[],[],[],[],[],[],[],[],none,[],0⟩ Tryz.f45=some f37:=by kernel_rfl
theorem WS:az X0 ⟨[],[],[],[],[],[],[],[],[],[],none,[],0⟩ Tryz.f46=some f27:=by kernel_rfl
theorem Sn:az X0 ⟨[],[],[],[],[],[],[],[],[],[],none,[],0⟩ Tryz.f48=some f161:=by kernel_rfl
theorem So:az X0 ⟨[],[],[],[],[],[],[],[],[],[],none,[],0⟩ Tryz.f50=some IC:=by kernel_rfl
theorem Sp:az X0 ⟨[some 5,none],[],[],[],[],[],[],[],[],[],none,[],0⟩ Tryz.f51=some Nc:=by kernel_rfl
theorem Sq:az X0 ⟨[],[],[],[],[],[],[],[],[],[],none,[],0⟩ Tryz.f52=some Nf:=by kernel_rfl
theorem WT:az X0 ⟨[],[143,180,204,207],[],[(2,[4]),(3,[5]),(4,[1]),(5,[1]),(6,[1]),(40,[1,0]),(105,[1,0])],[(14,241,4)],[(14,143,241),(14,180,241),(14,204,241)],[],[],[],[],none,[],0⟩ Tryz.f54=some f83:=by kernel_rfl
theorem WU:az X0 ⟨[],[],[],[(4,[1])],[],[],[],[],[],[],none,[],0⟩ Tryz.f55=some f84:=by kernel_rfl
theorem WV:az X0 ⟨[some 2,none],[],[],[],[],[],[],[],[],[],none,[],0⟩ Tryz.f56=some f85:=by kernel_rfl
theorem WW:az X0 ⟨[],[31,50,61,69],[],[(2,[8]),(9,[1,0])],[(4,81,8)],[(4,31,81),(4,50,81),(4,61,81),(4,69,81)],[],[],[],[],none,[],0⟩ Tryz.f57=some f86:=by kernel_rfl
theorem WX:az X0 ⟨[],[],[(86,113)],[(14,[1,0])],[(4,81,7),(6,113,7)],[(6,86,113)],[],[],[],[],none,[],0⟩ Tryz.f58=some f87:=by kernel_rfl
theorem Sr:az X0 ⟨[],[],[(28,67)],[(2,[0,2,0,0]),(30,[0,2,0,0])],[],[],[],[],[],[],none,[],0⟩ Tryz.f60=some f131:=by kernel_rfl
theorem Ss:az X0 ⟨[some 2,none,none],[],[],[(6,[2])],[],[],[],[],[],[],none,[],0⟩ Tryz.f61=some IP:=by kernel_rfl
theorem Su:az X0 ⟨[],[],[],[],[],[],[],[],[],[],none,[],0⟩ Tryz.f64=some IS:=by kernel_rfl
theorem Sv:az X0 ⟨[],[],[],[],[],[],[],[],[],[],none,[],0⟩ Tryz.f65=some f179:=by kernel_rfl
theorem Sw:az X0 ⟨[],[],[],[],[],[],[],[],[],[],none,[],0⟩ Tryz.f66=some IV:=by kernel_rfl
theorem Sx:az X0 ⟨[],[],[],[],[],[],[],[],[],[],none,[],0⟩ Tryz.f67=some f181:=by kernel_rfl
theorem Sy:az X0 ⟨[],[],[],[],[],[],[],[],[],[2],none,[],0⟩ Tryz.f68=some f182:=by kernel_rfl
theorem Sz:az X0 ⟨[],[],[],[],[],[],[],[],[],[],none,[],0⟩ Tryz.f69=some f183:=by kernel_rfl
theorem SA:az X0 ⟨[],[],[],[],[],[],[],[],[],[],none,[],0⟩ Tryz.f70=some f184:=by kernel_rfl
theorem SB:az X0 ⟨[],[],[],[],[],[],[],[],[],[4],none,[],0⟩ Tryz.f71=some I1:=by kernel_rfl
theorem SC:az X0 ⟨[],[],[],[],[],[],[],[],[],[],none,[],0⟩ Tryz.f72=some Fo:=by kernel_rfl
theorem SD:az X0 ⟨[],[],[],[],[],[],[],[],[],[],none,[],0⟩ Tryz.f73=some I4:=by kernel_rfl
theorem SE:az X0 ⟨[],[],[],[],[],[],[],[],[],[],none,[],0⟩ Tryz.f74=some I6:=by kernel_rfl
theorem SF:az X0 ⟨[],[],[],[],[],[],[],[],[],[],none,[],0⟩ Tryz.f75=some I8:=by kernel_rfl
theorem WY:az X0 ⟨[],[],[],[],[],[],[],[],[],[],none,[],0⟩ Tryz.f76=some f41:=by kernel_rfl
theorem SG:az X0 ⟨[],[],[],[],[],[],[],[],[],[],none,[],0⟩ Tryz.f77=some Ja:=by kernel_rfl
theorem SH:az X0 ⟨[],[],[],[],[],[],[],[],[],[],none,[],0⟩ Tryz.f78=some Jc:=by kernel_rfl
theorem SI:az X0 ⟨[some 5,none,none,none,none],[],[],[],[],[],[],[],[],[],none,[],0⟩ Tryz.f79=some Nl:=by kernel_rfl
theorem WZ:az X0 ⟨[],[],[],[],[],[],[],[],[],[],none,[],0⟩ Tryz.f80=some f40:=by kernel_rfl
theorem W2:az X0 ⟨[],[],[],[],[],[],[],[],[],[],none,[],0⟩ Tryz.f81=some f22:=by kernel_rfl
theorem W4:az X0 ⟨[],[],[],[],[],[],[],[],[],[],none,[],0⟩ Tryz.f82=some f23:=by kernel_rfl
theorem SJ:az X0 ⟨[some 4,none,none,none,some 2],[],[(31,17)],[(22,[0,2,0,0]),(11,[0,2,0,0])],[(10,177,4)],[],[],[],[],[],none,[],0⟩ Tryz.f83=some f113:=by kernel_rfl
theorem SK:az X0 ⟨[none,none,some 2],[],[(71,129),(75,129)],[(6,[2])],[],[(7,14,129),(7,71,129)],[],[],[],[],none,[],0⟩ Tryz.f84=some f114:=by kernel_rfl
theorem SL:az X0 ⟨[],[],[],[],[],[],[],[],[],[],none,[],0⟩ Tryz.f85=some f115:=by kernel_rfl
theorem SM:az X0 ⟨[],[],[],[],[],[],[],[],[],[],none,[],0⟩ Tryz.f86=some f116:=by kernel_rfl
theorem SN:az X0 ⟨[some 4,none,none,some 2],[95],[],[(8,[4])],[],[(10,50,177),(10,90,177)],[],[],[],[],none,[],0⟩ Tryz.f87=some f117:=by kernel_rfl
theorem SO:az X0 ⟨[],[],[(52,97)],[(3,[1])],[(2,49,5),(5,97,5)],[(3,25,65),(3,38,65),(5,52,97)],[],[],[],[],none,[],0⟩ Tryz.f88=some f118:=by kernel_rfl
theorem SP:az X0 ⟨[some 8,none,none,none,some 2],[],[(84,195),(90,195),(122,17)],[(10,[8])],[],[],[],[],[],[],none,[],0⟩ Tryz.f89=some f119:=by kernel_rfl
theorem SQ:az X0 ⟨[],[],[],[],[],[],[],[],[],[],none,[],0⟩ Tryz.f90=some f120:=by kernel_rfl
theorem SR:az X0 ⟨[],[],[],[],[],[],[],[],[],[],none,[],0⟩ Tryz.f91=some f121:=by kernel_rfl
theorem SU:az X0 ⟨[],[],[],[],[],[],[],[],[],[],none,[],0⟩ Tryz.f92=some f122:=by kernel_rfl
theorem SV:az X0 ⟨[],[],[],[],[],[],[],[],[],[],none,[],0⟩ Tryz.f98=some f187:=by kernel_rfl
theorem SW:az X0 ⟨[],[],[],[],[],[],[],[],[],[],none,[],0⟩ Tryz.f99=some Jr:=by kernel_rfl
theorem SX:az X0 ⟨[],[],[],[],[],[],[],[],[],[],none,[],0⟩ Tryz.f100=some f189:=by kernel_rfl
theorem SY:az X0 ⟨[],[],[],[],[],[(11,64,193),(12,67,209)],[],[],[],[],none,[],0⟩ Tryz.f102=some Ju:=by kernel_rfl
theorem SZ:az X0 ⟨[],[],[],[],[],[(9,43,161)],[],[],[],[],none,[],0⟩ Tryz.f104=some Jw:=by kernel_rfl
theorem S4:az X0 ⟨[],[],[],[],[],[],[],[],[],[],none,[],0⟩ Tryz.f105=some Jz:=by kernel_rfl
theorem S5:az X0 ⟨[],[],[],[],[],[],[],[],[],[],none,[],0⟩ Tryz.f106=some f186:=by kernel_rfl
theorem W5:az X0 ⟨[],[],[],[],[],[],[],[],[],[],none,[],0⟩ Tryz.f107=some f33:=by kernel_rfl
theorem S6:az X0 ⟨[some 5,none,none,none],[],[],[],[],[],[],[],[],[],none,[],0⟩ Tryz.f109=some Nq:=by kernel_rfl
theorem W6:az X0 ⟨[],[],[],[],[],[],[],[],[],[],none,[],0⟩ Tryz.f117=some f50:=by kernel_rfl
theorem W7:az X0 ⟨[],[],[],[],[],[],[],[],[],[],none,[],0⟩ Tryz.f118=some f51:=by kernel_rfl
theorem W8:az X0 ⟨[],[],[],[],[],[],[],[],[],[],none,[],0⟩ Tryz.f119=some f36:=by kernel_rfl
theorem S7:az X0 ⟨[],[],[(43,113)],[(4,[1])],[],[(6,39,113)],[],[],[],[],none,[],0⟩ Tryz.f120=some f162:=by kernel_rfl
theorem S8:az X0 ⟨[],[],[],[],[],[],[],[],[],[],none,[],0⟩ Tryz.f121=some f163:=by kernel_rfl
theorem S9:az X0 ⟨[],[],[(51,99),(56,65)],[],[(2,49,4),(3,65,4)],[(3,56,65)],[],[],[],[],none,[],0⟩ Tryz.f122=some f164:=by kernel_rfl
theorem Ta:az X0 ⟨[],[],[],[],[],[],[],[],[],[],none,[],0⟩ Tryz.f130=some JH:=by kernel_rfl
theorem Tb:az X0 ⟨[],[],[],[],[],[],[],[],[],[],none,[],0⟩ Tryz.f131=some JJ:=by kernel_rfl
theorem Tc:az X0 ⟨[],[],[],[],[],[],[],[],[],[],none,[],0⟩ Tryz.f132=some JL:=by kernel_rfl
theorem Td:az X0 ⟨[],[],[],[],[],[],[],[],[],[],none,[],0⟩ Tryz.f133=some JN:=by kernel_rfl
theorem Te:az X0 ⟨[some 2,none],[],[],[],[],[],[],[],[],[],none,[],0⟩ Tryz.f134=some JP:=by kernel_rfl
theorem Tf:az X0 ⟨[],[],[],[],[],[],[],[],[],[],none,[],0⟩ Tryz.f135=some JR:=by kernel_rfl
theorem Th:az X0 ⟨[],[],[],[],[],[],[],[],[],[],none,[],0⟩ Tryz.f136=some JT:=by kernel_rfl
theorem Ti:az X0 ⟨[],[],[],[],[],[],[],[],[],[],none,[],0⟩ Tryz.f137=some f175:=by kernel_rfl
theorem Tj:az X0 ⟨[],[],[],[],[],[],[],[],[],[],none,[],0⟩ Tryz.f138=some JW:=by kernel_rfl
theorem Tk:az X0 ⟨[],[],[],[],[],[],[],[],[],[],none,[],0⟩ Tryz.f139=some JY:=by kernel_rfl
theorem Tl:az X0 ⟨[],[],[],[],[],[],[],[],[],[],none,[],0⟩ Tryz.f140=some J0:=by kernel_rfl
theorem Tm:az X0 ⟨[],[],[],[],[],[],[],[],[],[],none,[],0⟩ Tryz.f146=some f198:=by kernel_rfl
theorem Tn:az X0 ⟨[],[],[],[],[],[],[],[],[],[],none,[],0⟩ Tryz.f147=some f199:=by kernel_rfl
theorem To:az X0 ⟨[],[],[],[],[],[],[],[],[],[],none,[],0⟩ Tryz.f148=some f200:=by kernel_rfl
theorem Tp:az X0 ⟨[],[],[],[],[],[],[],[],[],[],none,[],0⟩ Tryz.f149=some f201:=by kernel_rfl
theorem Tq:az X0 ⟨[],[],[],[],[],[],[],[],[],[],none,[],0⟩ Tryz.f150=some f202:=by kernel_rfl
theorem Tr:az X0 ⟨[],[],[],[],[],[],[],[],[],[],none,[],0⟩ Tryz.f151=some J7:=by kernel_rfl
theorem Ts:az X0 ⟨[],[],[],[],[],[],[],[],[],[],none,[],0⟩ Tryz.f152=some J9:=by kernel_rfl
theorem Tt:az X0 ⟨[],[],[],[],[],[],[],[],[],[],none,[],0⟩ Tryz.f153=some Kb:=by kernel_rfl
theorem Tu:az X0 ⟨[],[],[],[],[],[],[],[],[],[],none,[],0⟩ Tryz.f154=some Kd:=by kernel_rfl
theorem Tv:az X0 ⟨[],[],[],[],[],[],[],[],[],[],none,[],0⟩ Tryz.f155=some Kf:=by kernel_rfl
theorem Tw:az X0 ⟨[],[],[],[],[],[],[],[],[],[],none,[],0⟩ Tryz.f156=some Kh:=by kernel_rfl
theorem Tx:az X0 ⟨[some 2,none,none,none,none],[],[],[],[],[],[],[],[],[],none,[],0⟩ Tryz.f157=some Kj:=by kernel_rfl
theorem Ty:az X0 ⟨[],[],[],[],[],[],[],[],[],[],none,[],0⟩ Tryz.f159=some Kl:=by kernel_rfl
theorem Tz:az X0 ⟨[],[],[],[],[],[],[],[],[],[],none,[],0⟩ Tryz.f160=some Kn:=by kernel_rfl
theorem TA:az X0 ⟨[],[],[],[],[],[],[],[],[],[],none,[],0⟩ Tryz.f161=some Kq:=by kernel_rfl
theorem TB:az X0 ⟨[],[],[],[],[],[],[],[],[],[],none,[],0⟩ Tryz.f162=some Ks:=by kernel_rfl
theorem TC:az X0 ⟨[],[],[],[],[],[],[],[],[],[],none,[],0⟩ Tryz.f163=some Ku:=by kernel_rfl
theorem TD:az X0 ⟨[],[],[],[],[],[],[],[],[],[],none,[],0⟩ Tryz.f164=some Kw:=by kernel_rfl
theorem TE:az X0 ⟨[],[],[],[],[],[],[],[],[],[],none,[],0⟩ Tryz.f165=some Ky:=by kernel_rfl
theorem TF:az X0 ⟨[],[],[],[],[],[],[],[],[],[],none,[],0⟩ Tryz.f166=some KA:=by kernel_rfl
theorem TG:az X0 ⟨[],[],[],[],[],[],[],[],[],[],none,[],0⟩ Tryz.f167=some KC:=by kernel_rfl
theorem TH:az X0 ⟨[],[],[],[],[],[],[],[],[],[],none,[],0⟩ Tryz.f168=some KE:=by kernel_rfl
theorem TI:az X0 ⟨[],[],[],[],[],[],[],[],[],[],none,[],0⟩ Tryz.f169=some KG:=by kernel_rfl
theorem TJ:az X0 ⟨[some 2,none,none,none],[],[],[],[],[],[],[],[],[],none,[],0⟩ Tryz.f170=some KI:=by kernel_rfl
theorem TK:az X0 ⟨[],[],[],[],[],[],[],[],[],[],none,[],0⟩ Tryz.f178=some KL:=by kernel_rfl
theorem TL:az X0 ⟨[],[],[],[],[],[],[],[],[],[],none,[],0⟩ Tryz.f179=some KN:=by kernel_rfl
theorem TM:az X0 ⟨[],[],[],[],[],[],[],[],[],[],none,[],0⟩ Tryz.f180=some KP:=by kernel_rfl
theorem TN:az X0 ⟨[],[],[],[],[],[],[],[],[],[],none,[],0⟩ Tryz.f181=some KR:=by kernel_rfl
theorem TO:az X0 ⟨[],[],[],[],[],[],[],[],[],[],none,[],0⟩ Tryz.f185=some KT:=by kernel_rfl
theorem W9:fJ X0 Tryz.f29 4 2872193639704:=⟨⟨_,_,_,_,_,_,_,_,rfl,by kernel_rfl,by kernel_rfl,⟨.agg [.int .i64 0,.nils,.int .i64 0,.int .i64 0],by kernel_rfl,by decide,by kernel_rfl⟩,⟨_,_,_,51,rfl,by kernel_rfl,rfl,rfl,rfl,by kernel_rfl⟩⟩,rfl,by decide⟩
theorem Xa:fJ X0 Tryz.f30 5 2469078742875:=⟨⟨_,_,_,_,_,_,_,_,rfl,by kernel_rfl,by kernel_rfl,⟨.agg [.int .i64 0,.str [],.str [],.int .i64 0,.int .i64 0],by kernel_rfl,by decide,by kernel_rfl⟩,⟨_,_,_,54,rfl,by kernel_rfl,rfl,rfl,rfl,by kernel_rfl⟩⟩,rfl,by decide⟩
theorem Xb:fJ X0 Tryz.f31 8 1450901941607:=⟨⟨_,_,_,_,_,_,_,_,rfl,by kernel_rfl,by kernel_rfl,⟨.agg [.int .i64 0,.nils,.int .i64 0,.str [],.str [],.bool false,.int .i64 0,.int .i64 0],by kernel_rfl,by decide,by kernel_rfl⟩,⟨_,_,_,68,rfl,by kernel_rfl,rfl,rfl,rfl,by kernel_rfl⟩⟩,rfl,by decide⟩
theorem Xc:fJ X0 Tryz.f32 7 1927910799188:=⟨⟨_,_,_,_,_,_,_,_,rfl,by kernel_rfl,by kernel_rfl,⟨.agg [.int .i64 0,.int .i64 0,.int .i64 0,.str [],.str [],.int .i64 0,.int .i64 0],by kernel_rfl,by decide,by kernel_rfl⟩,⟨_,_,_,73,rfl,by kernel_rfl,rfl,rfl,rfl,by kernel_rfl⟩⟩,rfl,by decide⟩
theorem Xd:fJ X0 Tryz.f33 2 8278675785407:=⟨⟨_,_,_,_,_,_,_,_,rfl,by kernel_rfl,by kernel_rfl,⟨.agg [.int .i64 0,.int .i64 0],by kernel_rfl,by decide,by kernel_rfl⟩,⟨_,_,_,70,rfl,by kernel_rfl,rfl,rfl,rfl,by kernel_rfl⟩⟩,rfl,by decide⟩
theorem sx:fK At=true:=by kernel_rfl
theorem HK:fK (Au.map (·.2))=true:=by kernel_rfl
theorem Gx:iD X0 CJ:=⟨⟨5,Tryz.f5,_,_,rfl,Tryz.func5,by kernel_rfl,rfl,R2,by decide+kernel⟩,
 ⟨6,Tryz.f6,_,_,rfl,Tryz.func6,by kernel_rfl,rfl,R3,by decide+kernel⟩,
 ⟨7,Tryz.f7,_,_,rfl,Tryz.func7,by kernel_rfl,rfl,R4,by decide+kernel⟩,
 ⟨9,Tryz.f9,_,_,rfl,Tryz.func9,by kernel_rfl,rfl,R5,by decide+kernel⟩,
 ⟨10,Tryz.f10,_,_,rfl,Tryz.func10,by kernel_rfl,rfl,R6,by decide+kernel⟩,
 ⟨12,Tryz.f12,_,_,rfl,Tryz.func12,by kernel_rfl,rfl,R7,by decide+kernel⟩,
 ⟨14,Tryz.f14,_,_,rfl,Tryz.func14,by kernel_rfl,rfl,R8,by decide+kernel⟩,
 ⟨17,Tryz.f17,_,_,rfl,Tryz.func17,by kernel_rfl,rfl,R9,by decide+kernel⟩,
 ⟨19,Tryz.f19,_,_,rfl,Tryz.func19,by kernel_rfl,rfl,Sa,by decide+kernel⟩,
 ⟨20,Tryz.f20,_,_,rfl,Tryz.func20,by kernel_rfl,rfl,Sb,by decide+kernel⟩,
 ⟨21,Tryz.f21,_,_,rfl,Tryz.func21,by kernel_rfl,rfl,Sc,by decide+kernel⟩,
 ⟨22,Tryz.f22,_,_,rfl,Tryz.func22,by kernel_rfl,rfl,Sd,by decide+kernel⟩,
 ⟨23,Tryz.f23,_,_,rfl,Tryz.func23,by kernel_rfl,rfl,WO,by decide+kernel⟩,
 ⟨25,Tryz.f25,_,_,rfl,Tryz.func25,by kernel_rfl,rfl,WQ,by decide+kernel⟩,
 ⟨28,Tryz.f28,_,_,rfl,Tryz.func28,by kernel_rfl,rfl,Se,by decide+kernel⟩,
 ⟨34,Tryz.f34,_,_,rfl,Tryz.func34,by kernel_rfl,rfl,Sg,by decide+kernel⟩,
 ⟨39,Tryz.f39,_,_,rfl,Tryz.func39,by kernel_rfl,rfl,Si,by decide+kernel⟩,
 ⟨40,Tryz.f40,_,_,rfl,Tryz.func40,by kernel_rfl,rfl,Sj,by decide+kernel⟩,
 ⟨41,Tryz.f41,_,_,rfl,Tryz.func41,by kernel_rfl,rfl,Sk,by decide+kernel⟩,
 ⟨44,Tryz.f44,_,_,rfl,Tryz.func44,by kernel_rfl,rfl,Sl,by decide+kernel⟩,
 ⟨45,Tryz.f45,_,_,rfl,Tryz.func45,by kernel_rfl,rfl,WR,by decide+kernel⟩,
 ⟨46,Tryz.f46,_,_,rfl,Tryz.func46,by kernel_rfl,rfl,WS,by decide+kernel⟩,
 ⟨48,Tryz.f48,_,_,rfl,Tryz.func48,by kernel_rfl,rfl,Sn,by decide+kernel⟩,
 ⟨50,Tryz.f50,_,_,rfl,Tryz.func50,by kernel_rfl,rfl,So,by decide+kernel⟩,
 ⟨51,Tryz.f51,_,_,rfl,Tryz.func51,by kernel_rfl,rfl,Sp,by decide+kernel⟩,
 ⟨52,Tryz.f52,_,_,rfl,Tryz.func52,by kernel_rfl,rfl,Sq,by decide+kernel⟩,
 ⟨54,Tryz.f54,_,_,rfl,Tryz.func54,by kernel_rfl,rfl,WT,by decide+kernel⟩,
 ⟨55,Tryz.f55,_,_,rfl,Tryz.func55,by kernel_rfl,rfl,WU,by decide+kernel⟩,
 ⟨56,Tryz.f56,_,_,rfl,Tryz.func56,by kernel_rfl,rfl,WV,by decide+kernel⟩,
 ⟨57,Tryz.f57,_,_,rfl,Tryz.func57,by kernel_rfl,rfl,WW,by decide+kernel⟩,
 ⟨58,Tryz.f58,_,_,rfl,Tryz.func58,by kernel_rfl,rfl,WX,by decide+kernel⟩,
 ⟨60,Tryz.f60,_,_,rfl,Tryz.func60,by kernel_rfl,rfl,Sr,by decide+kernel⟩,
 ⟨61,Tryz.f61,_,_,rfl,Tryz.func61,by kernel_rfl,rfl,Ss,by decide+kernel⟩,
 ⟨64,Tryz.f64,_,_,rfl,Tryz.func64,by kernel_rfl,rfl,Su,by decide+kernel⟩,
 ⟨65,Tryz.f65,_,_,rfl,Tryz.func65,by kernel_rfl,rfl,Sv,by decide+kernel⟩,
 ⟨66,Tryz.f66,_,_,rfl,Tryz.func66,by kernel_rfl,rfl,Sw,by decide+kernel⟩,
 ⟨67,Tryz.f67,_,_,rfl,Tryz.func67,by kernel_rfl,rfl,Sx,by decide+kernel⟩,
 ⟨68,Tryz.f68,_,_,rfl,Tryz.func68,by kernel_rfl,rfl,Sy,by decide+kernel⟩,
 ⟨69,Tryz.f69,_,_,rfl,Tryz.func69,by kernel_rfl,rfl,Sz,by decide+kernel⟩,
 ⟨70,Tryz.f70,_,_,rfl,Tryz.func70,by kernel_rfl,rfl,SA,by decide+kernel⟩,
 ⟨71,Tryz.f71,_,_,rfl,Tryz.func71,by kernel_rfl,rfl,SB,by decide+kernel⟩,
 ⟨72,Tryz.f72,_,_,rfl,Tryz.func72,by kernel_rfl,rfl,SC,by decide+kernel⟩,
 ⟨73,Tryz.f73,_,_,rfl,Tryz.func73,by kernel_rfl,rfl,SD,by decide+kernel⟩,
 ⟨74,Tryz.f74,_,_,rfl,Tryz.func74,by kernel_rfl,rfl,SE,by decide+kernel⟩,
 ⟨75,Tryz.f75,_,_,rfl,Tryz.func75,by kernel_rfl,rfl,SF,by decide+kernel⟩,
 ⟨76,Tryz.f76,_,_,rfl,Tryz.func76,by kernel_rfl,rfl,WY,by decide+kernel⟩,
 ⟨77,Tryz.f77,_,_,rfl,Tryz.func77,by kernel_rfl,rfl,SG,by decide+kernel⟩,
 ⟨78,Tryz.f78,_,_,rfl,Tryz.func78,by kernel_rfl,rfl,SH,by decide+kernel⟩,
 ⟨79,Tryz.f79,_,_,rfl,Tryz.func79,by kernel_rfl,rfl,SI,by decide+kernel⟩,
 ⟨80,Tryz.f80,_,_,rfl,Tryz.func80,by kernel_rfl,rfl,WZ,by decide+kernel⟩,
 ⟨81,Tryz.f81,_,_,rfl,Tryz.func81,by kernel_rfl,rfl,W2,by decide+kernel⟩,
 ⟨82,Tryz.f82,_,_,rfl,Tryz.func82,by kernel_rfl,rfl,W4,by decide+kernel⟩,
 ⟨83,Tryz.f83,_,_,rfl,Tryz.func83,by kernel_rfl,rfl,SJ,by decide+kernel⟩,
 ⟨84,Tryz.f84,_,_,rfl,Tryz.func84,by kernel_rfl,rfl,SK,by decide+kernel⟩,
 ⟨85,Tryz.f85,_,_,rfl,Tryz.func85,by kernel_rfl,rfl,SL,by decide+kernel⟩,
 ⟨86,Tryz.f86,_,_,rfl,Tryz.func86,by kernel_rfl,rfl,SM,by decide+kernel⟩,
 ⟨87,Tryz.f87,_,_,rfl,Tryz.func87,by kernel_rfl,rfl,SN,by decide+kernel⟩,
 ⟨88,Tryz.f88,_,_,rfl,Tryz.func88,by kernel_rfl,rfl,SO,by decide+kernel⟩,
 ⟨89,Tryz.f89,_,_,rfl,Tryz.func89,by kernel_rfl,rfl,SP,by decide+kernel⟩,
 ⟨90,Tryz.f90,_,_,rfl,Tryz.func90,by kernel_rfl,rfl,SQ,by decide+kernel⟩,
 ⟨91,Tryz.f91,_,_,rfl,Tryz.func91,by kernel_rfl,rfl,SR,by decide+kernel⟩,
 ⟨92,Tryz.f92,_,_,rfl,Tryz.func92,by kernel_rfl,rfl,SU,by decide+kernel⟩,
 ⟨98,Tryz.f98,_,_,rfl,Tryz.func98,by kernel_rfl,rfl,SV,by decide+kernel⟩,
 ⟨99,Tryz.f99,_,_,rfl,Tryz.func99,by kernel_rfl,rfl,SW,by decide+kernel⟩,
 ⟨100,Tryz.f100,_,_,rfl,Tryz.func100,by kernel_rfl,rfl,SX,by decide+kernel⟩,
 ⟨102,Tryz.f102,_,_,rfl,Tryz.func102,by kernel_rfl,rfl,SY,by decide+kernel⟩,
 ⟨104,Tryz.f104,_,_,rfl,Tryz.func104,by kernel_rfl,rfl,SZ,by decide+kernel⟩,
 ⟨105,Tryz.f105,_,_,rfl,Tryz.func105,by kernel_rfl,rfl,S4,by decide+kernel⟩,
 ⟨106,Tryz.f106,_,_,rfl,Tryz.func106,by kernel_rfl,rfl,S5,by decide+kernel⟩,
 ⟨107,Tryz.f107,_,_,rfl,Tryz.func107,by kernel_rfl,rfl,W5,by decide+kernel⟩,
 ⟨109,Tryz.f109,_,_,rfl,Tryz.func109,by kernel_rfl,rfl,S6,by decide+kernel⟩,
 ⟨117,Tryz.f117,_,_,rfl,Tryz.func117,by kernel_rfl,rfl,W6,by decide+kernel⟩,
 ⟨118,Tryz.f118,_,_,rfl,Tryz.func118,by kernel_rfl,rfl,W7,by decide+kernel⟩,
 ⟨119,Tryz.f119,_,_,rfl,Tryz.func119,by kernel_rfl,rfl,W8,by decide+kernel⟩,
 ⟨120,Tryz.f120,_,_,rfl,Tryz.func120,by kernel_rfl,rfl,S7,by decide+kernel⟩,
 ⟨121,Tryz.f121,_,_,rfl,Tryz.func121,by kernel_rfl,rfl,S8,by decide+kernel⟩,
 ⟨122,Tryz.f122,_,_,rfl,Tryz.func122,by kernel_rfl,rfl,S9,by decide+kernel⟩,
 ⟨130,Tryz.f130,_,_,rfl,Tryz.func130,by kernel_rfl,rfl,Ta,by decide+kernel⟩,
 ⟨131,Tryz.f131,_,_,rfl,Tryz.func131,by kernel_rfl,rfl,Tb,by decide+kernel⟩,
 ⟨132,Tryz.f132,_,_,rfl,Tryz.func132,by kernel_rfl,rfl,Tc,by decide+kernel⟩,
 ⟨133,Tryz.f133,_,_,rfl,Tryz.func133,by kernel_rfl,rfl,Td,by decide+kernel⟩,
 ⟨134,Tryz.f134,_,_,rfl,Tryz.func134,by kernel_rfl,rfl,Te,by decide+kernel⟩,
 ⟨135,Tryz.f135,_,_,rfl,Tryz.func135,by kernel_rfl,rfl,Tf,by decide+kernel⟩,
 ⟨136,Tryz.f136,_,_,rfl,Tryz.func136,by kernel_rfl,rfl,Th,by decide+kernel⟩,
 ⟨137,Tryz.f137,_,_,rfl,Tryz.func137,by kernel_rfl,rfl,Ti,by decide+kernel⟩,
 ⟨138,Tryz.f138,_,_,rfl,Tryz.func138,by kernel_rfl,rfl,Tj,by decide+kernel⟩,
 ⟨139,Tryz.f139,_,_,rfl,Tryz.func139,by kernel_rfl,rfl,Tk,by decide+kernel⟩,
 ⟨140,Tryz.f140,_,_,rfl,Tryz.func140,by kernel_rfl,rfl,Tl,by decide+kernel⟩,
 ⟨146,Tryz.f146,_,_,rfl,Tryz.func146,by kernel_rfl,rfl,Tm,by decide+kernel⟩,
 ⟨147,Tryz.f147,_,_,rfl,Tryz.func147,by kernel_rfl,rfl,Tn,by decide+kernel⟩,
 ⟨148,Tryz.f148,_,_,rfl,Tryz.func148,by kernel_rfl,rfl,To,by decide+kernel⟩,
 ⟨149,Tryz.f149,_,_,rfl,Tryz.func149,by kernel_rfl,rfl,Tp,by decide+kernel⟩,
 ⟨150,Tryz.f150,_,_,rfl,Tryz.func150,by kernel_rfl,rfl,Tq,by decide+kernel⟩,
 ⟨151,Tryz.f151,_,_,rfl,Tryz.func151,by kernel_rfl,rfl,Tr,by decide+kernel⟩,
 ⟨152,Tryz.f152,_,_,rfl,Tryz.func152,by kernel_rfl,rfl,Ts,by decide+kernel⟩,
 ⟨153,Tryz.f153,_,_,rfl,Tryz.func153,by kernel_rfl,rfl,Tt,by decide+kernel⟩,
 ⟨154,Tryz.f154,_,_,rfl,Tryz.func154,by kernel_rfl,rfl,Tu,by decide+kernel⟩,
 ⟨155,Tryz.f155,_,_,rfl,Tryz.func155,by kernel_rfl,rfl,Tv,by decide+kernel⟩,
 ⟨156,Tryz.f156,_,_,rfl,Tryz.func156,by kernel_rfl,rfl,Tw,by decide+kernel⟩,
 ⟨157,Tryz.f157,_,_,rfl,Tryz.func157,by kernel_rfl,rfl,Tx,by decide+kernel⟩,
 ⟨159,Tryz.f159,_,_,rfl,Tryz.func159,by kernel_rfl,rfl,Ty,by decide+kernel⟩,
 ⟨160,Tryz.f160,_,_,rfl,Tryz.func160,by kernel_rfl,rfl,Tz,by decide+kernel⟩,
 ⟨161,Tryz.f161,_,_,rfl,Tryz.func161,by kernel_rfl,rfl,TA,by decide+kernel⟩,
 ⟨162,Tryz.f162,_,_,rfl,Tryz.func162,by kernel_rfl,rfl,TB,by decide+kernel⟩,
 ⟨163,Tryz.f163,_,_,rfl,Tryz.func163,by kernel_rfl,rfl,TC,by decide+kernel⟩,
 ⟨164,Tryz.f164,_,_,rfl,Tryz.func164,by kernel_rfl,rfl,TD,by decide+kernel⟩,
 ⟨165,Tryz.f165,_,_,rfl,Tryz.func165,by kernel_rfl,rfl,TE,by decide+kernel⟩,
 ⟨166,Tryz.f166,_,_,rfl,Tryz.func166,by kernel_rfl,rfl,TF,by decide+kernel⟩,
 ⟨167,Tryz.f167,_,_,rfl,Tryz.func167,by kernel_rfl,rfl,TG,by decide+kernel⟩,
 ⟨168,Tryz.f168,_,_,rfl,Tryz.func168,by kernel_rfl,rfl,TH,by decide+kernel⟩,
 ⟨169,Tryz.f169,_,_,rfl,Tryz.func169,by kernel_rfl,rfl,TI,by decide+kernel⟩,
 ⟨170,Tryz.f170,_,_,rfl,Tryz.func170,by kernel_rfl,rfl,TJ,by decide+kernel⟩,
 ⟨178,Tryz.f178,_,_,rfl,Tryz.func178,by kernel_rfl,rfl,TK,by decide+kernel⟩,
 ⟨179,Tryz.f179,_,_,rfl,Tryz.func179,by kernel_rfl,rfl,TL,by decide+kernel⟩,
 ⟨180,Tryz.f180,_,_,rfl,Tryz.func180,by kernel_rfl,rfl,TM,by decide+kernel⟩,
 ⟨181,Tryz.f181,_,_,rfl,Tryz.func181,by kernel_rfl,rfl,TN,by decide+kernel⟩,
 ⟨185,Tryz.f185,_,_,rfl,Tryz.func185,by kernel_rfl,rfl,TO,by decide+kernel⟩,trivial⟩
theorem xD: ∀t1 t2 k,X0.gq t1=some k→X0.gq t2=some k→t1=t2:=(xp (P:=Tryz.prog) (fl:=At) (tl:=Au) (tab:=[]) (ext:=[]) (hyb:=[]) (iter:=[]) sx HK (by kernel_rfl) trivial trivial trivial trivial).inj
theorem D4:nb X0 CK:=⟨⟨29,rfl,fun _ _ h=>gk xD Tryz.func29 (by kernel_rfl) W9 h⟩,
 ⟨30,rfl,fun _ _ h=>gk xD Tryz.func30 (by kernel_rfl) Xa h⟩,
 ⟨31,rfl,fun _ _ h=>gk xD Tryz.func31 (by kernel_rfl) Xb h⟩,
 ⟨32,rfl,fun _ _ h=>gk xD Tryz.func32 (by kernel_rfl) Xc h⟩,
 ⟨33,rfl,fun _ _ h=>gk xD Tryz.func33 (by kernel_rfl) Xd h⟩,
 ⟨108,rfl,fun _ _ h=>zr Tryz.func108 (by kernel_rfl) (by kernel_rfl) (by kernel_rfl) rfl h⟩,trivial⟩
theorem BN:j0 X0 zX:=⟨xA _ _ 221 rfl,xC _ _ 564 rfl,trivial⟩
theorem RU:so X0 E:=xp (P:=Tryz.prog) (fl:=At) (tl:=Au) sx HK (by kernel_rfl) Gx D4 trivial BN
end Go.AM
