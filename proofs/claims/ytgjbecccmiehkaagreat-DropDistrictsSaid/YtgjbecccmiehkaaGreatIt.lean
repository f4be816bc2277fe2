/- Texts of the proof. -/
import Derived.Test.YtgjbecccmiehkaaGreatOpsC
import Derived.StillTailTactics
import Derived.Test.YtgjbecccmiehkaaGreatProg
import Derived.RangeFuncNested
import Derived.RangeFuncLeaves
import Derived.Shelf.Abstract
import Derived.Shelf.RegionOpen
import Derived.WalkKit
import Derived.OwnWalkIn
import Derived.TacticsInMore
import Derived.LoopNIn
import Derived.LoopIn
set_option maxHeartbeats 4000000
set_option linter.unusedSimpArgs false
set_option linter.unusedVariables false
namespace Go.Proofs
open Go.RowKit Go.Shelf Go.AM
attribute [local go_sem] Oper.semAt_some
@[local go_sem] theorem Pp: (Fr none).round=none:=rfl
set_option maxRecDepth 100000 in
theorem Hb (l Bs Bo b off len cap:Nat) (vs:List (List Value)) (hlen:vs.length=len) (h2: ∀v ∈ vs,∃x y,v=[x,y]) (hbig:len< 4611686018427387904) (Kp:World→World→Prop) (Vh: ∀ {A B C},Kp A B→Kp B C→Kp A C) (Tm: ∀A,Kp A A)
  (W7: ∀ {A B},Kp A B→A.cell? ⟨Bs,Bo,none⟩=some (.slice (some ⟨b,off,none⟩) len cap)→B.cell? ⟨Bs,Bo,none⟩=some (.slice (some ⟨b,off,none⟩) len cap))
  (QW: ∀ {A B} j v,Kp A B→A.cell? ⟨b,j,none⟩=some v→B.cell? ⟨b,j,none⟩=some v)
  (Hc: ∀A:World,Kp A A.drew) (J Jx:Nat→World→Prop) (QX: ∀k W,J k W→J k W.drew)
  (hY: ∀ (k:Nat) W1 x y z u,k+1 <len→vs[k]? =some [x,y]→vs[k+1]? =some [z,u]→J k W1→YieldAt (Fr none) 0 Tryz.prog l #[.int .i64 k,.agg #[x,y,z,u]] W1 fun e W'=>
    (e= .returned (.bool true)∧J (k+1) W'∧Kp W1 W')∨(e= .returned (.bool false)∧Jx (k+1) W'))
  (W:World) (Vi:W.cell? ⟨Bs,Bo,none⟩=some (.slice (some ⟨b,off,none⟩) len cap)) (hc: ∀ (j:Nat) x y,vs[j]? =some [x,y]→W.cell? ⟨b,off+j*2,none⟩=some x∧W.cell? ⟨b,off+j*2+1,none⟩=some y) (h0:J 0 W):
  CallsIn (Fr none) 1 Tryz.prog 94 #[.func (.yield l) #[] #[],.pointer (some ⟨Bs,Bo,none⟩)] W fun e W'=> (∃v,e= .returned v)∧(J (len - 1) W'∨ ∃k,k≤len - 1∧Jx k W'):=by
 refine callsIn_of_wp Tryz.func94 rfl trivial ?_ rfl
 simp only[Tryz.ntmps94,List.size_toArray,ZH,ZL,Nat.reduceAdd,Nat.reduceSub,Array.replicate_succ,Array.replicate_zero,List.push_toArray,List.append_toArray,Z8,Z2]
 have Dh:Tryz.prog.follows .mixedOrders=true:=Zo
 gi_wp2
 gi_loopw [3] (fun i wr=> ∃k:Nat,k≤len - 1∧i= .int .i64 k∧J k wr∧Kp W wr) (fun i _=>len - (intOf i).toNat)
 case atStart=>exact⟨0,aaj _,rfl,h0,Tm _⟩
 case round=>
  obtain⟨k,hk,rfl,QY,wo⟩:=hrel
  have W8:=W7 wo Vi
  by_cases bz:k+1 <len
  · obtain⟨x,y,Fq⟩:=h2 vs[k] (aak Zl)
    obtain⟨z,u,W9⟩:=h2 vs[k+1] (aak Zl)
    have Hd:vs[k]? =some [x,y]:=by rw[Zv Zl,Fq]
    have EB:vs[k+1]? =some [z,u]:=by rw[Zv Zl,W9]
    obtain⟨fn,tmps,assign,body,hy,hR⟩:=hY k wr.drew x y z u bz Hd EB (QX _ _ QY)
    have uB:k<len:=Zl
    have BK: (k:Int)+1 < (len:Int):=Zl
    have Tn: (0:Int)≤(k:Int)+1:=Zl
    have LS:IntKind.i64.wrap ((k:Int)+1)=(k:Int)+1:=wrap64 Zl Zl
    have To: ((k:Int)+1).toNat=k+1:=Zl
    have c1:=QW _ _ wo (hc k x y Hd).1
    have c2:=QW _ _ wo (hc k x y Hd).2
    have c3:=QW _ _ wo (hc (k+1) z u EB).1
    have c4:=QW _ _ wo (hc (k+1) z u EB).2
    gi_wp2
    have Nz:=hR.mono (R':=fun e W'=> ∃bb,e= .returned (.bool bb)∧(bb=true→J (k+1) W'∧Kp wr.drew W')∧(bb=false→Jx (k+1) W')) (by
       rintro e W' (⟨rfl,q1,q2⟩ | ⟨rfl,q1⟩)
       ·exact⟨true,rfl,fun _=> ⟨q1,q2⟩,Zm⟩
       ·exact⟨false,rfl,Zm,fun _=>q1⟩)
    clear hR
    refine zU (n:=0) (fK 12 Dh Zo Zo ?_)
    simp only[Z9,aaB,aa4,List.drop_zero]
    change wpStill _ _ (World.drew wr) (fun a'=>wpListIn _ _ _ _ _ _ a' (World.drew wr)) _ _
    iterate 12 (refine wpStill_step (fun K hK=> ?_);go_simp; (try simp only[LS,To,BK,Tn,uB,and_self,if_true,true_and,go_sem]); (try simp only[c1,c2,c3,c4,W8,World.B8,go_sem]);refine hK _ ?_;clear hK K)
    refine wpStill_nil ?_
    refine wpListIn_step (fun K hK=> ?_)
    go_simp
    refine⟨rfl,RoundIn.mono Nz ?_⟩
    rintro e W3 ⟨bb,rfl,Nt,A7⟩
    refine hK _ _ ?_
    clear hK K
    refine wpListIn_step (fun K hK=> ?_)
    go_simp
    refine hK _ _ ?_
    clear hK K
    refine wpListIn_nil ?_
    rename_i Xa YU IA
    refine IA _ _ ?_
    cases bb
    ·  clear IA Xa Nz
       gi_wp2
       refine⟨rfl,_,results_none (fn:=Tryz.f94) rfl _ _ _,⟨_,rfl⟩,?_⟩
       exact .inr ⟨k+1,Zl,A7 trivial⟩
    ·  gi_wp2
       exact⟨⟨k+1,Zl,rfl,(Nt rfl).1,Vh wo (Vh (Hc _) (Nt rfl).2)⟩,by simp only[intOf];omega⟩
  · have BK: ¬ (k:Int)+1 < (len:Int):=Zl
    have LS:IntKind.i64.wrap ((k:Int)+1)=(k:Int)+1:=wrap64 Zl Zl
    gi_wp2
    have ou:k=len - 1:=Zl
    refine⟨rfl,_,results_none (fn:=Tryz.f94) rfl _ _ _,⟨_,rfl⟩,?_⟩
    exact .inl (ou ▸ QY)
set_option maxRecDepth 100000 in
theorem wG (l Bs Bo cap:Nat) (a0:Option Addr) (J Jx:Nat→World→Prop) (QX: ∀k W,J k W→J k W.drew)
  (W:World) (Vi:W.cell? ⟨Bs,Bo,none⟩=some (.slice a0 0 cap)) (h0:J 0 W):
  CallsIn (Fr none) 1 Tryz.prog 94 #[.func (.yield l) #[] #[],.pointer (some ⟨Bs,Bo,none⟩)] W fun e W'=> (∃v,e= .returned v)∧(J 0 W'∨ ∃k,k≤0∧Jx k W'):=by
 refine callsIn_of_wp Tryz.func94 rfl trivial ?_ rfl
 simp only[Tryz.ntmps94,List.size_toArray,ZH,ZL,Nat.reduceAdd,Nat.reduceSub,Array.replicate_succ,Array.replicate_zero,List.push_toArray,List.append_toArray,Z8,Z2]
 have Dh:Tryz.prog.follows .mixedOrders=true:=Zo
 gi_wp2
 gi_loopw [3] (fun i wr=>i= .int .i64 0∧J 0 wr∧wr=W) (fun i _=>0)
 case atStart=>exact⟨rfl,h0,rfl⟩
 case round=>
  obtain⟨rfl,QY,rfl⟩:=hrel
  have LS:IntKind.i64.wrap ((0:Int)+1)=1:=Zn
  gi_wp2
  refine⟨rfl,_,results_none (fn:=Tryz.f94) rfl _ _ _,⟨_,rfl⟩,?_⟩
  exact .inl QY
theorem pd (A:World):A.grownBy A.drew none:=⟨rfl,rfl,rfl,Zy _,fun _ _ _=>rfl⟩
end Go.Proofs
namespace Go.Proofs
open Go.RowKit Go.AM
theorem zV: ∀ (ps:List V) (i:Nat),(iF i ps).length=ps.length - 1
 | [],_=>rfl
 | [_],_=>rfl
 | _::q::rest,i=>by simp only[iF,ZH,zV (q::rest)];omega
theorem jo: ∀ (ps:List V) (i k:Nat) x,(iF i ps)[k]? =some x→ ∃p q,ps[k]? =some p∧ps[k+1]? =some q∧x=[.int .i64 ((i+k:Nat):Int),.agg (p.cells++q.cells)]
 | [],i,k,x,h=>by simp[iF] at h
 | [_],i,k,x,h=>by simp[iF] at h
 | p::q::rest,i,k,x,h=>by
   cases k with
   | zero=>simp[iF] at h;exact⟨p,q,Zm,Zm,h ▸ by simp⟩
   | succ k=>
     simp only[iF,List.getElem?_cons_succ] at h
     obtain⟨p',q',h1,h2,rfl⟩:=jo (q::rest) (i+1) k x h
     exact⟨p',q',by simpa using h1,by simpa using h2,by rw[show i+1+k=i+(k+1) by omega]⟩
def EC (vs:List Value) (n:Nat):List (Array Value):=(List.range n).map fun (k:Nat)=> #[.int .i64 (((k:Nat):Int)),.agg ((vs.getD k undef).cells++(vs.getD (k+1) undef).cells)]
theorem B9 (args:Array Value) (w:World): (callFunc 94 args).run Tryz.prog w= .ok (.enter 94 args) w:=by
 obtain⟨c,hc⟩: ∃c,Tryz.f94.body=some c:=⟨_,rfl⟩
 have hn:Tryz.f94.name≠ "runtime.NumGoroutine" :=Zn
 simp[callFunc,Sem.run_bind,program,Sem.run,Tryz.func94,hc,hn]
theorem uC {F:Fence} {n:Nat} {P:Program} {l:Nat} {v:Array Value} {W:World} {R R':Ending→World→Prop} (h:YieldAt F n P l v W R) (hm: ∀e W',R e W'→R' e W'):YieldAt F n P l v W R':=by
 obtain⟨fn,tmps,assign,body,hy,hR⟩:=h
 exact⟨fn,tmps,assign,body,hy,hR.mono hm⟩
theorem uD {F:Fence} {n:Nat} {P:Program} {g:Nat} {args:Array Value} {W:World} {J:Nat→(Nat→Prop)→World→Prop} {Jx:Nat→World→Prop} {m:Nat} {F0:Nat→Prop} (h:CallsIn F n P g args W fun e W'=> (∃v,e= .returned v)∧(J m F0 W'∨ ∃k,k≤m∧Jx k W')):
  CallsIn F n P g args W fun e W'=> (∃v,e= .returned v)∧((∃F,J m F W')∨ ∃k,k≤m∧Jx k W'):=
 CallsIn.mono h fun e W' h=> ⟨h.1,h.2.imp (fun h=> ⟨_,h⟩) id⟩
theorem zW (   fn:FuncId→Option Nat) (tn:TypeId→Option Nat) (g:Nat) (hg:fn 94=some g):qq ⟨Tryz.prog,fn,tn⟩ g C3:=by
 refine⟨94,hg,fun caps xs rp B K μ lb Ba ho=> ?_⟩
 refine⟨B9,?_⟩
 match caps,rp,Ba with
 | [.eptr .nils 0],rp,Ba=>
   simp only[C3,Zr] at rp
   subst rp
   obtain⟨lb⟩:=lb
   match lb,Ba with
   | [v],Ba=>
     simp only[ah,and_true] at Ba
     obtain⟨_,_,b,o,sz,x,rfl,ig,bz,⟨a,rfl⟩,cE⟩:=Ba
     have hr:=(cE 0 _ rfl).2 0 (.slice a 0 0) (by simp[Value.cells])
     simp only[Nat.zero_mul,aaz] at hr
     refine⟨[],rfl,fun i x v h=>by simp at h,fun l J Jx W0 jI hJ Tp hY h0=> ?_⟩
     have hc:W0.cell? ⟨b,o,none⟩=some (.slice a 0 0):=by rw[←hr];exact World.cell?_of_block (jI.block b bz)
     exact uD (callsIn_wide.2 (callsIn_wide.1 (wG l b o 0 a (fun k W=>J k (fun _=>False) W) Jx (fun k W h=>hJ.less k _ _ _ (hJ.grow k _ W _ h (pd W)) (fun b hb=>hb.elim)) W0 hc h0)))
 | [.eptr (.lit 2 ps) 0],rp,Ba=>
   simp only[C3] at rp
   split at rp
   case isFalse=>simp at rp
   case isTrue hbig=>
     simp only[Zr] at rp
     subst rp
     obtain⟨lb⟩:=lb
     match lb,Ba with
     | [v],Ba=>
       simp only[ah,and_true] at Ba
       obtain⟨_,_,b,o,sz,x,rfl,ig,bz,⟨ki,A8,a,cap,vs,rfl,b7,la,Pq⟩,cE⟩:=Ba
       have hr:=(cE 0 _ rfl).2 0 (.slice a ps.length cap) (by simp[Value.cells])
       simp only[Nat.zero_mul,aaz] at hr
       have yR:vs.length=ps.length:=la.length.symm
       have gX: ∀W0,Below μ.w.heap.size μ.w W0→W0.cell? ⟨b,o,none⟩=some (.slice a ps.length cap):=fun W0 jI=>by rw[←hr];exact World.cell?_of_block (jI.block b bz)
       have Tq: ∀p ∈ ps,p.cq=true:=Zx.1 A8
       rcases Pq with rfl| ⟨b2,o2,rfl,Tr,il,KB⟩
       · refine⟨[],rfl,fun i x v h=>by simp[iF] at h,fun l J Jx W0 jI hJ Tp hY h0=> ?_⟩
         exact uD (callsIn_wide.2 (callsIn_wide.1 (wG l b o cap a (fun k W=>J k (fun _=>False) W) Jx (fun k W h=>hJ.less k _ _ _ (hJ.grow k _ W _ h (pd W)) (fun b hb=>hb.elim)) W0 (gX W0 jI) h0)))
       · have eS: ∀k p,ps[k]? =some p→ ∃v x y,vs[k]? =some v∧aj ⟨⟨Tryz.prog,fn,tn⟩,B,K⟩ μ p v∧p.cq=true∧v.cells= #[x,y]:=fun k p hp=>by
           obtain⟨v,hv,DF⟩:=la.get hp
           have hs:=(KB k v hv).1
           obtain⟨cs,mD⟩: ∃cs,v.cells=cs:=⟨_,rfl⟩
           rw[mD] at hs
           obtain⟨cs⟩:=cs
           match cs,hs with
           | [x,y],_=>exact⟨v,x,y,hv,DF,Tq p (List.mem_of_getElem? hp),mD⟩
         have Xb: ∀ (k:Nat) v,vs[k]? =some v→ ∃x y,v.cells= #[x,y]:=fun k v hv=>by
           have hk:k<ps.length:=by rw[←yR];exact(Zs.1 hv).1
           obtain⟨v',x,y,h1,_,_,h2⟩:=eS k _ (Zv hk)
           rw[hv] at h1;injection h1 with h1;subst h1;exact⟨x,y,h2⟩
         refine⟨EC vs (ps.length - 1),by rw[zV];simp[EC],fun i x v hx hv=> ?_,fun l J Jx W0 jI hJ Tp hY h0=> ?_⟩
         · obtain⟨p,q,hp,hq,rfl⟩:=jo ps 0 i x hx
           obtain⟨v1,x1,y1,h1,h2,h3,h4⟩:=eS i p hp
           obtain⟨v2,x2,y2,k1,k2,k3,k4⟩:=eS (i+1) q hq
           simp only[EC,ZI,Zq] at hv
           obtain⟨i',nU,rfl⟩:=hv
           obtain⟨_,rfl⟩:=Zs.1 nU
           simp only[List.getElem_range,ZK,h1,k1,aa2]
           refine⟨by simp[aj],⟨by rw[aao,h2.iQ h3,k2.iQ k3];rfl,_,rfl,?_⟩,trivial⟩
           rw[Array.toList_append]
           exact ah.append (h2.cells h3) (k2.cells k3)
         · have sC: (EC vs (ps.length - 1)).length=ps.length - 1:=by unfold EC;rw[List.length_map,List.length_range]
           have Ca: ∀ (k:Nat) x y,(vs.map fun v=>v.cells.toList)[k]? =some [x,y]→ ∃v,vs[k]? =some v∧v.cells= #[x,y]:=fun k x y h=>by
            simp only[ZI,Zq] at h
            obtain⟨v,h1,h2⟩:=h
            exact⟨v,h1,by rw[←h2]⟩
           have key:=Hb l b o b2 o2 ps.length cap (vs.map fun v=>v.cells.toList) (by simpa using yR) (fun v hv=>by
              obtain⟨v0,QZ,rfl⟩:=ZJ.1 hv
              obtain⟨k,hk,BK⟩:=List.mem_iff_getElem.1 QZ
              obtain⟨x,y,h⟩:=Xb k v0 (by rw[Zv hk,BK])
              exact⟨x,y,by rw[h]⟩) hbig (Kept μ)
            (fun h1 h2 b hb hn=> (h2 b hb hn).trans (h1 b hb hn)) (fun A b hb hn=>rfl)
            (fun {A B} hk h=>by rw[←h];exact World.cell?_of_block (hk b bz fun h=>ig (.inl h)))
            (fun {A B} j v hk h=>by rw[←h];exact World.cell?_of_block (hk b2 il fun h=>Tr (.inl h)))
            (fun A b hb hn=>rfl) (fun k W=>J k (fun _=>False) W) Jx (fun k W h=>hJ.less k _ _ _ (hJ.grow k _ W _ h (pd W)) (fun b hb=>hb.elim))
            (fun k W1 x y z u hk h1 h2 Ts=>by
              obtain⟨v1,e1,e2⟩:=Ca k x y h1
              obtain⟨v2,e3,e4⟩:=Ca (k+1) z u h2
              refine uC (hY k _ W1 _ ?_ Ts) (fun e W' h=>h.imp (fun h=> ⟨h.1,h.2.1,h.2.2.1⟩) id)
              simp only[EC,ZI,aa3 (show k<ps.length - 1 by omega),ZE,ZK,e1,e3,aa2,e2,e4]
              rfl) W0 (gX W0 jI)
            (fun j x y h=>by
              obtain⟨v1,e1,e2⟩:=Ca j x y h
              have ov:=(KB j v1 e1).2
              rw[e2] at ov
              have c1:=ov 0 x rfl
              have c2:=ov 1 y rfl
              refine⟨?_,?_⟩
              ·rw[World.cell?_of_block (jI.block b2 il)];simpa using c1
              ·rw[World.cell?_of_block (jI.block b2 il)];exact c2) h0
           rw[sC]
           exact uD (callsIn_wide.2 (callsIn_wide.1 key))
#print axioms zW
end Go.Proofs
namespace Go.Proofs
open Go.RowKit Go.Shelf Go.AM
attribute [local go_sem] Oper.semAt_some xk IM Bool.true_or Bool.or_true Bool.false_or Bool.or_false decide_true decide_false
@[local go_sem] theorem NA: (Fr none).round=none:=rfl
def iA (skip:Bool) (n:Int):Nat→List (Value×Value)→List (Array Value)
 | i,p::q::rest=> (if skip && (decide ((i:Int)=n - 1) || decide ((i:Int)=n)) then [] else [#[.agg #[p.1,p.2],.agg #[q.1,q.2]]])++iA skip n (i+1) (q::rest)
 | _,_=> []
def iB (e n:Int):Nat→List (List (Value×Value))→List (Array Value)
 | _,[]=> []
 | k,ps::rest=>iA (decide ((k:Int)=e)) n 0 ps++iB e n (k+1) rest
structure KC where
 id:Int
 a:Option Addr
 cap:Nat
 l:Int
 r:Int
 ej:List (Value×Value)
theorem Cb {skip:Bool} {n:Int} {i:Nat} {ps:List (Value×Value)} {p q:Value×Value} (hp:ps[i]? =some p) (hq:ps[i+1]? =some q):
  iA skip n i (ps.drop i)=(if skip && (decide ((i:Int)=n - 1) || decide ((i:Int)=n)) then [] else [#[.agg #[p.1,p.2],.agg #[q.1,q.2]]])++iA skip n (i+1) (ps.drop (i+1)):=by
 obtain⟨h1,rfl⟩:=Zs.1 hp
 obtain⟨h2,rfl⟩:=Zs.1 hq
 rw[ZP h1,ZP h2]
 rw[iA]
theorem wH {skip:Bool} {n:Int} {i:Nat} {ps:List (Value×Value)} (h:ps.length - 1≤i):iA skip n i (ps.drop i)=[]:=by
 rcases hd:ps.drop i with _| ⟨p,_| ⟨q,rest⟩⟩
 ·rfl
 ·rfl
 ·have:=congrArg List.length hd
  simp at this;omega
theorem Cc {e n:Int} {k:Nat} {rs:List (List (Value×Value))} {ps:List (Value×Value)} (h:rs[k]? =some ps):iB e n k (rs.drop k)=iA (decide ((k:Int)=e)) n 0 ps++iB e n (k+1) (rs.drop (k+1)):=by
 obtain⟨h1,rfl⟩:=Zs.1 h
 rw[ZP h1,iB]
theorem Cd {w:World} {o:Obj} {a:Addr} {v:Value} (h:w.cell? a=some v): (w.alloc o).cell? a=some v:=by
 have bz:a.block<w.heap.size:=by
  rcases Nat.lt_or_ge a.block w.heap.size with hl| hl
  ·exact hl
  ·simp[World.cell?,aaN hl] at h
 rw[←h]
 simp only[World.cell?,Below.heap_alloc w o a.block bz]
theorem zX (w:World) (o:Obj):w.grownBy (w.alloc o) none:=by
 have b1:Below w.heap.size w (w.alloc o):=(Below.refl _ w).alloc (Zy _) _
 exact⟨b1.os,b1.tape,b1.output,b1.size,fun k hk _=>b1.block k hk⟩
theorem He (A:World):A.grownBy A.drew none:=⟨rfl,rfl,rfl,Zy _,fun _ _ _=>rfl⟩
theorem wI {A B:World} {a:Addr} (h:B.heap[a.block]? =A.heap[a.block]?):B.cell? a=A.cell? a:=by
 simp only[World.cell?,h]
set_option maxRecDepth 100000 in
theorem Hf (   l Bm Om Bc Oc b off cap:Nat) (a0:Option Addr) (e n:Int) (rows:List KC) (hbig:rows.length< 4611686018427387904) (Pr: ∀R ∈ rows,R.ej.length< 4611686018427387904) (L5:0≤n) (NB:n< 4611686018427387904)
  (S:Nat→Prop) (J:Nat→(Nat→Prop)→World→Prop) (Jx:Nat→World→Prop)
  (Vj: ∀k F A B,J k F A→A.grownBy B none→J k (fun b=>F b∨(A.heap.size≤b∧b<B.heap.size)) B) (Xc: ∀k F F' A,J k F A→(∀b,F' b→F b)→J k F' A)
  (vC:List (Array Value)) (Tt:vC.drop 0=iB e n 0 (rows.map (·.ej)))
  (hY: ∀ (k:Nat) F W1 v,vC[k]? =some v→J k F W1→YieldAt (Fr none) 0 Tryz.prog l v W1 fun e W'=>
    (e= .returned (.bool true)∧J (k+1) F W'∧ ∀b,S b∨F b→W'.heap[b]? =W1.heap[b]?)∨(e= .returned (.bool false)∧Jx (k+1) W'))
  (W:World) (YV:S Bm) (Vk:S Bc) (NC:rows≠[]→S b) (KD:rows≠[]→a0=some ⟨b,off,none⟩) (YW:W.cell? ⟨Bm,Om,none⟩=some (.slice a0 rows.length cap))
  (Tu:W.cell? ⟨Bc,Oc,none⟩=some (.int .i64 e)) (Tv:W.cell? ⟨Bc,Oc+1,none⟩=some (.int .i64 n))
  (hc: ∀ (k:Nat) R,rows[k]? =some R→W.cell? ⟨b,off+k*4,none⟩=some (.int .i64 R.id)∧W.cell? ⟨b,off+k*4+1,none⟩=some (.slice R.a R.ej.length R.cap)∧W.cell? ⟨b,off+k*4+2,none⟩=some (.int .i64 R.l)∧W.cell? ⟨b,off+k*4+3,none⟩=some (.int .i64 R.r))
  (Xd: ∀ (k:Nat) R,rows[k]? =some R→R.ej≠[]→ ∃b2 o2,R.a=some ⟨b2,o2,none⟩∧S b2∧ ∀ (i:Nat) p,R.ej[i]? =some p→W.cell? ⟨b2,o2+i*2,none⟩=some p.1∧W.cell? ⟨b2,o2+i*2+1,none⟩=some p.2)
  (h0:J 0 (fun _=>False) W):
  CallsIn (Fr none) 1 Tryz.prog 96 #[.func (.yield l) #[] #[],.pointer (some ⟨Bm,Om,none⟩),.pointer (some ⟨Bc,Oc,none⟩)] W fun ex W'=> (∃v,ex= .returned v)∧((∃F,J vC.length F W')∨ ∃k,k≤vC.length∧Jx k W'):=by
 refine callsIn_of_wp Tryz.func96 rfl trivial ?_ rfl
 simp only[Tryz.ntmps96,List.size_toArray,ZH,ZL,Nat.reduceAdd,Nat.reduceSub,Array.replicate_succ,Array.replicate_zero,List.push_toArray,List.append_toArray,Z8,Z2]
 have Dh:Tryz.prog.follows .mixedOrders=true:=Zo
 gi_wp2
 gi_loopw [10] (fun i wr=> ∃k:Nat,k≤rows.length∧i= .int .i64 k∧ ∃j F,J j F wr∧vC.drop j=iB e n k ((rows.map (·.ej)).drop k)∧j≤vC.length∧ ∀a v,S a.block→W.cell? a=some v→wr.cell? a=some v) (fun i _=>rows.length - (intOf i).toNat)
 case atStart=>exact⟨0,aaj _,rfl,0,_,h0,Tt,aaj _,fun a v _ h=>h⟩
 case round=>
  obtain⟨k,hk,rfl,j,F,hJ,fY,IB,zY⟩:=hrel
  by_cases bz:k<rows.length
  · have pG: ( k:Int) < (rows.length:Int):=Zl
    have hR:rows[k]? =some rows[k]:=Zv bz
    have bQ:rows≠[]:=by intro h;rw[h] at bz;simp at bz
    obtain rfl:=KD bQ
    replace NC:=NC bQ
    clear KD bQ
    obtain⟨c0,c1,c2,c3⟩:=hc k _ hR
    replace c0:=zY _ _ NC c0
    replace c1:=zY _ _ NC c1
    replace c2:=zY _ _ NC c2
    replace c3:=zY _ _ NC c3
    have Xe:=Pr rows[k] (aak bz)
    have JD:=Xd k _ hR
    have Vl: (rows.map (·.ej))[k]? =some rows[k].ej:=by simp[hR]
    rw[Cc Vl] at fY
    generalize Ps:decide ((k:Int)=e)=sk at fY
    clear Vl hR
    generalize rows[k]=R at*
    obtain⟨L6,Ra,yc,Rl,Rr,ej⟩:=R
    dsimp only at c0 c1 c2 c3 Xe JD fY
    have Pu:=zX wr (Obj.cells #[Value.int IntKind.i64 L6,Value.slice Ra ej.length yc,Value.int IntKind.i64 Rl,Value.int IntKind.i64 Rr] 48)
    have L7: ∀a v,S a.block→W.cell? a=some v→(wr.alloc (Obj.cells #[Value.int IntKind.i64 L6,Value.slice Ra ej.length yc,Value.int IntKind.i64 Rl,Value.int IntKind.i64 Rr] 48)).cell? a=some v:=fun a v h1 h2=>Cd (zY a v h1 h2)
    have bM: (wr.alloc (Obj.cells #[Value.int IntKind.i64 L6,Value.slice Ra ej.length yc,Value.int IntKind.i64 Rl,Value.int IntKind.i64 Rr] 48)).heap.size=wr.heap.size+1:=World.size_alloc _ _
    have L8: (wr.alloc (Obj.cells #[Value.int IntKind.i64 L6,Value.slice Ra ej.length yc,Value.int IntKind.i64 Rl,Value.int IntKind.i64 Rr] 48)).cell? ⟨wr.heap.size,1,none⟩=some (.slice Ra ej.length yc):=by
       simp only[World.cell?]
       rw[World.alloc_heap_new]
       rfl
    obtain⟨F2,Xf,KE⟩: ∃F2:Nat→Prop,F2 wr.heap.size∧J j F2 (wr.alloc (Obj.cells #[Value.int IntKind.i64 L6,Value.slice Ra ej.length yc,Value.int IntKind.i64 Rl,Value.int IntKind.i64 Rr] 48)):=
       ⟨_,.inr ⟨Zy _,Zl⟩,Vj _ _ _ _ hJ Pu⟩
    by_cases h1: (1:Int) < (ej.length:Int)
    ·  have Pv: (0:Int)≤(ej.length:Int) - 1:=Zl
       obtain⟨b2,o2,rfl,Q0,Vm⟩:=JD (by intro h;rw[h] at h1;simp at h1)
       gi_wp2
       generalize wr.alloc (Obj.cells #[Value.int IntKind.i64 L6,Value.slice (some ⟨b2,o2,none⟩) ej.length yc,Value.int IntKind.i64 Rl,Value.int IntKind.i64 Rr] 48)=wa at*
       generalize wr.heap.size=Bx at*
       gi_loopw [20] (fun i w2=> ∃i':Nat,i'≤ej.length - 1∧i= .int .i64 i'∧ ∃j2,J j2 F2 w2∧vC.drop j2=iA sk n i' (ej.drop i')++iB e n (k+1) ((rows.map (·.ej)).drop (k+1))∧j2≤vC.length∧(∀a v,S a.block→W.cell? a=some v→w2.cell? a=some v)∧w2.cell? ⟨Bx,1,none⟩=some (.slice (some ⟨b2,o2,none⟩) ej.length yc)) (fun i _=>ej.length - (intOf i).toNat)
       case atStart=>exact⟨0,aaj _,rfl,j,KE,by simpa using fY,IB,L7,L8⟩
       case round=>
        clear hJ KE fY IB zY L7 L8
        obtain⟨i',nU,rfl,j2,KE,fY,IB,zY,L8⟩:=hrel
        have Xg:=zY _ _ Vk Tu
        have Xh:=zY _ _ Vk Tv
        by_cases il:i'<ej.length - 1
        ·have Ny: (i':Int) < (ej.length:Int) - 1:=Zl
         have Vn:ej[i']? =some ej[i']:=Zv Zl
         have Vo:ej[i'+1]? =some ej[i'+1]:=Zv Zl
         rw[Cb Vn Vo] at fY
         obtain⟨p1,p2⟩:=Vm _ _ Vn
         obtain⟨q1,q2⟩:=Vm _ _ Vo
         replace p1:=zY _ _ Q0 p1
         replace p2:=zY _ _ Q0 p2
         replace q1:=zY _ _ Q0 q1
         replace q2:=zY _ _ Q0 q2
         generalize ej[i']=P at*
         generalize ej[i'+1]=Q2 at*
         have To:IntKind.i64.wrap (n - 1)=n - 1:=wrap64 Zl Zl
         by_cases Px: (k:Int)=e∧((i':Int)=n - 1∨(i':Int)=n)
         ·   obtain⟨ou,jG⟩:=Px
             have Hg:vC.drop j2=iA sk n (i'+1) (ej.drop (i'+1))++iB e n (k+1) ((rows.map (·.ej)).drop (k+1)):=by
              rw[fY,if_pos (by rw[←Ps];simp[ou];exact jG)];rfl
             rcases jG with jG| jG
             ·obtain rfl:n=(i':Int)+1:=Zl
              clear jG To fY
              have Xi:IntKind.i64.wrap ((i':Int)+1 - 1)=(i':Int):=(wrap64 Zl Zl).trans Zl
              gi_wp2
              exact⟨⟨i'+1,Zl,rfl,j2,KE,Hg,IB,zY,L8⟩,by simp only[intOf];omega⟩
             ·obtain rfl:n=(i':Int):=jG.symm
              clear fY
              have Py: ¬ (i':Int)=(i':Int) - 1:=Zl
              gi_wp2
              exact⟨⟨i'+1,Zl,rfl,j2,KE,Hg,IB,zY,L8⟩,by simp only[intOf];omega⟩
         ·   obtain⟨v,Tw⟩: ∃v:Array Value,v= #[.agg #[P.1,P.2],.agg #[Q2.1,Q2.2]]:=⟨_,rfl⟩
             have Ce:vC.drop j2=v:: (iA sk n (i'+1) (ej.drop (i'+1))++iB e n (k+1) ((rows.map (·.ej)).drop (k+1))):=by
              rw[fY,if_neg (by rw[←Ps];simpa using Px),Tw];rfl
             have hv:vC[j2]? =some v:=by
              have:=congrArg (fun l=>l[0]?) Ce
              simpa using this
             have Hg:vC.drop (j2+1)=iA sk n (i'+1) (ej.drop (i'+1))++iB e n (k+1) ((rows.map (·.ej)).drop (k+1)):=by
              have:=congrArg (List.drop 1) Ce
              simpa [aaM] using this
             have Vp:j2+1≤vC.length:=(Zs.1 hv).1
             have QX:J j2 F2 wr.drew:=Xc _ _ _ _ (Vj _ _ _ _ KE (He wr)) (fun b hb=> .inl hb)
             obtain⟨fn,tmps,assign,body,hy,hR⟩:=hY j2 F2 wr.drew v hv QX
             rw[Tw] at hy
             have qt: ((k:Int)=e∧ ¬ (i':Int)=n - 1∧ ¬ (i':Int)=n)∨ ¬ (k:Int)=e:=by
              by_cases ou: (k:Int)=e
              ·exact .inl ⟨ou,fun h=>Px ⟨ou,.inl h⟩,fun h=>Px ⟨ou,.inr h⟩⟩
              ·exact .inr ou
             have LS:IntKind.i64.wrap ((i':Int)+1)=(i':Int)+1:=wrap64 Zl Zl
             have Tx: ((i':Int)+1).toNat=i'+1:=Zl
             have uB:i'<ej.length:=Zl
             have BK: (i':Int)+1 < (ej.length:Int):=Zl
             have Tn: (0:Int)≤(i':Int)+1:=Zl
             clear Px fY Ce Tw
             have Nz:=hR.mono (R':=fun ex W'=> ∃bb,ex= .returned (.bool bb)∧(bb=true→J (j2+1) F2 W'∧ ∀b,S b∨F2 b→W'.heap[b]? =wr.drew.heap[b]?)∧(bb=false→Jx (j2+1) W')) (by
              rintro ex W' (⟨rfl,q1,q2⟩ | ⟨rfl,q1⟩)
              ·exact⟨true,rfl,fun _=> ⟨q1,q2⟩,Zm⟩
              ·exact⟨false,rfl,Zm,fun _=>q1⟩)
             clear hR
             rcases qt with⟨ou,jG,rJ⟩ | ou
             all_goals
              gi_wp2
              refine zU (n:=0) (fK 12 Dh Zo Zo ?_)
              simp only[Z9,aaB,aa4,List.drop_zero]
              change wpStill _ _ (World.drew wr) (fun a'=>wpListIn _ _ _ _ _ _ a' (World.drew wr)) _ _
              iterate 12 (refine wpStill_step (fun K hK=> ?_);go_simp; (try simp only[LS,Tx,BK,Tn,uB,and_self,if_true,true_and,go_sem]); (try simp only[p1,p2,q1,q2,L8,World.B8,go_sem]);refine hK _ ?_;clear hK K)
              refine wpStill_nil ?_
              refine wpListIn_step (fun K hK=> ?_)
              go_simp
              refine⟨rfl,RoundIn.mono Nz ?_⟩
              rintro ex W3 ⟨bb,rfl,Nt,A7⟩
              refine hK _ _ ?_
              clear hK K
              refine wpListIn_step (fun K hK=> ?_)
              go_simp
              refine hK _ _ ?_
              clear hK K
              refine wpListIn_nil ?_
              rename_i IA
              refine IA _ _ ?_
              cases bb
              ·clear IA Nz
               gi_wp2
               refine⟨rfl,_,results_none (fn:=Tryz.f96) rfl _ _ _,⟨_,rfl⟩,?_⟩
               exact .inr ⟨j2+1,Vp,A7 trivial⟩
              ·obtain⟨Xj,Vq⟩:=Nt rfl
               clear IA Nz
               gi_wp2
               exact⟨⟨i'+1,Zl,rfl,j2+1,Xj,Hg,Vp,fun a v h1 h2=> (wI ((Vq _ (.inl h1)).trans rfl)).trans (zY a v h1 h2),(wI (a:=⟨Bx,1,none⟩) ((Vq Bx (.inr Xf)).trans rfl)).trans L8⟩,by simp only[intOf];omega⟩
        ·have Ny: ¬ (i':Int) < (ej.length:Int) - 1:=Zl
         rw[wH Zl,Z8] at fY
         gi_wp2
         exact⟨⟨k+1,Zl,rfl,j2,F2,KE,fY,IB,zY⟩,by simp only[intOf];omega⟩
    ·  have Pv: (ej.length:Int) - 1≤0:=Zl
       gi_wp2
       gi_loopw [20] (fun i w2=>i= .int .i64 0∧w2=wr.alloc (Obj.cells #[Value.int IntKind.i64 L6,Value.slice Ra ej.length yc,Value.int IntKind.i64 Rl,Value.int IntKind.i64 Rr] 48)) (fun i _=>0)
       case atStart=>exact⟨rfl,rfl⟩
       case round=>
        obtain⟨rfl,rfl⟩:=hrel
        rw[show iA sk n 0 ej=[] from wH (i:=0) Zl,Z8] at fY
        gi_wp2
        exact⟨⟨k+1,Zl,rfl,j,_,KE,fY,IB,L7⟩,by simp only[intOf];omega⟩
  · have pG: ¬ (k:Int) < (rows.length:Int):=Zl
    have ou:k=rows.length:=Zl
    rw[aaO (l:=rows.map (·.ej)) (by simp;omega)] at fY
    have KF:j=vC.length:=by
       have:=congrArg List.length fY
       simp[iB] at this;omega
    subst KF
    gi_wp2
    exact⟨rfl,_,results_none (fn:=Tryz.f96) rfl _ _ _,⟨_,rfl⟩,.inl ⟨F,hJ⟩⟩
end Go.Proofs
namespace Go.Proofs
open Go.RowKit Go.AM
section
variable (X:Ctx) (μ:Mu)
def vD:List V→List (Value×Value)→Prop
 | [],[]=>True
 | p::ps,pr::ej=>aj X μ p (.agg #[pr.1,pr.2])∧vD ps ej
 | _,_=>False
def fy:List (List V)→List (Array Value)→Prop
 | [],[]=>True
 | x::xs,v::vs=>ah X μ x v.toList∧fy xs vs
 | _,_=>False
end
variable {X:Ctx} {μ:Mu}
theorem fy.append: ∀ {xs ys:List (List V)} {vs us:List (Array Value)},fy X μ xs vs→fy X μ ys us→fy X μ (xs++ys) (vs++us)
 | [],_,[],_,_,h=>by simpa using h
 | [],_,_::_,_,h,_=>by simp[fy] at h
 | _::_,_,[],_,h,_=>by simp[fy] at h
 | x::xs,ys,v::vs,us,h,h'=>by
   simp only[fy] at h
   simp only[Z2,fy]
   exact⟨h.1,fy.append h.2 h'⟩
theorem fy.length: ∀ {xs:List (List V)} {vs:List (Array Value)},fy X μ xs vs→vs.length=xs.length
 | [],[],_=>rfl
 | [],_::_,h=>by simp[fy] at h
 | _::_,[],h=>by simp[fy] at h
 | _::_,_::_,h=>by simp only[fy] at h;simp[fy.length h.2]
theorem fy.get: ∀ {xs:List (List V)} {vs:List (Array Value)},fy X μ xs vs→ ∀ {i:Nat} {x:List V} {v:Array Value},xs[i]? =some x→vs[i]? =some v→ah X μ x v.toList
 | [],_,_,i,x,v,hx,_=>by simp at hx
 | _::_,[],h,_,_,_,_,_=>by simp[fy] at h
 | y::ys,u::us,h,i,x,v,hx,hv=>by
   simp only[fy] at h
   cases i with
   | zero=>simp at hx hv;subst hx hv;exact h.1
   | succ i=>simp at hx hv;exact fy.get h.2 hx hv
theorem zZ (skip:Bool) (n:Int): ∀ {ps:List V} {ej:List (Value×Value)} (i:Nat),vD X μ ps ej→fy X μ (tO skip n i ps) (iA skip n i ej)
 | [],[],_,_=>by simp[tO,iA,fy]
 | [],_::_,_,h=>by simp[vD] at h
 | _::_,[],_,h=>by simp[vD] at h
 | [_],[_],_,_=>by simp[tO,iA,fy]
 | [_],_::_::_,_,h=>by simp[vD] at h
 | _::_::_,[_],_,h=>by simp[vD] at h
 | p::q::rest,pr::qr::rr,i,h=>by
   simp only[vD] at h
   rw[tO,iA]
   refine fy.append ?_ (zZ skip n (i+1) (by simp only[vD];exact h.2))
   split
   ·simp[fy]
   ·simp only[fy,ah,and_true]
    exact⟨h.1,h.2.1⟩
theorem uE {w:World} {b off sz:Nat} {v:Value} {vs:List Value} (h:cM w b off sz (v::vs)):cM w b (off+sz) sz vs:=fun i u hu=>by
 obtain⟨h1,h2⟩:=h (i+1) u (by simpa using hu)
 refine⟨h1,fun j c hc=> ?_⟩
 have:=h2 j c hc
 rwa [show off+(i+1)*sz+j=off+sz+i*sz+j by rw[ZR];omega] at this
theorem Hh: ∀ {ps:List V} {vs:List Value} {b o:Nat},ah X μ ps vs→ps.all IP=true→cM μ.w b o 2 vs→
   ∃ej:List (Value×Value),ej.length=ps.length∧vD X μ ps ej∧ ∀ (i:Nat) p,ej[i]? =some p→μ.w.cell? ⟨b,o+i*2,none⟩=some p.1∧μ.w.cell? ⟨b,o+i*2+1,none⟩=some p.2
 | [],[],_,_,_,_,_=> ⟨[],rfl,trivial,fun i p h=>by simp at h⟩
 | [],_::_,_,_,h,_,_=>by simp[ah] at h
 | _::_,[],_,_,h,_,_=>by simp[ah] at h
 | p::ps,v::vs,b,o,h,ha,hr=>by
   simp only[ah] at h
   simp only[aad,Zt] at ha
   obtain⟨ej,e1,e2,e3⟩:=Hh h.2 ha.2 (uE hr)
   match p,ha.1,h.1 with
   | .agg [x,y],_,hv=>
     obtain⟨hc,us,rfl,hu⟩:=(show _∧ ∃vs,v= .agg vs∧ah X μ [x,y] vs.toList by simpa only[aj] using hv)
     obtain⟨us⟩:=us
     match us,hu with
     | [a,c],hu=>
       refine⟨(a,c)::ej,by simp[e1],⟨by simp only[aj];exact⟨hc,_,rfl,hu⟩,e2⟩,fun i q hq=> ?_⟩
       cases i with
       | zero=>
         simp at hq;subst hq
         have:=(hr 0 _ rfl).2
         exact⟨by simpa using this 0 a (by simp[Value.cells]),by simpa using this 1 c (by simp[Value.cells])⟩
       | succ i=>
         have:=e3 i q (by simpa using hq)
         rwa [show o+2+i*2=o+(i+1)*2 by omega] at this
theorem DG { e n:Int}: ∀ {es:List V} {vs:List Value} {b o k:Nat} {xs:List (List V)},ah X μ es vs→es.all V.cq=true→yZ e n k es=some xs→cM μ.w b o 4 vs→
   ∃rows:List KC,rows.length=es.length∧fy X μ xs (iB e n k (rows.map (·.ej)))∧ ∀ (i:Nat) R,rows[i]? =some R→
    (μ.w.cell? ⟨b,o+i*4,none⟩=some (.int .i64 R.id)∧μ.w.cell? ⟨b,o+i*4+1,none⟩=some (.slice R.a R.ej.length R.cap)∧μ.w.cell? ⟨b,o+i*4+2,none⟩=some (.int .i64 R.l)∧μ.w.cell? ⟨b,o+i*4+3,none⟩=some (.int .i64 R.r))∧
    (R.ej≠[]→ ∃b2 o2,R.a=some ⟨b2,o2,none⟩∧(b2<μ.w.heap.size∧ ¬μ.own b2)∧ ∀ (i:Nat) p,R.ej[i]? =some p→μ.w.cell? ⟨b2,o2+i*2,none⟩=some p.1∧μ.w.cell? ⟨b2,o2+i*2+1,none⟩=some p.2)∧R.ej.length< 4611686018427387904
 | [],[],_,_,k,xs,_,_,hx,_=>by
   simp only[yZ,Zr] at hx
   subst hx
   exact⟨[],rfl,by simp[iB,fy],fun i R h=>by simp at h⟩
 | [],_::_,_,_,_,_,h,_,_,_=>by simp[ah] at h
 | _::_,[],_,_,_,_,h,_,_,_=>by simp[ah] at h
 | y::es,v::vs,b,o,k,xs,h,hl,hx,hr=>by
   simp only[ah] at h
   simp only[aad,Zt] at hl
   unfold yZ at hx
   split at hx
   ·simp at*
   ·rename_i k' z1 ps z2 z3 kp heq
    injection heq with hy he
    subst hy he
    split at hx
    case isFalse=>simp at hx
    case isTrue hb=>
     obtain⟨IC,wb,rfl⟩:=Zq.1 hx
     obtain⟨rows,r1,r2,r3⟩:=DG h.2 hl.2 wb (uE hr)
     have hv:=h.1
     simp only[aj] at hv
     obtain⟨hc,us,rfl,hu⟩:=hv
     obtain⟨us⟩:=us
     match us,hu with
     | [u0,u1,u2,u3],hu=>
       simp only[ah,aj,and_true] at hu
       obtain⟨rfl,⟨ki,A8,a,cap,We,rfl,b7,la,Pq⟩,rfl,rfl⟩:=hu
       have fL:=(hr 0 _ rfl).2
       have k0:=fL 0 (.int .i64 z1) (by simp[Value.cells])
       have k1:=fL 1 (.slice a ps.length cap) (by simp[Value.cells])
       have k2:=fL 2 (.int .i64 z2) (by simp[Value.cells])
       have k3:=fL 3 (.int .i64 z3) (by simp[Value.cells])
       have JD: ∃ej:List (Value×Value),ej.length=ps.length∧vD X μ ps ej∧(ej≠[]→ ∃b2 o2,a=some ⟨b2,o2,none⟩∧(b2<μ.w.heap.size∧ ¬μ.own b2)∧ ∀ (i:Nat) p,ej[i]? =some p→μ.w.cell? ⟨b2,o2+i*2,none⟩=some p.1∧μ.w.cell? ⟨b2,o2+i*2+1,none⟩=some p.2):=by
          rcases Pq with rfl| ⟨b2,o2,rfl,ig,bz,cE⟩
          ·exact⟨[],rfl,trivial,fun h=>absurd rfl h⟩
          · obtain⟨ej,e1,e2,e3⟩:=Hh la hb.2 cE
            exact⟨ej,e1,e2,fun _=> ⟨b2,o2,rfl,⟨bz,fun h=>ig (.inl h)⟩,e3⟩⟩
       obtain⟨ej,e1,e2,e3⟩:=JD
       refine⟨⟨z1,a,cap,z2,z3,ej⟩::rows,by simp[r1],?_,fun i R hR=> ?_⟩
       ·  simp only[List.map_cons,iB]
          exact fy.append (zZ _ _ 0 e2) r2
       ·  cases i with
          | zero=>
            simp at hR;subst hR
            exact⟨⟨by simpa using k0,by rw[e1];simpa using k1,by simpa using k2,by simpa using k3⟩,e3,by show ej.length<_;rw[e1];exact hb.1⟩
          | succ i=>
            have:=r3 i R (by simpa using hR)
            rwa [show o+4+i*4=o+(i+1)*4 by omega] at this
   ·simp at hx
theorem Cf (args:Array Value) (w:World): (callFunc 96 args).run Tryz.prog w= .ok (.enter 96 args) w:=by
 obtain⟨c,hc⟩: ∃c,Tryz.f96.body=some c:=⟨_,rfl⟩
 have hn:Tryz.f96.name≠ "runtime.NumGoroutine" :=Zn
 simp[callFunc,Sem.run_bind,program,Sem.run,Tryz.func96,hc,hn]
theorem z6 (  fn:FuncId→Option Nat) (tn:TypeId→Option Nat) (g:Nat) (hg:fn 96=some g):qq ⟨Tryz.prog,fn,tn⟩ g FU:=by
 refine⟨96,hg,fun caps xs rp B K μ lb Ba ho=> ?_⟩
 refine⟨Cf,?_⟩
 unfold FU at rp
 split at rp
 ·rename_i es y1 y2 y3 e n cs
  split at rp
  case isFalse=>simp at rp
  case isTrue hb=>
   obtain⟨lb⟩:=lb
   match lb,Ba with
   | [vm,vc],Ba=>
     simp only[ah,aj,and_true] at Ba
     obtain⟨⟨_,ID,bm,om,YX,xm,rfl,Ty,Pz,⟨_,um,rfl,Q1⟩,PA⟩,⟨_,_,bc,oc,YY,xc,rfl,Tz,L9,⟨_,uc,rfl,Q3⟩,Vr⟩⟩:=Ba
     obtain⟨um⟩:=um
     obtain⟨uc⟩:=uc
     match um,Q1,uc,Q3 with
     |  [s0,s1,s2,s3],Q1,c0::c1::Vs,Q3=>
        simp only[ah,aj,and_true] at Q1 Q3
        obtain⟨⟨ki,A8,a,cap,vs,rfl,b7,la,Pq⟩,_⟩:=Q1
        obtain⟨rfl,rfl,_⟩:=Q3
        have m0:=(PA 0 _ rfl).2 0 _ (show (Value.agg _).cells[0]? =some (.slice a es.length cap) by simp[Value.cells])
        have q0:=(Vr 0 _ rfl).2 0 _ (show (Value.agg _).cells[0]? =some (.int .i64 e) by simp[Value.cells])
        have q1:=(Vr 0 _ rfl).2 1 _ (show (Value.agg _).cells[1]? =some (.int .i64 n) by simp[Value.cells])
        obtain⟨b,off,IE,JE,cE⟩: ∃b off,(es≠[]→a=some ⟨b,off,none⟩)∧(es≠[]→b<μ.w.heap.size∧ ¬μ.own b)∧cM μ.w b off 4 vs:=by
          rcases Pq with rfl| ⟨b,off,rfl,ig,bz,cE⟩
          · refine⟨0,0,fun h=>absurd rfl h,fun h=>absurd rfl h,?_⟩
            have QZ:vs=[]:=by cases vs with
             | nil=>rfl
             | cons v vs=>simp[ah] at la
            subst QZ
            intro i v h;simp at h
          ·exact⟨b,off,fun _=>rfl,fun _=> ⟨bz,fun h=>ig (.inl h)⟩,cE⟩
        obtain⟨rows,r1,r2,r3⟩:=DG la A8 rp cE
        refine⟨iB e n 0 (rows.map (·.ej)),r2.length,fun i x v hx hv=>r2.get hx hv,fun l J Jx W0 jI hJ Tp hY h0=> ?_⟩
        have jS: ∀ (a:Addr) v,a.block<μ.w.heap.size→μ.w.cell? a=some v→W0.cell? a=some v:=fun a v h1 h2=>by rw[←h2];exact World.cell?_of_block (jI.block a.block h1)
        have bQ:rows≠[]→es≠[]:=fun h he=>h (by subst he;simpa using r1)
        have key:=Hf l bm (om+0) bc (oc+0) b off cap a e n rows (by rw[r1];exact hb.1) (fun R hR=>by
            obtain⟨i,hi⟩:=aaF hR
            exact(r3 i R hi).2.2) hb.2.1 hb.2.2 (fun b=>b<μ.w.heap.size∧ ¬μ.own b) J Jx (fun k F A B h1 h2=>hJ.grow k F A B h1 h2) (fun k F F' A h1 h2=>hJ.less k F F' A h1 h2)
          (iB e n 0 (rows.map (·.ej))) rfl (fun k F W1 v hv Ts=>uC (hY k F W1 v hv Ts) (fun ex W' h=>h.imp (fun h=> ⟨h.1,h.2.1,fun b hb=>hb.elim (fun hb=>h.2.2.1 b hb.1 hb.2) (fun hb=>h.2.2.2 b hb)⟩) id))
          W0 ⟨Pz,fun h=>Ty (.inl h)⟩ ⟨L9,fun h=>Tz (.inl h)⟩ (fun h=>JE (bQ h)) (fun h=>IE (bQ h)) (by rw[r1];exact jS _ _ Pz (by simpa using m0)) (jS _ _ L9 (by simpa using q0)) (jS _ _ L9 (by simpa using q1))
          (fun k R hR=>by
            have bz:b<μ.w.heap.size:=(JE (bQ (by intro h;rw[h] at hR;simp at hR))).1
            obtain⟨⟨w0,w1,w2,w3⟩,_⟩:=r3 k R hR
            exact⟨jS _ _ bz w0,jS _ _ bz w1,jS _ _ bz w2,jS _ _ bz w3⟩)
          (fun k R hR hp=>by
            obtain⟨b2,o2,z1,z2,z3⟩:=(r3 k R hR).2.1 hp
            exact⟨b2,o2,z1,z2,fun i p h=> ⟨jS _ _ z2.1 (z3 i p h).1,jS _ _ z2.1 (z3 i p h).2⟩⟩) h0
        exact callsIn_wide.2 (callsIn_wide.1 key)
 ·simp at rp
#print axioms z6
end Go.Proofs
