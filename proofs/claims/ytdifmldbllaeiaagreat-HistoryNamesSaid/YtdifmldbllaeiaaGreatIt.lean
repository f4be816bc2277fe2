/- Texts of the proof. -/
import Derived.Test.YtdifmldbllaeiaaGreatOpsC
import Derived.StillTailTactics
import Derived.Test.YtdifmldbllaeiaaGreatProg
import Derived.RangeFuncNested
import Derived.RangeFuncLeaves
import Derived.Shelf.Abstract
import Derived.Shelf.RegionOpen
import Derived.WalkKit
import Derived.OwnWalkIn
import Derived.TacticsInMore
import Derived.LoopNIn
import Derived.LoopIn
set_option maxHeartbeats 4000000
set_option linter.unusedSimpArgs false
set_option linter.unusedVariables false
namespace Go.Proofs
open Go.RowKit Go.Shelf Go.AM
attribute [local go_sem] Oper.semAt_some
@[local go_sem] theorem adS: (Fr none).round=none:=rfl
set_option maxRecDepth 100000 in
theorem Tq (l Bs Bo b off len cap:Nat) (vs:List (List Value)) (hlen:vs.length=len) (h2: ∀v ∈ vs,∃x y,v=[x,y]) (hbig:len< 4611686018427387904) (Kp:World->World->Prop) (d: ∀ {A B C},Kp A B->Kp B C->Kp A C) (h: ∀A,Kp A A)
  (m: ∀ {A B},Kp A B->A.cell? ⟨Bs,Bo,none⟩=some (.slice (some ⟨b,off,none⟩) len cap)->B.cell? ⟨Bs,Bo,none⟩=some (.slice (some ⟨b,off,none⟩) len cap))
  (a: ∀ {A B} j v,Kp A B->A.cell? ⟨b,j,none⟩=some v->B.cell? ⟨b,j,none⟩=some v)
  (Tr: ∀A:World,Kp A A.drew) (J Jx:Nat->World->Prop) (o: ∀k W,J k W->J k W.drew)
  (hY: ∀ (k:Nat) W1 x y z u,k+1 <len->vs[k]? =some [x,y]->vs[k+1]? =some [z,u]->J k W1->YieldAt (Fr none) 0 Tryz.prog l #[.int .i64 k,.agg #[x,y,z,u]] W1 fun e W'=>
    (e= .returned (.bool true)/\J (k+1) W'/\Kp W1 W')\/(e= .returned (.bool false)/\Jx (k+1) W'))
  (W:World) (p:W.cell? ⟨Bs,Bo,none⟩=some (.slice (some ⟨b,off,none⟩) len cap)) (hc: ∀ (j:Nat) x y,vs[j]? =some [x,y]->W.cell? ⟨b,off+j*2,none⟩=some x/\W.cell? ⟨b,off+j*2+1,none⟩=some y) (h0:J 0 W):
  CallsIn (Fr none) 1 Tryz.prog 284 #[.func (.yield l) #[] #[],.pointer (some ⟨Bs,Bo,none⟩)] W fun e W'=> (∃v,e= .returned v)/\(J (len - 1) W'\/ ∃k,k<=len - 1/\Jx k W'):=by
 refine callsIn_of_wp Tryz.func284 rfl trivial ?_ rfl;simp only[Tryz.ntmps284,alf,ajC,ajJ,Nat.reduceAdd,Nat.reduceSub,alb,alc,aly,alo,aj8,ajK];have F7:Tryz.prog.follows .mixedOrders=true:=ajn
 gi_wp2
 gi_loopw [3] (fun i wr=> ∃k:Nat,k<=len - 1/\i= .int .i64 k/\J k wr/\Kp W wr) (fun i _=>len - (intOf i).toNat)
 case atStart=>exact⟨0,akk _,rfl,h0,h _⟩
 case round=>
  obtain⟨k,L,rfl,f,Ew⟩:=hrel;have q:=m Ew p;by_cases F:k+1 <len
  . obtain⟨x,y,P1⟩:=h2 vs[k] (aky ajk)
    obtain⟨z,u,r⟩:=h2 vs[k+1] (aky ajk);have P8:vs[k]? =some [x,y]:=by rw[aju ajk,P1]
    have Kx:vs[k+1]? =some [z,u]:=by rw[aju ajk,r]
    obtain⟨fn,tmps,assign,body,hy,E⟩:=hY k wr.drew x y z u F P8 Kx (o _ _ f);have Al:k<len:=ajk;have JR: (k:Int)+1 < (len:Int):=ajk;have s: (0:Int)<=(k:Int)+1:=ajk;have VM:IntKind.i64.wrap ((k:Int)+1)=(k:Int)+1:=bo ajk ajk;have t: ((k:Int)+1).toNat=k+1:=ajk;have c1:=a _ _ Ew (hc k x y P8).1;have c2:=a _ _ Ew (hc k x y P8).2;have c3:=a _ _ Ew (hc (k+1) z u Kx).1;have c4:=a _ _ Ew (hc (k+1) z u Kx).2
    gi_wp2
    have WU:=E.mono (R':=fun e W'=> ∃g,e= .returned (.bool g)/\(g=true->J (k+1) W'/\Kp wr.drew W')/\(g=false->Jx (k+1) W')) (by
       rintro e W' (⟨rfl,w,G⟩ | ⟨rfl,w⟩)
       .exact⟨true,rfl,fun _=> ⟨w,G⟩,ajl⟩
       .exact⟨false,rfl,ajl,fun _=>w⟩)
    clear E;refine B2 (n:=0) (jZ 12 F7 ajn ajn ?_);simp only[akn,akR,alF,List.drop_zero];change wpStill _ _ (World.drew wr) (fun a'=>wpListIn _ _ _ _ _ _ a' (World.drew wr)) _ _
    iterate 12 (refine wpStill_step (fun K c=> ?_);go_simp; (try simp only[VM,t,JR,s,Al,and_self,if_true,true_and,go_sem]); (try simp only[c1,c2,c3,c4,q,World.Lc,go_sem]);refine c _ ?_;clear c K)
    refine wpStill_nil ?_;refine wpListIn_step (fun K c=> ?_)
    go_simp
    refine⟨rfl,RoundIn.mono WU ?_⟩;rintro e W3 ⟨g,rfl,Wu,OS⟩;refine c _ _ ?_;clear c K;refine wpListIn_step (fun K c=> ?_)
    go_simp
    refine c _ _ ?_;clear c K;refine wpListIn_nil ?_;rename_i D H Qf;refine Qf _ _ ?_;cases g
    .  clear Qf D WU
       gi_wp2
       refine⟨rfl,_,results_none (fn:=Tryz.f284) rfl _ _ _,⟨_,rfl⟩,?_⟩;exact .inr ⟨k+1,ajk,OS trivial⟩
    gi_wp2
    exact⟨⟨k+1,ajk,rfl,(Wu rfl).1,d Ew (d (Tr _) (Wu rfl).2)⟩,by simp only[intOf];omega⟩
  have JR: ¬ (k:Int)+1 < (len:Int):=ajk;have VM:IntKind.i64.wrap ((k:Int)+1)=(k:Int)+1:=bo ajk ajk
  gi_wp2
  have I:k=len - 1:=ajk;refine⟨rfl,_,results_none (fn:=Tryz.f284) rfl _ _ _,⟨_,rfl⟩,?_⟩;exact .inl (I ▸ f)
set_option maxRecDepth 100000 in
theorem Ey (l Bs Bo cap:Nat) (a0:Option Addr) (J Jx:Nat->World->Prop) (b: ∀k W,J k W->J k W.drew)
  (W:World) (c:W.cell? ⟨Bs,Bo,none⟩=some (.slice a0 0 cap)) (h0:J 0 W):
  CallsIn (Fr none) 1 Tryz.prog 284 #[.func (.yield l) #[] #[],.pointer (some ⟨Bs,Bo,none⟩)] W fun e W'=> (∃v,e= .returned v)/\(J 0 W'\/ ∃k,k<=0/\Jx k W'):=by
 refine callsIn_of_wp Tryz.func284 rfl trivial ?_ rfl;simp only[Tryz.ntmps284,alf,ajC,ajJ,Nat.reduceAdd,Nat.reduceSub,alb,alc,aly,alo,aj8,ajK];have F7:Tryz.prog.follows .mixedOrders=true:=ajn
 gi_wp2
 gi_loopw [3] (fun i wr=>i= .int .i64 0/\J 0 wr/\wr=W) (fun i _=>0)
 case atStart=>exact⟨rfl,h0,rfl⟩
 case round=>
  obtain⟨rfl,a,rfl⟩:=hrel;have VM:IntKind.i64.wrap ((0:Int)+1)=1:=ajm
  gi_wp2
  refine⟨rfl,_,results_none (fn:=Tryz.f284) rfl _ _ _,⟨_,rfl⟩,?_⟩;exact .inl a
theorem vb (A:World):A.grownBy A.drew none:=⟨rfl,rfl,rfl,ajw _,fun _ _ _=>rfl⟩
end Go.Proofs
namespace Go.Proofs
open Go.RowKit Go.AM
theorem rN: ∀ (ps:List V) (i:Nat),(fN i ps).length=ps.length - 1
 | [],_=>rfl
 | [_],_=>rfl
 | _::q::rest,i=>by simp only[fN,ajC,rN (q::rest)];omega
theorem lr: ∀ (ps:List V) (i k:Nat) x,(fN i ps)[k]? =some x-> ∃p q,ps[k]? =some p/\ps[k+1]? =some q/\x=[.int .i64 ((i+k:Nat):Int),.agg (p.cells++q.cells)]
 | [],i,k,x,h=>by simp[fN] at h
 | [_],i,k,x,h=>by simp[fN] at h
 | p::q::rest,i,k,x,h=>by
   cases k with
   | zero=>simp[fN] at h;exact⟨p,q,ajl,ajl,h ▸ by simp⟩
   | succ k=>
     simp only[fN,akf] at h;obtain⟨a,b,h1,h2,rfl⟩:=lr (q::rest) (i+1) k x h;exact⟨a,b,by simpa using h1,by simpa using h2,by rw[show i+1+k=i+(k+1) by omega]⟩
def Pa (vs:List Value) (n:Nat):List (Array Value):=(List.range n).map fun (k:Nat)=> #[.int .i64 (((k:Nat):Int)),.agg ((vs.getD k undef).cells++(vs.getD (k+1) undef).cells)]
theorem Ld (args:Array Value) (w:World): (callFunc 284 args).run Tryz.prog w= .ok (.enter 284 args) w:=by obtain⟨c,hc⟩: ∃c,Tryz.f284.body=some c:=⟨_,rfl⟩;have hn:Tryz.f284.name≠ "runtime.NumGoroutine" :=ajm;simp[callFunc,Sem.run_bind,program,Sem.run,Tryz.func284,hc,hn]
theorem vd {F:Fence} {n:Nat} {P:Program} {l:Nat} {v:Array Value} {W:World} {R R':Ending->World->Prop} (h:YieldAt F n P l v W R) (hm: ∀e W',R e W'->R' e W'):YieldAt F n P l v W R':=by obtain⟨fn,tmps,assign,body,hy,a⟩:=h;exact⟨fn,tmps,assign,body,hy,a.mono hm⟩
theorem B3 {F:Fence} {n:Nat} {P:Program} {g:Nat} {args:Array Value} {W:World} {J:Nat->(Nat->Prop)->World->Prop} {Jx:Nat->World->Prop} {m:Nat} {F0:Nat->Prop} (h:CallsIn F n P g args W fun e W'=> (∃v,e= .returned v)/\(J m F0 W'\/ ∃k,k<=m/\Jx k W')):
  CallsIn F n P g args W fun e W'=> (∃v,e= .returned v)/\((∃F,J m F W')\/ ∃k,k<=m/\Jx k W'):=
 CallsIn.mono h fun e W' h=> ⟨h.1,h.2.imp (fun h=> ⟨_,h⟩) id⟩
theorem Iz (   fn:FuncId->Option Nat) (R:TypeId->Option Nat) (g:Nat) (hg:fn 284=some g):rW ⟨Tryz.prog,fn,R⟩ g Mj:=by
 refine⟨284,hg,fun caps xs d B K μ lb c ho=> ?_⟩;refine⟨Ld,?_⟩
 match caps,d,c with
 | [.eptr .nils 0],d,c=>
   simp only[Mj,ajq] at d;subst d;obtain⟨lb⟩:=lb
   match lb,c with
   | [v],c=>
     simp only[ag,and_true] at c;obtain⟨_,_,b,o,sz,x,rfl,S,s,⟨a,rfl⟩,C⟩:=c;have hr:=(C 0 _ rfl).2 0 (.slice a 0 0) (by simp[Value.cells]);simp only[Nat.zero_mul,akQ] at hr;refine⟨[],rfl,fun i x v h=>by simp at h,fun l J Jx W0 f m r hY h0=> ?_⟩;have hc:W0.cell? ⟨b,o,none⟩=some (.slice a 0 0):=by rw[<-hr];exact World.cell?_of_block (f.block b s)
     exact B3 (callsIn_wide.2 (callsIn_wide.1 (Ey l b o 0 a (fun k W=>J k (fun _=>False) W) Jx (fun k W h=>m.less k _ _ _ (m.grow k _ W _ h (vb W)) (fun b hb=>hb.elim)) W0 hc h0)))
 | [.eptr (.lit 2 ps) 0],d,c=>
   simp only[Mj] at d;split at d
   case isFalse=>simp at d
   case isTrue hbig=>
     simp only[ajq] at d;subst d;obtain⟨lb⟩:=lb
     match lb,c with
     | [v],c=>
       simp only[ag,and_true] at c;obtain⟨_,_,b,o,sz,x,rfl,S,s,⟨ot,G0,a,cap,vs,rfl,cW,T,D⟩,C⟩:=c;have hr:=(C 0 _ rfl).2 0 (.slice a ps.length cap) (by simp[Value.cells]);simp only[Nat.zero_mul,akQ] at hr;have Ez:vs.length=ps.length:=T.length.symm;have U: ∀W0,Below μ.w.heap.size μ.w W0->W0.cell? ⟨b,o,none⟩=some (.slice a ps.length cap):=fun W0 f=>by rw[<-hr];exact World.cell?_of_block (f.block b s)
       have E: ∀p ∈ ps,p.dw=true:=ajx.1 G0;rcases D with rfl| ⟨t,o2,rfl,F,G,Yd⟩
       . refine⟨[],rfl,fun i x v h=>by simp[fN] at h,fun l J Jx W0 f m r hY h0=> ?_⟩
         exact B3 (callsIn_wide.2 (callsIn_wide.1 (Ey l b o cap a (fun k W=>J k (fun _=>False) W) Jx (fun k W h=>m.less k _ _ _ (m.grow k _ W _ h (vb W)) (fun b hb=>hb.elim)) W0 (U W0 f) h0)))
       have H: ∀k p,ps[k]? =some p-> ∃v x y,vs[k]? =some v/\aj ⟨⟨Tryz.prog,fn,R⟩,B,K⟩ μ p v/\p.dw=true/\v.cells= #[x,y]:=fun k p hp=>by
         obtain⟨v,hv,M0⟩:=T.get hp;have hs:=(Yd k v hv).1;obtain⟨cs,V⟩: ∃cs,v.cells=cs:=⟨_,rfl⟩;rw[V] at hs;obtain⟨cs⟩:=cs
         match cs,hs with
         | [x,y],_=>exact⟨v,x,y,hv,M0,E p (List.mem_of_getElem? hp),V⟩
       have I: ∀ (k:Nat) v,vs[k]? =some v-> ∃x y,v.cells= #[x,y]:=fun k v hv=>by
         have n:k<ps.length:=by rw[<-Ez];exact(ajp.1 hv).1
         obtain⟨v',x,y,h1,_,_,h2⟩:=H k _ (aju n);rw[hv] at h1;injection h1 with h1;subst h1;exact⟨x,y,h2⟩
       refine⟨Pa vs (ps.length - 1),by rw[rN];simp[Pa],fun i x v hx hv=> ?_,fun l J Jx W0 f m r hY h0=> ?_⟩
       . obtain⟨p,q,hp,Z,rfl⟩:=lr ps 0 i x hx
         obtain⟨L,x1,y1,h1,h2,h3,h4⟩:=H i p hp;obtain⟨v2,x2,y2,k1,X,Y,k4⟩:=H (i+1) q Z;simp only[Pa,ajF,ajr] at hv;obtain⟨i',pG,rfl⟩:=hv;obtain⟨_,rfl⟩:=ajp.1 pG;simp only[List.getElem_range,akc,h1,k1,alC];refine⟨by simp[aj],⟨by rw[akL,h2.mw h3,X.mw Y];rfl,_,rfl,?_⟩,trivial⟩;rw[Array.toList_append];exact ag.append (h2.cells h3) (X.cells Y)
       have zn: (Pa vs (ps.length - 1)).length=ps.length - 1:=by unfold Pa;rw[List.length_map,List.length_range]
       have Lf: ∀ (k:Nat) x y,(vs.map fun v=>v.cells.toList)[k]? =some [x,y]-> ∃v,vs[k]? =some v/\v.cells= #[x,y]:=fun k x y h=>by simp only[ajF,ajr] at h;obtain⟨v,h1,h2⟩:=h;exact⟨v,h1,by rw[<-h2]⟩
       have key:=Tq l b o t o2 ps.length cap (vs.map fun v=>v.cells.toList) (by simpa using Ez) (fun v hv=>by obtain⟨v0,M,rfl⟩:=ajL.1 hv;obtain⟨k,n,JR⟩:=List.mem_iff_getElem.1 M;obtain⟨x,y,h⟩:=I k v0 (by rw[aju n,JR]);exact⟨x,y,by rw[h]⟩) hbig (Kept μ)
        (fun h1 h2 b hb hn=> (h2 b hb hn).trans (h1 b hb hn)) (fun A b hb hn=>rfl)
        (fun {A B} n h=>by rw[<-h];exact World.cell?_of_block (n b s fun h=>S (.inl h)))
        (fun {A B} j v n h=>by rw[<-h];exact World.cell?_of_block (n t G fun h=>F (.inl h)))
        (fun A b hb hn=>rfl) (fun k W=>J k (fun _=>False) W) Jx (fun k W h=>m.less k _ _ _ (m.grow k _ W _ h (vb W)) (fun b hb=>hb.elim))
        (fun k W1 x y z u n h1 h2 N=>by obtain⟨L,O,P⟩:=Lf k x y h1;obtain⟨v2,e3,e4⟩:=Lf (k+1) z u h2;refine vd (hY k _ W1 _ ?_ N) (fun e W' h=>h.imp (fun h=> ⟨h.1,h.2.1,h.2.2.1⟩) id);simp only[Pa,ajF,alE (show k<ps.length - 1 by omega),ajE,akc,O,e3,alC,P,e4];rfl) W0 (U W0 f)
        (fun j x y h=>by
          obtain⟨L,O,P⟩:=Lf j x y h;have Q:=(Yd j L O).2;rw[P] at Q;have c1:=Q 0 x rfl;have c2:=Q 1 y rfl;refine⟨?_,?_⟩
          .rw[World.cell?_of_block (f.block t G)];simpa using c1
          .rw[World.cell?_of_block (f.block t G)];exact c2) h0
       rw[zn];exact B3 (callsIn_wide.2 (callsIn_wide.1 key))
#print axioms Iz
end Go.Proofs
namespace Go.Proofs
open Go.RowKit Go.Shelf Go.AM
attribute [local go_sem] Oper.semAt_some Ac Mh Bool.true_or Bool.or_true Bool.false_or Bool.or_false decide_true decide_false
@[local go_sem] theorem aa0: (Fr none).round=none:=rfl
def lQ (skip:Bool) (n:Int):Nat->List (Value×Value)->List (Array Value)
 | i,p::q::rest=> (if skip && (decide ((i:Int)=n - 1) || decide ((i:Int)=n)) then [] else [#[.agg #[p.1,p.2],.agg #[q.1,q.2]]])++lQ skip n (i+1) (q::rest)
 | _,_=> []
def lS (e n:Int):Nat->List (List (Value×Value))->List (Array Value)
 | _,[]=> []
 | k,ps::rest=>lQ (decide ((k:Int)=e)) n 0 ps++lS e n (k+1) rest
structure Ye where
 id:Int
 a:Option Addr
 cap:Nat
 l:Int
 r:Int
 im:List (Value×Value)
theorem Lg {skip:Bool} {n:Int} {i:Nat} {ps:List (Value×Value)} {p q:Value×Value} (hp:ps[i]? =some p) (a:ps[i+1]? =some q):
  lQ skip n i (ps.drop i)=(if skip && (decide ((i:Int)=n - 1) || decide ((i:Int)=n)) then [] else [#[.agg #[p.1,p.2],.agg #[q.1,q.2]]])++lQ skip n (i+1) (ps.drop (i+1)):=by
 obtain⟨h1,rfl⟩:=ajp.1 hp;obtain⟨h2,rfl⟩:=ajp.1 a;rw[ajO h1,ajO h2];rw[lQ]
theorem EA {skip:Bool} {n:Int} {i:Nat} {ps:List (Value×Value)} (h:ps.length - 1<=i):lQ skip n i (ps.drop i)=[]:=by
 rcases hd:ps.drop i with _| ⟨p,_| ⟨q,rest⟩⟩
 .rfl
 .rfl
 have:=congrArg List.length hd;simp at this;omega
theorem Lh {e n:Int} {k:Nat} {rs:List (List (Value×Value))} {ps:List (Value×Value)} (h:rs[k]? =some ps):lS e n k (rs.drop k)=lQ (decide ((k:Int)=e)) n 0 ps++lS e n (k+1) (rs.drop (k+1)):=by obtain⟨h1,rfl⟩:=ajp.1 h;rw[ajO h1,lS]
theorem Li {w:World} {o:Obj} {a:Addr} {v:Value} (h:w.cell? a=some v): (w.alloc o).cell? a=some v:=by
 have b:a.block<w.heap.size:=by
  rcases ak1 a.block w.heap.size with hl| hl
  .exact hl
  simp[World.cell?,akx hl] at h
 rw[<-h];simp only[World.cell?,Below.heap_alloc w o a.block b]
theorem IA (w:World) (o:Obj):w.grownBy (w.alloc o) none:=by have b1:Below w.heap.size w (w.alloc o):=(Below.refl _ w).alloc (ajw _) _;exact⟨b1.os,b1.tape,b1.output,b1.size,fun k a _=>b1.block k a⟩
theorem Ts (A:World):A.grownBy A.drew none:=⟨rfl,rfl,rfl,ajw _,fun _ _ _=>rfl⟩
theorem EB {A B:World} {a:Addr} (h:B.heap[a.block]? =A.heap[a.block]?):B.cell? a=A.cell? a:=by simp only[World.cell?,h]
set_option maxRecDepth 100000 in
theorem Tt (   l Bm Om Bc Oc b off cap:Nat) (a0:Option Addr) (e n:Int) (c:List Ye) (hbig:c.length< 4611686018427387904) (V: ∀R ∈ c,R.im.length< 4611686018427387904) (hn0:0<=n) (hn1:n< 4611686018427387904)
  (S:Nat->Prop) (J:Nat->(Nat->Prop)->World->Prop) (Jx:Nat->World->Prop)
  (C: ∀k F A B,J k F A->A.grownBy B none->J k (fun b=>F b\/(A.heap.size<=b/\b<B.heap.size)) B) (X: ∀k F F' A,J k F A->(∀b,F' b->F b)->J k F' A)
  (ve:List (Array Value)) (WV:ve.drop 0=lS e n 0 (c.map (·.im)))
  (hY: ∀ (k:Nat) F W1 v,ve[k]? =some v->J k F W1->YieldAt (Fr none) 0 Tryz.prog l v W1 fun e W'=>
    (e= .returned (.bool true)/\J (k+1) F W'/\ ∀b,S b\/F b->W'.heap[b]? =W1.heap[b]?)\/(e= .returned (.bool false)/\Jx (k+1) W'))
  (W:World) (hSm:S Bm) (D:S Bc) (M3:c≠[]->S b) (Tu:c≠[]->a0=some ⟨b,off,none⟩) (IB:W.cell? ⟨Bm,Om,none⟩=some (.slice a0 c.length cap))
  (Y:W.cell? ⟨Bc,Oc,none⟩=some (.int .i64 e)) (Z:W.cell? ⟨Bc,Oc+1,none⟩=some (.int .i64 n))
  (hc: ∀ (k:Nat) R,c[k]? =some R->W.cell? ⟨b,off+k*4,none⟩=some (.int .i64 R.id)/\W.cell? ⟨b,off+k*4+1,none⟩=some (.slice R.a R.im.length R.cap)/\W.cell? ⟨b,off+k*4+2,none⟩=some (.int .i64 R.l)/\W.cell? ⟨b,off+k*4+3,none⟩=some (.int .i64 R.r))
  (hpt: ∀ (k:Nat) R,c[k]? =some R->R.im≠[]-> ∃u o2,R.a=some ⟨u,o2,none⟩/\S u/\ ∀ (i:Nat) p,R.im[i]? =some p->W.cell? ⟨u,o2+i*2,none⟩=some p.1/\W.cell? ⟨u,o2+i*2+1,none⟩=some p.2)
  (h0:J 0 (fun _=>False) W):
  CallsIn (Fr none) 1 Tryz.prog 286 #[.func (.yield l) #[] #[],.pointer (some ⟨Bm,Om,none⟩),.pointer (some ⟨Bc,Oc,none⟩)] W fun ex W'=> (∃v,ex= .returned v)/\((∃F,J ve.length F W')\/ ∃k,k<=ve.length/\Jx k W'):=by
 refine callsIn_of_wp Tryz.func286 rfl trivial ?_ rfl;simp only[Tryz.ntmps286,alf,ajC,ajJ,Nat.reduceAdd,Nat.reduceSub,alb,alc,aly,alo,aj8,ajK];have F7:Tryz.prog.follows .mixedOrders=true:=ajn
 gi_wp2
 gi_loopw [10] (fun i wr=> ∃k:Nat,k<=c.length/\i= .int .i64 k/\ ∃j F,J j F wr/\ve.drop j=lS e n k ((c.map (·.im)).drop k)/\j<=ve.length/\ ∀a v,S a.block->W.cell? a=some v->wr.cell? a=some v) (fun i _=>c.length - (intOf i).toNat)
 case atStart=>exact⟨0,akk _,rfl,0,_,h0,WV,akk _,fun a v _ h=>h⟩
 case round=>
  obtain⟨k,hk,rfl,j,F,hJ,f,NU,AB⟩:=hrel;by_cases U:k<c.length
  . have sV: ( k:Int) < (c.length:Int):=ajk
    have w:c[k]? =some c[k]:=aju U;have bW:c≠[]:=by intro h;rw[h] at U;simp at U
    obtain rfl:=Tu bW;replace M3:=M3 bW;clear Tu bW;obtain⟨c0,c1,c2,c3⟩:=hc k _ w;replace c0:=AB _ _ M3 c0;replace c1:=AB _ _ M3 c1;replace c2:=AB _ _ M3 c2;replace c3:=AB _ _ M3 c3;have hRp:=V c[k] (aky U);have WW:=hpt k _ w;have E: (c.map (·.im))[k]? =some c[k].im:=by simp[w]
    rw[Lh E] at f;generalize G:decide ((k:Int)=e)=sk at f;clear E w;generalize c[k]=R at*;obtain⟨Rid,Ra,Gf,Rl,Rr,im⟩:=R;dsimp only at c0 c1 c2 c3 hRp WW f;have zo:=IA wr (Obj.cells #[Value.int IntKind.i64 Rid,Value.slice Ra im.length Gf,Value.int IntKind.i64 Rl,Value.int IntKind.i64 Rr] 100);have Tv: ∀a v,S a.block->W.cell? a=some v->(wr.alloc (Obj.cells #[Value.int IntKind.i64 Rid,Value.slice Ra im.length Gf,Value.int IntKind.i64 Rl,Value.int IntKind.i64 Rr] 100)).cell? a=some v:=fun a v h1 h2=>Li (AB a v h1 h2);have bM: (wr.alloc (Obj.cells #[Value.int IntKind.i64 Rid,Value.slice Ra im.length Gf,Value.int IntKind.i64 Rl,Value.int IntKind.i64 Rr] 100)).heap.size=wr.heap.size+1:=World.size_alloc _ _;have m: (wr.alloc (Obj.cells #[Value.int IntKind.i64 Rid,Value.slice Ra im.length Gf,Value.int IntKind.i64 Rl,Value.int IntKind.i64 Rr] 100)).cell? ⟨wr.heap.size,1,none⟩=some (.slice Ra im.length Gf):=by simp only[World.cell?];rw[World.alloc_heap_new];rfl
    obtain⟨F2,hFx,Va⟩: ∃F2:Nat->Prop,F2 wr.heap.size/\J j F2 (wr.alloc (Obj.cells #[Value.int IntKind.i64 Rid,Value.slice Ra im.length Gf,Value.int IntKind.i64 Rl,Value.int IntKind.i64 Rr] 100)):=
       ⟨_,.inr ⟨ajw _,ajk⟩,C _ _ _ _ hJ zo⟩
    by_cases h1: (1:Int) < (im.length:Int)
    .  have adV: (0:Int)<=(im.length:Int) - 1:=ajk
       obtain⟨u,o2,rfl,q,H⟩:=WW (by intro h;rw[h] at h1;simp at h1)
       gi_wp2
       generalize wr.alloc (Obj.cells #[Value.int IntKind.i64 Rid,Value.slice (some ⟨u,o2,none⟩) im.length Gf,Value.int IntKind.i64 Rl,Value.int IntKind.i64 Rr] 100)=wa at*;generalize wr.heap.size=Bx at*
       gi_loopw [20] (fun i I=> ∃d:Nat,d<=im.length - 1/\i= .int .i64 d/\ ∃g,J g F2 I/\ve.drop g=lQ sk n d (im.drop d)++lS e n (k+1) ((c.map (·.im)).drop (k+1))/\g<=ve.length/\(∀a v,S a.block->W.cell? a=some v->I.cell? a=some v)/\I.cell? ⟨Bx,1,none⟩=some (.slice (some ⟨u,o2,none⟩) im.length Gf)) (fun i _=>im.length - (intOf i).toNat)
       case atStart=>exact⟨0,akk _,rfl,j,Va,by simpa using f,NU,Tv,m⟩
       case round=>
        clear hJ Va f NU AB Tv m;obtain⟨d,pG,rfl,g,Va,f,NU,AB,m⟩:=hrel;have ai8:=AB _ _ D Y;have ai9:=AB _ _ D Z;by_cases oS:d<im.length - 1
        .have X4: (d:Int) < (im.length:Int) - 1:=ajk;have L:im[d]? =some im[d]:=aju ajk;have M:im[d+1]? =some im[d+1]:=aju ajk;rw[Lg L M] at f;obtain⟨p1,p2⟩:=H _ _ L;obtain⟨x,N⟩:=H _ _ M;replace p1:=AB _ _ q p1;replace p2:=AB _ _ q p2;replace x:=AB _ _ q x;replace N:=AB _ _ q N;generalize im[d]=P at*;generalize im[d+1]=Q2 at*;have hwn:IntKind.i64.wrap (n - 1)=n - 1:=bo ajk ajk;by_cases o: (k:Int)=e/\((d:Int)=n - 1\/(d:Int)=n)
         .   obtain⟨s,y⟩:=o
             have Pb:ve.drop g=lQ sk n (d+1) (im.drop (d+1))++lS e n (k+1) ((c.map (·.im)).drop (k+1)):=by rw[f,if_pos (by rw[<-G];simp[s];exact y)];rfl
             rcases y with y| y
             .obtain rfl:n=(d:Int)+1:=ajk;clear y hwn f;have aja:IntKind.i64.wrap ((d:Int)+1 - 1)=(d:Int):=(bo ajk ajk).trans ajk
              gi_wp2
              exact⟨⟨d+1,ajk,rfl,g,Va,Pb,NU,AB,m⟩,by simp only[intOf];omega⟩
             obtain rfl:n=(d:Int):=y.symm;clear f;have WY: ¬ (d:Int)=(d:Int) - 1:=ajk
             gi_wp2
             exact⟨⟨d+1,ajk,rfl,g,Va,Pb,NU,AB,m⟩,by simp only[intOf];omega⟩
         obtain⟨v,z⟩: ∃v:Array Value,v= #[.agg #[P.1,P.2],.agg #[Q2.1,Q2.2]]:=⟨_,rfl⟩;have Lj:ve.drop g=v:: (lQ sk n (d+1) (im.drop (d+1))++lS e n (k+1) ((c.map (·.im)).drop (k+1))):=by rw[f,if_neg (by rw[<-G];simpa using o),z];rfl
         have hv:ve[g]? =some v:=by have:=congrArg (fun l=>l[0]?) Lj;simpa using this
         have Pb:ve.drop (g+1)=lQ sk n (d+1) (im.drop (d+1))++lS e n (k+1) ((c.map (·.im)).drop (k+1)):=by have:=congrArg (List.drop 1) Lj;simpa [akS] using this
         have O:g+1<=ve.length:=(ajp.1 hv).1;have hJd:J g F2 wr.drew:=X _ _ _ _ (C _ _ _ _ Va (Ts wr)) (fun b hb=> .inl hb);obtain⟨fn,tmps,assign,body,hy,w⟩:=hY g F2 wr.drew v hv hJd;rw[z] at hy;have rT: ((k:Int)=e/\ ¬ (d:Int)=n - 1/\ ¬ (d:Int)=n)\/ ¬ (k:Int)=e:=by
          by_cases s: (k:Int)=e
          .exact .inl ⟨s,fun h=>o ⟨s,.inl h⟩,fun h=>o ⟨s,.inr h⟩⟩
          exact .inr s
         have VM:IntKind.i64.wrap ((d:Int)+1)=(d:Int)+1:=bo ajk ajk;have ahT: ((d:Int)+1).toNat=d+1:=ajk;have Al:d<im.length:=ajk;have JR: (d:Int)+1 < (im.length:Int):=ajk;have hk3: (0:Int)<=(d:Int)+1:=ajk;clear o f Lj z;have WU:=w.mono (R':=fun ex W'=> ∃Q,ex= .returned (.bool Q)/\(Q=true->J (g+1) F2 W'/\ ∀b,S b\/F2 b->W'.heap[b]? =wr.drew.heap[b]?)/\(Q=false->Jx (g+1) W')) (by
          rintro ex W' (⟨rfl,x,N⟩ | ⟨rfl,x⟩)
          .exact⟨true,rfl,fun _=> ⟨x,N⟩,ajl⟩
          .exact⟨false,rfl,ajl,fun _=>x⟩)
         clear w;rcases rT with⟨s,y,oW⟩ | s;all_goals
          gi_wp2
          refine B2 (n:=0) (jZ 12 F7 ajn ajn ?_);simp only[akn,akR,alF,List.drop_zero];change wpStill _ _ (World.drew wr) (fun a'=>wpListIn _ _ _ _ _ _ a' (World.drew wr)) _ _
          iterate 12 (refine wpStill_step (fun K t=> ?_);go_simp; (try simp only[VM,ahT,JR,hk3,Al,and_self,if_true,true_and,go_sem]); (try simp only[p1,p2,x,N,m,World.Lc,go_sem]);refine t _ ?_;clear t K)
          refine wpStill_nil ?_;refine wpListIn_step (fun K t=> ?_)
          go_simp
          refine⟨rfl,RoundIn.mono WU ?_⟩;rintro ex W3 ⟨Q,rfl,Wu,OS⟩;refine t _ _ ?_;clear t K;refine wpListIn_step (fun K t=> ?_)
          go_simp
          refine t _ _ ?_;clear t K;refine wpListIn_nil ?_;rename_i Qf;refine Qf _ _ ?_;cases Q
          .clear Qf WU
           gi_wp2
           refine⟨rfl,_,results_none (fn:=Tryz.f286) rfl _ _ _,⟨_,rfl⟩,?_⟩;exact .inr ⟨g+1,O,OS trivial⟩
          .obtain⟨hq3,T⟩:=Wu rfl;clear Qf WU
           gi_wp2
           exact⟨⟨d+1,ajk,rfl,g+1,hq3,Pb,O,fun a v h1 h2=> (EB ((T _ (.inl h1)).trans rfl)).trans (AB a v h1 h2),(EB (a:=⟨Bx,1,none⟩) ((T Bx (.inr hFx)).trans rfl)).trans m⟩,by simp only[intOf];omega⟩
        have X4: ¬ (d:Int) < (im.length:Int) - 1:=ajk;rw[EA ajk,aj8] at f
        gi_wp2
        exact⟨⟨k+1,ajk,rfl,g,F2,Va,f,NU,AB⟩,by simp only[intOf];omega⟩
    have adV: (im.length:Int) - 1<=0:=ajk
    gi_wp2
    gi_loopw [20] (fun i I=>i= .int .i64 0/\I=wr.alloc (Obj.cells #[Value.int IntKind.i64 Rid,Value.slice Ra im.length Gf,Value.int IntKind.i64 Rl,Value.int IntKind.i64 Rr] 100)) (fun i _=>0)
    case atStart=>exact⟨rfl,rfl⟩
    case round=>
     obtain⟨rfl,rfl⟩:=hrel;rw[show lQ sk n 0 im=[] from EA (i:=0) ajk,aj8] at f
     gi_wp2
     exact⟨⟨k+1,ajk,rfl,j,_,Va,f,NU,Tv⟩,by simp only[intOf];omega⟩
  have sV: ¬ (k:Int) < (c.length:Int):=ajk;have s:k=c.length:=ajk;rw[alr (l:=c.map (·.im)) (by simp;omega)] at f;have Vb:j=ve.length:=by have:=congrArg List.length f;simp[lS] at this;omega
  subst Vb
  gi_wp2
  exact⟨rfl,_,results_none (fn:=Tryz.f286) rfl _ _ _,⟨_,rfl⟩,.inl ⟨F,hJ⟩⟩
end Go.Proofs
namespace Go.Proofs
open Go.RowKit Go.AM
section
variable (X:Ctx) (μ:Mu)
def Di:List V->List (Value×Value)->Prop
 | [],[]=>True
 | p::ps,a::im=>aj X μ p (.agg #[a.1,a.2])/\Di ps im
 | _,_=>False
def iY:List (List V)->List (Array Value)->Prop
 | [],[]=>True
 | x::xs,v::vs=>ag X μ x v.toList/\iY xs vs
 | _,_=>False
end
variable {X:Ctx} {μ:Mu}
theorem iY.append: ∀ {xs ys:List (List V)} {vs us:List (Array Value)},iY X μ xs vs->iY X μ ys us->iY X μ (xs++ys) (vs++us)
 | [],_,[],_,_,h=>by simpa using h
 | [],_,_::_,_,h,_=>by simp[iY] at h
 | _::_,_,[],_,h,_=>by simp[iY] at h
 | x::xs,ys,v::vs,us,h,a=>by simp only[iY] at h;simp only[ajK,iY];exact⟨h.1,iY.append h.2 a⟩
theorem iY.length: ∀ {xs:List (List V)} {vs:List (Array Value)},iY X μ xs vs->vs.length=xs.length
 | [],[],_=>rfl
 | [],_::_,h=>by simp[iY] at h
 | _::_,[],h=>by simp[iY] at h
 | _::_,_::_,h=>by simp only[iY] at h;simp[iY.length h.2]
theorem iY.get: ∀ {xs:List (List V)} {vs:List (Array Value)},iY X μ xs vs-> ∀ {i:Nat} {x:List V} {v:Array Value},xs[i]? =some x->vs[i]? =some v->ag X μ x v.toList
 | [],_,_,i,x,v,hx,_=>by simp at hx
 | _::_,[],h,_,_,_,_,_=>by simp[iY] at h
 | y::a,u::b,h,i,x,v,hx,hv=>by
   simp only[iY] at h;cases i with
   | zero=>simp at hx hv;subst hx hv;exact h.1
   | succ i=>simp at hx hv;exact iY.get h.2 hx hv
theorem IC (skip:Bool) (n:Int): ∀ {ps:List V} {im:List (Value×Value)} (i:Nat),Di X μ ps im->iY X μ (AP skip n i ps) (lQ skip n i im)
 | [],[],_,_=>by simp[AP,lQ,iY]
 | [],_::_,_,h=>by simp[Di] at h
 | _::_,[],_,h=>by simp[Di] at h
 | [_],[_],_,_=>by simp[AP,lQ,iY]
 | [_],_::_::_,_,h=>by simp[Di] at h
 | _::_::_,[_],_,h=>by simp[Di] at h
 | p::q::rest,a::b::c,i,h=>by
   simp only[Di] at h;rw[AP,lQ];refine iY.append ?_ (IC skip n (i+1) (by simp only[Di];exact h.2));split
   .simp[iY]
   simp only[iY,ag,and_true];exact⟨h.1,h.2.1⟩
theorem vf {w:World} {b off sz:Nat} {v:Value} {vs:List Value} (h:dL w b off sz (v::vs)):dL w b (off+sz) sz vs:=fun i u a=>by obtain⟨h1,h2⟩:=h (i+1) u (by simpa using a);refine⟨h1,fun j c hc=> ?_⟩;have:=h2 j c hc;rwa [show off+(i+1)*sz+j=off+sz+i*sz+j by rw[aj4];omega] at this
theorem Tw: ∀ {ps:List V} {vs:List Value} {b o:Nat},ag X μ ps vs->ps.all Vq=true->dL μ.w b o 2 vs->
   ∃im:List (Value×Value),im.length=ps.length/\Di X μ ps im/\ ∀ (i:Nat) p,im[i]? =some p->μ.w.cell? ⟨b,o+i*2,none⟩=some p.1/\μ.w.cell? ⟨b,o+i*2+1,none⟩=some p.2
 | [],[],_,_,_,_,_=> ⟨[],rfl,trivial,fun i p h=>by simp at h⟩
 | [],_::_,_,_,h,_,_=>by simp[ag] at h
 | _::_,[],_,_,h,_,_=>by simp[ag] at h
 | p::ps,v::vs,b,o,h,ha,hr=>by
   simp only[ag] at h;simp only[ajM,ajt] at ha;obtain⟨im,g,j,k⟩:=Tw h.2 ha.2 (vf hr)
   match p,ha.1,h.1 with
   | .agg [x,y],_,hv=>
     obtain⟨hc,d,rfl,e⟩:=(show _/\ ∃vs,v= .agg vs/\ag X μ [x,y] vs.toList by simpa only[aj] using hv);obtain⟨d⟩:=d
     match d,e with
     | [a,c],e=>
       refine⟨(a,c)::im,by simp[g],⟨by simp only[aj];exact⟨hc,_,rfl,e⟩,j⟩,fun i q f=> ?_⟩;cases i with
       | zero=>
         simp at f;subst f;have:=(hr 0 _ rfl).2;exact⟨by simpa using this 0 a (by simp[Value.cells]),by simpa using this 1 c (by simp[Value.cells])⟩
       | succ i=>
         have:=k i q (by simpa using f);rwa [show o+2+i*2=o+(i+1)*2 by omega] at this
theorem M4 { e n:Int}: ∀ {es:List V} {vs:List Value} {b o k:Nat} {xs:List (List V)},ag X μ es vs->es.all V.dw=true->Hg e n k es=some xs->dL μ.w b o 4 vs->
   ∃c:List Ye,c.length=es.length/\iY X μ xs (lS e n k (c.map (·.im)))/\ ∀ (i:Nat) R,c[i]? =some R->
    (μ.w.cell? ⟨b,o+i*4,none⟩=some (.int .i64 R.id)/\μ.w.cell? ⟨b,o+i*4+1,none⟩=some (.slice R.a R.im.length R.cap)/\μ.w.cell? ⟨b,o+i*4+2,none⟩=some (.int .i64 R.l)/\μ.w.cell? ⟨b,o+i*4+3,none⟩=some (.int .i64 R.r))/\
    (R.im≠[]-> ∃d o2,R.a=some ⟨d,o2,none⟩/\(d<μ.w.heap.size/\ ¬μ.own d)/\ ∀ (i:Nat) p,R.im[i]? =some p->μ.w.cell? ⟨d,o2+i*2,none⟩=some p.1/\μ.w.cell? ⟨d,o2+i*2+1,none⟩=some p.2)/\R.im.length< 4611686018427387904
 | [],[],_,_,k,xs,_,_,hx,_=>by
   simp only[Hg,ajq] at hx;subst hx;exact⟨[],rfl,by simp[lS,iY],fun i R h=>by simp at h⟩
 | [],_::_,_,_,_,_,h,_,_,_=>by simp[ag] at h
 | _::_,[],_,_,_,_,h,_,_,_=>by simp[ag] at h
 | y::es,v::vs,b,o,k,xs,h,hl,hx,hr=>by
   simp only[ag] at h;simp only[ajM,ajt] at hl;unfold Hg at hx;split at hx
   .simp at*
   .rename_i N z ps A B O m;injection m with hy he;subst hy he;split at hx
    case isFalse=>simp at hx
    case isTrue hb=>
     obtain⟨Tx,C,rfl⟩:=ajr.1 hx;obtain⟨c,r1,r2,D⟩:=M4 h.2 hl.2 C (vf hr);have hv:=h.1;simp only[aj] at hv;obtain⟨hc,q,rfl,f⟩:=hv;obtain⟨q⟩:=q
     match q,f with
     | [P,Q,S,T],f=>
       simp only[ag,aj,and_true] at f;obtain⟨rfl,⟨ot,G0,a,cap,E,rfl,U,F,s⟩,rfl,rfl⟩:=f;have g:=(hr 0 _ rfl).2;have G:=g 0 (.int .i64 z) (by simp[Value.cells]);have H:=g 1 (.slice a ps.length cap) (by simp[Value.cells]);have I:=g 2 (.int .i64 A) (by simp[Value.cells]);have J:=g 3 (.int .i64 B) (by simp[Value.cells]);have WW: ∃im:List (Value×Value),im.length=ps.length/\Di X μ ps im/\(im≠[]-> ∃d o2,a=some ⟨d,o2,none⟩/\(d<μ.w.heap.size/\ ¬μ.own d)/\ ∀ (i:Nat) p,im[i]? =some p->μ.w.cell? ⟨d,o2+i*2,none⟩=some p.1/\μ.w.cell? ⟨d,o2+i*2+1,none⟩=some p.2):=by
          rcases s with rfl| ⟨d,o2,rfl,K,L,M⟩
          .exact⟨[],rfl,trivial,fun h=>absurd rfl h⟩
          obtain⟨im,j,t,u⟩:=Tw F hb.2 M;exact⟨im,j,t,fun _=> ⟨d,o2,rfl,⟨L,fun h=>K (.inl h)⟩,u⟩⟩
       obtain⟨im,j,t,u⟩:=WW;refine⟨⟨z,a,cap,A,B,im⟩::c,by simp[r1],?_,fun i R x=> ?_⟩
       .  simp only[List.map_cons,lS]
          exact iY.append (IC _ _ 0 t) r2
       cases i with
       | zero=>
         simp at x;subst x;exact⟨⟨by simpa using G,by rw[j];simpa using H,by simpa using I,by simpa using J⟩,u,by show im.length<_;rw[j];exact hb.1⟩
       | succ i=>
         have:=D i R (by simpa using x);rwa [show o+4+i*4=o+(i+1)*4 by omega] at this
   simp at hx
theorem Lk (args:Array Value) (w:World): (callFunc 286 args).run Tryz.prog w= .ok (.enter 286 args) w:=by obtain⟨c,hc⟩: ∃c,Tryz.f286.body=some c:=⟨_,rfl⟩;have hn:Tryz.f286.name≠ "runtime.NumGoroutine" :=ajm;simp[callFunc,Sem.run_bind,program,Sem.run,Tryz.func286,hc,hn]
theorem ID (  fn:FuncId->Option Nat) (O:TypeId->Option Nat) (g:Nat) (hg:fn 286=some g):rW ⟨Tryz.prog,fn,O⟩ g QB:=by
 refine⟨286,hg,fun caps xs o B K μ lb s ho=> ?_⟩;refine⟨Lk,?_⟩;unfold QB at o;split at o
 .rename_i es y1 y2 y3 e n cs;split at o
  case isFalse=>simp at o
  case isTrue hb=>
   obtain⟨lb⟩:=lb
   match lb,s with
   | [vm,vc],s=>
     simp only[ag,aj,and_true] at s;obtain⟨⟨_,FE,bm,om,P,xm,rfl,Ty,IE,⟨_,t,rfl,M5⟩,WZ⟩,⟨_,_,Q,S,T,xc,rfl,u,j,⟨_,y,rfl,d⟩,r⟩⟩:=s;obtain⟨t⟩:=t;obtain⟨y⟩:=y
     match t,M5,y,d with
     |  [s0,s1,s2,s3],M5,c0::c1::U,d=>
        simp only[ag,aj,and_true] at M5 d;obtain⟨⟨ot,G0,a,cap,vs,rfl,cW,I,z⟩,_⟩:=M5;obtain⟨rfl,rfl,_⟩:=d;have V:=(WZ 0 _ rfl).2 0 _ (show (Value.agg _).cells[0]? =some (.slice a es.length cap) by simp[Value.cells]);have W:=(r 0 _ rfl).2 0 _ (show (Value.agg _).cells[0]? =some (.int .i64 e) by simp[Value.cells]);have X:=(r 0 _ rfl).2 1 _ (show (Value.agg _).cells[1]? =some (.int .i64 n) by simp[Value.cells]);obtain⟨b,off,Ap,L,C⟩: ∃b off,(es≠[]->a=some ⟨b,off,none⟩)/\(es≠[]->b<μ.w.heap.size/\ ¬μ.own b)/\dL μ.w b off 4 vs:=by
          rcases z with rfl| ⟨b,off,rfl,Y,q,C⟩
          . refine⟨0,0,fun h=>absurd rfl h,fun h=>absurd rfl h,?_⟩
            have D:vs=[]:=by cases vs with
             | nil=>rfl
             | cons v vs=>simp[ag] at I
            subst D;intro i v h;simp at h
          exact⟨b,off,fun _=>rfl,fun _=> ⟨q,fun h=>Y (.inl h)⟩,C⟩
        obtain⟨c,r1,r2,E⟩:=M4 I G0 o C;refine⟨lS e n 0 (c.map (·.im)),r2.length,fun i x v hx hv=>r2.get hx hv,fun l J Jx W0 Z M hJx hY h0=> ?_⟩;have f: ∀ (a:Addr) v,a.block<μ.w.heap.size->μ.w.cell? a=some v->W0.cell? a=some v:=fun a v h1 h2=>by rw[<-h2];exact World.cell?_of_block (Z.block a.block h1)
        have bW:c≠[]->es≠[]:=fun h he=>h (by subst he;simpa using r1);have key:=Tt l bm (om+0) Q (S+0) b off cap a e n c (by rw[r1];exact hb.1) (fun R m=>by obtain⟨i,hi⟩:=ajH m;exact(E i R hi).2.2) hb.2.1 hb.2.2 (fun b=>b<μ.w.heap.size/\ ¬μ.own b) J Jx (fun k F A B h1 h2=>M.grow k F A B h1 h2) (fun k F F' A h1 h2=>M.less k F F' A h1 h2)
          (lS e n 0 (c.map (·.im))) rfl (fun k F W1 v hv G=>vd (hY k F W1 v hv G) (fun ex W' h=>h.imp (fun h=> ⟨h.1,h.2.1,fun b hb=>hb.elim (fun hb=>h.2.2.1 b hb.1 hb.2) (fun hb=>h.2.2.2 b hb)⟩) id))
          W0 ⟨IE,fun h=>Ty (.inl h)⟩ ⟨j,fun h=>u (.inl h)⟩ (fun h=>L (bW h)) (fun h=>Ap (bW h)) (by rw[r1];exact f _ _ IE (by simpa using V)) (f _ _ j (by simpa using W)) (f _ _ j (by simpa using X))
          (fun k R m=>by have q:b<μ.w.heap.size:=(L (bW (by intro h;rw[h] at m;simp at m))).1;obtain⟨⟨w0,w1,w2,w3⟩,_⟩:=E k R m;exact⟨f _ _ q w0,f _ _ q w1,f _ _ q w2,f _ _ q w3⟩)
          (fun k R m hp=>by obtain⟨b2,o2,z1,H,N⟩:=(E k R m).2.1 hp;exact⟨b2,o2,z1,H,fun i p h=> ⟨f _ _ H.1 (N i p h).1,f _ _ H.1 (N i p h).2⟩⟩) h0
        exact callsIn_wide.2 (callsIn_wide.1 key)
 simp at o
#print axioms ID
end Go.Proofs
namespace Go.Proofs
open Go.RowKit Go.Shelf Go.AM
attribute [local go_sem] Oper.semAt_some Ac Mh Bool.true_or Bool.or_true Bool.false_or Bool.or_false decide_true decide_false
@[local go_sem] theorem Pc: (Fr none).round=none:=rfl
structure Gg where
 k:Int
 a:Int
 i:Int
 o:Int
 n:Int
def zZ:Nat->Int->List Gg->List (Array Value)
 | _,_,[]=> []
 | i,b,e::es=> #[.int .i64 (i:Int),.agg #[.int .i64 b,.int .i64 (e.a*e.a)]]::zZ (i+1) (e.a*e.a) es
theorem IF: ∀ (es:List Gg) (i:Nat) (b:Int),(zZ i b es).length=es.length
 | [],_,_=>rfl
 | _::es,i,b=>by simp[zZ,IF es]
theorem Dj {w:World} {o:Obj} {a:Addr} {v:Value} (h:w.cell? a=some v): (w.alloc o).cell? a=some v:=by
 have b:a.block<w.heap.size:=by
  rcases ak1 a.block w.heap.size with hl| hl
  .exact hl
  simp[World.cell?,akx hl] at h
 rw[<-h];simp only[World.cell?,Below.heap_alloc w o a.block b]
theorem B4 (w:World) (o:Obj):w.grownBy (w.alloc o) none:=by have b1:Below w.heap.size w (w.alloc o):=(Below.refl _ w).alloc (ajw _) _;exact⟨b1.os,b1.tape,b1.output,b1.size,fun k a _=>b1.block k a⟩
theorem Gh {A B:World} {a:Addr} (h:B.heap[a.block]? =A.heap[a.block]?):B.cell? a=A.cell? a:=by simp only[World.cell?,h]
set_option maxRecDepth 100000 in
theorem IG (l Bh Oh b off cap:Nat) (a0:Option Addr) (c:List Gg) (hbig:c.length< 4611686018427387904) (x: ∀R ∈ c,0<=R.a/\R.a<=1024)
  (S:Nat->Prop) (J:Nat->(Nat->Prop)->World->Prop) (Jx:Nat->World->Prop)
  (q: ∀k F A B,J k F A->A.grownBy B none->J k (fun b=>F b\/(A.heap.size<=b/\b<B.heap.size)) B) (r: ∀k F F' A,J k F A->(∀b,F' b->F b)->J k F' A)
  (ve:List (Array Value)) (WV:ve.drop 0=zZ 0 0 c)
  (hY: ∀ (k:Nat) F W1 v,ve[k]? =some v->J k F W1->YieldAt (Fr none) 0 Tryz.prog l v W1 fun e W'=>
    (e= .returned (.bool true)/\J (k+1) F W'/\ ∀b,S b\/F b->W'.heap[b]? =W1.heap[b]?)\/(e= .returned (.bool false)/\Jx (k+1) W'))
  (W:World) (y:S Bh) (M3:c≠[]->S b) (Tu:c≠[]->a0=some ⟨b,off,none⟩) (z:W.cell? ⟨Bh,Oh+1,none⟩=some (.slice a0 c.length cap))
  (hc: ∀ (k:Nat) R,c[k]? =some R->W.cell? ⟨b,off+k*5,none⟩=some (.int .i64 R.k)/\W.cell? ⟨b,off+k*5+1,none⟩=some (.int .i64 R.a)/\W.cell? ⟨b,off+k*5+2,none⟩=some (.int .i64 R.i)/\W.cell? ⟨b,off+k*5+3,none⟩=some (.int .i64 R.o)/\W.cell? ⟨b,off+k*5+4,none⟩=some (.int .i64 R.n))
  (h0:J 0 (fun _=>False) W):
  CallsIn (Fr none) 1 Tryz.prog 115 #[.func (.yield l) #[] #[],.pointer (some ⟨Bh,Oh,none⟩)] W fun ex W'=> (∃v,ex= .returned v)/\((∃F,J ve.length F W')\/ ∃k,k<=ve.length/\Jx k W'):=by
 refine callsIn_of_wp Tryz.func115 rfl trivial ?_ rfl;simp only[Tryz.ntmps115,alf,ajC,ajJ,Nat.reduceAdd,Nat.reduceSub,alb,alc,aly,alo,aj8,ajK];have F7:Tryz.prog.follows .mixedOrders=true:=ajn
 gi_wp2
 gi_loopw [3,10] (fun C i wr=> ∃k:Nat,k<=c.length/\i= .int .i64 k/\ ∃b0:Int,C= .int .i64 b0/\ ∃F,J k F wr/\ve.drop k=zZ k b0 (c.drop k)/\ ∀a v,S a.block->W.cell? a=some v->wr.cell? a=some v) (fun _ i _=>c.length - (intOf i).toNat)
 case atStart=>exact⟨0,akk _,rfl,0,rfl,_,h0,WV,fun a v _ h=>h⟩
 case round=>
  obtain⟨k,L,rfl,b0,rfl,F,w,g,AB⟩:=hrel;by_cases j:k<c.length
  . have D: (k:Int) < (c.length:Int):=ajk
    have m:c[k]? =some c[k]:=aju j;have bW:c≠[]:=by intro h;rw[h] at j;simp at j
    obtain rfl:=Tu bW;replace M3:=M3 bW;clear Tu bW;obtain⟨c0,c1,c2,c3,c4⟩:=hc k _ m;replace c0:=AB _ _ M3 c0;replace c1:=AB _ _ M3 c1;replace c2:=AB _ _ M3 c2;replace c3:=AB _ _ M3 c3;replace c4:=AB _ _ M3 c4;have P5:=x c[k] (aky j);rw[ajO j,zZ] at g;clear m;generalize c[k]=R at*;obtain⟨Rk,Ra,Ri,Ro,Rn⟩:=R;dsimp only at c0 c1 c2 c3 c4 P5 g;have Tv: ∀o a v,S a.block->W.cell? a=some v->(wr.alloc o).cell? a=some v:=fun o a v h1 h2=>Dj (AB a v h1 h2);have E: ¬Ra< 0:=ajk;have G: ¬1024 <Ra:=ajk;have QW:0<=Ra*Ra/\Ra*Ra<=1048576:=by
       constructor
       .exact akT P5.1 P5.1
       exact Int.mul_le_mul P5.2 P5.2 P5.1 ajk
    have hw:IntKind.i64.wrap (Ra*Ra)=Ra*Ra:=bo ajk ajk;have VM:IntKind.i64.wrap ((k:Int)+1)=(k:Int)+1:=bo ajk ajk;obtain⟨v,d⟩: ∃v:Array Value,v= #[.int .i64 (k:Int),.agg #[.int .i64 b0,.int .i64 (Ra*Ra)]]:=⟨_,rfl⟩;rw[<-d] at g;have hv:ve[k]? =some v:=by have:=congrArg (fun l=>l[0]?) g;simpa using this
    have Pb:ve.drop (k+1)=zZ (k+1) (Ra*Ra) (c.drop (k+1)):=by have:=congrArg (List.drop 1) g;simpa [akS] using this
    have s:k+1<=ve.length:=(ajp.1 hv).1;obtain⟨Wa,f⟩: ∃Wa,Wa=wr.alloc (Obj.cells #[.int .i64 Rk,.int .i64 Ra,.int .i64 Ri,.int .i64 Ro,.int .i64 Rn] 55):=⟨_,rfl⟩;have Va:J k F Wa:=r _ _ _ _ (q _ _ _ _ w (f ▸ B4 wr _)) (fun b hb=> .inl hb);have t: ∀a v,S a.block->W.cell? a=some v->Wa.cell? a=some v:=fun a v h1 h2=>f ▸ Tv _ a v h1 h2;obtain⟨fn,tmps,assign,body,hy,m⟩:=hY k F Wa v hv Va;rw[d] at hy;have WU:=m.mono (R':=fun ex W'=> ∃p,ex= .returned (.bool p)/\(p=true->J (k+1) F W'/\ ∀b,S b\/F b->W'.heap[b]? =Wa.heap[b]?)/\(p=false->Jx (k+1) W')) (by
       rintro ex W' (⟨rfl,u,H⟩ | ⟨rfl,u⟩)
       .exact⟨true,rfl,fun _=> ⟨u,H⟩,ajl⟩
       .exact⟨false,rfl,ajl,fun _=>u⟩)
    clear m d g;subst f
    gi_wp2
    refine RoundIn.mono WU ?_;rintro ex W3 ⟨p,rfl,Wu,OS⟩;dsimp only;cases p
    .  clear WU
       gi_wp2
       exact⟨rfl,_,results_none (fn:=Tryz.f115) rfl _ _ _,⟨_,rfl⟩,.inr ⟨k+1,s,OS trivial⟩⟩
    gi_wp2
    exact⟨⟨k+1,ajk,rfl,Ra*Ra,rfl,F,(Wu rfl).1,Pb,fun a v h1 h2=> (Gh ((Wu rfl).2 a.block (.inl h1))).trans (t a v h1 h2)⟩,by simp only[intOf];omega⟩
  have D: ¬ (k:Int) < (c.length:Int):=ajk
  gi_wp2
  refine⟨rfl,_,results_none (fn:=Tryz.f115) rfl _ _ _,⟨_,rfl⟩,.inl ⟨F,?_⟩⟩;have I:k=c.length:=ajk;have K:ve.length=k:=by have h1:=congrArg List.length WV;rw[IF] at h1;simpa [I] using h1
  rw[K];exact w
end Go.Proofs
namespace Go.Proofs
open Go.RowKit Go.AM
variable {X:Ctx} {μ:Mu}
theorem Tz: ∀ {es:List V} {vs:List Value} {b o i:Nat} {b0:Int} {xs:List (List V)},ag X μ es vs->yW i b0 es=some xs->dL μ.w b o 5 vs->
   ∃c:List Gg,c.length=es.length/\(∀R ∈ c,0<=R.a/\R.a<=1024)/\iY X μ xs (zZ i b0 c)/\ ∀ (k:Nat) R,c[k]? =some R->
    μ.w.cell? ⟨b,o+k*5,none⟩=some (.int .i64 R.k)/\μ.w.cell? ⟨b,o+k*5+1,none⟩=some (.int .i64 R.a)/\μ.w.cell? ⟨b,o+k*5+2,none⟩=some (.int .i64 R.i)/\μ.w.cell? ⟨b,o+k*5+3,none⟩=some (.int .i64 R.o)/\μ.w.cell? ⟨b,o+k*5+4,none⟩=some (.int .i64 R.n)
 | [],[],_,_,_,_,xs,_,hx,_=>by
   simp only[yW,ajq] at hx;subst hx;exact⟨[],rfl,fun R h=>by simp at h,by simp[zZ,iY],fun i R h=>by simp at h⟩
 | [],_::_,_,_,_,_,_,h,_,_=>by simp[ag] at h
 | _::_,[],_,_,_,_,_,h,_,_=>by simp[ag] at h
 | y::es,v::vs,b,o,i,b0,xs,h,hx,hr=>by
   simp only[ag] at h;unfold yW at hx;split at hx
   .simp at*
   .rename_i D b' l m p q r E g;injection g with hy he;subst hy he;split at hx
    case isFalse=>simp at hx
    case isTrue hb=>
     obtain⟨Tx,s,rfl⟩:=ajr.1 hx;obtain⟨c,r1,t,r2,u⟩:=Tz h.2 s (vf hr);have hv:=h.1;simp only[aj] at hv;obtain⟨hc,j,rfl,f⟩:=hv;obtain⟨j⟩:=j
     match j,f with
     | [F,G,H,I,J],f=>
       simp only[ag,aj,and_true] at f;obtain⟨rfl,rfl,rfl,rfl,rfl⟩:=f;have e:=(hr 0 _ rfl).2;have x:=e 0 (.int .i64 l) (by simp[Value.cells]);have z:=e 1 (.int .i64 m) (by simp[Value.cells]);have A:=e 2 (.int .i64 p) (by simp[Value.cells]);have B:=e 3 (.int .i64 q) (by simp[Value.cells]);have C:=e 4 (.int .i64 r) (by simp[Value.cells]);refine⟨⟨l,m,p,q,r⟩::c,by simp[r1],fun R d=> ?_,?_,fun k R d=> ?_⟩
       .  rcases ajy.1 d with rfl| d
          .exact hb
          exact t R d
       .  simp only[zZ,iY]
          exact⟨by simp[ag,aj,V.aZ],r2⟩
       cases k with
       | zero=>
         simp at d;subst d;exact⟨by simpa using x,by simpa using z,by simpa using A,by simpa using B,by simpa using C⟩
       | succ k=>
         have:=u k R (by simpa using d);rwa [show o+5+k*5=o+(k+1)*5 by omega] at this
   simp at hx
theorem Ll (args:Array Value) (w:World): (callFunc 115 args).run Tryz.prog w= .ok (.enter 115 args) w:=by obtain⟨c,hc⟩: ∃c,Tryz.f115.body=some c:=⟨_,rfl⟩;have hn:Tryz.f115.name≠ "runtime.NumGoroutine" :=ajm;simp[callFunc,Sem.run_bind,program,Sem.run,Tryz.func115,hc,hn]
theorem IH (  fn:FuncId->Option Nat) (G:TypeId->Option Nat) (g:Nat) (hg:fn 115=some g):rW ⟨Tryz.prog,fn,G⟩ g J2:=by
 refine⟨115,hg,fun caps xs e B K μ lb f S=> ?_⟩;refine⟨Ll,?_⟩;unfold J2 at e;split at e
 .rename_i d es;split at e
  case isFalse=>simp at e
  case isTrue hb=>
    obtain⟨lb⟩:=lb
    match lb,f with
    | [H],f=>
      simp only[ag,aj,and_true] at f;obtain⟨_,FE,bm,om,r,I,rfl,Ty,IE,⟨_,m,rfl,M5⟩,WZ⟩:=f;obtain⟨m⟩:=m
      match m,M5 with
      | [s0,s1],M5=>
        simp only[ag,aj,and_true] at M5;obtain⟨rfl,ot,G0,a,cap,vs,rfl,T,D,s⟩:=M5;have t:=(WZ 0 _ rfl).2 1 _ (show (Value.agg _).cells[1]? =some (.slice a es.length cap) by simp[Value.cells]);obtain⟨b,off,Ap,E,u⟩: ∃b off,(es≠[]->a=some ⟨b,off,none⟩)/\(es≠[]->b<μ.w.heap.size/\ ¬μ.own b)/\dL μ.w b off 5 vs:=by
          rcases s with rfl| ⟨b,off,rfl,L,n,u⟩
          . refine⟨0,0,fun h=>absurd rfl h,fun h=>absurd rfl h,?_⟩
            have y:vs=[]:=by cases vs with
             | nil=>rfl
             | cons v vs=>simp[ag] at D
            subst y;intro i v h;simp at h
          exact⟨b,off,fun _=>rfl,fun _=> ⟨n,fun h=>L (.inl h)⟩,u⟩
        obtain⟨c,r1,M,r2,N⟩:=Tz D e u;refine⟨zZ 0 0 c,r2.length,fun i x v hx hv=>r2.get hx hv,fun l J Jx W0 z p C hY h0=> ?_⟩;have j: ∀ (a:Addr) v,a.block<μ.w.heap.size->μ.w.cell? a=some v->W0.cell? a=some v:=fun a v h1 h2=>by rw[<-h2];exact World.cell?_of_block (z.block a.block h1)
        have bW:c≠[]->es≠[]:=fun h he=>h (by subst he;simpa using r1);have key:=IG l bm (om+0) b off cap a c (by rw[r1];exact hb) M (fun b=>b<μ.w.heap.size/\ ¬μ.own b) J Jx (fun k F A B h1 h2=>p.grow k F A B h1 h2) (fun k F F' A h1 h2=>p.less k F F' A h1 h2)
          (zZ 0 0 c) rfl (fun k F W1 v hv q=>vd (hY k F W1 v hv q) (fun ex W' h=>h.imp (fun h=> ⟨h.1,h.2.1,fun b hb=>hb.elim (fun hb=>h.2.2.1 b hb.1 hb.2) (fun hb=>h.2.2.2 b hb)⟩) id))
          W0 ⟨IE,fun h=>Ty (.inl h)⟩ (fun h=>E (bW h)) (fun h=>Ap (bW h)) (by rw[r1];exact j _ _ IE (by simpa using t))
          (fun k R o=>by have n:b<μ.w.heap.size:=(E (bW (by intro h;rw[h] at o;simp at o))).1;obtain⟨w0,O,P,w3,Q⟩:=N k R o;exact⟨j _ _ n w0,j _ _ n O,j _ _ n P,j _ _ n w3,j _ _ n Q⟩) h0
        exact callsIn_wide.2 (callsIn_wide.1 key)
 .rename_i d;simp only[ajq] at e;subst e;obtain⟨lb⟩:=lb
  match lb,f with
  | [H],f=>
    simp only[ag,aj,and_true] at f;obtain⟨_,FE,bm,om,r,I,rfl,Ty,IE,⟨_,m,rfl,M5⟩,WZ⟩:=f;obtain⟨m⟩:=m
    match m,M5 with
    | [s0,s1],M5=>
      simp only[ag,aj,and_true] at M5;obtain⟨rfl,a,rfl⟩:=M5;have t:=(WZ 0 _ rfl).2 1 _ (show (Value.agg _).cells[1]? =some (.slice a 0 0) by simp[Value.cells]);refine⟨[],rfl,fun i x v h=>by simp at h,fun l J Jx W0 z p C hY h0=> ?_⟩;have j: ∀ (a:Addr) v,a.block<μ.w.heap.size->μ.w.cell? a=some v->W0.cell? a=some v:=fun a v h1 h2=>by rw[<-h2];exact World.cell?_of_block (z.block a.block h1)
      have key:=IG l bm (om+0) 0 0 0 a [] ajl (fun R o=>by simp at o) (fun b=>b<μ.w.heap.size/\ ¬μ.own b) J Jx (fun k F A B h1 h2=>p.grow k F A B h1 h2) (fun k F F' A h1 h2=>p.less k F F' A h1 h2)
          [] rfl (fun k F W1 v hv q=>by simp at hv)
          W0 ⟨IE,fun h=>Ty (.inl h)⟩ (fun h=>absurd rfl h) (fun h=>absurd rfl h) (j _ _ IE (by simpa using t))
          (fun k R o=>by simp at o) h0
      exact callsIn_wide.2 (callsIn_wide.1 key)
 simp at e
#print axioms IH
end Go.Proofs
