/-
  Texts of the proof, joined by program: AmIter, AmIterF, AmTrFp. Own work.
-/
import Derived.Test.YtinmckmdbepjcaaOpsC
import Derived.Test.YtinmckmdbepjcaaBase
import Derived.Test.YtinmckmdbepjcaaTail
import Derived.Test.YtinmckmdbepjcaaFns
import Derived.Test.YtinmckmdbepjcaaSx
import Derived.StillTailTactics
import Derived.Test.YtinmckmdbepjcaaProg
import Derived.RangeFuncNested
import Derived.RangeFuncLeaves
import Derived.Shelf.Abstract
import Derived.Shelf.RegionOpen
import Derived.WalkKit
import Derived.OwnWalkIn
import Derived.TacticsInMore
import Derived.LoopNIn
import Derived.LoopIn
import Derived.Test.YtinmckmdbepjcaaRows
set_option linter.unusedSimpArgs false
set_option linter.unusedVariables false
namespace Go.Proofs
open Go.RowKit Go.Shelf Go.AM
attribute [local go_sem] Oper.semAt_some
@[local go_sem] theorem QS: (Fr none).round=none:=rfl
set_option maxRecDepth 100000 in
set_option maxHeartbeats 4000000 in
theorem Gt (l Bs Bo b off len cap:Nat) (vs:List (List Value)) (hlen:vs.length=len) (h2: ∀v ∈ vs,∃x y,v=[x,y]) (hbig:len< 4611686018427387904) (Kp:World→World→Prop) (VQ: ∀ {A B C},Kp A B→Kp B C→Kp A C) (Ub: ∀A,Kp A A)
  (XU: ∀ {A B},Kp A B→A.cell? ⟨Bs,Bo,none⟩=some (.slice (some ⟨b,off,none⟩) len cap)→B.cell? ⟨Bs,Bo,none⟩=some (.slice (some ⟨b,off,none⟩) len cap))
  (Sn: ∀ {A B} j v,Kp A B→A.cell? ⟨b,j,none⟩=some v→B.cell? ⟨b,j,none⟩=some v)
  (FT: ∀A:World,Kp A A.drew) (J Jx:Nat→World→Prop) (VR: ∀k W,J k W→J k W.drew)
  (hY: ∀ (k:Nat) W1 x y z u,k+1 <len→vs[k]? =some [x,y]→vs[k+1]? =some [z,u]→J k W1→YieldAt (Fr none) 0 Try.prog l #[.int .i64 k,.agg #[x,y,z,u]] W1 fun e W'=>
    (e= .returned (.bool true)∧J (k+1) W'∧Kp W1 W')∨(e= .returned (.bool false)∧Jx (k+1) W'))
  (W:World) (VS:W.cell? ⟨Bs,Bo,none⟩=some (.slice (some ⟨b,off,none⟩) len cap)) (hc: ∀ (j:Nat) x y,vs[j]? =some [x,y]→W.cell? ⟨b,off+j*2,none⟩=some x∧W.cell? ⟨b,off+j*2+1,none⟩=some y) (h0:J 0 W):
  CallsIn (Fr none) 1 Try.prog 74 #[.func (.yield l) #[] #[],.pointer (some ⟨Bs,Bo,none⟩)] W fun e W'=> (∃v,e= .returned v)∧(J (len - 1) W'∨ ∃k,k≤len - 1∧Jx k W'):=by
 refine callsIn_of_wp Try.func74 rfl trivial ?_ rfl
 simp only[Try.ntmps74,List.size_toArray,List.length_cons,List.length_nil,Nat.reduceAdd,Nat.reduceSub,Array.replicate_succ,Array.replicate_zero,List.push_toArray,List.append_toArray,List.nil_append,List.cons_append]
 have IY:Try.prog.follows .mixedOrders=true:=by kernel_rfl
 gi_wp2
 gi_loopw [3] (fun i wr=> ∃k:Nat,k≤len - 1∧i= .int .i64 k∧J k wr∧Kp W wr) (fun i _=>len - (intOf i).toNat)
 case atStart=>exact⟨0,Nat.zero_le _,rfl,h0,Ub _⟩
 case round=>
  obtain⟨k,hk,rfl,Sp,xb⟩:=hrel
  have XV:=XU xb VS
  by_cases bk:k+1 <len
  · obtain⟨x,y,D6⟩:=h2 vs[k] (List.getElem_mem (by omega))
    obtain⟨z,u,XW⟩:=h2 vs[k+1] (List.getElem_mem (by omega))
    have H2:vs[k]? =some [x,y]:=by rw[List.getElem?_eq_getElem (by omega),D6]
    have Ge:vs[k+1]? =some [z,u]:=by rw[List.getElem?_eq_getElem (by omega),XW]
    obtain⟨fn,tmps,assign,body,hy,hR⟩:=hY k wr.drew x y z u bk H2 Ge (VR _ _ Sp)
    have vu:k<len:=by omega
    have IK: (k:Int)+1 < (len:Int):=by omega
    have PM: (0:Int)≤(k:Int)+1:=by omega
    have Pu:IntKind.i64.wrap ((k:Int)+1)=(k:Int)+1:=wrap64 (by omega) (by omega)
    have CA: ((k:Int)+1).toNat=k+1:=by omega
    have c1:=Sn _ _ xb (hc k x y H2).1
    have c2:=Sn _ _ xb (hc k x y H2).2
    have c3:=Sn _ _ xb (hc (k+1) z u Ge).1
    have c4:=Sn _ _ xb (hc (k+1) z u Ge).2
    gi_wp2
    have VT:=hR.mono (R':=fun e W'=> ∃bb,e= .returned (.bool bb)∧(bb=true→J (k+1) W'∧Kp wr.drew W')∧(bb=false→Jx (k+1) W')) (by
       rintro e W' (⟨rfl,q1,q2⟩ | ⟨rfl,q1⟩)
       · exact⟨true,rfl,fun _=> ⟨q1,q2⟩,by simp⟩
       · exact⟨false,rfl,by simp,fun _=>q1⟩)
    clear hR
    refine Gu (n:=0) (mf 12 IY (by kernel_rfl) (by kernel_rfl) ?_)
    simp only[List.take_succ_cons,List.take_zero,List.drop_succ_cons,List.drop_zero]
    change wpStill _ _ (World.drew wr) (fun a'=>wpListIn _ _ _ _ _ _ a' (World.drew wr)) _ _
    iterate 12 (refine wpStill_step (fun K hK=> ?_);go_simp; (try simp only[Pu,CA,IK,PM,vu,and_self,if_true,true_and,go_sem]); (try simp only[c1,c2,c3,c4,XV,World.MA,go_sem]);refine hK _ ?_;clear hK K)
    refine wpStill_nil ?_
    refine wpListIn_step (fun K hK=> ?_)
    go_simp
    refine⟨rfl,RoundIn.mono VT ?_⟩
    rintro e W3 ⟨bb,rfl,VU,R8⟩
    refine hK _ _ ?_
    clear hK K
    refine wpListIn_step (fun K hK=> ?_)
    go_simp
    refine hK _ _ ?_
    clear hK K
    refine wpListIn_nil ?_
    rename_i XX Yv VV
    refine VV _ _ ?_
    cases bb
    ·  clear VV XX VT
       gi_wp2
       refine⟨rfl,_,results_none (fn:=Try.f74) rfl _ _ _,⟨_,rfl⟩,?_⟩
       exact .inr ⟨k+1,by omega,R8 trivial⟩
    ·  gi_wp2
       exact⟨⟨k+1,by omega,rfl,(VU rfl).1,VQ xb (VQ (FT _) (VU rfl).2)⟩,by simp only[intOf];omega⟩
  · have IK: ¬ (k:Int)+1 < (len:Int):=by omega
    have Pu:IntKind.i64.wrap ((k:Int)+1)=(k:Int)+1:=wrap64 (by omega) (by omega)
    gi_wp2
    have XY:k=len - 1:=by omega
    refine⟨rfl,_,results_none (fn:=Try.f74) rfl _ _ _,⟨_,rfl⟩,?_⟩
    exact .inl (XY ▸ Sp)
set_option maxRecDepth 100000 in
set_option maxHeartbeats 4000000 in
theorem wN (l Bs Bo cap:Nat) (a0:Option Addr) (J Jx:Nat→World→Prop) (VR: ∀k W,J k W→J k W.drew)
  (W:World) (VS:W.cell? ⟨Bs,Bo,none⟩=some (.slice a0 0 cap)) (h0:J 0 W):
  CallsIn (Fr none) 1 Try.prog 74 #[.func (.yield l) #[] #[],.pointer (some ⟨Bs,Bo,none⟩)] W fun e W'=> (∃v,e= .returned v)∧(J 0 W'∨ ∃k,k≤0∧Jx k W'):=by
 refine callsIn_of_wp Try.func74 rfl trivial ?_ rfl
 simp only[Try.ntmps74,List.size_toArray,List.length_cons,List.length_nil,Nat.reduceAdd,Nat.reduceSub,Array.replicate_succ,Array.replicate_zero,List.push_toArray,List.append_toArray,List.nil_append,List.cons_append]
 have IY:Try.prog.follows .mixedOrders=true:=by kernel_rfl
 gi_wp2
 gi_loopw [3] (fun i wr=>i= .int .i64 0∧J 0 wr∧wr=W) (fun i _=>0)
 case atStart=>exact⟨rfl,h0,rfl⟩
 case round=>
  obtain⟨rfl,Sp,rfl⟩:=hrel
  have Pu:IntKind.i64.wrap ((0:Int)+1)=1:=by decide
  gi_wp2
  refine⟨rfl,_,results_none (fn:=Try.f74) rfl _ _ _,⟨_,rfl⟩,?_⟩
  exact .inl Sp
theorem pP (A:World):A.grownBy A.drew none:=⟨rfl,rfl,rfl,Nat.le_refl _,fun _ _ _=>rfl⟩
end Go.Proofs
namespace Go.Proofs
open Go.RowKit Go.AM
theorem zI: ∀ (ps:List V) (i:Nat),(vl i ps).length=ps.length - 1
 | [],_=>rfl
 | [_],_=>rfl
 | _::q::rest,i=>by simp only[vl,List.length_cons,zI (q::rest)];omega
theorem zJ: ∀ (ps:List V) (i k:Nat) x,(vl i ps)[k]? =some x→ ∃p q,ps[k]? =some p∧ps[k+1]? =some q∧x=[.int .i64 ((i+k:Nat):Int),.agg (p.cells++q.cells)]
 | [],i,k,x,h=>by simp[vl] at h
 | [_],i,k,x,h=>by simp[vl] at h
 | p::q::rest,i,k,x,h=>by
   cases k with
   | zero=>simp[vl] at h;exact⟨p,q,by simp,by simp,h ▸ by simp⟩
   | succ k=>
     simp only[vl,List.getElem?_cons_succ] at h
     obtain⟨p',q',h1,h2,rfl⟩:=zJ (q::rest) (i+1) k x h
     exact⟨p',q',by simpa using h1,by simpa using h2,by rw[show i+1+k=i+(k+1) by omega]⟩
def D3 (vs:List Value) (n:Nat):List (Array Value):=(List.range n).map fun (k:Nat)=> #[.int .i64 (((k:Nat):Int)),.agg ((vs.getD k undef).cells++(vs.getD (k+1) undef).cells)]
theorem Bn (args:Array Value) (w:World): (callFunc 74 args).run Try.prog w= .ok (.enter 74 args) w:=by
 obtain⟨c,hc⟩: ∃c,Try.f74.body=some c:=⟨_,rfl⟩
 have hn:Try.f74.name≠ "runtime.NumGoroutine" :=by decide
 simp[callFunc,Sem.run_bind,program,Sem.run,Try.func74,hc,hn]
theorem zK (   fn:FuncId→Option Nat) (tn:TypeId→Option Nat) (g:Nat) (hg:fn 74=some g):u6 ⟨Try.prog,fn,tn⟩ g Bu:=by
 refine⟨74,hg,fun caps xs vP B K μ lb Gv ho=> ?_⟩
 refine⟨Bn,?_⟩
 match caps,vP,Gv with
 | [.eptr .nils 0],vP,Gv=>
   simp only[Bu,Option.some.injEq] at vP
   subst vP
   obtain⟨lb⟩:=lb
   match lb,Gv with
   | [v],Gv=>
     simp only[ak,and_true] at Gv
     obtain⟨_,_,b,o,sz,x,rfl,kf,bk,⟨a,rfl⟩,dL⟩:=Gv
     have hr:=(dL 0 _ rfl).2 0 (.slice a 0 0) (by simp[Value.cells])
     simp only[Nat.zero_mul,Nat.add_zero] at hr
     refine⟨[],rfl,fun i x v h=>by simp at h,fun l J Jx W0 lP hJ VW hY h0=> ?_⟩
     have hc:W0.cell? ⟨b,o,none⟩=some (.slice a 0 0):=by rw[←hr];exact World.cell?_of_block (lP.block b bk)
     exact callsIn_wide.2 (callsIn_wide.1 (wN l b o 0 a J Jx (fun k W h=>hJ k W _ h (pP W)) W0 hc h0))
 | [.eptr (.lit 2 ps) 0],vP,Gv=>
   simp only[Bu] at vP
   split at vP
   case isFalse=>simp at vP
   case isTrue hbig=>
     simp only[Option.some.injEq] at vP
     subst vP
     obtain⟨lb⟩:=lb
     match lb,Gv with
     | [v],Gv=>
       simp only[ak,and_true] at Gv
       obtain⟨_,_,b,o,sz,x,rfl,kf,bk,⟨mF,gS,a,cap,vs,rfl,ed,rU,XZ⟩,dL⟩:=Gv
       have hr:=(dL 0 _ rfl).2 0 (.slice a ps.length cap) (by simp[Value.cells])
       simp only[Nat.zero_mul,Nat.add_zero] at hr
       have AY:vs.length=ps.length:=rU.length.symm
       have jY: ∀W0,Below μ.w.heap.size μ.w W0→W0.cell? ⟨b,o,none⟩=some (.slice a ps.length cap):=fun W0 lP=>by rw[←hr];exact World.cell?_of_block (lP.block b bk)
       have Uw: ∀p ∈ ps,p.dh=true:=List.all_eq_true.1 gS
       rcases XZ with rfl| ⟨b2,o2,rfl,Ux,fS,Jk⟩
       · refine⟨[],rfl,fun i x v h=>by simp[vl] at h,fun l J Jx W0 lP hJ VW hY h0=> ?_⟩
         exact callsIn_wide.2 (callsIn_wide.1 (wN l b o cap a J Jx (fun k W h=>hJ k W _ h (pP W)) W0 (jY W0 lP) h0))
       · have ns: ∀k p,ps[k]? =some p→ ∃v x y,vs[k]? =some v∧al ⟨⟨Try.prog,fn,tn⟩,B,K⟩ μ p v∧p.dh=true∧v.cells= #[x,y]:=fun k p hp=>by
           obtain⟨v,hv,B2⟩:=rU.get hp
           have hs:=(Jk k v hv).1
           obtain⟨cs,dk⟩: ∃cs,v.cells=cs:=⟨_,rfl⟩
           rw[dk] at hs
           obtain⟨cs⟩:=cs
           match cs,hs with
           | [x,y],_=>exact⟨v,x,y,hv,B2,Uw p (List.mem_of_getElem? hp),dk⟩
         have X1: ∀ (k:Nat) v,vs[k]? =some v→ ∃x y,v.cells= #[x,y]:=fun k v hv=>by
           have hk:k<ps.length:=by rw[←AY];exact(List.getElem?_eq_some_iff.1 hv).1
           obtain⟨v',x,y,h1,_,_,h2⟩:=ns k _ (List.getElem?_eq_getElem hk)
           rw[hv] at h1;injection h1 with h1;subst h1;exact⟨x,y,h2⟩
         refine⟨D3 vs (ps.length - 1),by rw[zI];simp[D3],fun i x v hx hv=> ?_,fun l J Jx W0 lP hJ VW hY h0=> ?_⟩
         · obtain⟨p,q,hp,hq,rfl⟩:=zJ ps 0 i x hx
           obtain⟨v1,x1,y1,h1,h2,h3,h4⟩:=ns i p hp
           obtain⟨v2,x2,y2,k1,k2,k3,k4⟩:=ns (i+1) q hq
           simp only[D3,List.getElem?_map,Option.map_eq_some_iff] at hv
           obtain⟨i',xP,rfl⟩:=hv
           obtain⟨_,rfl⟩:=List.getElem?_eq_some_iff.1 xP
           simp only[List.getElem_range,List.getD_eq_getElem?_getD,h1,k1,Option.getD_some]
           refine⟨by simp[al],⟨by rw[List.all_append,h2.ji h3,k2.ji k3];rfl,_,rfl,?_⟩,trivial⟩
           rw[Array.toList_append]
           exact ak.append (h2.cells h3) (k2.cells k3)
         · have sE: (D3 vs (ps.length - 1)).length=ps.length - 1:=by unfold D3;rw[List.length_map,List.length_range]
           have FO: ∀ (k:Nat) x y,(vs.map fun v=>v.cells.toList)[k]? =some [x,y]→ ∃v,vs[k]? =some v∧v.cells= #[x,y]:=fun k x y h=>by
            simp only[List.getElem?_map,Option.map_eq_some_iff] at h
            obtain⟨v,h1,h2⟩:=h
            exact⟨v,h1,by rw[←h2]⟩
           have key:=Gt l b o b2 o2 ps.length cap (vs.map fun v=>v.cells.toList) (by simpa using AY) (fun v hv=>by
              obtain⟨v0,Vm,rfl⟩:=List.mem_map.1 hv
              obtain⟨k,hk,IK⟩:=List.mem_iff_getElem.1 Vm
              obtain⟨x,y,h⟩:=X1 k v0 (by rw[List.getElem?_eq_getElem hk,IK])
              exact⟨x,y,by rw[h]⟩) hbig (Kept μ)
            (fun h1 h2 b hb hn=> (h2 b hb hn).trans (h1 b hb hn)) (fun A b hb hn=>rfl)
            (fun {A B} hk h=>by rw[←h];exact World.cell?_of_block (hk b bk fun h=>kf (.inl h)))
            (fun {A B} j v hk h=>by rw[←h];exact World.cell?_of_block (hk b2 fS fun h=>Ux (.inl h)))
            (fun A b hb hn=>rfl) J Jx (fun k W h=>hJ k W _ h (pP W))
            (fun k W1 x y z u hk h1 h2 X2=>by
              obtain⟨v1,e1,e2⟩:=FO k x y h1
              obtain⟨v2,e3,e4⟩:=FO (k+1) z u h2
              refine hY k W1 _ ?_ X2
              simp only[D3,List.getElem?_map,List.getElem?_range (show k<ps.length - 1 by omega),Option.map_some,List.getD_eq_getElem?_getD,e1,e3,Option.getD_some,e2,e4]
              rfl) W0 (jY W0 lP)
            (fun j x y h=>by
              obtain⟨v1,e1,e2⟩:=FO j x y h
              have oY:=(Jk j v1 e1).2
              rw[e2] at oY
              have c1:=oY 0 x rfl
              have c2:=oY 1 y rfl
              refine⟨?_,?_⟩
              · rw[World.cell?_of_block (lP.block b2 fS)];simpa using c1
              · rw[World.cell?_of_block (lP.block b2 fS)];exact c2) h0
           rw[sE]
           exact callsIn_wide.2 (callsIn_wide.1 key)
#print axioms zK
end Go.Proofs
set_option maxRecDepth 100000
namespace Go.AM
open Go.Proofs
def ZI:Go.Shelf.Ren:=⟨fun| 53=>19| 64=>49| 63=>48| 78=>71| 79=>72| 70=>62| 71=>63| 72=>64| 73=>65| 74=>66| 75=>67| 59=>68| 76=>69| 77=>70| 88=>81| 89=>82| 90=>83| 91=>84| 92=>85| 68=>86| 96=>92| n=>n,fun| 22=>31| 23=>3| 3=>3| 51=>98| 0=>0| 67=>122| 69=>124| 4=>4| 61=>115| 60=>114| 44=>77| 5=>5| 9=>9| 75=>140| 79=>144| 83=>152| 84=>153| n=>n,fun| n=>n⟩
theorem acw:Go.Proofs.SlLaysN.n53 Try.prog ZI:={
 mixed:=by kernel_rfl
 f53:=⟨Try.f19.name,by decide,Try.func19.trans (congrArg some (by kernel_rfl))⟩
 f59:=⟨Try.f68.name,by decide,Try.func68.trans (congrArg some (by kernel_rfl))⟩
 f63:=⟨Try.f48.name,by decide,Try.func48.trans (congrArg some (by kernel_rfl))⟩
 f64:=Try.func49.trans (congrArg some (by kernel_rfl))
 f68:=⟨Try.f86.name,by decide,Try.func86.trans (congrArg some (by kernel_rfl))⟩
 f70:=⟨Try.f62.name,by decide,Try.func62.trans (congrArg some (by kernel_rfl))⟩
 f71:=⟨Try.f63.name,by decide,Try.func63.trans (congrArg some (by kernel_rfl))⟩
 f72:=⟨Try.f64.name,by decide,Try.func64.trans (congrArg some (by kernel_rfl))⟩
 f73:=⟨Try.f65.name,by decide,Try.func65.trans (congrArg some (by kernel_rfl))⟩
 f74:=⟨Try.f66.name,by decide,Try.func66.trans (congrArg some (by kernel_rfl))⟩
 f75:=⟨Try.f67.name,by decide,Try.func67.trans (congrArg some (by kernel_rfl))⟩
 f76:=⟨Try.f69.name,by decide,Try.func69.trans (congrArg some (by kernel_rfl))⟩
 f77:=⟨Try.f70.name,by decide,Try.func70.trans (congrArg some (by kernel_rfl))⟩
 f78:=Try.func71.trans (congrArg some (by kernel_rfl))
 f79:=Try.func72.trans (congrArg some (by kernel_rfl))
 f88:=⟨Try.f81.name,by decide,Try.func81.trans (congrArg some (by kernel_rfl))⟩
 f89:=Try.func82.trans (congrArg some (by kernel_rfl))
 f90:=Try.func83.trans (congrArg some (by kernel_rfl))
 f91:=⟨Try.f84.name,by decide,Try.func84.trans (congrArg some (by kernel_rfl))⟩
 f92:=⟨Try.f85.name,by decide,Try.func85.trans (congrArg some (by kernel_rfl))⟩
 f96:=⟨Try.f92.name,by decide,Try.func92.trans (congrArg some (by kernel_rfl))⟩
 t0:=Try.underlying0
 a0:=Try.isAgg0
 z0:=Try.sizeOf0
 v0:=Try.zeroValue0
 t3:=Try.underlying3
 a3:=Try.isAgg3
 z3:=Try.sizeOf3
 v3:=Try.zeroValue3
 t4:=Try.underlying4
 a4:=Try.isAgg4
 z4:=Try.sizeOf4
 v4:=Try.zeroValue4
 t5:=Try.underlying5
 a5:=Try.isAgg5
 z5:=Try.sizeOf5
 v5:=Try.zeroValue5
 t9:=Try.underlying9
 a9:=Try.isAgg9
 z9:=Try.sizeOf9
 v9:=Try.zeroValue9
 t22:=Try.underlying31
 a22:=Try.isAgg31
 z22:=Try.sizeOf31
 v22:=Try.zeroValue31
 t23:=Try.underlying3
 a23:=Try.isAgg3
 z23:=Try.sizeOf3
 v23:=Try.zeroValue3
 t44:=Try.underlying77
 a44:=Try.isAgg77
 z44:=Try.sizeOf77
 v44:=Try.zeroValue77
 t51:=Try.underlying98
 a51:=Try.isAgg98
 z51:=Try.sizeOf98
 v51:=Try.zeroValue98
 t60:=Try.underlying114
 a60:=Try.isAgg114
 z60:=Try.sizeOf114
 v60:=Try.zeroValue114
 t61:=Try.underlying115
 a61:=Try.isAgg115
 z61:=Try.sizeOf115
 v61:=Try.zeroValue115
 t67:=Try.underlying122
 a67:=Try.isAgg122
 z67:=Try.sizeOf122
 v67:=Try.zeroValue122
 t69:=Try.underlying124
 a69:=Try.isAgg124
 z69:=Try.sizeOf124
 v69:=Try.zeroValue124
 t75:=Try.underlying140
 a75:=Try.isAgg140
 z75:=Try.sizeOf140
 v75:=Try.zeroValue140
 t79:=Try.underlying144
 a79:=Try.isAgg144
 z79:=Try.sizeOf144
 v79:=Try.zeroValue144
 t83:=Try.underlying152
 a83:=Try.isAgg152
 z83:=Try.sizeOf152
 v83:=Try.zeroValue152
 t84:=Try.underlying153
 a84:=Try.isAgg153
 z84:=Try.sizeOf153
 v84:=Try.zeroValue153}
def Ck:List Nat:=[0,1,2,517,483,77,96,92,491,492,499,487,485,89,83,84,85,86,87,132,133,130,500,505,149,506,501,507,496,508,512,31,32,502,17,125,126,113,114,115,116,117,118,93,119,120,121,122,167,40,280,495,182,37,27,38,165,131,161,162,163,164,203,204,205,206,207,208,209,210,211,50,51,510,221,41,198,199,200,201,202,239,54,55,240,241,36,52,235,236,237,238,272,270,271,282,283,284,285,59,60,61,62,63,64,65,66,67,68,69,70,71,72,73,184,74]
def Cl:List (Nat×Nat):=[]
noncomputable def X0:TrEnv:=⟨Try.prog,fun F=>Ck[F]?,fun t=> (Cl.find? (·.1==t)).map (·.2)⟩
theorem acx:aU X0 ⟨[],[25],[],[(8,[4,5,8,7]),(11,[4,5,8,7])],[],[],[],[],[],[],none,[],0⟩ Try.f3=some abp:=by kernel_rfl
theorem QV:aU X0 ⟨[],[13,14,66,67],[],[(1,[4,5,8,7]),(2,[4,5,8,7]),(3,[4,5,8,7]),(5,[4,5,8,7]),(7,[4,5,8,7]),(9,[4,5,8,7]),(10,[4,5,8,7])],[],[(11,113,193)],[],[],[],[],none,[],0⟩ Try.f4=some Nm:=by kernel_rfl
theorem Uy:aU X0 ⟨[],[13,67,72],[],[(2,[4,5,8,7]),(3,[4,5,8,7]),(20,[1,0])],[],[],[],[],[],[],none,[],0⟩ Try.f5=some f77:=by kernel_rfl
theorem acU:aU X0 ⟨[],[],[(21,65),(34,65),(47,65)],[(2,[1]),(7,[0,2,0,0,0,0,0,0])],[(3,65,1)],[(3,21,65),(3,34,65),(3,47,65)],[],[],[],[],none,[],0⟩ Try.f6=some f96:=by kernel_rfl
theorem UG:aU X0 ⟨[],[],[(37,66),(59,68)],[(2,[4,5,8,7]),(16,[0,5,0,7]),(3,[0,5,0,7]),(5,[0,2,0,0]),(7,[0,2,0,0,0,0,0,0])],[],[],[],[],[],[],none,[],0⟩ Try.f7=some f92:=by kernel_rfl
theorem Q1:aU X0 ⟨[],[],[],[],[],[],[],[],[],[],none,[],0⟩ Try.f8=some Nr:=by kernel_rfl
theorem Q2:aU X0 ⟨[],[48],[(26,113),(72,145)],[],[(4,81,5),(6,113,1),(8,145,5)],[(6,26,113),(11,50,193),(8,72,145)],[],[],[],[],none,[(19,[1,2,5,6],[48,96,113])],0⟩ Try.f9=some Ns:=by kernel_rfl
theorem Q5:aU X0 ⟨[],[],[(40,82)],[(0,[4,5,8,7]),(4,[0,5,8,7]),(14,[0,2,0,0]),(20,[0,2,0,0]),(24,[0,2,0,0]),(38,[0,2,0,0])],[],[],[],[],[],[],none,[],0⟩ Try.f10=some Nu:=by kernel_rfl
theorem QZ:aU X0 ⟨[],[],[],[],[],[],[],[],[],[],none,[],0⟩ Try.f11=some Nq:=by kernel_rfl
theorem QX:aU X0 ⟨[],[35],[(52,180),(98,178),(150,179)],[(6,[4,5,8,7]),(31,[4,5,8,7]),(36,[0,0,0,7]),(10,[0,0,0,7]),(12,[0,2,0,0,0,0,0,0]),(15,[0,2,0,0]),(153,[4,5,8,7])],[],[],[],[],[],[],(some (0,1)),[],0⟩ Try.f12=some JF:=by kernel_rfl
theorem UA:aU X0 ⟨[],[],[],[],[],[],[],[],[],[],none,[],0⟩ Try.f13=some f89:=by kernel_rfl
theorem UB:aU X0 ⟨[],[143,180,204,207],[],[(2,[4]),(3,[5]),(4,[1]),(5,[1]),(6,[1]),(40,[1,0]),(105,[1,0])],[(14,241,4)],[(14,143,241),(14,180,241),(14,204,241)],[],[],[],[],none,[],0⟩ Try.f14=some f83:=by kernel_rfl
theorem UC:aU X0 ⟨[],[],[],[(4,[1])],[],[],[],[],[],[],none,[],0⟩ Try.f15=some f84:=by kernel_rfl
theorem UD:aU X0 ⟨[some 2,none],[],[],[],[],[],[],[],[],[],none,[],0⟩ Try.f16=some f85:=by kernel_rfl
theorem UE:aU X0 ⟨[],[31,50,61,69],[],[(2,[8]),(9,[1,0])],[(4,81,8)],[(4,31,81),(4,50,81),(4,61,81),(4,69,81)],[],[],[],[],none,[],0⟩ Try.f17=some f86:=by kernel_rfl
theorem UF:aU X0 ⟨[],[],[(86,113)],[(14,[1,0])],[(4,81,7),(6,113,7)],[(6,86,113)],[],[],[],[],none,[],0⟩ Try.f18=some f87:=by kernel_rfl
theorem Re:aU X0 ⟨[some 1],[],[],[],[],[],[],[],[],[],none,[],0⟩ Try.f19=some abU:=by kernel_rfl
theorem Rm:aU X0 ⟨[some 1],[],[],[(2,[1])],[],[],[],[],[],[],none,[],0⟩ Try.f20=some abq:=by kernel_rfl
theorem Ry:aU X0 ⟨[],[],[],[(2,[2])],[],[],[],[],[],[],none,[],0⟩ Try.f21=some abr:=by kernel_rfl
theorem Q6:aU X0 ⟨[],[],[],[],[],[],[],[],[],[2],none,[],0⟩ Try.f22=some J8:=by kernel_rfl
theorem Rf:aU X0 ⟨[some 1,none],[],[],[(4,[1])],[],[],[],[],[],[],none,[],0⟩ Try.f23=some NF:=by kernel_rfl
theorem Rg:aU X0 ⟨[],[],[],[],[],[],[],[],[],[],none,[],0⟩ Try.f25=some NG:=by kernel_rfl
theorem Q7:aU X0 ⟨[],[],[],[],[],[],[],[],[],[],none,[],0⟩ Try.f26=some Ka:=by kernel_rfl
theorem Rh:aU X0 ⟨[],[],[],[(7,[0,2,0,0])],[],[],[],[],[],[],none,[],0⟩ Try.f27=some NH:=by kernel_rfl
theorem Q4:aU X0 ⟨[],[],[],[],[],[],[],[],[],[],none,[],0⟩ Try.f28=some Nt:=by kernel_rfl
theorem Ri:aU X0 ⟨[],[],[],[],[],[],[],[],[],[],none,[],0⟩ Try.f29=some NI:=by kernel_rfl
theorem Rn:aU X0 ⟨[],[],[],[],[],[],[],[],[],[],none,[],0⟩ Try.f30=some NN:=by kernel_rfl
theorem Q8:aU X0 ⟨[],[],[],[],[],[],[],[],[],[],none,[],0⟩ Try.f33=some Kc:=by kernel_rfl
theorem UK:aU X0 ⟨[],[],[],[],[],[],[],[],[],[],none,[],0⟩ Try.f34=some f17:=by kernel_rfl
theorem Ra:aU X0 ⟨[],[],[],[],[],[],[],[],[],[],none,[],0⟩ Try.f35=some abV:=by kernel_rfl
theorem Rb:aU X0 ⟨[],[],[],[],[],[],[],[],[],[],none,[],0⟩ Try.f36=some abW:=by kernel_rfl
theorem Ro:aU X0 ⟨[some 4,none,none,none,some 2],[],[(31,17)],[(22,[0,2,0,0]),(11,[0,2,0,0])],[(10,177,4)],[],[],[],[],[],none,[],0⟩ Try.f37=some f113:=by kernel_rfl
theorem Rp:aU X0 ⟨[none,none,some 2],[],[(71,129),(75,129)],[(6,[2])],[],[(7,14,129),(7,71,129)],[],[],[],[],none,[],0⟩ Try.f38=some f114:=by kernel_rfl
theorem Rq:aU X0 ⟨[],[],[],[],[],[],[],[],[],[],none,[],0⟩ Try.f39=some f115:=by kernel_rfl
theorem Rr:aU X0 ⟨[],[],[],[],[],[],[],[],[],[],none,[],0⟩ Try.f40=some abt:=by kernel_rfl
theorem Rs:aU X0 ⟨[some 4,none,none,some 2],[95],[],[(8,[4])],[],[(10,50,177),(10,90,177)],[],[],[],[],none,[],0⟩ Try.f41=some abu:=by kernel_rfl
theorem Rt:aU X0 ⟨[],[],[(52,97)],[(3,[1])],[(2,49,5),(5,97,5)],[(3,25,65),(3,38,65),(5,52,97)],[],[],[],[],none,[],0⟩ Try.f42=some abv:=by kernel_rfl
theorem UH:aU X0 ⟨[],[],[],[],[],[],[],[],[],[],none,[],0⟩ Try.f43=some f93:=by kernel_rfl
theorem Ru:aU X0 ⟨[some 8,none,none,none,some 2],[],[(84,195),(90,195),(122,17)],[(10,[8])],[],[],[],[],[],[],none,[],0⟩ Try.f44=some abw:=by kernel_rfl
theorem Rv:aU X0 ⟨[],[],[],[],[],[],[],[],[],[],none,[],0⟩ Try.f45=some abx:=by kernel_rfl
theorem Rw:aU X0 ⟨[],[],[],[],[],[],[],[],[],[],none,[],0⟩ Try.f46=some aby:=by kernel_rfl
theorem Rx:aU X0 ⟨[],[],[],[],[],[],[],[],[],[],none,[],0⟩ Try.f47=some abz:=by kernel_rfl
theorem RB:aU X0 ⟨[],[],[],[],[],[],[],[],[],[],none,[],0⟩ Try.f50=some NO:=by kernel_rfl
theorem Q3:aU X0 ⟨[],[],[(42,129)],[(6,[1]),(9,[0,2,0,0])],[(7,129,1)],[(7,42,129)],[],[],[],[],none,[],0⟩ Try.f51=some JS:=by kernel_rfl
theorem Rl:aU X0 ⟨[],[],[],[],[],[],[],[],[],[2],none,[],0⟩ Try.f52=some NJ:=by kernel_rfl
theorem UL:aU X0 ⟨[],[],[],[],[],[],[],[],[],[],none,[],0⟩ Try.f53=some f37:=by kernel_rfl
theorem UM:aU X0 ⟨[],[],[],[],[],[],[],[],[],[],none,[],0⟩ Try.f54=some f27:=by kernel_rfl
theorem UN:aU X0 ⟨[],[],[],[],[],[],[],[],[],[],none,[],0⟩ Try.f55=some f38:=by kernel_rfl
theorem RA:aU X0 ⟨[],[],[],[],[],[],[],[],[],[],none,[],0⟩ Try.f56=some KN:=by kernel_rfl
theorem Rz:aU X0 ⟨[],[],[(28,67)],[(2,[0,2,0,0]),(30,[0,2,0,0])],[],[],[],[],[],[],none,[],0⟩ Try.f57=some abA:=by kernel_rfl
theorem RC:aU X0 ⟨[],[],[],[],[],[],[],[],[],[],none,[],0⟩ Try.f58=some KQ:=by kernel_rfl
theorem Rj:aU X0 ⟨[],[],[(43,113)],[(4,[1])],[],[(6,39,113)],[],[],[],[],none,[],0⟩ Try.f59=some Kr:=by kernel_rfl
theorem RD:aU X0 ⟨[],[],[],[],[],[],[],[],[],[],none,[],0⟩ Try.f60=some KS:=by kernel_rfl
theorem RE:aU X0 ⟨[],[],[(51,99),(56,65)],[],[(2,49,4),(3,65,4)],[(3,56,65)],[],[],[],[],none,[],0⟩ Try.f61=some KU:=by kernel_rfl
theorem Rk:aU X0 ⟨[some 1],[],[],[(2,[1])],[],[],[],[],[],[],none,[],0⟩ Try.f73=some Kt:=by kernel_rfl
theorem UO:aU X0 ⟨[],[],[],[],[],[],[],[],[],[],none,[],0⟩ Try.f75=some f41:=by kernel_rfl
theorem RF:aU X0 ⟨[],[],[],[],[],[],[],[],[],[],none,[],0⟩ Try.f76=some KW:=by kernel_rfl
theorem RG:aU X0 ⟨[],[],[],[],[],[],[],[],[],[],none,[],0⟩ Try.f77=some KY:=by kernel_rfl
theorem RH:aU X0 ⟨[],[],[],[],[],[],[],[],[],[],none,[],0⟩ Try.f78=some K0:=by kernel_rfl
theorem RI:aU X0 ⟨[],[],[],[],[],[],[],[],[],[],none,[],0⟩ Try.f79=some K2:=by kernel_rfl
theorem RJ:aU X0 ⟨[],[],[],[],[],[],[],[],[],[],none,[],0⟩ Try.f80=some K4:=by kernel_rfl
theorem RK:aU X0 ⟨[],[],[],[],[],[],[],[],[],[],none,[],0⟩ Try.f88=some K6:=by kernel_rfl
theorem RL:aU X0 ⟨[],[],[],[],[],[],[],[],[],[],none,[],0⟩ Try.f89=some K8:=by kernel_rfl
theorem RM:aU X0 ⟨[],[],[],[],[],[],[],[],[],[],none,[],0⟩ Try.f90=some La:=by kernel_rfl
theorem RN:aU X0 ⟨[],[],[],[],[],[],[],[],[],[],none,[],0⟩ Try.f91=some Lc:=by kernel_rfl
theorem RO:aU X0 ⟨[],[],[],[],[],[],[],[],[],[],none,[],0⟩ Try.f93=some Lf:=by kernel_rfl
theorem RP:aU X0 ⟨[],[],[],[],[],[],[],[],[],[],none,[],0⟩ Try.f94=some Lh:=by kernel_rfl
theorem RQ:aU X0 ⟨[],[],[],[],[],[],[],[],[],[],none,[],0⟩ Try.f95=some Lj:=by kernel_rfl
theorem RR:aU X0 ⟨[],[],[],[],[],[],[],[],[],[],none,[],0⟩ Try.f96=some Ll:=by kernel_rfl
theorem RS:aU X0 ⟨[],[],[],[],[],[],[],[],[],[],none,[],0⟩ Try.f97=some Ln:=by kernel_rfl
theorem RT:aU X0 ⟨[],[],[],[],[],[],[],[],[],[],none,[],0⟩ Try.f98=some Lp:=by kernel_rfl
theorem RU:lZ X0 Try.f24 1 15637498705947:=⟨⟨_,_,_,_,_,_,_,_,rfl,by kernel_rfl,by kernel_rfl,⟨.int .i64 0,by kernel_rfl,by decide,by kernel_rfl⟩,⟨_,_,_,3,rfl,by kernel_rfl,rfl,rfl,rfl,by kernel_rfl⟩⟩,rfl,by decide⟩
theorem UP:lZ X0 Try.f31 7 1927910799188:=⟨⟨_,_,_,_,_,_,_,_,rfl,by kernel_rfl,by kernel_rfl,⟨.agg [.int .i64 0,.int .i64 0,.int .i64 0,.str [],.str [],.int .i64 0,.int .i64 0],by kernel_rfl,by decide,by kernel_rfl⟩,⟨_,_,_,67,rfl,by kernel_rfl,rfl,rfl,rfl,by kernel_rfl⟩⟩,rfl,by decide⟩
theorem UQ:lZ X0 Try.f32 2 8278675785407:=⟨⟨_,_,_,_,_,_,_,_,rfl,by kernel_rfl,by kernel_rfl,⟨.agg [.int .i64 0,.int .i64 0],by kernel_rfl,by decide,by kernel_rfl⟩,⟨_,_,_,65,rfl,by kernel_rfl,rfl,rfl,rfl,by kernel_rfl⟩⟩,rfl,by decide⟩
theorem u7:im Ck=true:=by kernel_rfl
theorem Jl:im (Cl.map (·.2))=true:=by kernel_rfl
theorem Ij:jU X0 EM:=⟨⟨3,Try.f3,_,_,rfl,Try.func3,by kernel_rfl,rfl,acx,by decide+kernel⟩,
 ⟨4,Try.f4,_,_,rfl,Try.func4,by kernel_rfl,rfl,QV,by decide+kernel⟩,
 ⟨5,Try.f5,_,_,rfl,Try.func5,by kernel_rfl,rfl,Uy,by decide+kernel⟩,
 ⟨6,Try.f6,_,_,rfl,Try.func6,by kernel_rfl,rfl,acU,by decide+kernel⟩,
 ⟨7,Try.f7,_,_,rfl,Try.func7,by kernel_rfl,rfl,UG,by decide+kernel⟩,
 ⟨8,Try.f8,_,_,rfl,Try.func8,by kernel_rfl,rfl,Q1,by decide+kernel⟩,
 ⟨9,Try.f9,_,_,rfl,Try.func9,by kernel_rfl,rfl,Q2,by decide+kernel⟩,
 ⟨10,Try.f10,_,_,rfl,Try.func10,by kernel_rfl,rfl,Q5,by decide+kernel⟩,
 ⟨11,Try.f11,_,_,rfl,Try.func11,by kernel_rfl,rfl,QZ,by decide+kernel⟩,
 ⟨12,Try.f12,_,_,rfl,Try.func12,by kernel_rfl,rfl,QX,by decide+kernel⟩,
 ⟨13,Try.f13,_,_,rfl,Try.func13,by kernel_rfl,rfl,UA,by decide+kernel⟩,
 ⟨14,Try.f14,_,_,rfl,Try.func14,by kernel_rfl,rfl,UB,by decide+kernel⟩,
 ⟨15,Try.f15,_,_,rfl,Try.func15,by kernel_rfl,rfl,UC,by decide+kernel⟩,
 ⟨16,Try.f16,_,_,rfl,Try.func16,by kernel_rfl,rfl,UD,by decide+kernel⟩,
 ⟨17,Try.f17,_,_,rfl,Try.func17,by kernel_rfl,rfl,UE,by decide+kernel⟩,
 ⟨18,Try.f18,_,_,rfl,Try.func18,by kernel_rfl,rfl,UF,by decide+kernel⟩,
 ⟨19,Try.f19,_,_,rfl,Try.func19,by kernel_rfl,rfl,Re,by decide+kernel⟩,
 ⟨20,Try.f20,_,_,rfl,Try.func20,by kernel_rfl,rfl,Rm,by decide+kernel⟩,
 ⟨21,Try.f21,_,_,rfl,Try.func21,by kernel_rfl,rfl,Ry,by decide+kernel⟩,
 ⟨22,Try.f22,_,_,rfl,Try.func22,by kernel_rfl,rfl,Q6,by decide+kernel⟩,
 ⟨23,Try.f23,_,_,rfl,Try.func23,by kernel_rfl,rfl,Rf,by decide+kernel⟩,
 ⟨25,Try.f25,_,_,rfl,Try.func25,by kernel_rfl,rfl,Rg,by decide+kernel⟩,
 ⟨26,Try.f26,_,_,rfl,Try.func26,by kernel_rfl,rfl,Q7,by decide+kernel⟩,
 ⟨27,Try.f27,_,_,rfl,Try.func27,by kernel_rfl,rfl,Rh,by decide+kernel⟩,
 ⟨28,Try.f28,_,_,rfl,Try.func28,by kernel_rfl,rfl,Q4,by decide+kernel⟩,
 ⟨29,Try.f29,_,_,rfl,Try.func29,by kernel_rfl,rfl,Ri,by decide+kernel⟩,
 ⟨30,Try.f30,_,_,rfl,Try.func30,by kernel_rfl,rfl,Rn,by decide+kernel⟩,
 ⟨33,Try.f33,_,_,rfl,Try.func33,by kernel_rfl,rfl,Q8,by decide+kernel⟩,
 ⟨34,Try.f34,_,_,rfl,Try.func34,by kernel_rfl,rfl,UK,by decide+kernel⟩,
 ⟨35,Try.f35,_,_,rfl,Try.func35,by kernel_rfl,rfl,Ra,by decide+kernel⟩,
 ⟨36,Try.f36,_,_,rfl,Try.func36,by kernel_rfl,rfl,Rb,by decide+kernel⟩,
 ⟨37,Try.f37,_,_,rfl,Try.func37,by kernel_rfl,rfl,Ro,by decide+kernel⟩,
 ⟨38,Try.f38,_,_,rfl,Try.func38,by kernel_rfl,rfl,Rp,by decide+kernel⟩,
 ⟨39,Try.f39,_,_,rfl,Try.func39,by kernel_rfl,rfl,Rq,by decide+kernel⟩,
 ⟨40,Try.f40,_,_,rfl,Try.func40,by kernel_rfl,rfl,Rr,by decide+kernel⟩,
 ⟨41,Try.f41,_,_,rfl,Try.func41,by kernel_rfl,rfl,Rs,by decide+kernel⟩,
 ⟨42,Try.f42,_,_,rfl,Try.func42,by kernel_rfl,rfl,Rt,by decide+kernel⟩,
 ⟨43,Try.f43,_,_,rfl,Try.func43,by kernel_rfl,rfl,UH,by decide+kernel⟩,
 ⟨44,Try.f44,_,_,rfl,Try.func44,by kernel_rfl,rfl,Ru,by decide+kernel⟩,
 ⟨45,Try.f45,_,_,rfl,Try.func45,by kernel_rfl,rfl,Rv,by decide+kernel⟩,
 ⟨46,Try.f46,_,_,rfl,Try.func46,by kernel_rfl,rfl,Rw,by decide+kernel⟩,
 ⟨47,Try.f47,_,_,rfl,Try.func47,by kernel_rfl,rfl,Rx,by decide+kernel⟩,
 ⟨50,Try.f50,_,_,rfl,Try.func50,by kernel_rfl,rfl,RB,by decide+kernel⟩,
 ⟨51,Try.f51,_,_,rfl,Try.func51,by kernel_rfl,rfl,Q3,by decide+kernel⟩,
 ⟨52,Try.f52,_,_,rfl,Try.func52,by kernel_rfl,rfl,Rl,by decide+kernel⟩,
 ⟨53,Try.f53,_,_,rfl,Try.func53,by kernel_rfl,rfl,UL,by decide+kernel⟩,
 ⟨54,Try.f54,_,_,rfl,Try.func54,by kernel_rfl,rfl,UM,by decide+kernel⟩,
 ⟨55,Try.f55,_,_,rfl,Try.func55,by kernel_rfl,rfl,UN,by decide+kernel⟩,
 ⟨56,Try.f56,_,_,rfl,Try.func56,by kernel_rfl,rfl,RA,by decide+kernel⟩,
 ⟨57,Try.f57,_,_,rfl,Try.func57,by kernel_rfl,rfl,Rz,by decide+kernel⟩,
 ⟨58,Try.f58,_,_,rfl,Try.func58,by kernel_rfl,rfl,RC,by decide+kernel⟩,
 ⟨59,Try.f59,_,_,rfl,Try.func59,by kernel_rfl,rfl,Rj,by decide+kernel⟩,
 ⟨60,Try.f60,_,_,rfl,Try.func60,by kernel_rfl,rfl,RD,by decide+kernel⟩,
 ⟨61,Try.f61,_,_,rfl,Try.func61,by kernel_rfl,rfl,RE,by decide+kernel⟩,
 ⟨73,Try.f73,_,_,rfl,Try.func73,by kernel_rfl,rfl,Rk,by decide+kernel⟩,
 ⟨75,Try.f75,_,_,rfl,Try.func75,by kernel_rfl,rfl,UO,by decide+kernel⟩,
 ⟨76,Try.f76,_,_,rfl,Try.func76,by kernel_rfl,rfl,RF,by decide+kernel⟩,
 ⟨77,Try.f77,_,_,rfl,Try.func77,by kernel_rfl,rfl,RG,by decide+kernel⟩,
 ⟨78,Try.f78,_,_,rfl,Try.func78,by kernel_rfl,rfl,RH,by decide+kernel⟩,
 ⟨79,Try.f79,_,_,rfl,Try.func79,by kernel_rfl,rfl,RI,by decide+kernel⟩,
 ⟨80,Try.f80,_,_,rfl,Try.func80,by kernel_rfl,rfl,RJ,by decide+kernel⟩,
 ⟨88,Try.f88,_,_,rfl,Try.func88,by kernel_rfl,rfl,RK,by decide+kernel⟩,
 ⟨89,Try.f89,_,_,rfl,Try.func89,by kernel_rfl,rfl,RL,by decide+kernel⟩,
 ⟨90,Try.f90,_,_,rfl,Try.func90,by kernel_rfl,rfl,RM,by decide+kernel⟩,
 ⟨91,Try.f91,_,_,rfl,Try.func91,by kernel_rfl,rfl,RN,by decide+kernel⟩,
 ⟨93,Try.f93,_,_,rfl,Try.func93,by kernel_rfl,rfl,RO,by decide+kernel⟩,
 ⟨94,Try.f94,_,_,rfl,Try.func94,by kernel_rfl,rfl,RP,by decide+kernel⟩,
 ⟨95,Try.f95,_,_,rfl,Try.func95,by kernel_rfl,rfl,RQ,by decide+kernel⟩,
 ⟨96,Try.f96,_,_,rfl,Try.func96,by kernel_rfl,rfl,RR,by decide+kernel⟩,
 ⟨97,Try.f97,_,_,rfl,Try.func97,by kernel_rfl,rfl,RS,by decide+kernel⟩,
 ⟨98,Try.f98,_,_,rfl,Try.func98,by kernel_rfl,rfl,RT,by decide+kernel⟩,trivial⟩
theorem Gw: ∀t1 t2 k,X0.iU t1=some k→X0.iU t2=some k→t1=t2:=(zA (P:=Try.prog) (fl:=Ck) (tl:=Cl) (tab:=[]) (ext:=[]) (hyb:=[]) (iter:=[]) u7 Jl (by kernel_rfl) trivial trivial trivial trivial).inj
theorem Gx:pN X0 EN:=⟨⟨24,rfl,fun _ _ h=>nF Gw Try.func24 (by kernel_rfl) RU h⟩,
 ⟨31,rfl,fun _ _ h=>nF Gw Try.func31 (by kernel_rfl) UP h⟩,
 ⟨32,rfl,fun _ _ h=>nF Gw Try.func32 (by kernel_rfl) UQ h⟩,
 ⟨87,rfl,fun _ _ h=>Bh Try.func87 (by kernel_rfl) (by kernel_rfl) (by kernel_rfl) rfl h⟩,
 ⟨19,rfl,fun _ _ h=>Bi (X:=X0) (F:=19) (ρ:=ZI) acw rfl Try.func19 (by kernel_rfl) rfl h⟩,trivial⟩
theorem D4:mb X0 BB:=⟨zK _ _ 221 rfl,trivial⟩
theorem QQ:uZ X0 E:=zA (P:=Try.prog) (fl:=Ck) (tl:=Cl) u7 Jl (by kernel_rfl) Ij Gx trivial D4
end Go.AM
