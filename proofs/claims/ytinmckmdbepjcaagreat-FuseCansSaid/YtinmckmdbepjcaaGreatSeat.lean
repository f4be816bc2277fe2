/-
  Texts of the proof, joined by program: AmIter, AmIterF, AmTrFk. Own work.
-/
import Derived.Test.YtinmckmdbepjcaaGreatOpsC
import Derived.Test.YtinmckmdbepjcaaGreatBase
import Derived.Test.YtinmckmdbepjcaaGreatTail
import Derived.Test.YtinmckmdbepjcaaGreatFns
import Derived.Test.YtinmckmdbepjcaaGreatSx
import Derived.StillTailTactics
import Derived.Test.YtinmckmdbepjcaaGreatProg
import Derived.RangeFuncNested
import Derived.RangeFuncLeaves
import Derived.Shelf.Abstract
import Derived.Shelf.RegionOpen
import Derived.WalkKit
import Derived.OwnWalkIn
import Derived.TacticsInMore
import Derived.LoopNIn
import Derived.LoopIn
import Derived.Test.YtinmckmdbepjcaaGreatRows
set_option linter.unusedSimpArgs false
set_option linter.unusedVariables false
namespace Go.Proofs
open Go.RowKit Go.Shelf Go.AM
attribute [local go_sem] Oper.semAt_some
@[local go_sem] theorem QS: (Fr none).round=none:=rfl
set_option maxRecDepth 100000 in
set_option maxHeartbeats 4000000 in
theorem Gt (l Bs Bo b off len cap:Nat) (vs:List (List Value)) (hlen:vs.length=len) (h2: ∀v ∈ vs,∃x y,v=[x,y]) (hbig:len< 4611686018427387904) (Kp:World→World→Prop) (VQ: ∀ {A B C},Kp A B→Kp B C→Kp A C) (Ub: ∀A,Kp A A)
  (XU: ∀ {A B},Kp A B→A.cell? ⟨Bs,Bo,none⟩=some (.slice (some ⟨b,off,none⟩) len cap)→B.cell? ⟨Bs,Bo,none⟩=some (.slice (some ⟨b,off,none⟩) len cap))
  (Sn: ∀ {A B} j v,Kp A B→A.cell? ⟨b,j,none⟩=some v→B.cell? ⟨b,j,none⟩=some v)
  (FT: ∀A:World,Kp A A.drew) (J Jx:Nat→World→Prop) (VR: ∀k W,J k W→J k W.drew)
  (hY: ∀ (k:Nat) W1 x y z u,k+1 <len→vs[k]? =some [x,y]→vs[k+1]? =some [z,u]→J k W1→YieldAt (Fr none) 0 Tryz.prog l #[.int .i64 k,.agg #[x,y,z,u]] W1 fun e W'=>
    (e= .returned (.bool true)∧J (k+1) W'∧Kp W1 W')∨(e= .returned (.bool false)∧Jx (k+1) W'))
  (W:World) (VS:W.cell? ⟨Bs,Bo,none⟩=some (.slice (some ⟨b,off,none⟩) len cap)) (hc: ∀ (j:Nat) x y,vs[j]? =some [x,y]→W.cell? ⟨b,off+j*2,none⟩=some x∧W.cell? ⟨b,off+j*2+1,none⟩=some y) (h0:J 0 W):
  CallsIn (Fr none) 1 Tryz.prog 79 #[.func (.yield l) #[] #[],.pointer (some ⟨Bs,Bo,none⟩)] W fun e W'=> (∃v,e= .returned v)∧(J (len - 1) W'∨ ∃k,k≤len - 1∧Jx k W'):=by
 refine callsIn_of_wp Tryz.func79 rfl trivial ?_ rfl
 simp only[Tryz.ntmps79,List.size_toArray,List.length_cons,List.length_nil,Nat.reduceAdd,Nat.reduceSub,Array.replicate_succ,Array.replicate_zero,List.push_toArray,List.append_toArray,List.nil_append,List.cons_append]
 have IY:Tryz.prog.follows .mixedOrders=true:=by kernel_rfl
 gi_wp2
 gi_loopw [3] (fun i wr=> ∃k:Nat,k≤len - 1∧i= .int .i64 k∧J k wr∧Kp W wr) (fun i _=>len - (intOf i).toNat)
 case atStart=>exact⟨0,Nat.zero_le _,rfl,h0,Ub _⟩
 case round=>
  obtain⟨k,hk,rfl,Sp,xb⟩:=hrel
  have XV:=XU xb VS
  by_cases bk:k+1 <len
  · obtain⟨x,y,D6⟩:=h2 vs[k] (List.getElem_mem (by omega))
    obtain⟨z,u,XW⟩:=h2 vs[k+1] (List.getElem_mem (by omega))
    have H2:vs[k]? =some [x,y]:=by rw[List.getElem?_eq_getElem (by omega),D6]
    have Ge:vs[k+1]? =some [z,u]:=by rw[List.getElem?_eq_getElem (by omega),XW]
    obtain⟨fn,tmps,assign,body,hy,hR⟩:=hY k wr.drew x y z u bk H2 Ge (VR _ _ Sp)
    have vu:k<len:=by omega
    have IK: (k:Int)+1 < (len:Int):=by omega
    have PM: (0:Int)≤(k:Int)+1:=by omega
    have Pu:IntKind.i64.wrap ((k:Int)+1)=(k:Int)+1:=wrap64 (by omega) (by omega)
    have CA: ((k:Int)+1).toNat=k+1:=by omega
    have c1:=Sn _ _ xb (hc k x y H2).1
    have c2:=Sn _ _ xb (hc k x y H2).2
    have c3:=Sn _ _ xb (hc (k+1) z u Ge).1
    have c4:=Sn _ _ xb (hc (k+1) z u Ge).2
    gi_wp2
    have VT:=hR.mono (R':=fun e W'=> ∃bb,e= .returned (.bool bb)∧(bb=true→J (k+1) W'∧Kp wr.drew W')∧(bb=false→Jx (k+1) W')) (by
       rintro e W' (⟨rfl,q1,q2⟩ | ⟨rfl,q1⟩)
       · exact⟨true,rfl,fun _=> ⟨q1,q2⟩,by simp⟩
       · exact⟨false,rfl,by simp,fun _=>q1⟩)
    clear hR
    refine Gu (n:=0) (mf 12 IY (by kernel_rfl) (by kernel_rfl) ?_)
    simp only[List.take_succ_cons,List.take_zero,List.drop_succ_cons,List.drop_zero]
    change wpStill _ _ (World.drew wr) (fun a'=>wpListIn _ _ _ _ _ _ a' (World.drew wr)) _ _
    iterate 12 (refine wpStill_step (fun K hK=> ?_);go_simp; (try simp only[Pu,CA,IK,PM,vu,and_self,if_true,true_and,go_sem]); (try simp only[c1,c2,c3,c4,XV,World.MA,go_sem]);refine hK _ ?_;clear hK K)
    refine wpStill_nil ?_
    refine wpListIn_step (fun K hK=> ?_)
    go_simp
    refine⟨rfl,RoundIn.mono VT ?_⟩
    rintro e W3 ⟨bb,rfl,VU,R8⟩
    refine hK _ _ ?_
    clear hK K
    refine wpListIn_step (fun K hK=> ?_)
    go_simp
    refine hK _ _ ?_
    clear hK K
    refine wpListIn_nil ?_
    rename_i XX Yv VV
    refine VV _ _ ?_
    cases bb
    ·  clear VV XX VT
       gi_wp2
       refine⟨rfl,_,results_none (fn:=Tryz.f79) rfl _ _ _,⟨_,rfl⟩,?_⟩
       exact .inr ⟨k+1,by omega,R8 trivial⟩
    ·  gi_wp2
       exact⟨⟨k+1,by omega,rfl,(VU rfl).1,VQ xb (VQ (FT _) (VU rfl).2)⟩,by simp only[intOf];omega⟩
  · have IK: ¬ (k:Int)+1 < (len:Int):=by omega
    have Pu:IntKind.i64.wrap ((k:Int)+1)=(k:Int)+1:=wrap64 (by omega) (by omega)
    gi_wp2
    have XY:k=len - 1:=by omega
    refine⟨rfl,_,results_none (fn:=Tryz.f79) rfl _ _ _,⟨_,rfl⟩,?_⟩
    exact .inl (XY ▸ Sp)
set_option maxRecDepth 100000 in
set_option maxHeartbeats 4000000 in
theorem wN (l Bs Bo cap:Nat) (a0:Option Addr) (J Jx:Nat→World→Prop) (VR: ∀k W,J k W→J k W.drew)
  (W:World) (VS:W.cell? ⟨Bs,Bo,none⟩=some (.slice a0 0 cap)) (h0:J 0 W):
  CallsIn (Fr none) 1 Tryz.prog 79 #[.func (.yield l) #[] #[],.pointer (some ⟨Bs,Bo,none⟩)] W fun e W'=> (∃v,e= .returned v)∧(J 0 W'∨ ∃k,k≤0∧Jx k W'):=by
 refine callsIn_of_wp Tryz.func79 rfl trivial ?_ rfl
 simp only[Tryz.ntmps79,List.size_toArray,List.length_cons,List.length_nil,Nat.reduceAdd,Nat.reduceSub,Array.replicate_succ,Array.replicate_zero,List.push_toArray,List.append_toArray,List.nil_append,List.cons_append]
 have IY:Tryz.prog.follows .mixedOrders=true:=by kernel_rfl
 gi_wp2
 gi_loopw [3] (fun i wr=>i= .int .i64 0∧J 0 wr∧wr=W) (fun i _=>0)
 case atStart=>exact⟨rfl,h0,rfl⟩
 case round=>
  obtain⟨rfl,Sp,rfl⟩:=hrel
  have Pu:IntKind.i64.wrap ((0:Int)+1)=1:=by decide
  gi_wp2
  refine⟨rfl,_,results_none (fn:=Tryz.f79) rfl _ _ _,⟨_,rfl⟩,?_⟩
  exact .inl Sp
theorem pP (A:World):A.grownBy A.drew none:=⟨rfl,rfl,rfl,Nat.le_refl _,fun _ _ _=>rfl⟩
end Go.Proofs
namespace Go.Proofs
open Go.RowKit Go.AM
theorem zI: ∀ (ps:List V) (i:Nat),(vl i ps).length=ps.length - 1
 | [],_=>rfl
 | [_],_=>rfl
 | _::q::rest,i=>by simp only[vl,List.length_cons,zI (q::rest)];omega
theorem zJ: ∀ (ps:List V) (i k:Nat) x,(vl i ps)[k]? =some x→ ∃p q,ps[k]? =some p∧ps[k+1]? =some q∧x=[.int .i64 ((i+k:Nat):Int),.agg (p.cells++q.cells)]
 | [],i,k,x,h=>by simp[vl] at h
 | [_],i,k,x,h=>by simp[vl] at h
 | p::q::rest,i,k,x,h=>by
   cases k with
   | zero=>simp[vl] at h;exact⟨p,q,by simp,by simp,h ▸ by simp⟩
   | succ k=>
     simp only[vl,List.getElem?_cons_succ] at h
     obtain⟨p',q',h1,h2,rfl⟩:=zJ (q::rest) (i+1) k x h
     exact⟨p',q',by simpa using h1,by simpa using h2,by rw[show i+1+k=i+(k+1) by omega]⟩
def D3 (vs:List Value) (n:Nat):List (Array Value):=(List.range n).map fun (k:Nat)=> #[.int .i64 (((k:Nat):Int)),.agg ((vs.getD k undef).cells++(vs.getD (k+1) undef).cells)]
theorem Bn (args:Array Value) (w:World): (callFunc 79 args).run Tryz.prog w= .ok (.enter 79 args) w:=by
 obtain⟨c,hc⟩: ∃c,Tryz.f79.body=some c:=⟨_,rfl⟩
 have hn:Tryz.f79.name≠ "runtime.NumGoroutine" :=by decide
 simp[callFunc,Sem.run_bind,program,Sem.run,Tryz.func79,hc,hn]
theorem zK (   fn:FuncId→Option Nat) (tn:TypeId→Option Nat) (g:Nat) (hg:fn 79=some g):u6 ⟨Tryz.prog,fn,tn⟩ g Bu:=by
 refine⟨79,hg,fun caps xs vP B K μ lb Gv ho=> ?_⟩
 refine⟨Bn,?_⟩
 match caps,vP,Gv with
 | [.eptr .nils 0],vP,Gv=>
   simp only[Bu,Option.some.injEq] at vP
   subst vP
   obtain⟨lb⟩:=lb
   match lb,Gv with
   | [v],Gv=>
     simp only[ak,and_true] at Gv
     obtain⟨_,_,b,o,sz,x,rfl,kf,bk,⟨a,rfl⟩,dL⟩:=Gv
     have hr:=(dL 0 _ rfl).2 0 (.slice a 0 0) (by simp[Value.cells])
     simp only[Nat.zero_mul,Nat.add_zero] at hr
     refine⟨[],rfl,fun i x v h=>by simp at h,fun l J Jx W0 lP hJ VW hY h0=> ?_⟩
     have hc:W0.cell? ⟨b,o,none⟩=some (.slice a 0 0):=by rw[←hr];exact World.cell?_of_block (lP.block b bk)
     exact callsIn_wide.2 (callsIn_wide.1 (wN l b o 0 a J Jx (fun k W h=>hJ k W _ h (pP W)) W0 hc h0))
 | [.eptr (.lit 2 ps) 0],vP,Gv=>
   simp only[Bu] at vP
   split at vP
   case isFalse=>simp at vP
   case isTrue hbig=>
     simp only[Option.some.injEq] at vP
     subst vP
     obtain⟨lb⟩:=lb
     match lb,Gv with
     | [v],Gv=>
       simp only[ak,and_true] at Gv
       obtain⟨_,_,b,o,sz,x,rfl,kf,bk,⟨mF,gS,a,cap,vs,rfl,ed,rU,XZ⟩,dL⟩:=Gv
       have hr:=(dL 0 _ rfl).2 0 (.slice a ps.length cap) (by simp[Value.cells])
       simp only[Nat.zero_mul,Nat.add_zero] at hr
       have AY:vs.length=ps.length:=rU.length.symm
       have jY: ∀W0,Below μ.w.heap.size μ.w W0→W0.cell? ⟨b,o,none⟩=some (.slice a ps.length cap):=fun W0 lP=>by rw[←hr];exact World.cell?_of_block (lP.block b bk)
       have Uw: ∀p ∈ ps,p.dh=true:=List.all_eq_true.1 gS
       rcases XZ with rfl| ⟨b2,o2,rfl,Ux,fS,Jk⟩
       · refine⟨[],rfl,fun i x v h=>by simp[vl] at h,fun l J Jx W0 lP hJ VW hY h0=> ?_⟩
         exact callsIn_wide.2 (callsIn_wide.1 (wN l b o cap a J Jx (fun k W h=>hJ k W _ h (pP W)) W0 (jY W0 lP) h0))
       · have ns: ∀k p,ps[k]? =some p→ ∃v x y,vs[k]? =some v∧al ⟨⟨Tryz.prog,fn,tn⟩,B,K⟩ μ p v∧p.dh=true∧v.cells= #[x,y]:=fun k p hp=>by
           obtain⟨v,hv,B2⟩:=rU.get hp
           have hs:=(Jk k v hv).1
           obtain⟨cs,dk⟩: ∃cs,v.cells=cs:=⟨_,rfl⟩
           rw[dk] at hs
           obtain⟨cs⟩:=cs
           match cs,hs with
           | [x,y],_=>exact⟨v,x,y,hv,B2,Uw p (List.mem_of_getElem? hp),dk⟩
         have X1: ∀ (k:Nat) v,vs[k]? =some v→ ∃x y,v.cells= #[x,y]:=fun k v hv=>by
           have hk:k<ps.length:=by rw[←AY];exact(List.getElem?_eq_some_iff.1 hv).1
           obtain⟨v',x,y,h1,_,_,h2⟩:=ns k _ (List.getElem?_eq_getElem hk)
           rw[hv] at h1;injection h1 with h1;subst h1;exact⟨x,y,h2⟩
         refine⟨D3 vs (ps.length - 1),by rw[zI];simp[D3],fun i x v hx hv=> ?_,fun l J Jx W0 lP hJ VW hY h0=> ?_⟩
         · obtain⟨p,q,hp,hq,rfl⟩:=zJ ps 0 i x hx
           obtain⟨v1,x1,y1,h1,h2,h3,h4⟩:=ns i p hp
           obtain⟨v2,x2,y2,k1,k2,k3,k4⟩:=ns (i+1) q hq
           simp only[D3,List.getElem?_map,Option.map_eq_some_iff] at hv
           obtain⟨i',xP,rfl⟩:=hv
           obtain⟨_,rfl⟩:=List.getElem?_eq_some_iff.1 xP
           simp only[List.getElem_range,List.getD_eq_getElem?_getD,h1,k1,Option.getD_some]
           refine⟨by simp[al],⟨by rw[List.all_append,h2.ji h3,k2.ji k3];rfl,_,rfl,?_⟩,trivial⟩
           rw[Array.toList_append]
           exact ak.append (h2.cells h3) (k2.cells k3)
         · have sE: (D3 vs (ps.length - 1)).length=ps.length - 1:=by unfold D3;rw[List.length_map,List.length_range]
           have FO: ∀ (k:Nat) x y,(vs.map fun v=>v.cells.toList)[k]? =some [x,y]→ ∃v,vs[k]? =some v∧v.cells= #[x,y]:=fun k x y h=>by
            simp only[List.getElem?_map,Option.map_eq_some_iff] at h
            obtain⟨v,h1,h2⟩:=h
            exact⟨v,h1,by rw[←h2]⟩
           have key:=Gt l b o b2 o2 ps.length cap (vs.map fun v=>v.cells.toList) (by simpa using AY) (fun v hv=>by
              obtain⟨v0,Vm,rfl⟩:=List.mem_map.1 hv
              obtain⟨k,hk,IK⟩:=List.mem_iff_getElem.1 Vm
              obtain⟨x,y,h⟩:=X1 k v0 (by rw[List.getElem?_eq_getElem hk,IK])
              exact⟨x,y,by rw[h]⟩) hbig (Kept μ)
            (fun h1 h2 b hb hn=> (h2 b hb hn).trans (h1 b hb hn)) (fun A b hb hn=>rfl)
            (fun {A B} hk h=>by rw[←h];exact World.cell?_of_block (hk b bk fun h=>kf (.inl h)))
            (fun {A B} j v hk h=>by rw[←h];exact World.cell?_of_block (hk b2 fS fun h=>Ux (.inl h)))
            (fun A b hb hn=>rfl) J Jx (fun k W h=>hJ k W _ h (pP W))
            (fun k W1 x y z u hk h1 h2 X2=>by
              obtain⟨v1,e1,e2⟩:=FO k x y h1
              obtain⟨v2,e3,e4⟩:=FO (k+1) z u h2
              refine hY k W1 _ ?_ X2
              simp only[D3,List.getElem?_map,List.getElem?_range (show k<ps.length - 1 by omega),Option.map_some,List.getD_eq_getElem?_getD,e1,e3,Option.getD_some,e2,e4]
              rfl) W0 (jY W0 lP)
            (fun j x y h=>by
              obtain⟨v1,e1,e2⟩:=FO j x y h
              have oY:=(Jk j v1 e1).2
              rw[e2] at oY
              have c1:=oY 0 x rfl
              have c2:=oY 1 y rfl
              refine⟨?_,?_⟩
              · rw[World.cell?_of_block (lP.block b2 fS)];simpa using c1
              · rw[World.cell?_of_block (lP.block b2 fS)];exact c2) h0
           rw[sE]
           exact callsIn_wide.2 (callsIn_wide.1 key)
#print axioms zK
end Go.Proofs
set_option maxRecDepth 100000
namespace Go.AM
open Go.Proofs
def wO:Go.Shelf.Ren:=⟨fun| 53=>46| 64=>76| 63=>75| 78=>101| 79=>102| 70=>92| 71=>93| 72=>94| 73=>95| 74=>96| 75=>97| 59=>98| 76=>99| 77=>100| 88=>123| 89=>124| 90=>125| 91=>126| 92=>127| 68=>128| 96=>133| n=>n,fun| 22=>46| 23=>3| 3=>3| 51=>129| 0=>0| 67=>169| 69=>171| 4=>4| 61=>162| 60=>161| 44=>64| 5=>5| 9=>9| 75=>192| 79=>196| 83=>204| 84=>111| n=>n,fun| n=>n⟩
theorem QT:Go.Proofs.SlLaysN.n53 Tryz.prog wO:={
 mixed:=by kernel_rfl
 f53:=⟨Tryz.f46.name,by decide,Tryz.func46.trans (congrArg some (by kernel_rfl))⟩
 f59:=⟨Tryz.f98.name,by decide,Tryz.func98.trans (congrArg some (by kernel_rfl))⟩
 f63:=⟨Tryz.f75.name,by decide,Tryz.func75.trans (congrArg some (by kernel_rfl))⟩
 f64:=Tryz.func76.trans (congrArg some (by kernel_rfl))
 f68:=⟨Tryz.f128.name,by decide,Tryz.func128.trans (congrArg some (by kernel_rfl))⟩
 f70:=⟨Tryz.f92.name,by decide,Tryz.func92.trans (congrArg some (by kernel_rfl))⟩
 f71:=⟨Tryz.f93.name,by decide,Tryz.func93.trans (congrArg some (by kernel_rfl))⟩
 f72:=⟨Tryz.f94.name,by decide,Tryz.func94.trans (congrArg some (by kernel_rfl))⟩
 f73:=⟨Tryz.f95.name,by decide,Tryz.func95.trans (congrArg some (by kernel_rfl))⟩
 f74:=⟨Tryz.f96.name,by decide,Tryz.func96.trans (congrArg some (by kernel_rfl))⟩
 f75:=⟨Tryz.f97.name,by decide,Tryz.func97.trans (congrArg some (by kernel_rfl))⟩
 f76:=⟨Tryz.f99.name,by decide,Tryz.func99.trans (congrArg some (by kernel_rfl))⟩
 f77:=⟨Tryz.f100.name,by decide,Tryz.func100.trans (congrArg some (by kernel_rfl))⟩
 f78:=Tryz.func101.trans (congrArg some (by kernel_rfl))
 f79:=Tryz.func102.trans (congrArg some (by kernel_rfl))
 f88:=⟨Tryz.f123.name,by decide,Tryz.func123.trans (congrArg some (by kernel_rfl))⟩
 f89:=Tryz.func124.trans (congrArg some (by kernel_rfl))
 f90:=Tryz.func125.trans (congrArg some (by kernel_rfl))
 f91:=⟨Tryz.f126.name,by decide,Tryz.func126.trans (congrArg some (by kernel_rfl))⟩
 f92:=⟨Tryz.f127.name,by decide,Tryz.func127.trans (congrArg some (by kernel_rfl))⟩
 f96:=⟨Tryz.f133.name,by decide,Tryz.func133.trans (congrArg some (by kernel_rfl))⟩
 t0:=Tryz.underlying0
 a0:=Tryz.isAgg0
 z0:=Tryz.sizeOf0
 v0:=Tryz.zeroValue0
 t3:=Tryz.underlying3
 a3:=Tryz.isAgg3
 z3:=Tryz.sizeOf3
 v3:=Tryz.zeroValue3
 t4:=Tryz.underlying4
 a4:=Tryz.isAgg4
 z4:=Tryz.sizeOf4
 v4:=Tryz.zeroValue4
 t5:=Tryz.underlying5
 a5:=Tryz.isAgg5
 z5:=Tryz.sizeOf5
 v5:=Tryz.zeroValue5
 t9:=Tryz.underlying9
 a9:=Tryz.isAgg9
 z9:=Tryz.sizeOf9
 v9:=Tryz.zeroValue9
 t22:=Tryz.underlying46
 a22:=Tryz.isAgg46
 z22:=Tryz.sizeOf46
 v22:=Tryz.zeroValue46
 t23:=Tryz.underlying3
 a23:=Tryz.isAgg3
 z23:=Tryz.sizeOf3
 v23:=Tryz.zeroValue3
 t44:=Tryz.underlying64
 a44:=Tryz.isAgg64
 z44:=Tryz.sizeOf64
 v44:=Tryz.zeroValue64
 t51:=Tryz.underlying129
 a51:=Tryz.isAgg129
 z51:=Tryz.sizeOf129
 v51:=Tryz.zeroValue129
 t60:=Tryz.underlying161
 a60:=Tryz.isAgg161
 z60:=Tryz.sizeOf161
 v60:=Tryz.zeroValue161
 t61:=Tryz.underlying162
 a61:=Tryz.isAgg162
 z61:=Tryz.sizeOf162
 v61:=Tryz.zeroValue162
 t67:=Tryz.underlying169
 a67:=Tryz.isAgg169
 z67:=Tryz.sizeOf169
 v67:=Tryz.zeroValue169
 t69:=Tryz.underlying171
 a69:=Tryz.isAgg171
 z69:=Tryz.sizeOf171
 v69:=Tryz.zeroValue171
 t75:=Tryz.underlying192
 a75:=Tryz.isAgg192
 z75:=Tryz.sizeOf192
 v75:=Tryz.zeroValue192
 t79:=Tryz.underlying196
 a79:=Tryz.isAgg196
 z79:=Tryz.sizeOf196
 v79:=Tryz.zeroValue196
 t83:=Tryz.underlying204
 a83:=Tryz.isAgg204
 z83:=Tryz.sizeOf204
 v83:=Tryz.zeroValue204
 t84:=Tryz.underlying111
 a84:=Tryz.isAgg111
 z84:=Tryz.sizeOf111
 v84:=Tryz.zeroValue111}
def Ck:List Nat:=[0,1,2,480,481,482,483,77,79,484,485,486,89,487,488,489,490,491,492,493,494,495,496,96,497,498,499,83,84,85,86,87,92,93,94,95,500,501,31,32,502,17,503,125,126,504,132,505,149,506,507,508,162,509,510,182,37,27,38,133,511,512,113,114,115,116,117,118,119,120,121,122,130,131,165,167,40,280,513,221,41,153,160,155,307,157,308,151,306,161,163,164,203,204,205,206,207,208,209,210,211,50,51,127,166,52,192,179,197,193,180,514,194,33,515,191,216,516,198,199,200,201,202,239,54,55,240,241,36,235,236,237,238,272,270,271,282,283,284,285,59,60,61,62,63,64,65,66,67,68,69,70,71,72,73,184,154,156,158,152,74]
def Cl:List (Nat×Nat):=[]
noncomputable def X0:TrEnv:=⟨Tryz.prog,fun F=>Ck[F]?,fun t=> (Cl.find? (·.1==t)).map (·.2)⟩
theorem adG:aU X0 ⟨[],[],[],[(8,[4,5,8,7]),(9,[4,5,8,7]),(11,[4,5,8,7])],[],[],[],[],[],[],none,[],0⟩ Tryz.f4=some acp:=by kernel_rfl
theorem QV:aU X0 ⟨[],[13,14,66,67],[],[(1,[4,5,8,7]),(2,[4,5,8,7]),(3,[4,5,8,7]),(5,[4,5,8,7]),(7,[4,5,8,7]),(9,[4,5,8,7]),(10,[4,5,8,7])],[],[(11,113,193)],[],[],[],[],none,[],0⟩ Tryz.f6=some Nm:=by kernel_rfl
theorem Uy:aU X0 ⟨[],[13,67,72],[],[(2,[4,5,8,7]),(3,[4,5,8,7]),(20,[1,0])],[],[],[],[],[],[],none,[],0⟩ Tryz.f7=some f77:=by kernel_rfl
theorem Uz:aU X0 ⟨[],[11,38],[(212,100),(333,101),(371,101)],[(4,[4,5,8,7]),(5,[4,5,0,0]),(210,[0,2,0,0,0,0,0,0]),(373,[4,5,8,7])],[],[],[],[],[],[],none,[],0⟩ Tryz.f8=some f79:=by kernel_rfl
theorem QW:aU X0 ⟨[],[],[(47,97)],[],[(4,81,2)],[(5,9,97),(5,47,97)],[],[],[],[],none,[],0⟩ Tryz.f9=some JD:=by kernel_rfl
theorem QX:aU X0 ⟨[],[35],[(52,180),(98,178),(150,179)],[(6,[4,5,8,7]),(31,[4,5,8,7]),(36,[0,0,0,7]),(10,[0,0,0,7]),(12,[0,2,0,0,0,0,0,0]),(15,[0,2,0,0]),(153,[4,5,8,7])],[],[],[],[],[],[],(some (0,1)),[],0⟩ Tryz.f10=some JF:=by kernel_rfl
theorem UA:aU X0 ⟨[],[],[],[],[],[],[],[],[],[],none,[],0⟩ Tryz.f12=some f89:=by kernel_rfl
theorem QZ:aU X0 ⟨[],[],[],[],[],[],[],[],[],[],none,[],0⟩ Tryz.f13=some Nq:=by kernel_rfl
theorem Q0:aU X0 ⟨[],[],[],[],[],[],[],[],[],[],none,[],0⟩ Tryz.f14=some JO:=by kernel_rfl
theorem adH:aU X0 ⟨[],[],[],[],[],[],[],[],[],[],none,[],0⟩ Tryz.f15=some acr:=by kernel_rfl
theorem adI:aU X0 ⟨[],[],[],[],[],[],[],[],[],[],none,[],0⟩ Tryz.f16=some acu:=by kernel_rfl
theorem Q1:aU X0 ⟨[],[],[],[],[],[],[],[],[],[],none,[],0⟩ Tryz.f17=some Nr:=by kernel_rfl
theorem Q2:aU X0 ⟨[],[48],[(26,113),(72,145)],[],[(4,81,5),(6,113,1),(8,145,5)],[(6,26,113),(11,50,193),(8,72,145)],[],[],[],[],none,[(19,[1,2,5,6],[48,96,113])],0⟩ Tryz.f18=some Ns:=by kernel_rfl
theorem adJ:aU X0 ⟨[],[],[(114,129)],[(5,[1])],[(4,81,5),(7,129,5)],[(5,28,97),(7,114,129)],[],[],[],[],none,[],0⟩ Tryz.f19=some acw:=by kernel_rfl
theorem Q3:aU X0 ⟨[],[],[(42,129)],[(6,[1]),(9,[0,2,0,0])],[(7,129,1)],[(7,42,129)],[],[],[],[],none,[],0⟩ Tryz.f21=some JS:=by kernel_rfl
theorem Q4:aU X0 ⟨[],[],[],[],[],[],[],[],[],[],none,[],0⟩ Tryz.f22=some Nt:=by kernel_rfl
theorem Q5:aU X0 ⟨[],[],[(40,82)],[(0,[4,5,8,7]),(4,[0,5,8,7]),(14,[0,2,0,0]),(20,[0,2,0,0]),(24,[0,2,0,0]),(38,[0,2,0,0])],[],[],[],[],[],[],none,[],0⟩ Tryz.f26=some Nu:=by kernel_rfl
theorem UB:aU X0 ⟨[],[143,180,204,207],[],[(2,[4]),(3,[5]),(4,[1]),(5,[1]),(6,[1]),(40,[1,0]),(105,[1,0])],[(14,241,4)],[(14,143,241),(14,180,241),(14,204,241)],[],[],[],[],none,[],0⟩ Tryz.f27=some f83:=by kernel_rfl
theorem UC:aU X0 ⟨[],[],[],[(4,[1])],[],[],[],[],[],[],none,[],0⟩ Tryz.f28=some f84:=by kernel_rfl
theorem UD:aU X0 ⟨[some 2,none],[],[],[],[],[],[],[],[],[],none,[],0⟩ Tryz.f29=some f85:=by kernel_rfl
theorem UE:aU X0 ⟨[],[31,50,61,69],[],[(2,[8]),(9,[1,0])],[(4,81,8)],[(4,31,81),(4,50,81),(4,61,81),(4,69,81)],[],[],[],[],none,[],0⟩ Tryz.f30=some f86:=by kernel_rfl
theorem UF:aU X0 ⟨[],[],[(86,113)],[(14,[1,0])],[(4,81,7),(6,113,7)],[(6,86,113)],[],[],[],[],none,[],0⟩ Tryz.f31=some f87:=by kernel_rfl
theorem UG:aU X0 ⟨[],[],[(37,66),(59,68)],[(2,[4,5,8,7]),(16,[0,5,0,7]),(3,[0,5,0,7]),(5,[0,2,0,0]),(7,[0,2,0,0,0,0,0,0])],[],[],[],[],[],[],none,[],0⟩ Tryz.f32=some f92:=by kernel_rfl
theorem UH:aU X0 ⟨[],[],[],[],[],[],[],[],[],[],none,[],0⟩ Tryz.f33=some f93:=by kernel_rfl
theorem UI:aU X0 ⟨[],[],[(36,145),(214,193),(240,145)],[(10,[0,2,0,0]),(238,[0,2,0,0])],[(6,113,4),(7,129,5),(8,145,4)],[(8,36,145),(11,39,193),(8,188,145),(11,214,193),(8,240,145)],[(28,9)],[35,36,188],[6],[],none,[],0⟩ Tryz.f34=some f94:=by kernel_rfl
theorem UJ:aU X0 ⟨[],[],[],[],[],[],[],[],[],[],none,[],0⟩ Tryz.f35=some f95:=by kernel_rfl
theorem Q6:aU X0 ⟨[],[],[],[],[],[],[],[],[],[2],none,[],0⟩ Tryz.f36=some J8:=by kernel_rfl
theorem Q7:aU X0 ⟨[],[],[],[],[],[],[],[],[],[],none,[],0⟩ Tryz.f37=some Ka:=by kernel_rfl
theorem Q8:aU X0 ⟨[],[],[],[],[],[],[],[],[],[],none,[],0⟩ Tryz.f40=some Kc:=by kernel_rfl
theorem UK:aU X0 ⟨[],[],[],[],[],[],[],[],[],[],none,[],0⟩ Tryz.f41=some f17:=by kernel_rfl
theorem Q9:aU X0 ⟨[],[],[],[],[],[],[],[],[],[],none,[],0⟩ Tryz.f42=some Kf:=by kernel_rfl
theorem Ra:aU X0 ⟨[],[],[],[],[],[],[],[],[],[],none,[],0⟩ Tryz.f43=some f125:=by kernel_rfl
theorem Rb:aU X0 ⟨[],[],[],[],[],[],[],[],[],[],none,[],0⟩ Tryz.f44=some f126:=by kernel_rfl
theorem Rc:aU X0 ⟨[],[],[],[(6,[1]),(7,[1])],[],[(7,55,129)],[],[],[],[],none,[],0⟩ Tryz.f45=some Kj:=by kernel_rfl
theorem Re:aU X0 ⟨[some 1],[],[],[],[],[],[],[],[],[],none,[],0⟩ Tryz.f46=some f132:=by kernel_rfl
theorem Rf:aU X0 ⟨[some 1,none],[],[],[(4,[1])],[],[],[],[],[],[],none,[],0⟩ Tryz.f47=some NF:=by kernel_rfl
theorem Rg:aU X0 ⟨[],[],[],[],[],[],[],[],[],[],none,[],0⟩ Tryz.f49=some NG:=by kernel_rfl
theorem Rh:aU X0 ⟨[],[],[],[(7,[0,2,0,0])],[],[],[],[],[],[],none,[],0⟩ Tryz.f50=some NH:=by kernel_rfl
theorem Ri:aU X0 ⟨[],[],[],[],[],[],[],[],[],[],none,[],0⟩ Tryz.f51=some NI:=by kernel_rfl
theorem Rj:aU X0 ⟨[],[],[(43,113)],[(4,[1])],[],[(6,39,113)],[],[],[],[],none,[],0⟩ Tryz.f52=some Kr:=by kernel_rfl
theorem adK:aU X0 ⟨[],[],[],[(9,[0,2,0,0])],[],[],[],[],[],[],none,[],0⟩ Tryz.f53=some acy:=by kernel_rfl
theorem Rk:aU X0 ⟨[some 1],[],[],[(2,[1])],[],[],[],[],[],[],none,[],0⟩ Tryz.f54=some Kt:=by kernel_rfl
theorem Rl:aU X0 ⟨[],[],[],[],[],[],[],[],[],[2],none,[],0⟩ Tryz.f55=some NJ:=by kernel_rfl
theorem UL:aU X0 ⟨[],[],[],[],[],[],[],[],[],[],none,[],0⟩ Tryz.f56=some f37:=by kernel_rfl
theorem UM:aU X0 ⟨[],[],[],[],[],[],[],[],[],[],none,[],0⟩ Tryz.f57=some f27:=by kernel_rfl
theorem UN:aU X0 ⟨[],[],[],[],[],[],[],[],[],[],none,[],0⟩ Tryz.f58=some f38:=by kernel_rfl
theorem Rm:aU X0 ⟨[some 1],[],[],[(2,[1])],[],[],[],[],[],[],none,[],0⟩ Tryz.f59=some f133:=by kernel_rfl
theorem Rn:aU X0 ⟨[],[],[],[],[],[],[],[],[],[],none,[],0⟩ Tryz.f61=some NN:=by kernel_rfl
theorem Ro:aU X0 ⟨[some 4,none,none,none,some 2],[],[(31,17)],[(22,[0,2,0,0]),(11,[0,2,0,0])],[(10,177,4)],[],[],[],[],[],none,[],0⟩ Tryz.f62=some f113:=by kernel_rfl
theorem Rp:aU X0 ⟨[none,none,some 2],[],[(71,129),(75,129)],[(6,[2])],[],[(7,14,129),(7,71,129)],[],[],[],[],none,[],0⟩ Tryz.f63=some f114:=by kernel_rfl
theorem Rq:aU X0 ⟨[],[],[],[],[],[],[],[],[],[],none,[],0⟩ Tryz.f64=some f115:=by kernel_rfl
theorem Rr:aU X0 ⟨[],[],[],[],[],[],[],[],[],[],none,[],0⟩ Tryz.f65=some f116:=by kernel_rfl
theorem Rs:aU X0 ⟨[some 4,none,none,some 2],[95],[],[(8,[4])],[],[(10,50,177),(10,90,177)],[],[],[],[],none,[],0⟩ Tryz.f66=some f117:=by kernel_rfl
theorem Rt:aU X0 ⟨[],[],[(52,97)],[(3,[1])],[(2,49,5),(5,97,5)],[(3,25,65),(3,38,65),(5,52,97)],[],[],[],[],none,[],0⟩ Tryz.f67=some f118:=by kernel_rfl
theorem Ru:aU X0 ⟨[some 8,none,none,none,some 2],[],[(84,195),(90,195),(122,17)],[(10,[8])],[],[],[],[],[],[],none,[],0⟩ Tryz.f68=some f119:=by kernel_rfl
theorem Rv:aU X0 ⟨[],[],[],[],[],[],[],[],[],[],none,[],0⟩ Tryz.f69=some f120:=by kernel_rfl
theorem Rw:aU X0 ⟨[],[],[],[],[],[],[],[],[],[],none,[],0⟩ Tryz.f70=some f121:=by kernel_rfl
theorem Rx:aU X0 ⟨[],[],[],[],[],[],[],[],[],[],none,[],0⟩ Tryz.f71=some f122:=by kernel_rfl
theorem Ry:aU X0 ⟨[],[],[],[(2,[2])],[],[],[],[],[],[],none,[],0⟩ Tryz.f72=some f130:=by kernel_rfl
theorem Rz:aU X0 ⟨[],[],[(28,67)],[(2,[0,2,0,0]),(30,[0,2,0,0])],[],[],[],[],[],[],none,[],0⟩ Tryz.f73=some f131:=by kernel_rfl
theorem RA:aU X0 ⟨[],[],[],[],[],[],[],[],[],[],none,[],0⟩ Tryz.f74=some KN:=by kernel_rfl
theorem RB:aU X0 ⟨[],[],[],[],[],[],[],[],[],[],none,[],0⟩ Tryz.f77=some NO:=by kernel_rfl
theorem adL:aU X0 ⟨[],[],[],[],[],[],[],[],[],[],none,[],0⟩ Tryz.f78=some acA:=by kernel_rfl
theorem UO:aU X0 ⟨[],[],[],[],[],[],[],[],[],[],none,[],0⟩ Tryz.f80=some f41:=by kernel_rfl
theorem RC:aU X0 ⟨[],[],[],[],[],[],[],[],[],[],none,[],0⟩ Tryz.f89=some KQ:=by kernel_rfl
theorem RD:aU X0 ⟨[],[],[],[],[],[],[],[],[],[],none,[],0⟩ Tryz.f90=some KS:=by kernel_rfl
theorem RE:aU X0 ⟨[],[],[(51,99),(56,65)],[],[(2,49,4),(3,65,4)],[(3,56,65)],[],[],[],[],none,[],0⟩ Tryz.f91=some KU:=by kernel_rfl
theorem adM:aU X0 ⟨[],[],[],[],[],[],[],[],[],[],none,[],0⟩ Tryz.f103=some f127:=by kernel_rfl
theorem adN:aU X0 ⟨[],[],[],[],[],[],[],[],[],[],none,[],0⟩ Tryz.f104=some acD:=by kernel_rfl
theorem RF:aU X0 ⟨[],[],[],[],[],[],[],[],[],[],none,[],0⟩ Tryz.f118=some KW:=by kernel_rfl
theorem RG:aU X0 ⟨[],[],[],[],[],[],[],[],[],[],none,[],0⟩ Tryz.f119=some KY:=by kernel_rfl
theorem RH:aU X0 ⟨[],[],[],[],[],[],[],[],[],[],none,[],0⟩ Tryz.f120=some K0:=by kernel_rfl
theorem RI:aU X0 ⟨[],[],[],[],[],[],[],[],[],[],none,[],0⟩ Tryz.f121=some K2:=by kernel_rfl
theorem RJ:aU X0 ⟨[],[],[],[],[],[],[],[],[],[],none,[],0⟩ Tryz.f122=some K4:=by kernel_rfl
theorem RK:aU X0 ⟨[],[],[],[],[],[],[],[],[],[],none,[],0⟩ Tryz.f129=some K6:=by kernel_rfl
theorem RL:aU X0 ⟨[],[],[],[],[],[],[],[],[],[],none,[],0⟩ Tryz.f130=some K8:=by kernel_rfl
theorem RM:aU X0 ⟨[],[],[],[],[],[],[],[],[],[],none,[],0⟩ Tryz.f131=some La:=by kernel_rfl
theorem RN:aU X0 ⟨[],[],[],[],[],[],[],[],[],[],none,[],0⟩ Tryz.f132=some Lc:=by kernel_rfl
theorem RO:aU X0 ⟨[],[],[],[],[],[],[],[],[],[],none,[],0⟩ Tryz.f134=some Lf:=by kernel_rfl
theorem RP:aU X0 ⟨[],[],[],[],[],[],[],[],[],[],none,[],0⟩ Tryz.f135=some Lh:=by kernel_rfl
theorem RQ:aU X0 ⟨[],[],[],[],[],[],[],[],[],[],none,[],0⟩ Tryz.f136=some Lj:=by kernel_rfl
theorem RR:aU X0 ⟨[],[],[],[],[],[],[],[],[],[],none,[],0⟩ Tryz.f137=some Ll:=by kernel_rfl
theorem RS:aU X0 ⟨[],[],[],[],[],[],[],[],[],[],none,[],0⟩ Tryz.f138=some Ln:=by kernel_rfl
theorem RT:aU X0 ⟨[],[],[],[],[],[],[],[],[],[],none,[],0⟩ Tryz.f139=some Lp:=by kernel_rfl
theorem UP:lZ X0 Tryz.f38 7 1927910799188:=⟨⟨_,_,_,_,_,_,_,_,rfl,by kernel_rfl,by kernel_rfl,⟨.agg [.int .i64 0,.int .i64 0,.int .i64 0,.str [],.str [],.int .i64 0,.int .i64 0],by kernel_rfl,by decide,by kernel_rfl⟩,⟨_,_,_,87,rfl,by kernel_rfl,rfl,rfl,rfl,by kernel_rfl⟩⟩,rfl,by decide⟩
theorem UQ:lZ X0 Tryz.f39 2 8278675785407:=⟨⟨_,_,_,_,_,_,_,_,rfl,by kernel_rfl,by kernel_rfl,⟨.agg [.int .i64 0,.int .i64 0],by kernel_rfl,by decide,by kernel_rfl⟩,⟨_,_,_,84,rfl,by kernel_rfl,rfl,rfl,rfl,by kernel_rfl⟩⟩,rfl,by decide⟩
theorem RU:lZ X0 Tryz.f48 1 15637498705947:=⟨⟨_,_,_,_,_,_,_,_,rfl,by kernel_rfl,by kernel_rfl,⟨.int .i64 0,by kernel_rfl,by decide,by kernel_rfl⟩,⟨_,_,_,3,rfl,by kernel_rfl,rfl,rfl,rfl,by kernel_rfl⟩⟩,rfl,by decide⟩
theorem u7:im Ck=true:=by kernel_rfl
theorem Jl:im (Cl.map (·.2))=true:=by kernel_rfl
theorem Ij:jU X0 EM:=⟨⟨4,Tryz.f4,_,_,rfl,Tryz.func4,by kernel_rfl,rfl,adG,by decide+kernel⟩,
 ⟨6,Tryz.f6,_,_,rfl,Tryz.func6,by kernel_rfl,rfl,QV,by decide+kernel⟩,
 ⟨7,Tryz.f7,_,_,rfl,Tryz.func7,by kernel_rfl,rfl,Uy,by decide+kernel⟩,
 ⟨8,Tryz.f8,_,_,rfl,Tryz.func8,by kernel_rfl,rfl,Uz,by decide+kernel⟩,
 ⟨9,Tryz.f9,_,_,rfl,Tryz.func9,by kernel_rfl,rfl,QW,by decide+kernel⟩,
 ⟨10,Tryz.f10,_,_,rfl,Tryz.func10,by kernel_rfl,rfl,QX,by decide+kernel⟩,
 ⟨12,Tryz.f12,_,_,rfl,Tryz.func12,by kernel_rfl,rfl,UA,by decide+kernel⟩,
 ⟨13,Tryz.f13,_,_,rfl,Tryz.func13,by kernel_rfl,rfl,QZ,by decide+kernel⟩,
 ⟨14,Tryz.f14,_,_,rfl,Tryz.func14,by kernel_rfl,rfl,Q0,by decide+kernel⟩,
 ⟨15,Tryz.f15,_,_,rfl,Tryz.func15,by kernel_rfl,rfl,adH,by decide+kernel⟩,
 ⟨16,Tryz.f16,_,_,rfl,Tryz.func16,by kernel_rfl,rfl,adI,by decide+kernel⟩,
 ⟨17,Tryz.f17,_,_,rfl,Tryz.func17,by kernel_rfl,rfl,Q1,by decide+kernel⟩,
 ⟨18,Tryz.f18,_,_,rfl,Tryz.func18,by kernel_rfl,rfl,Q2,by decide+kernel⟩,
 ⟨19,Tryz.f19,_,_,rfl,Tryz.func19,by kernel_rfl,rfl,adJ,by decide+kernel⟩,
 ⟨21,Tryz.f21,_,_,rfl,Tryz.func21,by kernel_rfl,rfl,Q3,by decide+kernel⟩,
 ⟨22,Tryz.f22,_,_,rfl,Tryz.func22,by kernel_rfl,rfl,Q4,by decide+kernel⟩,
 ⟨26,Tryz.f26,_,_,rfl,Tryz.func26,by kernel_rfl,rfl,Q5,by decide+kernel⟩,
 ⟨27,Tryz.f27,_,_,rfl,Tryz.func27,by kernel_rfl,rfl,UB,by decide+kernel⟩,
 ⟨28,Tryz.f28,_,_,rfl,Tryz.func28,by kernel_rfl,rfl,UC,by decide+kernel⟩,
 ⟨29,Tryz.f29,_,_,rfl,Tryz.func29,by kernel_rfl,rfl,UD,by decide+kernel⟩,
 ⟨30,Tryz.f30,_,_,rfl,Tryz.func30,by kernel_rfl,rfl,UE,by decide+kernel⟩,
 ⟨31,Tryz.f31,_,_,rfl,Tryz.func31,by kernel_rfl,rfl,UF,by decide+kernel⟩,
 ⟨32,Tryz.f32,_,_,rfl,Tryz.func32,by kernel_rfl,rfl,UG,by decide+kernel⟩,
 ⟨33,Tryz.f33,_,_,rfl,Tryz.func33,by kernel_rfl,rfl,UH,by decide+kernel⟩,
 ⟨34,Tryz.f34,_,_,rfl,Tryz.func34,by kernel_rfl,rfl,UI,by decide+kernel⟩,
 ⟨35,Tryz.f35,_,_,rfl,Tryz.func35,by kernel_rfl,rfl,UJ,by decide+kernel⟩,
 ⟨36,Tryz.f36,_,_,rfl,Tryz.func36,by kernel_rfl,rfl,Q6,by decide+kernel⟩,
 ⟨37,Tryz.f37,_,_,rfl,Tryz.func37,by kernel_rfl,rfl,Q7,by decide+kernel⟩,
 ⟨40,Tryz.f40,_,_,rfl,Tryz.func40,by kernel_rfl,rfl,Q8,by decide+kernel⟩,
 ⟨41,Tryz.f41,_,_,rfl,Tryz.func41,by kernel_rfl,rfl,UK,by decide+kernel⟩,
 ⟨42,Tryz.f42,_,_,rfl,Tryz.func42,by kernel_rfl,rfl,Q9,by decide+kernel⟩,
 ⟨43,Tryz.f43,_,_,rfl,Tryz.func43,by kernel_rfl,rfl,Ra,by decide+kernel⟩,
 ⟨44,Tryz.f44,_,_,rfl,Tryz.func44,by kernel_rfl,rfl,Rb,by decide+kernel⟩,
 ⟨45,Tryz.f45,_,_,rfl,Tryz.func45,by kernel_rfl,rfl,Rc,by decide+kernel⟩,
 ⟨46,Tryz.f46,_,_,rfl,Tryz.func46,by kernel_rfl,rfl,Re,by decide+kernel⟩,
 ⟨47,Tryz.f47,_,_,rfl,Tryz.func47,by kernel_rfl,rfl,Rf,by decide+kernel⟩,
 ⟨49,Tryz.f49,_,_,rfl,Tryz.func49,by kernel_rfl,rfl,Rg,by decide+kernel⟩,
 ⟨50,Tryz.f50,_,_,rfl,Tryz.func50,by kernel_rfl,rfl,Rh,by decide+kernel⟩,
 ⟨51,Tryz.f51,_,_,rfl,Tryz.func51,by kernel_rfl,rfl,Ri,by decide+kernel⟩,
 ⟨52,Tryz.f52,_,_,rfl,Tryz.func52,by kernel_rfl,rfl,Rj,by decide+kernel⟩,
 ⟨53,Tryz.f53,_,_,rfl,Tryz.func53,by kernel_rfl,rfl,adK,by decide+kernel⟩,
 ⟨54,Tryz.f54,_,_,rfl,Tryz.func54,by kernel_rfl,rfl,Rk,by decide+kernel⟩,
 ⟨55,Tryz.f55,_,_,rfl,Tryz.func55,by kernel_rfl,rfl,Rl,by decide+kernel⟩,
 ⟨56,Tryz.f56,_,_,rfl,Tryz.func56,by kernel_rfl,rfl,UL,by decide+kernel⟩,
 ⟨57,Tryz.f57,_,_,rfl,Tryz.func57,by kernel_rfl,rfl,UM,by decide+kernel⟩,
 ⟨58,Tryz.f58,_,_,rfl,Tryz.func58,by kernel_rfl,rfl,UN,by decide+kernel⟩,
 ⟨59,Tryz.f59,_,_,rfl,Tryz.func59,by kernel_rfl,rfl,Rm,by decide+kernel⟩,
 ⟨61,Tryz.f61,_,_,rfl,Tryz.func61,by kernel_rfl,rfl,Rn,by decide+kernel⟩,
 ⟨62,Tryz.f62,_,_,rfl,Tryz.func62,by kernel_rfl,rfl,Ro,by decide+kernel⟩,
 ⟨63,Tryz.f63,_,_,rfl,Tryz.func63,by kernel_rfl,rfl,Rp,by decide+kernel⟩,
 ⟨64,Tryz.f64,_,_,rfl,Tryz.func64,by kernel_rfl,rfl,Rq,by decide+kernel⟩,
 ⟨65,Tryz.f65,_,_,rfl,Tryz.func65,by kernel_rfl,rfl,Rr,by decide+kernel⟩,
 ⟨66,Tryz.f66,_,_,rfl,Tryz.func66,by kernel_rfl,rfl,Rs,by decide+kernel⟩,
 ⟨67,Tryz.f67,_,_,rfl,Tryz.func67,by kernel_rfl,rfl,Rt,by decide+kernel⟩,
 ⟨68,Tryz.f68,_,_,rfl,Tryz.func68,by kernel_rfl,rfl,Ru,by decide+kernel⟩,
 ⟨69,Tryz.f69,_,_,rfl,Tryz.func69,by kernel_rfl,rfl,Rv,by decide+kernel⟩,
 ⟨70,Tryz.f70,_,_,rfl,Tryz.func70,by kernel_rfl,rfl,Rw,by decide+kernel⟩,
 ⟨71,Tryz.f71,_,_,rfl,Tryz.func71,by kernel_rfl,rfl,Rx,by decide+kernel⟩,
 ⟨72,Tryz.f72,_,_,rfl,Tryz.func72,by kernel_rfl,rfl,Ry,by decide+kernel⟩,
 ⟨73,Tryz.f73,_,_,rfl,Tryz.func73,by kernel_rfl,rfl,Rz,by decide+kernel⟩,
 ⟨74,Tryz.f74,_,_,rfl,Tryz.func74,by kernel_rfl,rfl,RA,by decide+kernel⟩,
 ⟨77,Tryz.f77,_,_,rfl,Tryz.func77,by kernel_rfl,rfl,RB,by decide+kernel⟩,
 ⟨78,Tryz.f78,_,_,rfl,Tryz.func78,by kernel_rfl,rfl,adL,by decide+kernel⟩,
 ⟨80,Tryz.f80,_,_,rfl,Tryz.func80,by kernel_rfl,rfl,UO,by decide+kernel⟩,
 ⟨89,Tryz.f89,_,_,rfl,Tryz.func89,by kernel_rfl,rfl,RC,by decide+kernel⟩,
 ⟨90,Tryz.f90,_,_,rfl,Tryz.func90,by kernel_rfl,rfl,RD,by decide+kernel⟩,
 ⟨91,Tryz.f91,_,_,rfl,Tryz.func91,by kernel_rfl,rfl,RE,by decide+kernel⟩,
 ⟨103,Tryz.f103,_,_,rfl,Tryz.func103,by kernel_rfl,rfl,adM,by decide+kernel⟩,
 ⟨104,Tryz.f104,_,_,rfl,Tryz.func104,by kernel_rfl,rfl,adN,by decide+kernel⟩,
 ⟨118,Tryz.f118,_,_,rfl,Tryz.func118,by kernel_rfl,rfl,RF,by decide+kernel⟩,
 ⟨119,Tryz.f119,_,_,rfl,Tryz.func119,by kernel_rfl,rfl,RG,by decide+kernel⟩,
 ⟨120,Tryz.f120,_,_,rfl,Tryz.func120,by kernel_rfl,rfl,RH,by decide+kernel⟩,
 ⟨121,Tryz.f121,_,_,rfl,Tryz.func121,by kernel_rfl,rfl,RI,by decide+kernel⟩,
 ⟨122,Tryz.f122,_,_,rfl,Tryz.func122,by kernel_rfl,rfl,RJ,by decide+kernel⟩,
 ⟨129,Tryz.f129,_,_,rfl,Tryz.func129,by kernel_rfl,rfl,RK,by decide+kernel⟩,
 ⟨130,Tryz.f130,_,_,rfl,Tryz.func130,by kernel_rfl,rfl,RL,by decide+kernel⟩,
 ⟨131,Tryz.f131,_,_,rfl,Tryz.func131,by kernel_rfl,rfl,RM,by decide+kernel⟩,
 ⟨132,Tryz.f132,_,_,rfl,Tryz.func132,by kernel_rfl,rfl,RN,by decide+kernel⟩,
 ⟨134,Tryz.f134,_,_,rfl,Tryz.func134,by kernel_rfl,rfl,RO,by decide+kernel⟩,
 ⟨135,Tryz.f135,_,_,rfl,Tryz.func135,by kernel_rfl,rfl,RP,by decide+kernel⟩,
 ⟨136,Tryz.f136,_,_,rfl,Tryz.func136,by kernel_rfl,rfl,RQ,by decide+kernel⟩,
 ⟨137,Tryz.f137,_,_,rfl,Tryz.func137,by kernel_rfl,rfl,RR,by decide+kernel⟩,
 ⟨138,Tryz.f138,_,_,rfl,Tryz.func138,by kernel_rfl,rfl,RS,by decide+kernel⟩,
 ⟨139,Tryz.f139,_,_,rfl,Tryz.func139,by kernel_rfl,rfl,RT,by decide+kernel⟩,trivial⟩
theorem Gw: ∀t1 t2 k,X0.iU t1=some k→X0.iU t2=some k→t1=t2:=(zA (P:=Tryz.prog) (fl:=Ck) (tl:=Cl) (tab:=[]) (ext:=[]) (hyb:=[]) (iter:=[]) u7 Jl (by kernel_rfl) trivial trivial trivial trivial).inj
theorem Gx:pN X0 EN:=⟨⟨38,rfl,fun _ _ h=>nF Gw Tryz.func38 (by kernel_rfl) UP h⟩,
 ⟨39,rfl,fun _ _ h=>nF Gw Tryz.func39 (by kernel_rfl) UQ h⟩,
 ⟨48,rfl,fun _ _ h=>nF Gw Tryz.func48 (by kernel_rfl) RU h⟩,
 ⟨105,rfl,fun _ _ h=>Bh Tryz.func105 (by kernel_rfl) (by kernel_rfl) (by kernel_rfl) rfl h⟩,
 ⟨46,rfl,fun _ _ h=>Bi (X:=X0) (F:=46) (ρ:=wO) QT rfl Tryz.func46 (by kernel_rfl) rfl h⟩,trivial⟩
theorem D4:mb X0 BB:=⟨zK _ _ 221 rfl,trivial⟩
theorem QQ:uZ X0 E:=zA (P:=Tryz.prog) (fl:=Ck) (tl:=Cl) u7 Jl (by kernel_rfl) Ij Gx trivial D4
end Go.AM
