/- Texts of the proof. -/
import Derived.Test.YtdldmebldkgcnaaGreatOpsC
import Derived.StillTailTactics
import Derived.Test.YtdldmebldkgcnaaGreatProg
import Derived.RangeFuncNested
import Derived.RangeFuncLeaves
import Derived.Shelf.Abstract
import Derived.Shelf.RegionOpen
import Derived.WalkKit
import Derived.OwnWalkIn
import Derived.TacticsInMore
import Derived.LoopNIn
import Derived.LoopIn
set_option maxHeartbeats 4000000
set_option linter.unusedSimpArgs false
set_option linter.unusedVariables false
namespace Go.Proofs
open Go.RowKit Go.Shelf Go.AM
attribute [local go_sem] Oper.semAt_some
@[local go_sem] theorem ac3: (Fr none).round=none:=rfl
set_option maxRecDepth 100000 in
theorem SO (l Bs Bo b off len cap:Nat) (vs:List (List Value)) (hlen:vs.length=len) (h2: ∀v ∈ vs,∃x y,v=[x,y]) (hbig:len< 4611686018427387904) (Kp:World→World→Prop) (hkt: ∀ {A B C},Kp A B→Kp B C→Kp A C) (hkr: ∀A,Kp A A)
  (hkb: ∀ {A B},Kp A B→A.cell? ⟨Bs,Bo,none⟩=some (.slice (some ⟨b,off,none⟩) len cap)→B.cell? ⟨Bs,Bo,none⟩=some (.slice (some ⟨b,off,none⟩) len cap))
  (hkc: ∀ {A B} j v,Kp A B→A.cell? ⟨b,j,none⟩=some v→B.cell? ⟨b,j,none⟩=some v)
  (SP: ∀A:World,Kp A A.drew) (J Jx:Nat→World→Prop) (hJd: ∀k W,J k W→J k W.drew)
  (hY: ∀ (k:Nat) W1 x y z u,k+1 <len→vs[k]? =some [x,y]→vs[k+1]? =some [z,u]→J k W1→YieldAt (Fr none) 0 Tryz.prog l #[.int .i64 k,.agg #[x,y,z,u]] W1 fun e W'=>
    (e= .returned (.bool true)∧J (k+1) W'∧Kp W1 W')∨(e= .returned (.bool false)∧Jx (k+1) W'))
  (W:World) (hBs:W.cell? ⟨Bs,Bo,none⟩=some (.slice (some ⟨b,off,none⟩) len cap)) (hc: ∀ (j:Nat) x y,vs[j]? =some [x,y]→W.cell? ⟨b,off+j*2,none⟩=some x∧W.cell? ⟨b,off+j*2+1,none⟩=some y) (h0:J 0 W):
  CallsIn (Fr none) 1 Tryz.prog 231 #[.func (.yield l) #[] #[],.pointer (some ⟨Bs,Bo,none⟩)] W fun e W'=> (∃v,e= .returned v)∧(J (len - 1) W'∨ ∃k,k≤len - 1∧Jx k W'):=by
 refine callsIn_of_wp Tryz.func231 rfl trivial ?_ rfl
 simp only[Tryz.ntmps231,akF,ai5,ajc,Nat.reduceAdd,Nat.reduceSub,akM,akN,List.push_toArray,akU,ajx,ajn]
 have Jq:Tryz.prog.follows .mixedOrders=true:=aiQ
 gi_wp2
 gi_loopw [3] (fun i wr=> ∃k:Nat,k≤len - 1∧i= .int .i64 k∧J k wr∧Kp W wr) (fun i _=>len - (intOf i).toNat)
 case atStart=>exact⟨0,ajG _,rfl,h0,hkr _⟩
 case round=>
  obtain⟨k,hk,rfl,hJs,xw⟩:=hrel
  have hBr:=hkb xw hBs
  by_cases bl:k+1 <len
  · obtain⟨x,y,LR⟩:=h2 vs[k] (ajI abV)
    obtain⟨z,u,hzu⟩:=h2 vs[k+1] (ajI abV)
    have PU:vs[k]? =some [x,y]:=by rw[aiW abV,LR]
    have Kd:vs[k+1]? =some [z,u]:=by rw[aiW abV,hzu]
    obtain⟨fn,tmps,assign,body,hy,hR⟩:=hY k wr.drew x y z u bl PU Kd (hJd _ _ hJs)
    have Aw:k<len:=abV
    have Mv: (k:Int)+1 < (len:Int):=abV
    have hk3: (0:Int)≤(k:Int)+1:=abV
    have Xn:IntKind.i64.wrap ((k:Int)+1)=(k:Int)+1:=wrap64 abV abV
    have hwn: ((k:Int)+1).toNat=k+1:=abV
    have c1:=hkc _ _ xw (hc k x y PU).1
    have c2:=hkc _ _ xw (hc k x y PU).2
    have c3:=hkc _ _ xw (hc (k+1) z u Kd).1
    have c4:=hkc _ _ xw (hc (k+1) z u Kd).2
    gi_wp2
    have hR':=hR.mono (R':=fun e W'=> ∃bb,e= .returned (.bool bb)∧(bb=true→J (k+1) W'∧Kp wr.drew W')∧(bb=false→Jx (k+1) W')) (by
       rintro e W' (⟨rfl,q1,q2⟩ | ⟨rfl,q1⟩)
       ·exact⟨true,rfl,fun _=> ⟨q1,q2⟩,abW⟩
       ·exact⟨false,rfl,abW,fun _=>q1⟩)
    clear hR
    refine Bk (n:=0) (jw 12 Jq aiQ aiQ ?_)
    simp only[ajO,akq,akV,List.drop_zero]
    change wpStill _ _ (World.drew wr) (fun a'=>wpListIn _ _ _ _ _ _ a' (World.drew wr)) _ _
    iterate 12 (refine wpStill_step (fun K hK=> ?_);go_simp; (try simp only[Xn,hwn,Mv,hk3,Aw,and_self,if_true,true_and,go_sem]); (try simp only[c1,c2,c3,c4,hBr,World.KJ,go_sem]);refine hK _ ?_;clear hK K)
    refine wpStill_nil ?_
    refine wpListIn_step (fun K hK=> ?_)
    go_simp
    refine⟨rfl,RoundIn.mono hR' ?_⟩
    rintro e W3 ⟨bb,rfl,hq1,UB⟩
    refine hK _ _ ?_
    clear hK K
    refine wpListIn_step (fun K hK=> ?_)
    go_simp
    refine hK _ _ ?_
    clear hK K
    refine wpListIn_nil ?_
    rename_i hk9 kk9 PW
    refine PW _ _ ?_
    cases bb
    ·  clear PW hk9 hR'
       gi_wp2
       refine⟨rfl,_,results_none (fn:=Tryz.f231) rfl _ _ _,⟨_,rfl⟩,?_⟩
       exact .inr ⟨k+1,abV,UB trivial⟩
    ·  gi_wp2
       exact⟨⟨k+1,abV,rfl,(hq1 rfl).1,hkt xw (hkt (SP _) (hq1 rfl).2)⟩,by simp only[intOf];omega⟩
  · have Mv: ¬ (k:Int)+1 < (len:Int):=abV
    have Xn:IntKind.i64.wrap ((k:Int)+1)=(k:Int)+1:=wrap64 abV abV
    gi_wp2
    have r5:k=len - 1:=abV
    refine⟨rfl,_,results_none (fn:=Tryz.f231) rfl _ _ _,⟨_,rfl⟩,?_⟩
    exact .inl (r5 ▸ hJs)
set_option maxRecDepth 100000 in
theorem D0 (l Bs Bo cap:Nat) (a0:Option Addr) (J Jx:Nat→World→Prop) (hJd: ∀k W,J k W→J k W.drew)
  (W:World) (hBs:W.cell? ⟨Bs,Bo,none⟩=some (.slice a0 0 cap)) (h0:J 0 W):
  CallsIn (Fr none) 1 Tryz.prog 231 #[.func (.yield l) #[] #[],.pointer (some ⟨Bs,Bo,none⟩)] W fun e W'=> (∃v,e= .returned v)∧(J 0 W'∨ ∃k,k≤0∧Jx k W'):=by
 refine callsIn_of_wp Tryz.func231 rfl trivial ?_ rfl
 simp only[Tryz.ntmps231,akF,ai5,ajc,Nat.reduceAdd,Nat.reduceSub,akM,akN,List.push_toArray,akU,ajx,ajn]
 have Jq:Tryz.prog.follows .mixedOrders=true:=aiQ
 gi_wp2
 gi_loopw [3] (fun i wr=>i= .int .i64 0∧J 0 wr∧wr=W) (fun i _=>0)
 case atStart=>exact⟨rfl,h0,rfl⟩
 case round=>
  obtain⟨rfl,hJs,rfl⟩:=hrel
  have Xn:IntKind.i64.wrap ((0:Int)+1)=1:=aiO
  gi_wp2
  refine⟨rfl,_,results_none (fn:=Tryz.f231) rfl _ _ _,⟨_,rfl⟩,?_⟩
  exact .inl hJs
theorem tW (A:World):A.grownBy A.drew none:=⟨rfl,rfl,rfl,aiZ _,fun _ _ _=>rfl⟩
end Go.Proofs
namespace Go.Proofs
open Go.RowKit Go.AM
theorem qB: ∀ (ps:List V) (i:Nat),(fu i ps).length=ps.length - 1
 | [],_=>rfl
 | [_],_=>rfl
 | _::q::rest,i=>by simp only[fu,ai5,qB (q::rest)];omega
theorem js: ∀ (ps:List V) (i k:Nat) x,(fu i ps)[k]? =some x→ ∃p q,ps[k]? =some p∧ps[k+1]? =some q∧x=[.int .i64 ((i+k:Nat):Int),.agg (p.cells++q.cells)]
 | [],i,k,x,h=>by simp[fu] at h
 | [_],i,k,x,h=>by simp[fu] at h
 | p::q::rest,i,k,x,h=>by
   cases k with
   | zero=>simp[fu] at h;exact⟨p,q,abW,abW,h ▸ by simp⟩
   | succ k=>
     simp only[fu,aj8] at h
     obtain⟨p',q',h1,h2,rfl⟩:=js (q::rest) (i+1) k x h
     exact⟨p',q',by simpa using h1,by simpa using h2,by rw[show i+1+k=i+(k+1) by omega]⟩
def OM (vs:List Value) (n:Nat):List (Array Value):=(List.range n).map fun (k:Nat)=> #[.int .i64 (((k:Nat):Int)),.agg ((vs.getD k undef).cells++(vs.getD (k+1) undef).cells)]
theorem KL (args:Array Value) (w:World): (callFunc 231 args).run Tryz.prog w= .ok (.enter 231 args) w:=by
 obtain⟨c,hc⟩: ∃c,Tryz.f231.body=some c:=⟨_,rfl⟩
 have hn:Tryz.f231.name≠ "runtime.NumGoroutine" :=aiO
 simp[callFunc,Sem.run_bind,program,Sem.run,Tryz.func231,hc,hn]
theorem Bl {F:Fence} {n:Nat} {P:Program} {l:Nat} {v:Array Value} {W:World} {R R':Ending→World→Prop} (h:YieldAt F n P l v W R) (hm: ∀e W',R e W'→R' e W'):YieldAt F n P l v W R':=by
 obtain⟨fn,tmps,assign,body,hy,hR⟩:=h
 exact⟨fn,tmps,assign,body,hy,hR.mono hm⟩
theorem Bp {F:Fence} {n:Nat} {P:Program} {g:Nat} {args:Array Value} {W:World} {J:Nat→(Nat→Prop)→World→Prop} {Jx:Nat→World→Prop} {m:Nat} {F0:Nat→Prop} (h:CallsIn F n P g args W fun e W'=> (∃v,e= .returned v)∧(J m F0 W'∨ ∃k,k≤m∧Jx k W')):
  CallsIn F n P g args W fun e W'=> (∃v,e= .returned v)∧((∃F,J m F W')∨ ∃k,k≤m∧Jx k W'):=
 CallsIn.mono h fun e W' h=> ⟨h.1,h.2.imp (fun h=> ⟨_,h⟩) id⟩
theorem H3 (   fn:FuncId→Option Nat) (tn:TypeId→Option Nat) (g:Nat) (hg:fn 231=some g):vH ⟨Tryz.prog,fn,tn⟩ g LU:=by
 refine⟨231,hg,fun caps xs wS B K μ lb Gi ho=> ?_⟩
 refine⟨KL,?_⟩
 match caps,wS,Gi with
 | [.eptr .nils 0],wS,Gi=>
   simp only[LU,aiT] at wS
   subst wS
   obtain⟨lb⟩:=lb
   match lb,Gi with
   | [v],Gi=>
     simp only[ag,and_true] at Gi
     obtain⟨_,_,b,o,sz,x,rfl,ij,bl,⟨a,rfl⟩,dA⟩:=Gi
     have hr:=(dA 0 _ rfl).2 0 (.slice a 0 0) (by simp[Value.cells])
     simp only[Nat.zero_mul,akl] at hr
     refine⟨[],rfl,fun i x v h=>by simp at h,fun l J Jx W0 lf hJ hJx hY h0=> ?_⟩
     have hc:W0.cell? ⟨b,o,none⟩=some (.slice a 0 0):=by rw[←hr];exact World.cell?_of_block (lf.block b bl)
     exact Bp (callsIn_wide.2 (callsIn_wide.1 (D0 l b o 0 a (fun k W=>J k (fun _=>False) W) Jx (fun k W h=>hJ.less k _ _ _ (hJ.grow k _ W _ h (tW W)) (fun b hb=>hb.elim)) W0 hc h0)))
 | [.eptr (.lit 2 ps) 0],wS,Gi=>
   simp only[LU] at wS
   split at wS
   case isFalse=>simp at wS
   case isTrue hbig=>
     simp only[aiT] at wS
     subst wS
     obtain⟨lb⟩:=lb
     match lb,Gi with
     | [v],Gi=>
       simp only[ag,and_true] at Gi
       obtain⟨_,_,b,o,sz,x,rfl,ij,bl,⟨mR,Jp,a,cap,vs,rfl,cS,nn,hrw⟩,dA⟩:=Gi
       have hr:=(dA 0 _ rfl).2 0 (.slice a ps.length cap) (by simp[Value.cells])
       simp only[Nat.zero_mul,akl] at hr
       have D1:vs.length=ps.length:=nn.length.symm
       have iw: ∀W0,Below μ.w.heap.size μ.w W0→W0.cell? ⟨b,o,none⟩=some (.slice a ps.length cap):=fun W0 lf=>by rw[←hr];exact World.cell?_of_block (lf.block b bl)
       have ahk: ∀p ∈ ps,p.dh=true:=aiY.1 Jp
       rcases hrw with rfl| ⟨b2,o2,rfl,ahl,jU,Xy⟩
       · refine⟨[],rfl,fun i x v h=>by simp[fu] at h,fun l J Jx W0 lf hJ hJx hY h0=> ?_⟩
         exact Bp (callsIn_wide.2 (callsIn_wide.1 (D0 l b o cap a (fun k W=>J k (fun _=>False) W) Jx (fun k W h=>hJ.less k _ _ _ (hJ.grow k _ W _ h (tW W)) (fun b hb=>hb.elim)) W0 (iw W0 lf) h0)))
       · have eS: ∀k p,ps[k]? =some p→ ∃v x y,vs[k]? =some v∧aj ⟨⟨Tryz.prog,fn,tn⟩,B,K⟩ μ p v∧p.dh=true∧v.cells= #[x,y]:=fun k p hp=>by
           obtain⟨v,hv,Mz⟩:=nn.get hp
           have hs:=(Xy k v hv).1
           obtain⟨cs,oN⟩: ∃cs,v.cells=cs:=⟨_,rfl⟩
           rw[oN] at hs
           obtain⟨cs⟩:=cs
           match cs,hs with
           | [x,y],_=>exact⟨v,x,y,hv,Mz,ahk p (List.mem_of_getElem? hp),oN⟩
         have hgv: ∀ (k:Nat) v,vs[k]? =some v→ ∃x y,v.cells= #[x,y]:=fun k v hv=>by
           have hk:k<ps.length:=by rw[←D1];exact(aiS.1 hv).1
           obtain⟨v',x,y,h1,_,_,h2⟩:=eS k _ (aiW hk)
           rw[hv] at h1;injection h1 with h1;subst h1;exact⟨x,y,h2⟩
         refine⟨OM vs (ps.length - 1),by rw[qB];simp[OM],fun i x v hx hv=> ?_,fun l J Jx W0 lf hJ hJx hY h0=> ?_⟩
         · obtain⟨p,q,hp,hq,rfl⟩:=js ps 0 i x hx
           obtain⟨v1,x1,y1,h1,h2,h3,h4⟩:=eS i p hp
           obtain⟨v2,x2,y2,k1,k2,k3,k4⟩:=eS (i+1) q hq
           simp only[OM,List.getElem?_map,aiU] at hv
           obtain⟨i',ON,rfl⟩:=hv
           obtain⟨_,rfl⟩:=aiS.1 ON
           simp only[List.getElem_range,ajB,h1,k1,akS]
           refine⟨by simp[aj],⟨by rw[aj6,h2.lJ h3,k2.lJ k3];rfl,_,rfl,?_⟩,trivial⟩
           rw[Array.toList_append]
           exact ag.append (h2.cells h3) (k2.cells k3)
         · have yy: (OM vs (ps.length - 1)).length=ps.length - 1:=by unfold OM;rw[List.length_map,List.length_range]
           have KM: ∀ (k:Nat) x y,(vs.map fun v=>v.cells.toList)[k]? =some [x,y]→ ∃v,vs[k]? =some v∧v.cells= #[x,y]:=fun k x y h=>by
            simp only[List.getElem?_map,aiU] at h
            obtain⟨v,h1,h2⟩:=h
            exact⟨v,h1,by rw[←h2]⟩
           have key:=SO l b o b2 o2 ps.length cap (vs.map fun v=>v.cells.toList) (by simpa using D1) (fun v hv=>by
              obtain⟨v0,hv0,rfl⟩:=ai9.1 hv
              obtain⟨k,hk,Mv⟩:=List.mem_iff_getElem.1 hv0
              obtain⟨x,y,h⟩:=hgv k v0 (by rw[aiW hk,Mv])
              exact⟨x,y,by rw[h]⟩) hbig (Kept μ)
            (fun h1 h2 b hb hn=> (h2 b hb hn).trans (h1 b hb hn)) (fun A b hb hn=>rfl)
            (fun {A B} hk h=>by rw[←h];exact World.cell?_of_block (hk b bl fun h=>ij (.inl h)))
            (fun {A B} j v hk h=>by rw[←h];exact World.cell?_of_block (hk b2 jU fun h=>ahl (.inl h)))
            (fun A b hb hn=>rfl) (fun k W=>J k (fun _=>False) W) Jx (fun k W h=>hJ.less k _ _ _ (hJ.grow k _ W _ h (tW W)) (fun b hb=>hb.elim))
            (fun k W1 x y z u hk h1 h2 hJ1=>by
              obtain⟨v1,e1,e2⟩:=KM k x y h1
              obtain⟨v2,e3,e4⟩:=KM (k+1) z u h2
              refine Bl (hY k _ W1 _ ?_ hJ1) (fun e W' h=>h.imp (fun h=> ⟨h.1,h.2.1,h.2.2.1⟩) id)
              simp only[OM,List.getElem?_map,akT (show k<ps.length - 1 by omega),ai4,ajB,e1,e3,akS,e2,e4]
              rfl) W0 (iw W0 lf)
            (fun j x y h=>by
              obtain⟨v1,e1,e2⟩:=KM j x y h
              have pT:=(Xy j v1 e1).2
              rw[e2] at pT
              have c1:=pT 0 x rfl
              have c2:=pT 1 y rfl
              refine⟨?_,?_⟩
              ·rw[World.cell?_of_block (lf.block b2 jU)];simpa using c1
              ·rw[World.cell?_of_block (lf.block b2 jU)];exact c2) h0
           rw[yy]
           exact Bp (callsIn_wide.2 (callsIn_wide.1 key))
#print axioms H3
end Go.Proofs
namespace Go.Proofs
open Go.RowKit Go.Shelf Go.AM
attribute [local go_sem] Oper.semAt_some LQ aei Bool.true_or Bool.or_true Bool.false_or Bool.or_false decide_true decide_false
@[local go_sem] theorem aaG: (Fr none).round=none:=rfl
def lh (skip:Bool) (n:Int):Nat→List (Value×Value)→List (Array Value)
 | i,p::q::rest=> (if skip && (decide ((i:Int)=n - 1) || decide ((i:Int)=n)) then [] else [#[.agg #[p.1,p.2],.agg #[q.1,q.2]]])++lh skip n (i+1) (q::rest)
 | _,_=> []
def lj (e n:Int):Nat→List (List (Value×Value))→List (Array Value)
 | _,[]=> []
 | k,ps::rest=>lh (decide ((k:Int)=e)) n 0 ps++lj e n (k+1) rest
structure Xz where
 id:Int
 a:Option Addr
 cap:Nat
 l:Int
 r:Int
 gD:List (Value×Value)
theorem KN {skip:Bool} {n:Int} {i:Nat} {ps:List (Value×Value)} {p q:Value×Value} (hp:ps[i]? =some p) (hq:ps[i+1]? =some q):
  lh skip n i (ps.drop i)=(if skip && (decide ((i:Int)=n - 1) || decide ((i:Int)=n)) then [] else [#[.agg #[p.1,p.2],.agg #[q.1,q.2]]])++lh skip n (i+1) (ps.drop (i+1)):=by
 obtain⟨h1,rfl⟩:=aiS.1 hp
 obtain⟨h2,rfl⟩:=aiS.1 hq
 rw[ajf h1,ajf h2]
 rw[lh]
theorem D2 {skip:Bool} {n:Int} {i:Nat} {ps:List (Value×Value)} (h:ps.length - 1≤i):lh skip n i (ps.drop i)=[]:=by
 rcases hd:ps.drop i with _| ⟨p,_| ⟨q,rest⟩⟩
 ·rfl
 ·rfl
 ·have:=congrArg List.length hd
  simp at this;omega
theorem KO {e n:Int} {k:Nat} {rs:List (List (Value×Value))} {ps:List (Value×Value)} (h:rs[k]? =some ps):lj e n k (rs.drop k)=lh (decide ((k:Int)=e)) n 0 ps++lj e n (k+1) (rs.drop (k+1)):=by
 obtain⟨h1,rfl⟩:=aiS.1 h
 rw[ajf h1,lj]
theorem KP {w:World} {o:Obj} {a:Addr} {v:Value} (h:w.cell? a=some v): (w.alloc o).cell? a=some v:=by
 have bl:a.block<w.heap.size:=by
  rcases akn a.block w.heap.size with hl| hl
  ·exact hl
  ·simp[World.cell?,aj0 hl] at h
 rw[←h]
 simp only[World.cell?,Below.heap_alloc w o a.block bl]
theorem H4 (w:World) (o:Obj):w.grownBy (w.alloc o) none:=by
 have b1:Below w.heap.size w (w.alloc o):=(Below.refl _ w).alloc (aiZ _) _
 exact⟨b1.os,b1.tape,b1.output,b1.size,fun k hk _=>b1.block k hk⟩
theorem SQ (A:World):A.grownBy A.drew none:=⟨rfl,rfl,rfl,aiZ _,fun _ _ _=>rfl⟩
theorem D3 {A B:World} {a:Addr} (h:B.heap[a.block]? =A.heap[a.block]?):B.cell? a=A.cell? a:=by
 simp only[World.cell?,h]
set_option maxRecDepth 100000 in
theorem SR (   l Bm Om Bc Oc b off cap:Nat) (a0:Option Addr) (e n:Int) (rows:List Xz) (hbig:rows.length< 4611686018427387904) (ac4: ∀R ∈ rows,R.gD.length< 4611686018427387904) (ZC:0≤n) (hn1:n< 4611686018427387904)
  (S:Nat→Prop) (J:Nat→(Nat→Prop)→World→Prop) (Jx:Nat→World→Prop)
  (hJg: ∀k F A B,J k F A→A.grownBy B none→J k (fun b=>F b∨(A.heap.size≤b∧b<B.heap.size)) B) (hJl: ∀k F F' A,J k F A→(∀b,F' b→F b)→J k F' A)
  (CK:List (Array Value)) (ahm:CK.drop 0=lj e n 0 (rows.map (·.gD)))
  (hY: ∀ (k:Nat) F W1 v,CK[k]? =some v→J k F W1→YieldAt (Fr none) 0 Tryz.prog l v W1 fun e W'=>
    (e= .returned (.bool true)∧J (k+1) F W'∧ ∀b,S b∨F b→W'.heap[b]? =W1.heap[b]?)∨(e= .returned (.bool false)∧Jx (k+1) W'))
  (W:World) (hSm:S Bm) (hSc:S Bc) (hSb:rows≠[]→S b) (XA:rows≠[]→a0=some ⟨b,off,none⟩) (H5:W.cell? ⟨Bm,Om,none⟩=some (.slice a0 rows.length cap))
  (ahn:W.cell? ⟨Bc,Oc,none⟩=some (.int .i64 e)) (aho:W.cell? ⟨Bc,Oc+1,none⟩=some (.int .i64 n))
  (hc: ∀ (k:Nat) R,rows[k]? =some R→W.cell? ⟨b,off+k*4,none⟩=some (.int .i64 R.id)∧W.cell? ⟨b,off+k*4+1,none⟩=some (.slice R.a R.gD.length R.cap)∧W.cell? ⟨b,off+k*4+2,none⟩=some (.int .i64 R.l)∧W.cell? ⟨b,off+k*4+3,none⟩=some (.int .i64 R.r))
  (hpt: ∀ (k:Nat) R,rows[k]? =some R→R.gD≠[]→ ∃b2 o2,R.a=some ⟨b2,o2,none⟩∧S b2∧ ∀ (i:Nat) p,R.gD[i]? =some p→W.cell? ⟨b2,o2+i*2,none⟩=some p.1∧W.cell? ⟨b2,o2+i*2+1,none⟩=some p.2)
  (h0:J 0 (fun _=>False) W):
  CallsIn (Fr none) 1 Tryz.prog 233 #[.func (.yield l) #[] #[],.pointer (some ⟨Bm,Om,none⟩),.pointer (some ⟨Bc,Oc,none⟩)] W fun ex W'=> (∃v,ex= .returned v)∧((∃F,J CK.length F W')∨ ∃k,k≤CK.length∧Jx k W'):=by
 refine callsIn_of_wp Tryz.func233 rfl trivial ?_ rfl
 simp only[Tryz.ntmps233,akF,ai5,ajc,Nat.reduceAdd,Nat.reduceSub,akM,akN,List.push_toArray,akU,ajx,ajn]
 have Jq:Tryz.prog.follows .mixedOrders=true:=aiQ
 gi_wp2
 gi_loopw [10] (fun i wr=> ∃k:Nat,k≤rows.length∧i= .int .i64 k∧ ∃j F,J j F wr∧CK.drop j=lj e n k ((rows.map (·.gD)).drop k)∧j≤CK.length∧ ∀a v,S a.block→W.cell? a=some v→wr.cell? a=some v) (fun i _=>rows.length - (intOf i).toNat)
 case atStart=>exact⟨0,ajG _,rfl,0,_,h0,ahm,ajG _,fun a v _ h=>h⟩
 case round=>
  obtain⟨k,hk,rfl,j,F,hJ,jJ,E2,Gm⟩:=hrel
  by_cases bl:k<rows.length
  · have sM: ( k:Int) < (rows.length:Int):=abV
    have hR:rows[k]? =some rows[k]:=aiW bl
    have cL:rows≠[]:=by intro h;rw[h] at bl;simp at bl
    obtain rfl:=XA cL
    replace hSb:=hSb cL
    clear XA cL
    obtain⟨c0,c1,c2,c3⟩:=hc k _ hR
    replace c0:=Gm _ _ hSb c0
    replace c1:=Gm _ _ hSb c1
    replace c2:=Gm _ _ hSb c2
    replace c3:=Gm _ _ hSb c3
    have hRp:=ac4 rows[k] (ajI bl)
    have Kl:=hpt k _ hR
    have hrk: (rows.map (·.gD))[k]? =some rows[k].gD:=by simp[hR]
    rw[KO hrk] at jJ
    generalize ac5:decide ((k:Int)=e)=sk at jJ
    clear hrk hR
    generalize rows[k]=R at*
    obtain⟨ZD,Ra,Fw,Rl,Rr,gD⟩:=R
    dsimp only at c0 c1 c2 c3 hRp Kl jJ
    have yz:=H4 wr (Obj.cells #[Value.int IntKind.i64 ZD,Value.slice Ra gD.length Fw,Value.int IntKind.i64 Rl,Value.int IntKind.i64 Rr] 145)
    have ZE: ∀a v,S a.block→W.cell? a=some v→(wr.alloc (Obj.cells #[Value.int IntKind.i64 ZD,Value.slice Ra gD.length Fw,Value.int IntKind.i64 Rl,Value.int IntKind.i64 Rr] 145)).cell? a=some v:=fun a v h1 h2=>KP (Gm a v h1 h2)
    have bI: (wr.alloc (Obj.cells #[Value.int IntKind.i64 ZD,Value.slice Ra gD.length Fw,Value.int IntKind.i64 Rl,Value.int IntKind.i64 Rr] 145)).heap.size=wr.heap.size+1:=World.size_alloc _ _
    have ZF: (wr.alloc (Obj.cells #[Value.int IntKind.i64 ZD,Value.slice Ra gD.length Fw,Value.int IntKind.i64 Rl,Value.int IntKind.i64 Rr] 145)).cell? ⟨wr.heap.size,1,none⟩=some (.slice Ra gD.length Fw):=by
       simp only[World.cell?]
       rw[World.alloc_heap_new]
       rfl
    obtain⟨F2,hFx,XB⟩: ∃F2:Nat→Prop,F2 wr.heap.size∧J j F2 (wr.alloc (Obj.cells #[Value.int IntKind.i64 ZD,Value.slice Ra gD.length Fw,Value.int IntKind.i64 Rl,Value.int IntKind.i64 Rr] 145)):=
       ⟨_,.inr ⟨aiZ _,abV⟩,hJg _ _ _ _ hJ yz⟩
    by_cases h1: (1:Int) < (gD.length:Int)
    ·  have ac6: (0:Int)≤(gD.length:Int) - 1:=abV
       obtain⟨b2,o2,rfl,hS2,hpc⟩:=Kl (by intro h;rw[h] at h1;simp at h1)
       gi_wp2
       generalize wr.alloc (Obj.cells #[Value.int IntKind.i64 ZD,Value.slice (some ⟨b2,o2,none⟩) gD.length Fw,Value.int IntKind.i64 Rl,Value.int IntKind.i64 Rr] 145)=wa at*
       generalize wr.heap.size=Bx at*
       gi_loopw [20] (fun i w2=> ∃i':Nat,i'≤gD.length - 1∧i= .int .i64 i'∧ ∃j2,J j2 F2 w2∧CK.drop j2=lh sk n i' (gD.drop i')++lj e n (k+1) ((rows.map (·.gD)).drop (k+1))∧j2≤CK.length∧(∀a v,S a.block→W.cell? a=some v→w2.cell? a=some v)∧w2.cell? ⟨Bx,1,none⟩=some (.slice (some ⟨b2,o2,none⟩) gD.length Fw)) (fun i _=>gD.length - (intOf i).toNat)
       case atStart=>exact⟨0,ajG _,rfl,j,XB,by simpa using jJ,E2,ZE,ZF⟩
       case round=>
        clear hJ XB jJ E2 Gm ZE ZF
        obtain⟨i',ON,rfl,j2,XB,jJ,E2,Gm,ZF⟩:=hrel
        have aix:=Gm _ _ hSc ahn
        have aiy:=Gm _ _ hSc aho
        by_cases jU:i'<gD.length - 1
        ·have Fb: (i':Int) < (gD.length:Int) - 1:=abV
         have hgp:gD[i']? =some gD[i']:=aiW abV
         have hgq:gD[i'+1]? =some gD[i'+1]:=aiW abV
         rw[KN hgp hgq] at jJ
         obtain⟨p1,p2⟩:=hpc _ _ hgp
         obtain⟨q1,q2⟩:=hpc _ _ hgq
         replace p1:=Gm _ _ hS2 p1
         replace p2:=Gm _ _ hS2 p2
         replace q1:=Gm _ _ hS2 q1
         replace q2:=Gm _ _ hS2 q2
         generalize gD[i']=P at*
         generalize gD[i'+1]=Q2 at*
         have hwn:IntKind.i64.wrap (n - 1)=n - 1:=wrap64 abV abV
         by_cases hsk: (k:Int)=e∧((i':Int)=n - 1∨(i':Int)=n)
         ·   obtain⟨r5,kJ⟩:=hsk
             have SU:CK.drop j2=lh sk n (i'+1) (gD.drop (i'+1))++lj e n (k+1) ((rows.map (·.gD)).drop (k+1)):=by
              rw[jJ,if_pos (by rw[←ac5];simp[r5];exact kJ)];rfl
             rcases kJ with kJ| kJ
             ·obtain rfl:n=(i':Int)+1:=abV
              clear kJ hwn jJ
              have aiz:IntKind.i64.wrap ((i':Int)+1 - 1)=(i':Int):=(wrap64 abV abV).trans abV
              gi_wp2
              exact⟨⟨i'+1,abV,rfl,j2,XB,SU,E2,Gm,ZF⟩,by simp only[intOf];omega⟩
             ·obtain rfl:n=(i':Int):=kJ.symm
              clear jJ
              have V6: ¬ (i':Int)=(i':Int) - 1:=abV
              gi_wp2
              exact⟨⟨i'+1,abV,rfl,j2,XB,SU,E2,Gm,ZF⟩,by simp only[intOf];omega⟩
         ·   obtain⟨v,hve⟩: ∃v:Array Value,v= #[.agg #[P.1,P.2],.agg #[Q2.1,Q2.2]]:=⟨_,rfl⟩
             have KQ:CK.drop j2=v:: (lh sk n (i'+1) (gD.drop (i'+1))++lj e n (k+1) ((rows.map (·.gD)).drop (k+1))):=by
              rw[jJ,if_neg (by rw[←ac5];simpa using hsk),hve];rfl
             have hv:CK[j2]? =some v:=by
              have:=congrArg (fun l=>l[0]?) KQ
              simpa using this
             have SU:CK.drop (j2+1)=lh sk n (i'+1) (gD.drop (i'+1))++lj e n (k+1) ((rows.map (·.gD)).drop (k+1)):=by
              have:=congrArg (List.drop 1) KQ
              simpa [aj9] using this
             have hj3:j2+1≤CK.length:=(aiS.1 hv).1
             have hJd:J j2 F2 wr.drew:=hJl _ _ _ _ (hJg _ _ _ _ XB (SQ wr)) (fun b hb=> .inl hb)
             obtain⟨fn,tmps,assign,body,hy,hR⟩:=hY j2 F2 wr.drew v hv hJd
             rw[hve] at hy
             have vI: ((k:Int)=e∧ ¬ (i':Int)=n - 1∧ ¬ (i':Int)=n)∨ ¬ (k:Int)=e:=by
              by_cases r5: (k:Int)=e
              ·exact .inl ⟨r5,fun h=>hsk ⟨r5,.inl h⟩,fun h=>hsk ⟨r5,.inr h⟩⟩
              ·exact .inr r5
             have Xn:IntKind.i64.wrap ((i':Int)+1)=(i':Int)+1:=wrap64 abV abV
             have ahp: ((i':Int)+1).toNat=i'+1:=abV
             have Aw:i'<gD.length:=abV
             have Mv: (i':Int)+1 < (gD.length:Int):=abV
             have hk3: (0:Int)≤(i':Int)+1:=abV
             clear hsk jJ KQ hve
             have hR':=hR.mono (R':=fun ex W'=> ∃bb,ex= .returned (.bool bb)∧(bb=true→J (j2+1) F2 W'∧ ∀b,S b∨F2 b→W'.heap[b]? =wr.drew.heap[b]?)∧(bb=false→Jx (j2+1) W')) (by
              rintro ex W' (⟨rfl,q1,q2⟩ | ⟨rfl,q1⟩)
              ·exact⟨true,rfl,fun _=> ⟨q1,q2⟩,abW⟩
              ·exact⟨false,rfl,abW,fun _=>q1⟩)
             clear hR
             rcases vI with⟨r5,kJ,nP⟩ | r5
             all_goals
              gi_wp2
              refine Bk (n:=0) (jw 12 Jq aiQ aiQ ?_)
              simp only[ajO,akq,akV,List.drop_zero]
              change wpStill _ _ (World.drew wr) (fun a'=>wpListIn _ _ _ _ _ _ a' (World.drew wr)) _ _
              iterate 12 (refine wpStill_step (fun K hK=> ?_);go_simp; (try simp only[Xn,ahp,Mv,hk3,Aw,and_self,if_true,true_and,go_sem]); (try simp only[p1,p2,q1,q2,ZF,World.KJ,go_sem]);refine hK _ ?_;clear hK K)
              refine wpStill_nil ?_
              refine wpListIn_step (fun K hK=> ?_)
              go_simp
              refine⟨rfl,RoundIn.mono hR' ?_⟩
              rintro ex W3 ⟨bb,rfl,hq1,UB⟩
              refine hK _ _ ?_
              clear hK K
              refine wpListIn_step (fun K hK=> ?_)
              go_simp
              refine hK _ _ ?_
              clear hK K
              refine wpListIn_nil ?_
              rename_i PW
              refine PW _ _ ?_
              cases bb
              ·clear PW hR'
               gi_wp2
               refine⟨rfl,_,results_none (fn:=Tryz.f233) rfl _ _ _,⟨_,rfl⟩,?_⟩
               exact .inr ⟨j2+1,hj3,UB trivial⟩
              ·obtain⟨hq3,hq4⟩:=hq1 rfl
               clear PW hR'
               gi_wp2
               exact⟨⟨i'+1,abV,rfl,j2+1,hq3,SU,hj3,fun a v h1 h2=> (D3 ((hq4 _ (.inl h1)).trans rfl)).trans (Gm a v h1 h2),(D3 (a:=⟨Bx,1,none⟩) ((hq4 Bx (.inr hFx)).trans rfl)).trans ZF⟩,by simp only[intOf];omega⟩
        ·have Fb: ¬ (i':Int) < (gD.length:Int) - 1:=abV
         rw[D2 abV,ajx] at jJ
         gi_wp2
         exact⟨⟨k+1,abV,rfl,j2,F2,XB,jJ,E2,Gm⟩,by simp only[intOf];omega⟩
    ·  have ac6: (gD.length:Int) - 1≤0:=abV
       gi_wp2
       gi_loopw [20] (fun i w2=>i= .int .i64 0∧w2=wr.alloc (Obj.cells #[Value.int IntKind.i64 ZD,Value.slice Ra gD.length Fw,Value.int IntKind.i64 Rl,Value.int IntKind.i64 Rr] 145)) (fun i _=>0)
       case atStart=>exact⟨rfl,rfl⟩
       case round=>
        obtain⟨rfl,rfl⟩:=hrel
        rw[show lh sk n 0 gD=[] from D2 (i:=0) abV,ajx] at jJ
        gi_wp2
        exact⟨⟨k+1,abV,rfl,j,_,XB,jJ,E2,ZE⟩,by simp only[intOf];omega⟩
  · have sM: ¬ (k:Int) < (rows.length:Int):=abV
    have r5:k=rows.length:=abV
    rw[akB (l:=rows.map (·.gD)) (by simp;omega)] at jJ
    have UD:j=CK.length:=by
       have:=congrArg List.length jJ
       simp[lj] at this;omega
    subst UD
    gi_wp2
    exact⟨rfl,_,results_none (fn:=Tryz.f233) rfl _ _ _,⟨_,rfl⟩,.inl ⟨F,hJ⟩⟩
end Go.Proofs
namespace Go.Proofs
open Go.RowKit Go.AM
section
variable (X:Ctx) (μ:Mu)
def CL:List V→List (Value×Value)→Prop
 | [],[]=>True
 | p::ps,pr::gD=>aj X μ p (.agg #[pr.1,pr.2])∧CL ps gD
 | _,_=>False
def jh:List (List V)→List (Array Value)→Prop
 | [],[]=>True
 | x::xs,v::vs=>ag X μ x v.toList∧jh xs vs
 | _,_=>False
end
variable {X:Ctx} {μ:Mu}
theorem jh.append: ∀ {xs ys:List (List V)} {vs us:List (Array Value)},jh X μ xs vs→jh X μ ys us→jh X μ (xs++ys) (vs++us)
 | [],_,[],_,_,h=>by simpa using h
 | [],_,_::_,_,h,_=>by simp[jh] at h
 | _::_,_,[],_,h,_=>by simp[jh] at h
 | x::xs,ys,v::vs,us,h,h'=>by
   simp only[jh] at h
   simp only[ajn,jh]
   exact⟨h.1,jh.append h.2 h'⟩
theorem jh.length: ∀ {xs:List (List V)} {vs:List (Array Value)},jh X μ xs vs→vs.length=xs.length
 | [],[],_=>rfl
 | [],_::_,h=>by simp[jh] at h
 | _::_,[],h=>by simp[jh] at h
 | _::_,_::_,h=>by simp only[jh] at h;simp[jh.length h.2]
theorem jh.get: ∀ {xs:List (List V)} {vs:List (Array Value)},jh X μ xs vs→ ∀ {i:Nat} {x:List V} {v:Array Value},xs[i]? =some x→vs[i]? =some v→ag X μ x v.toList
 | [],_,_,i,x,v,hx,_=>by simp at hx
 | _::_,[],h,_,_,_,_,_=>by simp[jh] at h
 | y::ys,u::us,h,i,x,v,hx,hv=>by
   simp only[jh] at h
   cases i with
   | zero=>simp at hx hv;subst hx hv;exact h.1
   | succ i=>simp at hx hv;exact jh.get h.2 hx hv
theorem H6 (skip:Bool) (n:Int): ∀ {ps:List V} {gD:List (Value×Value)} (i:Nat),CL X μ ps gD→jh X μ (yS skip n i ps) (lh skip n i gD)
 | [],[],_,_=>by simp[yS,lh,jh]
 | [],_::_,_,h=>by simp[CL] at h
 | _::_,[],_,h=>by simp[CL] at h
 | [_],[_],_,_=>by simp[yS,lh,jh]
 | [_],_::_::_,_,h=>by simp[CL] at h
 | _::_::_,[_],_,h=>by simp[CL] at h
 | p::q::rest,pr::qr::rr,i,h=>by
   simp only[CL] at h
   rw[yS,lh]
   refine jh.append ?_ (H6 skip n (i+1) (by simp only[CL];exact h.2))
   split
   ·simp[jh]
   ·simp only[jh,ag,and_true]
    exact⟨h.1,h.2.1⟩
theorem Bq {w:World} {b off sz:Nat} {v:Value} {vs:List Value} (h:dH w b off sz (v::vs)):dH w b (off+sz) sz vs:=fun i u hu=>by
 obtain⟨h1,h2⟩:=h (i+1) u (by simpa using hu)
 refine⟨h1,fun j c hc=> ?_⟩
 have:=h2 j c hc
 rwa [show off+(i+1)*sz+j=off+sz+i*sz+j by rw[ajo];omega] at this
theorem SV: ∀ {ps:List V} {vs:List Value} {b o:Nat},ag X μ ps vs→ps.all US=true→dH μ.w b o 2 vs→
   ∃gD:List (Value×Value),gD.length=ps.length∧CL X μ ps gD∧ ∀ (i:Nat) p,gD[i]? =some p→μ.w.cell? ⟨b,o+i*2,none⟩=some p.1∧μ.w.cell? ⟨b,o+i*2+1,none⟩=some p.2
 | [],[],_,_,_,_,_=> ⟨[],rfl,trivial,fun i p h=>by simp at h⟩
 | [],_::_,_,_,h,_,_=>by simp[ag] at h
 | _::_,[],_,_,h,_,_=>by simp[ag] at h
 | p::ps,v::vs,b,o,h,ha,hr=>by
   simp only[ag] at h
   simp only[aja,Bool.and_eq_true] at ha
   obtain⟨gD,e1,e2,e3⟩:=SV h.2 ha.2 (Bq hr)
   match p,ha.1,h.1 with
   | .agg [x,y],_,hv=>
     obtain⟨hc,us,rfl,hu⟩:=(show _∧ ∃vs,v= .agg vs∧ag X μ [x,y] vs.toList by simpa only[aj] using hv)
     obtain⟨us⟩:=us
     match us,hu with
     | [a,c],hu=>
       refine⟨(a,c)::gD,by simp[e1],⟨by simp only[aj];exact⟨hc,_,rfl,hu⟩,e2⟩,fun i q hq=> ?_⟩
       cases i with
       | zero=>
         simp at hq;subst hq
         have:=(hr 0 _ rfl).2
         exact⟨by simpa using this 0 a (by simp[Value.cells]),by simpa using this 1 c (by simp[Value.cells])⟩
       | succ i=>
         have:=e3 i q (by simpa using hq)
         rwa [show o+2+i*2=o+(i+1)*2 by omega] at this
theorem MA { e n:Int}: ∀ {es:List V} {vs:List Value} {b o k:Nat} {xs:List (List V)},ag X μ es vs→es.all V.dh=true→Gx e n k es=some xs→dH μ.w b o 4 vs→
   ∃rows:List Xz,rows.length=es.length∧jh X μ xs (lj e n k (rows.map (·.gD)))∧ ∀ (i:Nat) R,rows[i]? =some R→
    (μ.w.cell? ⟨b,o+i*4,none⟩=some (.int .i64 R.id)∧μ.w.cell? ⟨b,o+i*4+1,none⟩=some (.slice R.a R.gD.length R.cap)∧μ.w.cell? ⟨b,o+i*4+2,none⟩=some (.int .i64 R.l)∧μ.w.cell? ⟨b,o+i*4+3,none⟩=some (.int .i64 R.r))∧
    (R.gD≠[]→ ∃b2 o2,R.a=some ⟨b2,o2,none⟩∧(b2<μ.w.heap.size∧ ¬μ.own b2)∧ ∀ (i:Nat) p,R.gD[i]? =some p→μ.w.cell? ⟨b2,o2+i*2,none⟩=some p.1∧μ.w.cell? ⟨b2,o2+i*2+1,none⟩=some p.2)∧R.gD.length< 4611686018427387904
 | [],[],_,_,k,xs,_,_,hx,_=>by
   simp only[Gx,aiT] at hx
   subst hx
   exact⟨[],rfl,by simp[lj,jh],fun i R h=>by simp at h⟩
 | [],_::_,_,_,_,_,h,_,_,_=>by simp[ag] at h
 | _::_,[],_,_,_,_,h,_,_,_=>by simp[ag] at h
 | y::es,v::vs,b,o,k,xs,h,hl,hx,hr=>by
   simp only[ag] at h
   simp only[aja,Bool.and_eq_true] at hl
   unfold Gx at hx
   split at hx
   ·simp at*
   ·rename_i k' z1 ps z2 z3 mY heq
    injection heq with hy he
    subst hy he
    split at hx
    case isFalse=>simp at hx
    case isTrue hb=>
     obtain⟨UE,uy,rfl⟩:=aiU.1 hx
     obtain⟨rows,r1,r2,r3⟩:=MA h.2 hl.2 uy (Bq hr)
     have hv:=h.1
     simp only[aj] at hv
     obtain⟨hc,us,rfl,hu⟩:=hv
     obtain⟨us⟩:=us
     match us,hu with
     | [u0,u1,u2,u3],hu=>
       simp only[ag,aj,and_true] at hu
       obtain⟨rfl,⟨mR,Jp,a,cap,vs2,rfl,cS,nn,hrw⟩,rfl,rfl⟩:=hu
       have fP:=(hr 0 _ rfl).2
       have k0:=fP 0 (.int .i64 z1) (by simp[Value.cells])
       have k1:=fP 1 (.slice a ps.length cap) (by simp[Value.cells])
       have k2:=fP 2 (.int .i64 z2) (by simp[Value.cells])
       have k3:=fP 3 (.int .i64 z3) (by simp[Value.cells])
       have Kl: ∃gD:List (Value×Value),gD.length=ps.length∧CL X μ ps gD∧(gD≠[]→ ∃b2 o2,a=some ⟨b2,o2,none⟩∧(b2<μ.w.heap.size∧ ¬μ.own b2)∧ ∀ (i:Nat) p,gD[i]? =some p→μ.w.cell? ⟨b2,o2+i*2,none⟩=some p.1∧μ.w.cell? ⟨b2,o2+i*2+1,none⟩=some p.2):=by
          rcases hrw with rfl| ⟨b2,o2,rfl,ij,bl,dA⟩
          ·exact⟨[],rfl,trivial,fun h=>absurd rfl h⟩
          · obtain⟨gD,e1,e2,e3⟩:=SV nn hb.2 dA
            exact⟨gD,e1,e2,fun _=> ⟨b2,o2,rfl,⟨bl,fun h=>ij (.inl h)⟩,e3⟩⟩
       obtain⟨gD,e1,e2,e3⟩:=Kl
       refine⟨⟨z1,a,cap,z2,z3,gD⟩::rows,by simp[r1],?_,fun i R hR=> ?_⟩
       ·  simp only[List.map_cons,lj]
          exact jh.append (H6 _ _ 0 e2) r2
       ·  cases i with
          | zero=>
            simp at hR;subst hR
            exact⟨⟨by simpa using k0,by rw[e1];simpa using k1,by simpa using k2,by simpa using k3⟩,e3,by show gD.length<_;rw[e1];exact hb.1⟩
          | succ i=>
            have:=r3 i R (by simpa using hR)
            rwa [show o+4+i*4=o+(i+1)*4 by omega] at this
   ·simp at hx
theorem KR (args:Array Value) (w:World): (callFunc 233 args).run Tryz.prog w= .ok (.enter 233 args) w:=by
 obtain⟨c,hc⟩: ∃c,Tryz.f233.body=some c:=⟨_,rfl⟩
 have hn:Tryz.f233.name≠ "runtime.NumGoroutine" :=aiO
 simp[callFunc,Sem.run_bind,program,Sem.run,Tryz.func233,hc,hn]
theorem H7 (  fn:FuncId→Option Nat) (tn:TypeId→Option Nat) (g:Nat) (hg:fn 233=some g):vH ⟨Tryz.prog,fn,tn⟩ g Qj:=by
 refine⟨233,hg,fun caps xs wS B K μ lb Gi ho=> ?_⟩
 refine⟨KR,?_⟩
 unfold Qj at wS
 split at wS
 ·rename_i es y1 y2 y3 e n cs
  split at wS
  case isFalse=>simp at wS
  case isTrue hb=>
   obtain⟨lb⟩:=lb
   match lb,Gi with
   | [vm,vc],Gi=>
     simp only[ag,aj,and_true] at Gi
     obtain⟨⟨_,Di,bm,om,szm,xm,rfl,ahq,ac7,⟨_,um,rfl,hum⟩,hrm⟩,⟨_,_,bc,oc,szc,xc,rfl,ahr,ZG,⟨_,uc,rfl,huc⟩,hrc⟩⟩:=Gi
     obtain⟨um⟩:=um
     obtain⟨uc⟩:=uc
     match um,hum,uc,huc with
     |  [s0,s1,s2,s3],hum,c0::c1::aik,huc=>
        simp only[ag,aj,and_true] at hum huc
        obtain⟨⟨mR,Jp,a,cap,vs,rfl,cS,nn,hrw⟩,_⟩:=hum
        obtain⟨rfl,rfl,_⟩:=huc
        have m0:=(hrm 0 _ rfl).2 0 _ (show (Value.agg _).cells[0]? =some (.slice a es.length cap) by simp[Value.cells])
        have q0:=(hrc 0 _ rfl).2 0 _ (show (Value.agg _).cells[0]? =some (.int .i64 e) by simp[Value.cells])
        have q1:=(hrc 0 _ rfl).2 1 _ (show (Value.agg _).cells[1]? =some (.int .i64 n) by simp[Value.cells])
        obtain⟨b,off,Cm,tO,dA⟩: ∃b off,(es≠[]→a=some ⟨b,off,none⟩)∧(es≠[]→b<μ.w.heap.size∧ ¬μ.own b)∧dH μ.w b off 4 vs:=by
          rcases hrw with rfl| ⟨b,off,rfl,ij,bl,dA⟩
          · refine⟨0,0,fun h=>absurd rfl h,fun h=>absurd rfl h,?_⟩
            have hv0:vs=[]:=by cases vs with
             | nil=>rfl
             | cons v vs=>simp[ag] at nn
            subst hv0
            intro i v h;simp at h
          ·exact⟨b,off,fun _=>rfl,fun _=> ⟨bl,fun h=>ij (.inl h)⟩,dA⟩
        obtain⟨rows,r1,r2,r3⟩:=MA nn Jp wS dA
        refine⟨lj e n 0 (rows.map (·.gD)),r2.length,fun i x v hx hv=>r2.get hx hv,fun l J Jx W0 lf hJ hJx hY h0=> ?_⟩
        have kj: ∀ (a:Addr) v,a.block<μ.w.heap.size→μ.w.cell? a=some v→W0.cell? a=some v:=fun a v h1 h2=>by rw[←h2];exact World.cell?_of_block (lf.block a.block h1)
        have cL:rows≠[]→es≠[]:=fun h he=>h (by subst he;simpa using r1)
        have key:=SR l bm (om+0) bc (oc+0) b off cap a e n rows (by rw[r1];exact hb.1) (fun R hR=>by
            obtain⟨i,hi⟩:=ajL hR
            exact(r3 i R hi).2.2) hb.2.1 hb.2.2 (fun b=>b<μ.w.heap.size∧ ¬μ.own b) J Jx (fun k F A B h1 h2=>hJ.grow k F A B h1 h2) (fun k F F' A h1 h2=>hJ.less k F F' A h1 h2)
          (lj e n 0 (rows.map (·.gD))) rfl (fun k F W1 v hv hJ1=>Bl (hY k F W1 v hv hJ1) (fun ex W' h=>h.imp (fun h=> ⟨h.1,h.2.1,fun b hb=>hb.elim (fun hb=>h.2.2.1 b hb.1 hb.2) (fun hb=>h.2.2.2 b hb)⟩) id))
          W0 ⟨ac7,fun h=>ahq (.inl h)⟩ ⟨ZG,fun h=>ahr (.inl h)⟩ (fun h=>tO (cL h)) (fun h=>Cm (cL h)) (by rw[r1];exact kj _ _ ac7 (by simpa using m0)) (kj _ _ ZG (by simpa using q0)) (kj _ _ ZG (by simpa using q1))
          (fun k R hR=>by
            have bl:b<μ.w.heap.size:=(tO (cL (by intro h;rw[h] at hR;simp at hR))).1
            obtain⟨⟨w0,w1,w2,w3⟩,_⟩:=r3 k R hR
            exact⟨kj _ _ bl w0,kj _ _ bl w1,kj _ _ bl w2,kj _ _ bl w3⟩)
          (fun k R hR hp=>by
            obtain⟨b2,o2,z1,z2,z3⟩:=(r3 k R hR).2.1 hp
            exact⟨b2,o2,z1,z2,fun i p h=> ⟨kj _ _ z2.1 (z3 i p h).1,kj _ _ z2.1 (z3 i p h).2⟩⟩) h0
        exact callsIn_wide.2 (callsIn_wide.1 key)
 ·simp at wS
#print axioms H7
end Go.Proofs
