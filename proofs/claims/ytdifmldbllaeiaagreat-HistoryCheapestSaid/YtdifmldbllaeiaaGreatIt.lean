/- Texts of the proof. -/
import Derived.Test.YtdifmldbllaeiaaGreatOpsC
import Derived.StillTailTactics
import Derived.Test.YtdifmldbllaeiaaGreatProg
import Derived.RangeFuncNested
import Derived.RangeFuncLeaves
import Derived.Shelf.Abstract
import Derived.Shelf.RegionOpen
import Derived.WalkKit
import Derived.OwnWalkIn
import Derived.TacticsInMore
import Derived.LoopNIn
import Derived.LoopIn
set_option maxHeartbeats 4000000
set_option linter.unusedSimpArgs false
set_option linter.unusedVariables false
namespace Go.Proofs
open Go.RowKit Go.Shelf Go.AM
attribute [local go_sem] Oper.semAt_some
@[local go_sem] theorem aas: (Fr none).round=none:=rfl
set_option maxRecDepth 100000 in
theorem Px (l Bs Bo b off len cap:Nat) (vs:List (List Value)) (hlen:vs.length=len) (h2: ∀v ∈ vs,∃x y,v=[x,y]) (hbig:len< 4611686018427387904) (Kp:World→World→Prop) (hkt: ∀ {A B C},Kp A B→Kp B C→Kp A C) (hkr: ∀A,Kp A A)
  (ZP: ∀ {A B},Kp A B→A.cell? ⟨Bs,Bo,none⟩=some (.slice (some ⟨b,off,none⟩) len cap)→B.cell? ⟨Bs,Bo,none⟩=some (.slice (some ⟨b,off,none⟩) len cap))
  (hkc: ∀ {A B} j v,Kp A B→A.cell? ⟨b,j,none⟩=some v→B.cell? ⟨b,j,none⟩=some v)
  (Py: ∀A:World,Kp A A.drew) (J Jx:Nat→World→Prop) (hJd: ∀k W,J k W→J k W.drew)
  (hY: ∀ (k:Nat) W1 x y z u,k+1 <len→vs[k]? =some [x,y]→vs[k+1]? =some [z,u]→J k W1→YieldAt (Fr none) 0 Tryz.prog l #[.int .i64 k,.agg #[x,y,z,u]] W1 fun e W'=>
    (e= .returned (.bool true)∧J (k+1) W'∧Kp W1 W')∨(e= .returned (.bool false)∧Jx (k+1) W'))
  (W:World) (hBs:W.cell? ⟨Bs,Bo,none⟩=some (.slice (some ⟨b,off,none⟩) len cap)) (hc: ∀ (j:Nat) x y,vs[j]? =some [x,y]→W.cell? ⟨b,off+j*2,none⟩=some x∧W.cell? ⟨b,off+j*2+1,none⟩=some y) (h0:J 0 W):
  CallsIn (Fr none) 1 Tryz.prog 284 #[.func (.yield l) #[] #[],.pointer (some ⟨Bs,Bo,none⟩)] W fun e W'=> (∃v,e= .returned v)∧(J (len - 1) W'∨ ∃k,k≤len - 1∧Jx k W'):=by
 refine callsIn_of_wp Tryz.func284 rfl trivial ?_ rfl
 simp only[Tryz.ntmps284,ahv,agb,agi,Nat.reduceAdd,Nat.reduceSub,ahr,ahs,ahN,ahA,agH,ags]
 have Fy:Tryz.prog.follows .mixedOrders=true:=afW
 gi_wp2
 gi_loopw [3] (fun i wr=> ∃k:Nat,k≤len - 1∧i= .int .i64 k∧J k wr∧Kp W wr) (fun i _=>len - (intOf i).toNat)
 case atStart=>exact⟨0,agI _,rfl,h0,hkr _⟩
 case round=>
  obtain⟨k,hk,rfl,hJs,GU⟩:=hrel
  have hBr:=ZP GU hBs
  by_cases bk:k+1 <len
  · obtain⟨x,y,Mx⟩:=h2 vs[k] (agP ae0)
    obtain⟨z,u,hzu⟩:=h2 vs[k+1] (agP ae0)
    have MG:vs[k]? =some [x,y]:=by rw[af3 ae0,Mx]
    have HF:vs[k+1]? =some [z,u]:=by rw[af3 ae0,hzu]
    obtain⟨fn,tmps,assign,body,hy,hR⟩:=hY k wr.drew x y z u bk MG HF (hJd _ _ hJs)
    have yN:k<len:=ae0
    have JL: (k:Int)+1 < (len:Int):=ae0
    have hk3: (0:Int)≤(k:Int)+1:=ae0
    have RP:IntKind.i64.wrap ((k:Int)+1)=(k:Int)+1:=wrap64 ae0 ae0
    have hwn: ((k:Int)+1).toNat=k+1:=ae0
    have c1:=hkc _ _ GU (hc k x y MG).1
    have c2:=hkc _ _ GU (hc k x y MG).2
    have c3:=hkc _ _ GU (hc (k+1) z u HF).1
    have c4:=hkc _ _ GU (hc (k+1) z u HF).2
    gi_wp2
    have SN:=hR.mono (R':=fun e W'=> ∃bb,e= .returned (.bool bb)∧(bb=true→J (k+1) W'∧Kp wr.drew W')∧(bb=false→Jx (k+1) W')) (by
       rintro e W' (⟨rfl,q1,q2⟩ | ⟨rfl,q1⟩)
       ·exact⟨true,rfl,fun _=> ⟨q1,q2⟩,afU⟩
       ·exact⟨false,rfl,afU,fun _=>q1⟩)
    clear hR
    refine zg (n:=0) (jb 12 Fy afW afW ?_)
    simp only[agO,ahn,ahV,List.drop_zero]
    change wpStill _ _ (World.drew wr) (fun a'=>wpListIn _ _ _ _ _ _ a' (World.drew wr)) _ _
    iterate 12 (refine wpStill_step (fun K hK=> ?_);go_simp; (try simp only[RP,hwn,JL,hk3,yN,and_self,if_true,true_and,go_sem]); (try simp only[c1,c2,c3,c4,hBr,World.H3,go_sem]);refine hK _ ?_;clear hK K)
    refine wpStill_nil ?_
    refine wpListIn_step (fun K hK=> ?_)
    go_simp
    refine⟨rfl,RoundIn.mono SN ?_⟩
    rintro e W3 ⟨bb,rfl,VY,MJ⟩
    refine hK _ _ ?_
    clear hK K
    refine wpListIn_step (fun K hK=> ?_)
    go_simp
    refine hK _ _ ?_
    clear hK K
    refine wpListIn_nil ?_
    rename_i hk9 kk9 MK
    refine MK _ _ ?_
    cases bb
    ·  clear MK hk9 SN
       gi_wp2
       refine⟨rfl,_,results_none (fn:=Tryz.f284) rfl _ _ _,⟨_,rfl⟩,?_⟩
       exact .inr ⟨k+1,ae0,MJ trivial⟩
    ·  gi_wp2
       exact⟨⟨k+1,ae0,rfl,(VY rfl).1,hkt GU (hkt (Py _) (VY rfl).2)⟩,by simp only[intOf];omega⟩
  · have JL: ¬ (k:Int)+1 < (len:Int):=ae0
    have RP:IntKind.i64.wrap ((k:Int)+1)=(k:Int)+1:=wrap64 ae0 ae0
    gi_wp2
    have oW:k=len - 1:=ae0
    refine⟨rfl,_,results_none (fn:=Tryz.f284) rfl _ _ _,⟨_,rfl⟩,?_⟩
    exact .inl (oW ▸ hJs)
set_option maxRecDepth 100000 in
theorem BM (l Bs Bo cap:Nat) (a0:Option Addr) (J Jx:Nat→World→Prop) (hJd: ∀k W,J k W→J k W.drew)
  (W:World) (hBs:W.cell? ⟨Bs,Bo,none⟩=some (.slice a0 0 cap)) (h0:J 0 W):
  CallsIn (Fr none) 1 Tryz.prog 284 #[.func (.yield l) #[] #[],.pointer (some ⟨Bs,Bo,none⟩)] W fun e W'=> (∃v,e= .returned v)∧(J 0 W'∨ ∃k,k≤0∧Jx k W'):=by
 refine callsIn_of_wp Tryz.func284 rfl trivial ?_ rfl
 simp only[Tryz.ntmps284,ahv,agb,agi,Nat.reduceAdd,Nat.reduceSub,ahr,ahs,ahN,ahA,agH,ags]
 have Fy:Tryz.prog.follows .mixedOrders=true:=afW
 gi_wp2
 gi_loopw [3] (fun i wr=>i= .int .i64 0∧J 0 wr∧wr=W) (fun i _=>0)
 case atStart=>exact⟨rfl,h0,rfl⟩
 case round=>
  obtain⟨rfl,hJs,rfl⟩:=hrel
  have RP:IntKind.i64.wrap ((0:Int)+1)=1:=afV
  gi_wp2
  refine⟨rfl,_,results_none (fn:=Tryz.f284) rfl _ _ _,⟨_,rfl⟩,?_⟩
  exact .inl hJs
theorem sn (A:World):A.grownBy A.drew none:=⟨rfl,rfl,rfl,af6 _,fun _ _ _=>rfl⟩
end Go.Proofs
namespace Go.Proofs
open Go.RowKit Go.AM
theorem pG: ∀ (ps:List V) (i:Nat),(fa i ps).length=ps.length - 1
 | [],_=>rfl
 | [_],_=>rfl
 | _::q::rest,i=>by simp only[fa,agb,pG (q::rest)];omega
theorem iZ: ∀ (ps:List V) (i k:Nat) x,(fa i ps)[k]? =some x→ ∃p q,ps[k]? =some p∧ps[k+1]? =some q∧x=[.int .i64 ((i+k:Nat):Int),.agg (p.cells++q.cells)]
 | [],i,k,x,h=>by simp[fa] at h
 | [_],i,k,x,h=>by simp[fa] at h
 | p::q::rest,i,k,x,h=>by
   cases k with
   | zero=>simp[fa] at h;exact⟨p,q,afU,afU,h ▸ by simp⟩
   | succ k=>
     simp only[fa,ahb] at h
     obtain⟨p',q',h1,h2,rfl⟩:=iZ (q::rest) (i+1) k x h
     exact⟨p',q',by simpa using h1,by simpa using h2,by rw[show i+1+k=i+(k+1) by omega]⟩
def LD (vs:List Value) (n:Nat):List (Array Value):=(List.range n).map fun (k:Nat)=> #[.int .i64 (((k:Nat):Int)),.agg ((vs.getD k undef).cells++(vs.getD (k+1) undef).cells)]
theorem H4 (args:Array Value) (w:World): (callFunc 284 args).run Tryz.prog w= .ok (.enter 284 args) w:=by
 obtain⟨c,hc⟩: ∃c,Tryz.f284.body=some c:=⟨_,rfl⟩
 have hn:Tryz.f284.name≠ "runtime.NumGoroutine" :=afV
 simp[callFunc,Sem.run_bind,program,Sem.run,Tryz.func284,hc,hn]
theorem so {F:Fence} {n:Nat} {P:Program} {l:Nat} {v:Array Value} {W:World} {R R':Ending→World→Prop} (h:YieldAt F n P l v W R) (hm: ∀e W',R e W'→R' e W'):YieldAt F n P l v W R':=by
 obtain⟨fn,tmps,assign,body,hy,hR⟩:=h
 exact⟨fn,tmps,assign,body,hy,hR.mono hm⟩
theorem zh {F:Fence} {n:Nat} {P:Program} {g:Nat} {args:Array Value} {W:World} {J:Nat→(Nat→Prop)→World→Prop} {Jx:Nat→World→Prop} {m:Nat} {F0:Nat→Prop} (h:CallsIn F n P g args W fun e W'=> (∃v,e= .returned v)∧(J m F0 W'∨ ∃k,k≤m∧Jx k W')):
  CallsIn F n P g args W fun e W'=> (∃v,e= .returned v)∧((∃F,J m F W')∨ ∃k,k≤m∧Jx k W'):=
 CallsIn.mono h fun e W' h=> ⟨h.1,h.2.imp (fun h=> ⟨_,h⟩) id⟩
theorem Fz (   fn:FuncId→Option Nat) (tn:TypeId→Option Nat) (g:Nat) (hg:fn 284=some g):pL ⟨Tryz.prog,fn,tn⟩ g Jd:=by
 refine⟨284,hg,fun caps xs oU B K μ lb vu ho=> ?_⟩
 refine⟨H4,?_⟩
 match caps,oU,vu with
 | [.eptr .nils 0],oU,vu=>
   simp only[Jd,afY] at oU
   subst oU
   obtain⟨lb⟩:=lb
   match lb,vu with
   | [v],vu=>
     simp only[ag,and_true] at vu
     obtain⟨_,_,b,o,sz,x,rfl,gR,bk,⟨a,rfl⟩,dg⟩:=vu
     have hr:=(dg 0 _ rfl).2 0 (.slice a 0 0) (by simp[Value.cells])
     simp only[Nat.zero_mul,ahk] at hr
     refine⟨[],rfl,fun i x v h=>by simp at h,fun l J Jx W0 jM hJ hJx hY h0=> ?_⟩
     have hc:W0.cell? ⟨b,o,none⟩=some (.slice a 0 0):=by rw[←hr];exact World.cell?_of_block (jM.block b bk)
     exact zh (callsIn_wide.2 (callsIn_wide.1 (BM l b o 0 a (fun k W=>J k (fun _=>False) W) Jx (fun k W h=>hJ.less k _ _ _ (hJ.grow k _ W _ h (sn W)) (fun b hb=>hb.elim)) W0 hc h0)))
 | [.eptr (.lit 2 ps) 0],oU,vu=>
   simp only[Jd] at oU
   split at oU
   case isFalse=>simp at oU
   case isTrue hbig=>
     simp only[afY] at oU
     subst oU
     obtain⟨lb⟩:=lb
     match lb,vu with
     | [v],vu=>
       simp only[ag,and_true] at vu
       obtain⟨_,_,b,o,sz,x,rfl,gR,bk,⟨mr,Fv,a,cap,vs,rfl,cM,lE,VZ⟩,dg⟩:=vu
       have hr:=(dg 0 _ rfl).2 0 (.slice a ps.length cap) (by simp[Value.cells])
       simp only[Nat.zero_mul,ahk] at hr
       have BN:vs.length=ps.length:=lE.length.symm
       have il: ∀W0,Below μ.w.heap.size μ.w W0→W0.cell? ⟨b,o,none⟩=some (.slice a ps.length cap):=fun W0 jM=>by rw[←hr];exact World.cell?_of_block (jM.block b bk)
       have aew: ∀p ∈ ps,p.da=true:=af5.1 Fv
       rcases VZ with rfl| ⟨b2,o2,rfl,aex,kb,Uj⟩
       · refine⟨[],rfl,fun i x v h=>by simp[fa] at h,fun l J Jx W0 jM hJ hJx hY h0=> ?_⟩
         exact zh (callsIn_wide.2 (callsIn_wide.1 (BM l b o cap a (fun k W=>J k (fun _=>False) W) Jx (fun k W h=>hJ.less k _ _ _ (hJ.grow k _ W _ h (sn W)) (fun b hb=>hb.elim)) W0 (il W0 jM) h0)))
       · have eF: ∀k p,ps[k]? =some p→ ∃v x y,vs[k]? =some v∧aj ⟨⟨Tryz.prog,fn,tn⟩,B,K⟩ μ p v∧p.da=true∧v.cells= #[x,y]:=fun k p hp=>by
           obtain⟨v,hv,JM⟩:=lE.get hp
           have hs:=(Uj k v hv).1
           obtain⟨cs,nM⟩: ∃cs,v.cells=cs:=⟨_,rfl⟩
           rw[nM] at hs
           obtain⟨cs⟩:=cs
           match cs,hs with
           | [x,y],_=>exact⟨v,x,y,hv,JM,aew p (List.mem_of_getElem? hp),nM⟩
         have hgv: ∀ (k:Nat) v,vs[k]? =some v→ ∃x y,v.cells= #[x,y]:=fun k v hv=>by
           have hk:k<ps.length:=by rw[←BN];exact(af0.1 hv).1
           obtain⟨v',x,y,h1,_,_,h2⟩:=eF k _ (af3 hk)
           rw[hv] at h1;injection h1 with h1;subst h1;exact⟨x,y,h2⟩
         refine⟨LD vs (ps.length - 1),by rw[pG];simp[LD],fun i x v hx hv=> ?_,fun l J Jx W0 jM hJ hJx hY h0=> ?_⟩
         · obtain⟨p,q,hp,hq,rfl⟩:=iZ ps 0 i x hx
           obtain⟨v1,x1,y1,h1,h2,h3,h4⟩:=eF i p hp
           obtain⟨v2,x2,y2,k1,k2,k3,k4⟩:=eF (i+1) q hq
           simp only[LD,age,afZ] at hv
           obtain⟨i',LF,rfl⟩:=hv
           obtain⟨_,rfl⟩:=af0.1 LF
           simp only[List.getElem_range,agL,h1,k1,ahT]
           refine⟨by simp[aj],⟨by rw[ag6,h2.kL h3,k2.kL k3];rfl,_,rfl,?_⟩,trivial⟩
           rw[Array.toList_append]
           exact ag.append (h2.cells h3) (k2.cells k3)
         · have ug: (LD vs (ps.length - 1)).length=ps.length - 1:=by unfold LD;rw[List.length_map,List.length_range]
           have H5: ∀ (k:Nat) x y,(vs.map fun v=>v.cells.toList)[k]? =some [x,y]→ ∃v,vs[k]? =some v∧v.cells= #[x,y]:=fun k x y h=>by
            simp only[age,afZ] at h
            obtain⟨v,h1,h2⟩:=h
            exact⟨v,h1,by rw[←h2]⟩
           have key:=Px l b o b2 o2 ps.length cap (vs.map fun v=>v.cells.toList) (by simpa using BN) (fun v hv=>by
              obtain⟨v0,Xx,rfl⟩:=agk.1 hv
              obtain⟨k,hk,JL⟩:=List.mem_iff_getElem.1 Xx
              obtain⟨x,y,h⟩:=hgv k v0 (by rw[af3 hk,JL])
              exact⟨x,y,by rw[h]⟩) hbig (Kept μ)
            (fun h1 h2 b hb hn=> (h2 b hb hn).trans (h1 b hb hn)) (fun A b hb hn=>rfl)
            (fun {A B} hk h=>by rw[←h];exact World.cell?_of_block (hk b bk fun h=>gR (.inl h)))
            (fun {A B} j v hk h=>by rw[←h];exact World.cell?_of_block (hk b2 kb fun h=>aex (.inl h)))
            (fun A b hb hn=>rfl) (fun k W=>J k (fun _=>False) W) Jx (fun k W h=>hJ.less k _ _ _ (hJ.grow k _ W _ h (sn W)) (fun b hb=>hb.elim))
            (fun k W1 x y z u hk h1 h2 Xy=>by
              obtain⟨v1,e1,e2⟩:=H5 k x y h1
              obtain⟨v2,e3,e4⟩:=H5 (k+1) z u h2
              refine so (hY k _ W1 _ ?_ Xy) (fun e W' h=>h.imp (fun h=> ⟨h.1,h.2.1,h.2.2.1⟩) id)
              simp only[LD,age,ahU (show k<ps.length - 1 by omega),agc,agL,e1,e3,ahT,e2,e4]
              rfl) W0 (il W0 jM)
            (fun j x y h=>by
              obtain⟨v1,e1,e2⟩:=H5 j x y h
              have oV:=(Uj j v1 e1).2
              rw[e2] at oV
              have c1:=oV 0 x rfl
              have c2:=oV 1 y rfl
              refine⟨?_,?_⟩
              ·rw[World.cell?_of_block (jM.block b2 kb)];simpa using c1
              ·rw[World.cell?_of_block (jM.block b2 kb)];exact c2) h0
           rw[ug]
           exact zh (callsIn_wide.2 (callsIn_wide.1 key))
#print axioms Fz
end Go.Proofs
namespace Go.Proofs
open Go.RowKit Go.Shelf Go.AM
attribute [local go_sem] Oper.semAt_some xy Jb Bool.true_or Bool.or_true Bool.false_or Bool.or_false decide_true decide_false
@[local go_sem] theorem Xz: (Fr none).round=none:=rfl
def kn (skip:Bool) (n:Int):Nat→List (Value×Value)→List (Array Value)
 | i,p::q::rest=> (if skip && (decide ((i:Int)=n - 1) || decide ((i:Int)=n)) then [] else [#[.agg #[p.1,p.2],.agg #[q.1,q.2]]])++kn skip n (i+1) (q::rest)
 | _,_=> []
def ko (e n:Int):Nat→List (List (Value×Value))→List (Array Value)
 | _,[]=> []
 | k,ps::rest=>kn (decide ((k:Int)=e)) n 0 ps++ko e n (k+1) rest
structure Uk where
 id:Int
 a:Option Addr
 cap:Nat
 l:Int
 r:Int
 fW:List (Value×Value)
theorem H6 {skip:Bool} {n:Int} {i:Nat} {ps:List (Value×Value)} {p q:Value×Value} (hp:ps[i]? =some p) (hq:ps[i+1]? =some q):
  kn skip n i (ps.drop i)=(if skip && (decide ((i:Int)=n - 1) || decide ((i:Int)=n)) then [] else [#[.agg #[p.1,p.2],.agg #[q.1,q.2]]])++kn skip n (i+1) (ps.drop (i+1)):=by
 obtain⟨h1,rfl⟩:=af0.1 hp
 obtain⟨h2,rfl⟩:=af0.1 hq
 rw[agq h1,agq h2]
 rw[kn]
theorem BO {skip:Bool} {n:Int} {i:Nat} {ps:List (Value×Value)} (h:ps.length - 1≤i):kn skip n i (ps.drop i)=[]:=by
 rcases hd:ps.drop i with _| ⟨p,_| ⟨q,rest⟩⟩
 ·rfl
 ·rfl
 ·have:=congrArg List.length hd
  simp at this;omega
theorem H7 {e n:Int} {k:Nat} {rs:List (List (Value×Value))} {ps:List (Value×Value)} (h:rs[k]? =some ps):ko e n k (rs.drop k)=kn (decide ((k:Int)=e)) n 0 ps++ko e n (k+1) (rs.drop (k+1)):=by
 obtain⟨h1,rfl⟩:=af0.1 h
 rw[agq h1,ko]
theorem H8 {w:World} {o:Obj} {a:Addr} {v:Value} (h:w.cell? a=some v): (w.alloc o).cell? a=some v:=by
 have bk:a.block<w.heap.size:=by
  rcases ahd a.block w.heap.size with hl| hl
  ·exact hl
  ·simp[World.cell?,agX hl] at h
 rw[←h]
 simp only[World.cell?,Below.heap_alloc w o a.block bk]
theorem FA (w:World) (o:Obj):w.grownBy (w.alloc o) none:=by
 have b1:Below w.heap.size w (w.alloc o):=(Below.refl _ w).alloc (af6 _) _
 exact⟨b1.os,b1.tape,b1.output,b1.size,fun k hk _=>b1.block k hk⟩
theorem Pz (A:World):A.grownBy A.drew none:=⟨rfl,rfl,rfl,af6 _,fun _ _ _=>rfl⟩
theorem BQ {A B:World} {a:Addr} (h:B.heap[a.block]? =A.heap[a.block]?):B.cell? a=A.cell? a:=by
 simp only[World.cell?,h]
set_option maxRecDepth 100000 in
theorem PA (   l Bm Om Bc Oc b off cap:Nat) (a0:Option Addr) (e n:Int) (rows:List Uk) (hbig:rows.length< 4611686018427387904) (aat: ∀R ∈ rows,R.fW.length< 4611686018427387904) (V0:0≤n) (V1:n< 4611686018427387904)
  (S:Nat→Prop) (J:Nat→(Nat→Prop)→World→Prop) (Jx:Nat→World→Prop)
  (hJg: ∀k F A B,J k F A→A.grownBy B none→J k (fun b=>F b∨(A.heap.size≤b∧b<B.heap.size)) B) (hJl: ∀k F F' A,J k F A→(∀b,F' b→F b)→J k F' A)
  (sq:List (Array Value)) (SO:sq.drop 0=ko e n 0 (rows.map (·.fW)))
  (hY: ∀ (k:Nat) F W1 v,sq[k]? =some v→J k F W1→YieldAt (Fr none) 0 Tryz.prog l v W1 fun e W'=>
    (e= .returned (.bool true)∧J (k+1) F W'∧ ∀b,S b∨F b→W'.heap[b]? =W1.heap[b]?)∨(e= .returned (.bool false)∧Jx (k+1) W'))
  (W:World) (hSm:S Bm) (hSc:S Bc) (JN:rows≠[]→S b) (PB:rows≠[]→a0=some ⟨b,off,none⟩) (FB:W.cell? ⟨Bm,Om,none⟩=some (.slice a0 rows.length cap))
  (aey:W.cell? ⟨Bc,Oc,none⟩=some (.int .i64 e)) (aez:W.cell? ⟨Bc,Oc+1,none⟩=some (.int .i64 n))
  (hc: ∀ (k:Nat) R,rows[k]? =some R→W.cell? ⟨b,off+k*4,none⟩=some (.int .i64 R.id)∧W.cell? ⟨b,off+k*4+1,none⟩=some (.slice R.a R.fW.length R.cap)∧W.cell? ⟨b,off+k*4+2,none⟩=some (.int .i64 R.l)∧W.cell? ⟨b,off+k*4+3,none⟩=some (.int .i64 R.r))
  (hpt: ∀ (k:Nat) R,rows[k]? =some R→R.fW≠[]→ ∃b2 o2,R.a=some ⟨b2,o2,none⟩∧S b2∧ ∀ (i:Nat) p,R.fW[i]? =some p→W.cell? ⟨b2,o2+i*2,none⟩=some p.1∧W.cell? ⟨b2,o2+i*2+1,none⟩=some p.2)
  (h0:J 0 (fun _=>False) W):
  CallsIn (Fr none) 1 Tryz.prog 286 #[.func (.yield l) #[] #[],.pointer (some ⟨Bm,Om,none⟩),.pointer (some ⟨Bc,Oc,none⟩)] W fun ex W'=> (∃v,ex= .returned v)∧((∃F,J sq.length F W')∨ ∃k,k≤sq.length∧Jx k W'):=by
 refine callsIn_of_wp Tryz.func286 rfl trivial ?_ rfl
 simp only[Tryz.ntmps286,ahv,agb,agi,Nat.reduceAdd,Nat.reduceSub,ahr,ahs,ahN,ahA,agH,ags]
 have Fy:Tryz.prog.follows .mixedOrders=true:=afW
 gi_wp2
 gi_loopw [10] (fun i wr=> ∃k:Nat,k≤rows.length∧i= .int .i64 k∧ ∃j F,J j F wr∧sq.drop j=ko e n k ((rows.map (·.fW)).drop k)∧j≤sq.length∧ ∀a v,S a.block→W.cell? a=some v→wr.cell? a=some v) (fun i _=>rows.length - (intOf i).toNat)
 case atStart=>exact⟨0,agI _,rfl,0,_,h0,SO,agI _,fun a v _ h=>h⟩
 case round=>
  obtain⟨k,hk,rfl,j,F,hJ,fC,KH,xR⟩:=hrel
  by_cases bk:k<rows.length
  · have qA: ( k:Int) < (rows.length:Int):=ae0
    have hR:rows[k]? =some rows[k]:=af3 bk
    have cF:rows≠[]:=by intro h;rw[h] at bk;simp at bk
    obtain rfl:=PB cF
    replace JN:=JN cF
    clear PB cF
    obtain⟨c0,c1,c2,c3⟩:=hc k _ hR
    replace c0:=xR _ _ JN c0
    replace c1:=xR _ _ JN c1
    replace c2:=xR _ _ JN c2
    replace c3:=xR _ _ JN c3
    have hRp:=aat rows[k] (agP bk)
    have HN:=hpt k _ hR
    have hrk: (rows.map (·.fW))[k]? =some rows[k].fW:=by simp[hR]
    rw[H7 hrk] at fC
    generalize aau:decide ((k:Int)=e)=sk at fC
    clear hrk hR
    generalize rows[k]=R at*
    obtain⟨V2,Ra,C9,Rl,Rr,fW⟩:=R
    dsimp only at c0 c1 c2 c3 hRp HN fC
    have wJ:=FA wr (Obj.cells #[Value.int IntKind.i64 V2,Value.slice Ra fW.length C9,Value.int IntKind.i64 Rl,Value.int IntKind.i64 Rr] 100)
    have PC: ∀a v,S a.block→W.cell? a=some v→(wr.alloc (Obj.cells #[Value.int IntKind.i64 V2,Value.slice Ra fW.length C9,Value.int IntKind.i64 Rl,Value.int IntKind.i64 Rr] 100)).cell? a=some v:=fun a v h1 h2=>H8 (xR a v h1 h2)
    have bF: (wr.alloc (Obj.cells #[Value.int IntKind.i64 V2,Value.slice Ra fW.length C9,Value.int IntKind.i64 Rl,Value.int IntKind.i64 Rr] 100)).heap.size=wr.heap.size+1:=World.size_alloc _ _
    have V3: (wr.alloc (Obj.cells #[Value.int IntKind.i64 V2,Value.slice Ra fW.length C9,Value.int IntKind.i64 Rl,Value.int IntKind.i64 Rr] 100)).cell? ⟨wr.heap.size,1,none⟩=some (.slice Ra fW.length C9):=by
       simp only[World.cell?]
       rw[World.alloc_heap_new]
       rfl
    obtain⟨F2,hFx,Rb⟩: ∃F2:Nat→Prop,F2 wr.heap.size∧J j F2 (wr.alloc (Obj.cells #[Value.int IntKind.i64 V2,Value.slice Ra fW.length C9,Value.int IntKind.i64 Rl,Value.int IntKind.i64 Rr] 100)):=
       ⟨_,.inr ⟨af6 _,ae0⟩,hJg _ _ _ _ hJ wJ⟩
    by_cases h1: (1:Int) < (fW.length:Int)
    ·  have aav: (0:Int)≤(fW.length:Int) - 1:=ae0
       obtain⟨b2,o2,rfl,Xs,hpc⟩:=HN (by intro h;rw[h] at h1;simp at h1)
       gi_wp2
       generalize wr.alloc (Obj.cells #[Value.int IntKind.i64 V2,Value.slice (some ⟨b2,o2,none⟩) fW.length C9,Value.int IntKind.i64 Rl,Value.int IntKind.i64 Rr] 100)=wa at*
       generalize wr.heap.size=Bx at*
       gi_loopw [20] (fun i w2=> ∃i':Nat,i'≤fW.length - 1∧i= .int .i64 i'∧ ∃j2,J j2 F2 w2∧sq.drop j2=kn sk n i' (fW.drop i')++ko e n (k+1) ((rows.map (·.fW)).drop (k+1))∧j2≤sq.length∧(∀a v,S a.block→W.cell? a=some v→w2.cell? a=some v)∧w2.cell? ⟨Bx,1,none⟩=some (.slice (some ⟨b2,o2,none⟩) fW.length C9)) (fun i _=>fW.length - (intOf i).toNat)
       case atStart=>exact⟨0,agI _,rfl,j,Rb,by simpa using fC,KH,PC,V3⟩
       case round=>
        clear hJ Rb fC KH xR PC V3
        obtain⟨i',LF,rfl,j2,Rb,fC,KH,xR,V3⟩:=hrel
        have afI:=xR _ _ hSc aey
        have afJ:=xR _ _ hSc aez
        by_cases kb:i'<fW.length - 1
        ·have T9: (i':Int) < (fW.length:Int) - 1:=ae0
         have hgp:fW[i']? =some fW[i']:=af3 ae0
         have hgq:fW[i'+1]? =some fW[i'+1]:=af3 ae0
         rw[H6 hgp hgq] at fC
         obtain⟨p1,p2⟩:=hpc _ _ hgp
         obtain⟨q1,q2⟩:=hpc _ _ hgq
         replace p1:=xR _ _ Xs p1
         replace p2:=xR _ _ Xs p2
         replace q1:=xR _ _ Xs q1
         replace q2:=xR _ _ Xs q2
         generalize fW[i']=P at*
         generalize fW[i'+1]=Q2 at*
         have hwn:IntKind.i64.wrap (n - 1)=n - 1:=wrap64 ae0 ae0
         by_cases hsk: (k:Int)=e∧((i':Int)=n - 1∨(i':Int)=n)
         ·   obtain⟨oW,j8⟩:=hsk
             have LG:sq.drop j2=kn sk n (i'+1) (fW.drop (i'+1))++ko e n (k+1) ((rows.map (·.fW)).drop (k+1)):=by
              rw[fC,if_pos (by rw[←aau];simp[oW];exact j8)];rfl
             rcases j8 with j8| j8
             ·obtain rfl:n=(i':Int)+1:=ae0
              clear j8 hwn fC
              have afK:IntKind.i64.wrap ((i':Int)+1 - 1)=(i':Int):=(wrap64 ae0 ae0).trans ae0
              gi_wp2
              exact⟨⟨i'+1,ae0,rfl,j2,Rb,LG,KH,xR,V3⟩,by simp only[intOf];omega⟩
             ·obtain rfl:n=(i':Int):=j8.symm
              clear fC
              have SP: ¬ (i':Int)=(i':Int) - 1:=ae0
              gi_wp2
              exact⟨⟨i'+1,ae0,rfl,j2,Rb,LG,KH,xR,V3⟩,by simp only[intOf];omega⟩
         ·   obtain⟨v,V4⟩: ∃v:Array Value,v= #[.agg #[P.1,P.2],.agg #[Q2.1,Q2.2]]:=⟨_,rfl⟩
             have H9:sq.drop j2=v:: (kn sk n (i'+1) (fW.drop (i'+1))++ko e n (k+1) ((rows.map (·.fW)).drop (k+1))):=by
              rw[fC,if_neg (by rw[←aau];simpa using hsk),V4];rfl
             have hv:sq[j2]? =some v:=by
              have:=congrArg (fun l=>l[0]?) H9
              simpa using this
             have LG:sq.drop (j2+1)=kn sk n (i'+1) (fW.drop (i'+1))++ko e n (k+1) ((rows.map (·.fW)).drop (k+1)):=by
              have:=congrArg (List.drop 1) H9
              simpa [ahc] using this
             have hj3:j2+1≤sq.length:=(af0.1 hv).1
             have hJd:J j2 F2 wr.drew:=hJl _ _ _ _ (hJg _ _ _ _ Rb (Pz wr)) (fun b hb=> .inl hb)
             obtain⟨fn,tmps,assign,body,hy,hR⟩:=hY j2 F2 wr.drew v hv hJd
             rw[V4] at hy
             have uh: ((k:Int)=e∧ ¬ (i':Int)=n - 1∧ ¬ (i':Int)=n)∨ ¬ (k:Int)=e:=by
              by_cases oW: (k:Int)=e
              ·exact .inl ⟨oW,fun h=>hsk ⟨oW,.inl h⟩,fun h=>hsk ⟨oW,.inr h⟩⟩
              ·exact .inr oW
             have RP:IntKind.i64.wrap ((i':Int)+1)=(i':Int)+1:=wrap64 ae0 ae0
             have aeA: ((i':Int)+1).toNat=i'+1:=ae0
             have yN:i'<fW.length:=ae0
             have JL: (i':Int)+1 < (fW.length:Int):=ae0
             have hk3: (0:Int)≤(i':Int)+1:=ae0
             clear hsk fC H9 V4
             have SN:=hR.mono (R':=fun ex W'=> ∃bb,ex= .returned (.bool bb)∧(bb=true→J (j2+1) F2 W'∧ ∀b,S b∨F2 b→W'.heap[b]? =wr.drew.heap[b]?)∧(bb=false→Jx (j2+1) W')) (by
              rintro ex W' (⟨rfl,q1,q2⟩ | ⟨rfl,q1⟩)
              ·exact⟨true,rfl,fun _=> ⟨q1,q2⟩,afU⟩
              ·exact⟨false,rfl,afU,fun _=>q1⟩)
             clear hR
             rcases uh with⟨oW,j8,mR⟩ | oW
             all_goals
              gi_wp2
              refine zg (n:=0) (jb 12 Fy afW afW ?_)
              simp only[agO,ahn,ahV,List.drop_zero]
              change wpStill _ _ (World.drew wr) (fun a'=>wpListIn _ _ _ _ _ _ a' (World.drew wr)) _ _
              iterate 12 (refine wpStill_step (fun K hK=> ?_);go_simp; (try simp only[RP,aeA,JL,hk3,yN,and_self,if_true,true_and,go_sem]); (try simp only[p1,p2,q1,q2,V3,World.H3,go_sem]);refine hK _ ?_;clear hK K)
              refine wpStill_nil ?_
              refine wpListIn_step (fun K hK=> ?_)
              go_simp
              refine⟨rfl,RoundIn.mono SN ?_⟩
              rintro ex W3 ⟨bb,rfl,VY,MJ⟩
              refine hK _ _ ?_
              clear hK K
              refine wpListIn_step (fun K hK=> ?_)
              go_simp
              refine hK _ _ ?_
              clear hK K
              refine wpListIn_nil ?_
              rename_i MK
              refine MK _ _ ?_
              cases bb
              ·clear MK SN
               gi_wp2
               refine⟨rfl,_,results_none (fn:=Tryz.f286) rfl _ _ _,⟨_,rfl⟩,?_⟩
               exact .inr ⟨j2+1,hj3,MJ trivial⟩
              ·obtain⟨hq3,hq4⟩:=VY rfl
               clear MK SN
               gi_wp2
               exact⟨⟨i'+1,ae0,rfl,j2+1,hq3,LG,hj3,fun a v h1 h2=> (BQ ((hq4 _ (.inl h1)).trans rfl)).trans (xR a v h1 h2),(BQ (a:=⟨Bx,1,none⟩) ((hq4 Bx (.inr hFx)).trans rfl)).trans V3⟩,by simp only[intOf];omega⟩
        ·have T9: ¬ (i':Int) < (fW.length:Int) - 1:=ae0
         rw[BO ae0,agH] at fC
         gi_wp2
         exact⟨⟨k+1,ae0,rfl,j2,F2,Rb,fC,KH,xR⟩,by simp only[intOf];omega⟩
    ·  have aav: (fW.length:Int) - 1≤0:=ae0
       gi_wp2
       gi_loopw [20] (fun i w2=>i= .int .i64 0∧w2=wr.alloc (Obj.cells #[Value.int IntKind.i64 V2,Value.slice Ra fW.length C9,Value.int IntKind.i64 Rl,Value.int IntKind.i64 Rr] 100)) (fun i _=>0)
       case atStart=>exact⟨rfl,rfl⟩
       case round=>
        obtain⟨rfl,rfl⟩:=hrel
        rw[show kn sk n 0 fW=[] from BO (i:=0) ae0,agH] at fC
        gi_wp2
        exact⟨⟨k+1,ae0,rfl,j,_,Rb,fC,KH,PC⟩,by simp only[intOf];omega⟩
  · have qA: ¬ (k:Int) < (rows.length:Int):=ae0
    have oW:k=rows.length:=ae0
    rw[ahE (l:=rows.map (·.fW)) (by simp;omega)] at fC
    have Rc:j=sq.length:=by
       have:=congrArg List.length fC
       simp[ko] at this;omega
    subst Rc
    gi_wp2
    exact⟨rfl,_,results_none (fn:=Tryz.f286) rfl _ _ _,⟨_,rfl⟩,.inl ⟨F,hJ⟩⟩
end Go.Proofs
namespace Go.Proofs
open Go.RowKit Go.AM
section
variable (X:Ctx) (μ:Mu)
def AF:List V→List (Value×Value)→Prop
 | [],[]=>True
 | p::ps,pr::fW=>aj X μ p (.agg #[pr.1,pr.2])∧AF ps fW
 | _,_=>False
def gT:List (List V)→List (Array Value)→Prop
 | [],[]=>True
 | x::xs,v::vs=>ag X μ x v.toList∧gT xs vs
 | _,_=>False
end
variable {X:Ctx} {μ:Mu}
theorem gT.append: ∀ {xs ys:List (List V)} {vs us:List (Array Value)},gT X μ xs vs→gT X μ ys us→gT X μ (xs++ys) (vs++us)
 | [],_,[],_,_,h=>by simpa using h
 | [],_,_::_,_,h,_=>by simp[gT] at h
 | _::_,_,[],_,h,_=>by simp[gT] at h
 | x::xs,ys,v::vs,us,h,h'=>by
   simp only[gT] at h
   simp only[ags,gT]
   exact⟨h.1,gT.append h.2 h'⟩
theorem gT.length: ∀ {xs:List (List V)} {vs:List (Array Value)},gT X μ xs vs→vs.length=xs.length
 | [],[],_=>rfl
 | [],_::_,h=>by simp[gT] at h
 | _::_,[],h=>by simp[gT] at h
 | _::_,_::_,h=>by simp only[gT] at h;simp[gT.length h.2]
theorem gT.get: ∀ {xs:List (List V)} {vs:List (Array Value)},gT X μ xs vs→ ∀ {i:Nat} {x:List V} {v:Array Value},xs[i]? =some x→vs[i]? =some v→ag X μ x v.toList
 | [],_,_,i,x,v,hx,_=>by simp at hx
 | _::_,[],h,_,_,_,_,_=>by simp[gT] at h
 | y::ys,u::us,h,i,x,v,hx,hv=>by
   simp only[gT] at h
   cases i with
   | zero=>simp at hx hv;subst hx hv;exact h.1
   | succ i=>simp at hx hv;exact gT.get h.2 hx hv
theorem FC (skip:Bool) (n:Int): ∀ {ps:List V} {fW:List (Value×Value)} (i:Nat),AF X μ ps fW→gT X μ (xa skip n i ps) (kn skip n i fW)
 | [],[],_,_=>by simp[xa,kn,gT]
 | [],_::_,_,h=>by simp[AF] at h
 | _::_,[],_,h=>by simp[AF] at h
 | [_],[_],_,_=>by simp[xa,kn,gT]
 | [_],_::_::_,_,h=>by simp[AF] at h
 | _::_::_,[_],_,h=>by simp[AF] at h
 | p::q::rest,pr::qr::rr,i,h=>by
   simp only[AF] at h
   rw[xa,kn]
   refine gT.append ?_ (FC skip n (i+1) (by simp only[AF];exact h.2))
   split
   ·simp[gT]
   ·simp only[gT,ag,and_true]
    exact⟨h.1,h.2.1⟩
theorem sr {w:World} {b off sz:Nat} {v:Value} {vs:List Value} (h:di w b off sz (v::vs)):di w b (off+sz) sz vs:=fun i u hu=>by
 obtain⟨h1,h2⟩:=h (i+1) u (by simpa using hu)
 refine⟨h1,fun j c hc=> ?_⟩
 have:=h2 j c hc
 rwa [show off+(i+1)*sz+j=off+sz+i*sz+j by rw[agv];omega] at this
theorem PD: ∀ {ps:List V} {vs:List Value} {b o:Nat},ag X μ ps vs→ps.all Rx=true→di μ.w b o 2 vs→
   ∃fW:List (Value×Value),fW.length=ps.length∧AF X μ ps fW∧ ∀ (i:Nat) p,fW[i]? =some p→μ.w.cell? ⟨b,o+i*2,none⟩=some p.1∧μ.w.cell? ⟨b,o+i*2+1,none⟩=some p.2
 | [],[],_,_,_,_,_=> ⟨[],rfl,trivial,fun i p h=>by simp at h⟩
 | [],_::_,_,_,h,_,_=>by simp[ag] at h
 | _::_,[],_,_,h,_,_=>by simp[ag] at h
 | p::ps,v::vs,b,o,h,ha,hr=>by
   simp only[ag] at h
   simp only[agj,af2] at ha
   obtain⟨fW,e1,e2,e3⟩:=PD h.2 ha.2 (sr hr)
   match p,ha.1,h.1 with
   | .agg [x,y],_,hv=>
     obtain⟨hc,us,rfl,hu⟩:=(show _∧ ∃vs,v= .agg vs∧ag X μ [x,y] vs.toList by simpa only[aj] using hv)
     obtain⟨us⟩:=us
     match us,hu with
     | [a,c],hu=>
       refine⟨(a,c)::fW,by simp[e1],⟨by simp only[aj];exact⟨hc,_,rfl,hu⟩,e2⟩,fun i q hq=> ?_⟩
       cases i with
       | zero=>
         simp at hq;subst hq
         have:=(hr 0 _ rfl).2
         exact⟨by simpa using this 0 a (by simp[Value.cells]),by simpa using this 1 c (by simp[Value.cells])⟩
       | succ i=>
         have:=e3 i q (by simpa using hq)
         rwa [show o+2+i*2=o+(i+1)*2 by omega] at this
theorem JO { e n:Int}: ∀ {es:List V} {vs:List Value} {b o k:Nat} {xs:List (List V)},ag X μ es vs→es.all V.da=true→Eb e n k es=some xs→di μ.w b o 4 vs→
   ∃rows:List Uk,rows.length=es.length∧gT X μ xs (ko e n k (rows.map (·.fW)))∧ ∀ (i:Nat) R,rows[i]? =some R→
    (μ.w.cell? ⟨b,o+i*4,none⟩=some (.int .i64 R.id)∧μ.w.cell? ⟨b,o+i*4+1,none⟩=some (.slice R.a R.fW.length R.cap)∧μ.w.cell? ⟨b,o+i*4+2,none⟩=some (.int .i64 R.l)∧μ.w.cell? ⟨b,o+i*4+3,none⟩=some (.int .i64 R.r))∧
    (R.fW≠[]→ ∃b2 o2,R.a=some ⟨b2,o2,none⟩∧(b2<μ.w.heap.size∧ ¬μ.own b2)∧ ∀ (i:Nat) p,R.fW[i]? =some p→μ.w.cell? ⟨b2,o2+i*2,none⟩=some p.1∧μ.w.cell? ⟨b2,o2+i*2+1,none⟩=some p.2)∧R.fW.length< 4611686018427387904
 | [],[],_,_,k,xs,_,_,hx,_=>by
   simp only[Eb,afY] at hx
   subst hx
   exact⟨[],rfl,by simp[ko,gT],fun i R h=>by simp at h⟩
 | [],_::_,_,_,_,_,h,_,_,_=>by simp[ag] at h
 | _::_,[],_,_,_,_,h,_,_,_=>by simp[ag] at h
 | y::es,v::vs,b,o,k,xs,h,hl,hx,hr=>by
   simp only[ag] at h
   simp only[agj,af2] at hl
   unfold Eb at hx
   split at hx
   ·simp at*
   ·rename_i k' z1 ps z2 z3 lX heq
    injection heq with hy he
    subst hy he
    split at hx
    case isFalse=>simp at hx
    case isTrue hb=>
     obtain⟨PE,wh,rfl⟩:=afZ.1 hx
     obtain⟨rows,r1,r2,r3⟩:=JO h.2 hl.2 wh (sr hr)
     have hv:=h.1
     simp only[aj] at hv
     obtain⟨hc,us,rfl,hu⟩:=hv
     obtain⟨us⟩:=us
     match us,hu with
     | [u0,u1,u2,u3],hu=>
       simp only[ag,aj,and_true] at hu
       obtain⟨rfl,⟨mr,Fv,a,cap,vs2,rfl,cM,lE,VZ⟩,rfl,rfl⟩:=hu
       have dX:=(hr 0 _ rfl).2
       have k0:=dX 0 (.int .i64 z1) (by simp[Value.cells])
       have k1:=dX 1 (.slice a ps.length cap) (by simp[Value.cells])
       have k2:=dX 2 (.int .i64 z2) (by simp[Value.cells])
       have k3:=dX 3 (.int .i64 z3) (by simp[Value.cells])
       have HN: ∃fW:List (Value×Value),fW.length=ps.length∧AF X μ ps fW∧(fW≠[]→ ∃b2 o2,a=some ⟨b2,o2,none⟩∧(b2<μ.w.heap.size∧ ¬μ.own b2)∧ ∀ (i:Nat) p,fW[i]? =some p→μ.w.cell? ⟨b2,o2+i*2,none⟩=some p.1∧μ.w.cell? ⟨b2,o2+i*2+1,none⟩=some p.2):=by
          rcases VZ with rfl| ⟨b2,o2,rfl,gR,bk,dg⟩
          ·exact⟨[],rfl,trivial,fun h=>absurd rfl h⟩
          · obtain⟨fW,e1,e2,e3⟩:=PD lE hb.2 dg
            exact⟨fW,e1,e2,fun _=> ⟨b2,o2,rfl,⟨bk,fun h=>gR (.inl h)⟩,e3⟩⟩
       obtain⟨fW,e1,e2,e3⟩:=HN
       refine⟨⟨z1,a,cap,z2,z3,fW⟩::rows,by simp[r1],?_,fun i R hR=> ?_⟩
       ·  simp only[List.map_cons,ko]
          exact gT.append (FC _ _ 0 e2) r2
       ·  cases i with
          | zero=>
            simp at hR;subst hR
            exact⟨⟨by simpa using k0,by rw[e1];simpa using k1,by simpa using k2,by simpa using k3⟩,e3,by show fW.length<_;rw[e1];exact hb.1⟩
          | succ i=>
            have:=r3 i R (by simpa using hR)
            rwa [show o+4+i*4=o+(i+1)*4 by omega] at this
   ·simp at hx
theorem Ia (args:Array Value) (w:World): (callFunc 286 args).run Tryz.prog w= .ok (.enter 286 args) w:=by
 obtain⟨c,hc⟩: ∃c,Tryz.f286.body=some c:=⟨_,rfl⟩
 have hn:Tryz.f286.name≠ "runtime.NumGoroutine" :=afV
 simp[callFunc,Sem.run_bind,program,Sem.run,Tryz.func286,hc,hn]
theorem FD (  fn:FuncId→Option Nat) (tn:TypeId→Option Nat) (g:Nat) (hg:fn 286=some g):pL ⟨Tryz.prog,fn,tn⟩ g M8:=by
 refine⟨286,hg,fun caps xs oU B K μ lb vu ho=> ?_⟩
 refine⟨Ia,?_⟩
 unfold M8 at oU
 split at oU
 ·rename_i es y1 y2 y3 e n cs
  split at oU
  case isFalse=>simp at oU
  case isTrue hb=>
   obtain⟨lb⟩:=lb
   match lb,vu with
   | [vm,vc],vu=>
     simp only[ag,aj,and_true] at vu
     obtain⟨⟨_,CO,bm,om,szm,xm,rfl,PF,FE,⟨_,um,rfl,JP⟩,SQ⟩,⟨_,_,bc,oc,szc,xc,rfl,aeB,V5,⟨_,uc,rfl,huc⟩,hrc⟩⟩:=vu
     obtain⟨um⟩:=um
     obtain⟨uc⟩:=uc
     match um,JP,uc,huc with
     |  [s0,s1,s2,s3],JP,c0::c1::afu,huc=>
        simp only[ag,aj,and_true] at JP huc
        obtain⟨⟨mr,Fv,a,cap,vs,rfl,cM,lE,VZ⟩,_⟩:=JP
        obtain⟨rfl,rfl,_⟩:=huc
        have m0:=(SQ 0 _ rfl).2 0 _ (show (Value.agg _).cells[0]? =some (.slice a es.length cap) by simp[Value.cells])
        have q0:=(hrc 0 _ rfl).2 0 _ (show (Value.agg _).cells[0]? =some (.int .i64 e) by simp[Value.cells])
        have q1:=(hrc 0 _ rfl).2 1 _ (show (Value.agg _).cells[1]? =some (.int .i64 n) by simp[Value.cells])
        obtain⟨b,off,xO,pF,dg⟩: ∃b off,(es≠[]→a=some ⟨b,off,none⟩)∧(es≠[]→b<μ.w.heap.size∧ ¬μ.own b)∧di μ.w b off 4 vs:=by
          rcases VZ with rfl| ⟨b,off,rfl,gR,bk,dg⟩
          · refine⟨0,0,fun h=>absurd rfl h,fun h=>absurd rfl h,?_⟩
            have Xx:vs=[]:=by cases vs with
             | nil=>rfl
             | cons v vs=>simp[ag] at lE
            subst Xx
            intro i v h;simp at h
          ·exact⟨b,off,fun _=>rfl,fun _=> ⟨bk,fun h=>gR (.inl h)⟩,dg⟩
        obtain⟨rows,r1,r2,r3⟩:=JO lE Fv oU dg
        refine⟨ko e n 0 (rows.map (·.fW)),r2.length,fun i x v hx hv=>r2.get hx hv,fun l J Jx W0 jM hJ hJx hY h0=> ?_⟩
        have iG: ∀ (a:Addr) v,a.block<μ.w.heap.size→μ.w.cell? a=some v→W0.cell? a=some v:=fun a v h1 h2=>by rw[←h2];exact World.cell?_of_block (jM.block a.block h1)
        have cF:rows≠[]→es≠[]:=fun h he=>h (by subst he;simpa using r1)
        have key:=PA l bm (om+0) bc (oc+0) b off cap a e n rows (by rw[r1];exact hb.1) (fun R hR=>by
            obtain⟨i,hi⟩:=ahp hR
            exact(r3 i R hi).2.2) hb.2.1 hb.2.2 (fun b=>b<μ.w.heap.size∧ ¬μ.own b) J Jx (fun k F A B h1 h2=>hJ.grow k F A B h1 h2) (fun k F F' A h1 h2=>hJ.less k F F' A h1 h2)
          (ko e n 0 (rows.map (·.fW))) rfl (fun k F W1 v hv Xy=>so (hY k F W1 v hv Xy) (fun ex W' h=>h.imp (fun h=> ⟨h.1,h.2.1,fun b hb=>hb.elim (fun hb=>h.2.2.1 b hb.1 hb.2) (fun hb=>h.2.2.2 b hb)⟩) id))
          W0 ⟨FE,fun h=>PF (.inl h)⟩ ⟨V5,fun h=>aeB (.inl h)⟩ (fun h=>pF (cF h)) (fun h=>xO (cF h)) (by rw[r1];exact iG _ _ FE (by simpa using m0)) (iG _ _ V5 (by simpa using q0)) (iG _ _ V5 (by simpa using q1))
          (fun k R hR=>by
            have bk:b<μ.w.heap.size:=(pF (cF (by intro h;rw[h] at hR;simp at hR))).1
            obtain⟨⟨w0,w1,w2,w3⟩,_⟩:=r3 k R hR
            exact⟨iG _ _ bk w0,iG _ _ bk w1,iG _ _ bk w2,iG _ _ bk w3⟩)
          (fun k R hR hp=>by
            obtain⟨b2,o2,z1,z2,z3⟩:=(r3 k R hR).2.1 hp
            exact⟨b2,o2,z1,z2,fun i p h=> ⟨iG _ _ z2.1 (z3 i p h).1,iG _ _ z2.1 (z3 i p h).2⟩⟩) h0
        exact callsIn_wide.2 (callsIn_wide.1 key)
 ·simp at oU
#print axioms FD
end Go.Proofs
namespace Go.Proofs
open Go.RowKit Go.Shelf Go.AM
attribute [local go_sem] Oper.semAt_some xy Jb Bool.true_or Bool.or_true Bool.false_or Bool.or_false decide_true decide_false
@[local go_sem] theorem LH: (Fr none).round=none:=rfl
structure Da where
 k:Int
 a:Int
 i:Int
 o:Int
 n:Int
def xo:Nat→Int→List Da→List (Array Value)
 | _,_,[]=> []
 | i,b,e::es=> #[.int .i64 (i:Int),.agg #[.int .i64 b,.int .i64 (e.a*e.a)]]::xo (i+1) (e.a*e.a) es
theorem FF: ∀ (es:List Da) (i:Nat) (b:Int),(xo i b es).length=es.length
 | [],_,_=>rfl
 | _::es,i,b=>by simp[xo,FF es]
theorem AG {w:World} {o:Obj} {a:Addr} {v:Value} (h:w.cell? a=some v): (w.alloc o).cell? a=some v:=by
 have bk:a.block<w.heap.size:=by
  rcases ahd a.block w.heap.size with hl| hl
  ·exact hl
  ·simp[World.cell?,agX hl] at h
 rw[←h]
 simp only[World.cell?,Below.heap_alloc w o a.block bk]
theorem zi (w:World) (o:Obj):w.grownBy (w.alloc o) none:=by
 have b1:Below w.heap.size w (w.alloc o):=(Below.refl _ w).alloc (af6 _) _
 exact⟨b1.os,b1.tape,b1.output,b1.size,fun k hk _=>b1.block k hk⟩
theorem Db {A B:World} {a:Addr} (h:B.heap[a.block]? =A.heap[a.block]?):B.cell? a=A.cell? a:=by
 simp only[World.cell?,h]
set_option maxRecDepth 100000 in
theorem FG (l Bh Oh b off cap:Nat) (a0:Option Addr) (rows:List Da) (hbig:rows.length< 4611686018427387904) (iG: ∀R ∈ rows,0≤R.a∧R.a≤1024)
  (S:Nat→Prop) (J:Nat→(Nat→Prop)→World→Prop) (Jx:Nat→World→Prop)
  (hJg: ∀k F A B,J k F A→A.grownBy B none→J k (fun b=>F b∨(A.heap.size≤b∧b<B.heap.size)) B) (hJl: ∀k F F' A,J k F A→(∀b,F' b→F b)→J k F' A)
  (sq:List (Array Value)) (SO:sq.drop 0=xo 0 0 rows)
  (hY: ∀ (k:Nat) F W1 v,sq[k]? =some v→J k F W1→YieldAt (Fr none) 0 Tryz.prog l v W1 fun e W'=>
    (e= .returned (.bool true)∧J (k+1) F W'∧ ∀b,S b∨F b→W'.heap[b]? =W1.heap[b]?)∨(e= .returned (.bool false)∧Jx (k+1) W'))
  (W:World) (hSh:S Bh) (JN:rows≠[]→S b) (PB:rows≠[]→a0=some ⟨b,off,none⟩) (hBh:W.cell? ⟨Bh,Oh+1,none⟩=some (.slice a0 rows.length cap))
  (hc: ∀ (k:Nat) R,rows[k]? =some R→W.cell? ⟨b,off+k*5,none⟩=some (.int .i64 R.k)∧W.cell? ⟨b,off+k*5+1,none⟩=some (.int .i64 R.a)∧W.cell? ⟨b,off+k*5+2,none⟩=some (.int .i64 R.i)∧W.cell? ⟨b,off+k*5+3,none⟩=some (.int .i64 R.o)∧W.cell? ⟨b,off+k*5+4,none⟩=some (.int .i64 R.n))
  (h0:J 0 (fun _=>False) W):
  CallsIn (Fr none) 1 Tryz.prog 115 #[.func (.yield l) #[] #[],.pointer (some ⟨Bh,Oh,none⟩)] W fun ex W'=> (∃v,ex= .returned v)∧((∃F,J sq.length F W')∨ ∃k,k≤sq.length∧Jx k W'):=by
 refine callsIn_of_wp Tryz.func115 rfl trivial ?_ rfl
 simp only[Tryz.ntmps115,ahv,agb,agi,Nat.reduceAdd,Nat.reduceSub,ahr,ahs,ahN,ahA,agH,ags]
 have Fy:Tryz.prog.follows .mixedOrders=true:=afW
 gi_wp2
 gi_loopw [3,10] (fun bg i wr=> ∃k:Nat,k≤rows.length∧i= .int .i64 k∧ ∃b0:Int,bg= .int .i64 b0∧ ∃F,J k F wr∧sq.drop k=xo k b0 (rows.drop k)∧ ∀a v,S a.block→W.cell? a=some v→wr.cell? a=some v) (fun _ i _=>rows.length - (intOf i).toNat)
 case atStart=>exact⟨0,agI _,rfl,0,rfl,_,h0,SO,fun a v _ h=>h⟩
 case round=>
  obtain⟨k,hk,rfl,b0,rfl,F,hJ,fC,xR⟩:=hrel
  by_cases bk:k<rows.length
  · have qA: (k:Int) < (rows.length:Int):=ae0
    have hR:rows[k]? =some rows[k]:=af3 bk
    have cF:rows≠[]:=by intro h;rw[h] at bk;simp at bk
    obtain rfl:=PB cF
    replace JN:=JN cF
    clear PB cF
    obtain⟨c0,c1,c2,c3,c4⟩:=hc k _ hR
    replace c0:=xR _ _ JN c0
    replace c1:=xR _ _ JN c1
    replace c2:=xR _ _ JN c2
    replace c3:=xR _ _ JN c3
    replace c4:=xR _ _ JN c4
    have MA:=iG rows[k] (agP bk)
    rw[agq bk,xo] at fC
    clear hR
    generalize rows[k]=R at*
    obtain⟨Rk,Ra,Ri,Ro,Rn⟩:=R
    dsimp only at c0 c1 c2 c3 c4 MA fC
    have PC: ∀o a v,S a.block→W.cell? a=some v→(wr.alloc o).cell? a=some v:=fun o a v h1 h2=>AG (xR a v h1 h2)
    have V1: ¬Ra< 0:=ae0
    have hn2: ¬1024 <Ra:=ae0
    have Q3:0≤Ra*Ra∧Ra*Ra≤1048576:=by
       constructor
       ·exact ahD MA.1 MA.1
       ·exact Int.mul_le_mul MA.2 MA.2 MA.1 ae0
    have hw:IntKind.i64.wrap (Ra*Ra)=Ra*Ra:=wrap64 ae0 ae0
    have RP:IntKind.i64.wrap ((k:Int)+1)=(k:Int)+1:=wrap64 ae0 ae0
    obtain⟨v,V4⟩: ∃v:Array Value,v= #[.int .i64 (k:Int),.agg #[.int .i64 b0,.int .i64 (Ra*Ra)]]:=⟨_,rfl⟩
    rw[←V4] at fC
    have hv:sq[k]? =some v:=by
       have:=congrArg (fun l=>l[0]?) fC
       simpa using this
    have LG:sq.drop (k+1)=xo (k+1) (Ra*Ra) (rows.drop (k+1)):=by
       have:=congrArg (List.drop 1) fC
       simpa [ahc] using this
    have hj3:k+1≤sq.length:=(af0.1 hv).1
    obtain⟨Wa,hWa⟩: ∃Wa,Wa=wr.alloc (Obj.cells #[.int .i64 Rk,.int .i64 Ra,.int .i64 Ri,.int .i64 Ro,.int .i64 Rn] 55):=⟨_,rfl⟩
    have Rb:J k F Wa:=hJl _ _ _ _ (hJg _ _ _ _ hJ (hWa ▸ zi wr _)) (fun b hb=> .inl hb)
    have hkw: ∀a v,S a.block→W.cell? a=some v→Wa.cell? a=some v:=fun a v h1 h2=>hWa ▸ PC _ a v h1 h2
    obtain⟨fn,tmps,assign,body,hy,hR⟩:=hY k F Wa v hv Rb
    rw[V4] at hy
    have SN:=hR.mono (R':=fun ex W'=> ∃bb,ex= .returned (.bool bb)∧(bb=true→J (k+1) F W'∧ ∀b,S b∨F b→W'.heap[b]? =Wa.heap[b]?)∧(bb=false→Jx (k+1) W')) (by
       rintro ex W' (⟨rfl,q1,q2⟩ | ⟨rfl,q1⟩)
       ·exact⟨true,rfl,fun _=> ⟨q1,q2⟩,afU⟩
       ·exact⟨false,rfl,afU,fun _=>q1⟩)
    clear hR V4 fC
    subst hWa
    gi_wp2
    refine RoundIn.mono SN ?_
    rintro ex W3 ⟨bb,rfl,VY,MJ⟩
    dsimp only
    cases bb
    ·  clear SN
       gi_wp2
       exact⟨rfl,_,results_none (fn:=Tryz.f115) rfl _ _ _,⟨_,rfl⟩,.inr ⟨k+1,hj3,MJ trivial⟩⟩
    ·  gi_wp2
       exact⟨⟨k+1,ae0,rfl,Ra*Ra,rfl,F,(VY rfl).1,LG,fun a v h1 h2=> (Db ((VY rfl).2 a.block (.inl h1))).trans (hkw a v h1 h2)⟩,by simp only[intOf];omega⟩
  · have qA: ¬ (k:Int) < (rows.length:Int):=ae0
    gi_wp2
    refine⟨rfl,_,results_none (fn:=Tryz.f115) rfl _ _ _,⟨_,rfl⟩,.inl ⟨F,?_⟩⟩
    have oW:k=rows.length:=ae0
    have hz:sq.length=k:=by
       have h1:=congrArg List.length SO
       rw[FF] at h1
       simpa [oW] using h1
    rw[hz]
    exact hJ
end Go.Proofs
namespace Go.Proofs
open Go.RowKit Go.AM
variable {X:Ctx} {μ:Mu}
theorem PG: ∀ {es:List V} {vs:List Value} {b o i:Nat} {b0:Int} {xs:List (List V)},ag X μ es vs→Ec i b0 es=some xs→di μ.w b o 5 vs→
   ∃rows:List Da,rows.length=es.length∧(∀R ∈ rows,0≤R.a∧R.a≤1024)∧gT X μ xs (xo i b0 rows)∧ ∀ (k:Nat) R,rows[k]? =some R→
    μ.w.cell? ⟨b,o+k*5,none⟩=some (.int .i64 R.k)∧μ.w.cell? ⟨b,o+k*5+1,none⟩=some (.int .i64 R.a)∧μ.w.cell? ⟨b,o+k*5+2,none⟩=some (.int .i64 R.i)∧μ.w.cell? ⟨b,o+k*5+3,none⟩=some (.int .i64 R.o)∧μ.w.cell? ⟨b,o+k*5+4,none⟩=some (.int .i64 R.n)
 | [],[],_,_,_,_,xs,_,hx,_=>by
   simp only[Ec,afY] at hx
   subst hx
   exact⟨[],rfl,fun R h=>by simp at h,by simp[xo,gT],fun i R h=>by simp at h⟩
 | [],_::_,_,_,_,_,_,h,_,_=>by simp[ag] at h
 | _::_,[],_,_,_,_,_,h,_,_=>by simp[ag] at h
 | y::es,v::vs,b,o,i,b0,xs,h,hx,hr=>by
   simp only[ag] at h
   unfold Ec at hx
   split at hx
   ·simp at*
   ·rename_i i' b' z0 z1 z2 z3 z4 lX heq
    injection heq with hy he
    subst hy he
    split at hx
    case isFalse=>simp at hx
    case isTrue hb=>
     obtain⟨PE,wh,rfl⟩:=afZ.1 hx
     obtain⟨rows,r1,r4,r2,r3⟩:=PG h.2 wh (sr hr)
     have hv:=h.1
     simp only[aj] at hv
     obtain⟨hc,us,rfl,hu⟩:=hv
     obtain⟨us⟩:=us
     match us,hu with
     | [u0,u1,u2,u3,u4],hu=>
       simp only[ag,aj,and_true] at hu
       obtain⟨rfl,rfl,rfl,rfl,rfl⟩:=hu
       have dX:=(hr 0 _ rfl).2
       have k0:=dX 0 (.int .i64 z0) (by simp[Value.cells])
       have k1:=dX 1 (.int .i64 z1) (by simp[Value.cells])
       have k2:=dX 2 (.int .i64 z2) (by simp[Value.cells])
       have k3:=dX 3 (.int .i64 z3) (by simp[Value.cells])
       have k4:=dX 4 (.int .i64 z4) (by simp[Value.cells])
       refine⟨⟨z0,z1,z2,z3,z4⟩::rows,by simp[r1],fun R hR=> ?_,?_,fun k R hR=> ?_⟩
       ·  rcases af7.1 hR with rfl| hR
          ·exact hb
          ·exact r4 R hR
       ·  simp only[xo,gT]
          exact⟨by simp[ag,aj,V.aR],r2⟩
       ·  cases k with
          | zero=>
            simp at hR;subst hR
            exact⟨by simpa using k0,by simpa using k1,by simpa using k2,by simpa using k3,by simpa using k4⟩
          | succ k=>
            have:=r3 k R (by simpa using hR)
            rwa [show o+5+k*5=o+(k+1)*5 by omega] at this
   ·simp at hx
theorem Ib (args:Array Value) (w:World): (callFunc 115 args).run Tryz.prog w= .ok (.enter 115 args) w:=by
 obtain⟨c,hc⟩: ∃c,Tryz.f115.body=some c:=⟨_,rfl⟩
 have hn:Tryz.f115.name≠ "runtime.NumGoroutine" :=afV
 simp[callFunc,Sem.run_bind,program,Sem.run,Tryz.func115,hc,hn]
theorem FH (  fn:FuncId→Option Nat) (tn:TypeId→Option Nat) (g:Nat) (hg:fn 115=some g):pL ⟨Tryz.prog,fn,tn⟩ g G5:=by
 refine⟨115,hg,fun caps xs oU B K μ lb vu ho=> ?_⟩
 refine⟨Ib,?_⟩
 unfold G5 at oU
 split at oU
 ·rename_i d es
  split at oU
  case isFalse=>simp at oU
  case isTrue hb=>
    obtain⟨lb⟩:=lb
    match lb,vu with
    | [vm],vu=>
      simp only[ag,aj,and_true] at vu
      obtain⟨_,CO,bm,om,szm,xm,rfl,PF,FE,⟨_,um,rfl,JP⟩,SQ⟩:=vu
      obtain⟨um⟩:=um
      match um,JP with
      | [s0,s1],JP=>
        simp only[ag,aj,and_true] at JP
        obtain⟨rfl,mr,Fv,a,cap,vs,rfl,cM,lE,VZ⟩:=JP
        have m0:=(SQ 0 _ rfl).2 1 _ (show (Value.agg _).cells[1]? =some (.slice a es.length cap) by simp[Value.cells])
        obtain⟨b,off,xO,pF,dg⟩: ∃b off,(es≠[]→a=some ⟨b,off,none⟩)∧(es≠[]→b<μ.w.heap.size∧ ¬μ.own b)∧di μ.w b off 5 vs:=by
          rcases VZ with rfl| ⟨b,off,rfl,gR,bk,dg⟩
          · refine⟨0,0,fun h=>absurd rfl h,fun h=>absurd rfl h,?_⟩
            have Xx:vs=[]:=by cases vs with
             | nil=>rfl
             | cons v vs=>simp[ag] at lE
            subst Xx
            intro i v h;simp at h
          ·exact⟨b,off,fun _=>rfl,fun _=> ⟨bk,fun h=>gR (.inl h)⟩,dg⟩
        obtain⟨rows,r1,r4,r2,r3⟩:=PG lE oU dg
        refine⟨xo 0 0 rows,r2.length,fun i x v hx hv=>r2.get hx hv,fun l J Jx W0 jM hJ hJx hY h0=> ?_⟩
        have iG: ∀ (a:Addr) v,a.block<μ.w.heap.size→μ.w.cell? a=some v→W0.cell? a=some v:=fun a v h1 h2=>by rw[←h2];exact World.cell?_of_block (jM.block a.block h1)
        have cF:rows≠[]→es≠[]:=fun h he=>h (by subst he;simpa using r1)
        have key:=FG l bm (om+0) b off cap a rows (by rw[r1];exact hb) r4 (fun b=>b<μ.w.heap.size∧ ¬μ.own b) J Jx (fun k F A B h1 h2=>hJ.grow k F A B h1 h2) (fun k F F' A h1 h2=>hJ.less k F F' A h1 h2)
          (xo 0 0 rows) rfl (fun k F W1 v hv Xy=>so (hY k F W1 v hv Xy) (fun ex W' h=>h.imp (fun h=> ⟨h.1,h.2.1,fun b hb=>hb.elim (fun hb=>h.2.2.1 b hb.1 hb.2) (fun hb=>h.2.2.2 b hb)⟩) id))
          W0 ⟨FE,fun h=>PF (.inl h)⟩ (fun h=>pF (cF h)) (fun h=>xO (cF h)) (by rw[r1];exact iG _ _ FE (by simpa using m0))
          (fun k R hR=>by
            have bk:b<μ.w.heap.size:=(pF (cF (by intro h;rw[h] at hR;simp at hR))).1
            obtain⟨w0,w1,w2,w3,w4⟩:=r3 k R hR
            exact⟨iG _ _ bk w0,iG _ _ bk w1,iG _ _ bk w2,iG _ _ bk w3,iG _ _ bk w4⟩) h0
        exact callsIn_wide.2 (callsIn_wide.1 key)
 ·rename_i d
  simp only[afY] at oU
  subst oU
  obtain⟨lb⟩:=lb
  match lb,vu with
  | [vm],vu=>
    simp only[ag,aj,and_true] at vu
    obtain⟨_,CO,bm,om,szm,xm,rfl,PF,FE,⟨_,um,rfl,JP⟩,SQ⟩:=vu
    obtain⟨um⟩:=um
    match um,JP with
    | [s0,s1],JP=>
      simp only[ag,aj,and_true] at JP
      obtain⟨rfl,a,rfl⟩:=JP
      have m0:=(SQ 0 _ rfl).2 1 _ (show (Value.agg _).cells[1]? =some (.slice a 0 0) by simp[Value.cells])
      refine⟨[],rfl,fun i x v h=>by simp at h,fun l J Jx W0 jM hJ hJx hY h0=> ?_⟩
      have iG: ∀ (a:Addr) v,a.block<μ.w.heap.size→μ.w.cell? a=some v→W0.cell? a=some v:=fun a v h1 h2=>by rw[←h2];exact World.cell?_of_block (jM.block a.block h1)
      have key:=FG l bm (om+0) 0 0 0 a [] afU (fun R hR=>by simp at hR) (fun b=>b<μ.w.heap.size∧ ¬μ.own b) J Jx (fun k F A B h1 h2=>hJ.grow k F A B h1 h2) (fun k F F' A h1 h2=>hJ.less k F F' A h1 h2)
          [] rfl (fun k F W1 v hv Xy=>by simp at hv)
          W0 ⟨FE,fun h=>PF (.inl h)⟩ (fun h=>absurd rfl h) (fun h=>absurd rfl h) (iG _ _ FE (by simpa using m0))
          (fun k R hR=>by simp at hR) h0
      exact callsIn_wide.2 (callsIn_wide.1 key)
 ·simp at oU
#print axioms FH
end Go.Proofs
