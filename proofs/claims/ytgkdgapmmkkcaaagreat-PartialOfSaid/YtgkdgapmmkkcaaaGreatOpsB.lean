/-
  Texts of the proof, joined by program: AmOps8, AmOps9, AmCall1, AmMap, AmDisp, AmExec, AmDraw, AmLoopM, AmRange, AmCode. Own work.
-/
import Derived.Test.YtgkdgapmmkkcaaaGreatOpsA
import Derived.Test.YtgkdgapmmkkcaaaGreatTail
import Derived.Test.YtgkdgapmmkkcaaaGreatDefs
import Derived.MapKept
import Derived.Scope
import Derived.Laws.IdiomRangeMap
set_option linter.unusedSimpArgs false
set_option linter.unusedVariables false
namespace Go.AM
open Go Go.RowKit
section
variable {X:Ctx} {E:Env} {C:bb} {o:Oper} {a:Go.Act} {T:Nat→V} {μ:Mu} {v:V} {σ':St}
theorem yT (bs:List UInt8):flat (bs.map fun b=>Value.int .u8 b.toNat)=bs.map fun b=>Value.int .u8 b.toNat:=by
 induction bs with
 | nil=>rfl
 | cons b bs ih=>simp only[List.map_cons,flat,List.flatMap_cons] at ih ⊢;rw[ih];rfl
theorem aj.bytes (bs:List UInt8):aj X μ (bs.map fun b=>V.int .u8 b.toNat) (bs.map fun b=>Value.int .u8 b.toNat):=by
 induction bs with
 | nil=>simp[aj]
 | cons b bs ih=>simp only[List.map_cons,aj];exact⟨by simp[ak],ih⟩
theorem nM {sz:Nat} {x:V} {xv:Value} {k:List V→Act} {p:V×St} (ho:bj X μ) (hx:ak X μ x xv) (ah: (content sz x k).run C ⟨T,μ.O⟩=some p):
  ∃ys us,(k ys).run C ⟨T,μ.O⟩=some p∧aj X μ ys us∧(Builtin.lenOf xv).run X.P μ.w= .ok ys.length μ.w∧
    ∀w',w'.heap=μ.w.heap→ ∀n,n≤ys.length→(Builtin.firstCells sz n xv).run X.P w'= .ok (flat (us.take n)).toArray w':=by
 cases x<;>simp only[content] at ah<;>try exact absurd ah an
 ·
  split at ah
  · rename_i s hs
    simp only[ak] at hx
    obtain⟨bs,rfl,rfl⟩:=hx
    refine⟨_,_,ah,aj.bytes _,?_,fun w' iI n hn=> ?_⟩
    · simp only[Builtin.lenOf,Sem.run_pure,List.length_map];rw[bX];rfl
    · have: (bs.extract 0 n).data.map (fun b=>Value.int .u8 b.toNat)=(flat ((bs.data.toList.map fun b=>Value.int .u8 b.toNat).take n)).toArray:=by
        rw[←List.map_take,yT]
        apply Array.ext'
        simp[ByteArray.data_extract,Array.toList_extract,List.extract_eq_take_drop]
      simp only[Builtin.firstCells,Sem.run_pure,this]
  · exact absurd ah an
 ·
  simp only[ak] at hx
  obtain⟨q,rfl⟩:=hx
  refine⟨[],[],ah,by simp[aj],by simp[Builtin.lenOf],fun w' iI n hn=> ?_⟩
  have:n=0:=by simpa using hn
  subst this
  cases q<;>simp[Builtin.firstCells,loadCells,loadCellsFrom,flat]
 ·
  split at ah
  · rename_i sz' xs hs
    subst hs
    simp only[ak] at hx
    obtain⟨_,_,q,cap,vs,rfl,_,rZ,jk⟩:=hx
    refine⟨xs,vs,ah,rZ,by simp[Builtin.lenOf],fun w' iI n hn=> ?_⟩
    rcases jk with rfl| ⟨b,q',rfl,_,_,dI⟩
    · have:n=0:=by simpa using hn
      subst this
      cases q<;>simp[Builtin.firstCells,loadCells,loadCellsFrom,flat]
    · simp only[Builtin.firstCells]
      exact qt (dI.cA (by rw[iI])) (by rw[←rZ.length];exact hn)
  · exact absurd ah an
 ·
  rename_i r g off len
  simp only[Act.run] at ah
  split at ah
  · rename_i es bJ
    split at ah
    · rename_i hc
      obtain⟨wG,yb,Mb⟩:=hc
      simp only[ak] at hx
      obtain⟨q,cap,rfl,hle,_,cB⟩:=hx
      obtain⟨k0,k1,k2⟩:=cB wG
      have mZ: (aH es off len).length=len:=by simp[aH];omega
      obtain⟨q1,q2,q3,q4⟩:=ho.row r es bJ k0
      by_cases dJ:cap=0
      · have yd:len=0:=by omega
        subst yd
        refine⟨_,[],ah,by simp[aH,aj],by simp[Builtin.lenOf,aH],fun w' iI n hn=> ?_⟩
        have:n=0:=by simpa [aH] using hn
        subst this
        cases q<;>simp[Builtin.firstCells,loadCells,loadCellsFrom,flat]
      · rcases q4 with q4| ⟨cc,TT,vs,p1,p2,p3,p4⟩
        · omega
        · have YN:=k2.resolve_left dJ
          subst YN
          refine⟨_,(vs.drop off).take len,ah,aj.take _ (aj.drop _ p3),by simp only[Builtin.lenOf,Sem.run_pure,mZ],fun w' iI n hn=> ?_⟩
          simp only[Builtin.firstCells]
          have pS:=(p4.drop off).take len
          rw[yb] at pS
          rw[yb]
          refine qt (pS.cA (by rw[iI])) ?_
          rw[mZ] at hn
          have:=p3.length
          simp;omega
    · exact absurd ah an
  · exact absurd ah an
theorem uS (bS:Nat): ∀ (k c:Nat),c≤bS+(bS+768) / 4→Builtin.growBy bS k c≤bS+(bS+768) / 4
 | 0,c,h=>h
 | k+1,c,h=>by
   simp only[Builtin.growBy]
   split
   · exact h
   · exact uS bS k _ (by omega)
theorem yU {bS old:Nat} (h:old<bS):Builtin.nextslicecap bS old≤2*bS+192:=by
 unfold Builtin.nextslicecap
 split
 · omega
 · split
   · omega
   · have:=uS bS 4 old (by omega)
     omega
theorem C7 {bS old bytes:Nat} (h:old<bS) (hl:bS≤nB bytes): ¬Builtin.nextslicecap bS old*bytes >2 ^ 48∧ ¬ ((bS:Int) >IntKind.i64.max):=by
 unfold nB at hl
 have h1:=yU h
 have h2:bS+200≤140737488355328 / (bytes+1):=by omega
 have h3: (bS+200)*(bytes+1)≤140737488355328:=(Nat.le_div_iff_mul_le (by omega)).1 h2
 have h4:Builtin.nextslicecap bS old*bytes≤(2*(bS+200))*(bytes+1):=Nat.mul_le_mul (by omega) (by omega)
 have h5: (2*(bS+200))*(bytes+1)=2*((bS+200)*(bytes+1)):=by rw[Nat.mul_assoc]
 have h6: (2:Nat) ^ 48=281474976710656:=by decide
 have h7:bS+200≤(bS+200)*(bytes+1):=Nat.le_mul_of_pos_right _ (by omega)
 have h8:IntKind.i64.max=9223372036854775807:=by decide
 refine⟨by omega,by rw[h8];omega⟩
theorem iy {sT xT e:TypeId} {d:TypeDesc} {sz n sLen sCap:Nat} {base:Option Addr} {xv:Value} {new:Array Value} {w w':World} {ty:TypeId}
  (hd:X.P.underlying sT=some (.slice e)) (hx:X.P.underlying xT=some d) (Bl: ∀k,d≠ .int k) (hn:bz X e=some sz) (hl: (Builtin.lenOf xv).run X.P w= .ok n w)
  (gl:sLen+n≤sCap) (oi: (Builtin.firstCells sz n xv).run X.P w= .ok new w)
  (mh:match base with| some p=> (storeCells (p.add (sLen*sz)) new.toList).run X.P w= .ok () w'| none=>w'=w):
  (Builtin.append_ #[sT,xT] ty #[.slice base sLen sCap,xv]).run X.P w= .ok (.slice base (sLen+n) sCap) w':=by
 have hm: (match d with| .int _=>true| _=>false)=false:=by
  cases d<;>first| rfl| exact absurd rfl (Bl _)
 have FP: (#[sT,xT]:Array TypeId)[0]? =some sT:=rfl
 have QM: (#[sT,xT]:Array TypeId)[1]? =some xT:=rfl
 have K6: (#[Value.slice base sLen sCap,xv]:Array Value)[0]? =some (.slice base sLen sCap):=rfl
 have D9: (#[Value.slice base sLen sCap,xv]:Array Value)[1]? =some xv:=rfl
 simp only[Builtin.append_,FP,QM,K6,D9,Sem.run_bind,run_underlying hd,Result.andThen_ok,cU hn,run_underlying hx,Sem.run_pure,hm,Bool.false_eq_true,if_false,hl]
 rw[if_pos gl]
 simp only[Bool.not_false,if_true,Sem.run_bind,oi,Result.andThen_ok]
 cases base with
 | none=>simp only at mh;subst mh;simp
 | some p=>simp only at mh;simp[Sem.run_bind,mh]
theorem lu {sT xT e:TypeId} {d:TypeDesc} {sz n sLen sCap:Nat} {base:Option Addr} {xv zv:Value} {old new:Array Value} {w:World} {ty:TypeId} {i:TypeInfo}
  (hd:X.P.underlying sT=some (.slice e)) (hx:X.P.underlying xT=some d) (Bl: ∀k,d≠ .int k) (hn:bz X e=some sz) (hi:X.P.info? e=some i)
  (hz: ∀w,(zeroValue e).run X.P w= .ok zv w) (hl: (Builtin.lenOf xv).run X.P w= .ok n w) (kc:sCap<sLen+n) (xf:sLen+n≤nB i.bytes)
  (hold: (Builtin.firstCells sz sLen (.slice base sLen sCap)).run X.P w.drew= .ok old w.drew) (oi: (Builtin.firstCells sz n xv).run X.P w.drew= .ok new w.drew):
  ∃newCap,sLen+n≤newCap∧(Builtin.append_ #[sT,xT] ty #[.slice base sLen sCap,xv]).run X.P w=
   .ok (.slice (some ⟨w.heap.size,0,none⟩) (sLen+n) newCap) (w.drew.alloc (.cells (old++new++Builtin.zeroCells zv.cells (newCap - (sLen+n))) e)):=by
 have hm: (match d with| .int _=>true| _=>false)=false:=by
  cases d<;>first| rfl| exact absurd rfl (Bl _)
 have FP: (#[sT,xT]:Array TypeId)[0]? =some sT:=rfl
 have QM: (#[sT,xT]:Array TypeId)[1]? =some xT:=rfl
 have K6: (#[Value.slice base sLen sCap,xv]:Array Value)[0]? =some (.slice base sLen sCap):=rfl
 have D9: (#[Value.slice base sLen sCap,xv]:Array Value)[1]? =some xv:=rfl
 obtain⟨r1,r2⟩:=C7 kc xf
 refine⟨(Question.appendCap (sLen+n) sCap e).cut (w.tape w.drawn (.appendCap (sLen+n) sCap e)),by simp[Question.cut],?_⟩
 simp only[Builtin.append_,FP,QM,K6,D9,Sem.run_bind,run_underlying hd,Result.andThen_ok,cU hn,run_underlying hx,Sem.run_pure,hm,Bool.false_eq_true,if_false,hl]
 rw[if_neg (by omega)]
 simp only[Sem.run_bind,run_typeInfo w hi,Result.andThen_ok]
 have c2: ¬ (((sLen+n:Nat):Int) >IntKind.i64.max∧(False∨i.bytes=0)):=fun h=>r2 h.1
 rw[if_neg c2]
 simp only[Sem.run_bind,run_typeInfo w hi,Result.andThen_ok]
 rw[if_neg r1]
 have V8: (choose (.appendCap (sLen+n) sCap e)).run X.P w= .ok ((Question.appendCap (sLen+n) sCap e).cut (w.tape w.drawn (.appendCap (sLen+n) sCap e))) w.drew:=by
  rw[run_choose];simp only[Question.forced,Bool.false_eq_true,if_false];rfl
 simp only[Sem.run_bind,V8,Result.andThen_ok,run_typeInfo w.drew hi,run_askRoom,hold,Bool.not_false,if_true,oi,hz,Sem.run_pure,newRow,run_newObj]
 rfl
theorem xg {us rest:List Value} {sz:Nat} (h: ∀u ∈ us,u.cells.size=sz):dh (flat us++rest) 0 sz us:=by
 intro i v hv
 have hm:=h v (List.mem_of_getElem? hv)
 refine⟨hm,fun j x hx=> ?_⟩
 have:=pA h hv hx
 have bA:i*sz+j< (flat us).length:=(List.getElem?_eq_some_iff.1 this).1
 rw[Nat.zero_add,List.getElem?_append_left bA];exact this
theorem xh (us vs:List Value):flat (us++vs)=flat us++flat vs:=by simp[flat]
theorem mn {zv:Value} {sz n:Nat} (h:zv.cells.size=sz): (Builtin.zeroCells zv.cells n).size=n*sz:=by simp[Builtin.zeroCells,h]
theorem Bm {α:Type} {n:Nat} {l:List α} (h:l.length≤n):l.take n=l:=List.take_of_length_le h
theorem xi {O1:Nat→Obj} (hO:bj X ⟨μ.w,μ.φ,O1⟩) {r sz newCap:Nat} {olds ys:List V} {ous us:List Value} {zv:Value} {e:TypeId} {o0:Obj}
  (YO:o0={gen:=o0.gen,sz:=sz,arr:=true,fz:=false,es:=some (olds++ys)}) (U5:o0.gen=(O1 r).gen+1)
  (cE:0 <sz) (h1:aj X ⟨μ.w,μ.φ,O1⟩ olds ous) (h2:aj X ⟨μ.w,μ.φ,O1⟩ ys us) (b1:olds.all (aN · sz)=true) (b2:ys.all (aN · sz)=true)
  (hz:zv.cells.size=sz) (dJ:olds.length+ys.length≤newCap):
  let μ':Mu:=⟨μ.w.drew.alloc (.cells ((flat ous).toArray++(flat us).toArray++Builtin.zeroCells zv.cells (newCap - (olds.length+ys.length))) e),cW μ.φ r ⟨μ.w.heap.size,0,newCap⟩,cW O1 r o0⟩
  Le ⟨μ.w,μ.φ,O1⟩ μ'∧bj X μ':=by
 intro μ'
 obtain⟨QN,V9⟩:=Le.drew (X:=X) (μ:=⟨μ.w,μ.φ,O1⟩) hO
 have bQ:aj X ⟨μ.w.drew,μ.φ,O1⟩ (olds++ys) (ous++us):=aj.mono QN (h1.append h2)
 have hs: ∀u ∈ ous++us,u.cells.size=sz:=((h1.append h2).qu (sz:=sz) (by simp only[List.all_append,b1,b2,Bool.and_self])).1
 have Xm:=h1.length
 have zJ:=h2.length
 have xa:=fG hs
 have vN: ((flat ous).toArray++(flat us).toArray++Builtin.zeroCells zv.cells (newCap - (olds.length+ys.length))).toList=flat (ous++us)++(Builtin.zeroCells zv.cells (newCap - (olds.length+ys.length))).toList:=by
  simp[xh]
 have c7:newCap*sz≤((flat ous).toArray++(flat us).toArray++Builtin.zeroCells zv.cells (newCap - (olds.length+ys.length))).size:=by
  rw[←bX,vN,List.length_append,xa,bX (Builtin.zeroCells _ _),mn hz,←Nat.add_mul]
  apply Nat.mul_le_mul_right
  rw[List.length_append];omega
 have:=vK (X:=X) (μ:=⟨μ.w.drew,μ.φ,O1⟩) V9 r sz newCap true (es:=olds++ys) (vs:=ous++us) (c:=(flat ous).toArray++(flat us).toArray++Builtin.zeroCells zv.cells (newCap - (olds.length+ys.length))) e cE
  (by simp;omega) (by simp only[List.all_append,b1,b2,Bool.and_self]) bQ c7 (fun i u hu=>by
    have sG:=xg (rest:=(Builtin.zeroCells zv.cells (newCap - (olds.length+ys.length))).toList) hs
    rw[←vN] at sG
    obtain⟨m1,m2⟩:=sG i u hu
    refine⟨m1,fun j x hx=> ?_⟩
    have:=m2 j x hx
    rw[Nat.zero_add] at this
    rw[←Array.getElem?_toList];exact this)
 have heq: ({gen:=(O1 r).gen+1,sz:=sz,arr:=true,fz:=false,es:=some (olds++ys)}:Obj)=o0:=by rw[YO,U5]
 simp only[heq] at this
 exact⟨QN.trans this.1,this.2⟩
theorem mq {sz:Nat} {p:Option Addr} {n m:Nat} {w:World}: (Builtin.firstCells sz 0 (.slice p n m)).run X.P w= .ok #[] w:=by
 cases p<;>simp[Builtin.firstCells,loadCells,loadCellsFrom]
theorem mr (       cA:Bool) {c:Call} {s x:Operand} {sT xT e:TypeId} {d:TypeDesc} {s' x':aP} {r sz:Nat} {i:TypeInfo} {z:V} (hr:Rel X T a μ) (ho:o.op= .call c) (hc:c.callee= .builtin .append)
   (jm:c.args= #[s,x]) (vS:c.argTypes= #[sT,xT]) (hd:bg X sT=some (.slice e)) (hx:bg X xT=some d) (Bl: ∀k,d≠ .int k) (hn:bz X e=some sz) (hi:info X e=some i)
   (hz:dX X e=some z) (C6:aN z sz=true) (h1:cK X s=some s') (h2:cK X x=some x')
   (ah: (content sz (bc ⟨T,μ.O⟩ x') fun ys=>match cA with| true=>wD r sz (nB i.bytes) (bc ⟨T,μ.O⟩ s') ys| false=>fK ys fun ys=>wD r sz (nB i.bytes) (bc ⟨T,μ.O⟩ s') ys).run C ⟨T,μ.O⟩=some (v,σ')):σ'.T=T∧cF X o a μ σ'.O v:=by
 have hs:=aO hr h1 μ.O
 have YP:=aO hr h2 μ.O
 have lr:X.P.underlying sT=some (.slice e):=hd
 have zY:X.P.underlying xT=some d:=hx
 have yc:X.P.info? e=some i:=hi
 obtain⟨XC,us,k1,k2,k3,k4⟩:=nM hr.aX YP ah
 have fY: ∃ys O1,(wD r sz (nB i.bytes) (bc ⟨T,μ.O⟩ s') ys).run C ⟨T,O1⟩=some (v,σ')∧aj X ⟨μ.w,μ.φ,O1⟩ ys us∧Le μ ⟨μ.w,μ.φ,O1⟩∧bj X ⟨μ.w,μ.φ,O1⟩:=by
   cases cA with
   | true=>exact⟨XC,μ.O,k1,k2,Le.refl μ,hr.aX⟩
   | false=>exact s6 (μ:=μ) hr.aX k2 k1
 obtain⟨ys,O1,g1,g2,g3,g4⟩:=fY
 unfold wD at g1
 have VM:ys.length=XC.length:=by rw[g2.length,k2.length]
 rw[←VM] at k3 k4
 have B1:us.length=ys.length:=g2.length.symm
 have C8: ∀w',w'.heap=μ.w.heap→(Builtin.firstCells sz ys.length (a.eval x)).run X.P w'= .ok (flat us).toArray w':=fun w' iI=>by
   have:=k4 w' iI ys.length (Nat.le_refl _)
   rwa [Bm (by omega)] at this
 have C9:=C8 μ.w rfl
 have Da:=C8 μ.w.drew rfl
 have qY:=ak.mono g3 hs
 have fin: ∀val w',(Builtin.append_ #[sT,xT] o.type #[a.eval s,a.eval x]).run X.P μ.w= .ok val w'→(execOp a.eval o).run X.P μ.w= .ok (.value val) w':=fun val w' hv=>by
   refine dY ho hc ?_
   simp only[builtin,jm,vS]
   refine b9 ?_
   simpa using hv
 split at g1
 · rename_i hb
   simp only[Bool.and_eq_true,decide_eq_true_eq] at hb
   obtain⟨oh,cE⟩:=hb
   obtain⟨zv,tN,uM⟩:=fZ hz μ.w
   have XD: ∀w,(zeroValue e).run X.P w= .ok zv w:=fun w=>by
    obtain⟨YQ,q1,q2⟩:=fZ hz w
    have:YQ=zv:=by
      simp only[dX,info,Option.bind_eq_some_iff] at hz
      obtain⟨i0,e1,zq,e2,_⟩:=hz
      simp only[zeroValue,Sem.run_bind,run_typeInfo w e1,run_typeInfo μ.w e1,Result.andThen_ok,e2,Sem.run_pure] at q1 tN
      injection q1 with q1 _;injection tN with tN _
      rw[←q1,←tN]
    rw[←this];exact q1
   obtain⟨sY,C1⟩:=eh (X:=X) (μ:=μ) uM
   have C2:zv.cells.size=sz:=by rw[sY.dE C1,(b7 C6).2]
   obtain⟨CY,vQ⟩:=g2.qu oh
   have xa:=fG CY
   have pB:ys.length=0→ ∀ (p:Option Addr) (len cap:Nat),len≤cap→a.eval s= .slice p len cap→(execOp a.eval o).run X.P μ.w= .ok (.value (.slice p len cap)) μ.w:=fun h0 p len cap hle hp=>by
    have UK:us=[]:=by
      have:us.length=0:=by omega
      simpa using this
    have rJ:=iy (X:=X) (sT:=sT) (xT:=xT) (sLen:=len) (sCap:=cap) (base:=p) (ty:=o.type) (w':=μ.w) lr zY Bl hn k3 (by omega) C9 (by
        cases p with
        | none=>rfl
        | some q=>simp[UK,flat,storeCells])
    rw[h0,Nat.add_zero] at rJ
    exact fin _ _ (by rw[hp];exact rJ)
   generalize bc ⟨T,μ.O⟩ s'=sv at g1 hs qY
   split at g1
   ·
    simp only[ak] at hs
    obtain⟨p,hp⟩:=hs
    split at g1
    · rename_i Db
      obtain⟨rfl,rfl⟩:=aS g1
      have K7:ys.length=0:=by simpa [List.isEmpty_iff] using Db
      exact⟨rfl,.slice p 0 0,μ.w,μ.φ,.inl (pB K7 p 0 0 (Nat.le_refl _) hp),by simp[ak],g3,g4⟩
    · rename_i Db
      split at g1
      · rename_i xf
        simp only[Act.run,Option.some.injEq,Prod.mk.injEq] at g1
        obtain⟨rfl,rfl⟩:=g1
        have QO:0 <ys.length:=by
          rcases Nat.eq_zero_or_pos ys.length with h0| h0
          · exact absurd (by simpa [List.isEmpty_iff] using h0) Db
          · exact h0
        obtain⟨newCap,yV,rJ⟩:=lu (X:=X) (sT:=sT) (xT:=xT) (sLen:=0) (sCap:=0) (base:=p) (ty:=o.type) (old:= #[]) lr zY Bl hn yc XD k3 (by omega) (by simpa using xf) mq Da
        obtain⟨D8,Md⟩:=xi (X:=X) (μ:=μ) (O1:=O1) g4 (r:=r) (sz:=sz) (newCap:=newCap) (olds:=[]) (ous:=[]) (ys:=ys) (us:=us) (zv:=zv) (e:=e)
          (o0:={gen:=(O1 r).gen+1,sz:=sz,arr:=true,fz:=false,es:=some ys}) rfl rfl cE (by simp[aj]) g2 rfl oh C2 (by simpa using yV)
        have MD: (flat ([]:List Value)).toArray= #[]:=rfl
        simp only[MD,List.length_nil] at D8 Md
        refine⟨rfl,.slice (some ⟨μ.w.heap.size,0,none⟩) (0+ys.length) newCap,_,cW μ.φ r ⟨μ.w.heap.size,0,newCap⟩,.inl (fin _ _ (by rw[hp];exact rJ)),?_,g3.trans D8,Md⟩
        simp only[ak,aA]
        exact⟨_,newCap,by rw[Nat.zero_add],by omega,Nat.le_refl _,fun _=> ⟨by omega,by simp,by simp⟩⟩
      · exact absurd g1 an
   ·
    rename_i sz' xs
    split at g1
    · rename_i Db
      obtain⟨rfl,rfl⟩:=aS g1
      have K7:ys.length=0:=by simpa [List.isEmpty_iff] using Db
      have tZ:=hs
      simp only[ak] at tZ
      obtain⟨_,_,p,cap,_,hp,hle,_⟩:=tZ
      exact⟨rfl,a.eval s,μ.w,μ.φ,.inl (by rw[hp];exact pB K7 p _ cap hle hp),qY,g3,g4⟩
    · exact absurd g1 an
   ·
    rename_i r' g off len
    simp only[Act.run] at g1
    split at g1
    · rename_i es bJ
      split at g1
      · rename_i hc
        obtain⟨cm,iw,fY,fw,gl,xf⟩:=hc
        simp only[ak] at qY
        obtain⟨p,cap,hp,hle,pR,cB⟩:=qY
        obtain⟨a0,a1,a2⟩:=cB cm
        obtain⟨q1,q2,q3,q4⟩:=g4.row r' es bJ a0
        simp only at q1 q2 q3 q4
        have fk:O1 r'={O1 r' with es:=some es}:=by rw[←bJ]
        split at g1
        · rename_i qj
          simp only[Act.run,Option.some.injEq,Prod.mk.injEq] at g1
          obtain⟨rfl,rfl⟩:=g1
          refine⟨rfl,?_⟩
          rcases Nat.eq_zero_or_pos ys.length with h0| h0
          ·
            have K7:ys=[]:=by simpa using h0
            have Me:overwrite es (off+len) ys=es:=by simp[overwrite,K7]
            have hO:cW O1 r' {O1 r' with es:=some (overwrite es (off+len) ys)}=O1:=by
              funext q
              by_cases hq:q=r'
              · subst hq;rw[aA,Me];exact fk.symm
              · rw[aU _ _ hq]
            simp only[hO]
            refine⟨.slice p len cap,μ.w,μ.φ,.inl (pB h0 p len cap hle hp),?_,g3,g4⟩
            rw[h0]
            simp only[ak]
            exact⟨p,cap,rfl,hle,pR,cB⟩
          · have dJ:cap≠0:=by omega
            have jX: (μ.φ r').cap≠0:=by omega
            rcases q4 with q4| ⟨cc,T0,vs,p1,p2,p3,p4⟩
            · exact absurd q4 jX
            · have uL:=a2.resolve_left dJ
              subst uL
              have B2:=p3.length
              have sG:dh cc.toList (μ.φ r').base sz vs:=by have:=gT p1 p4;rwa [fw] at this
              rw[fw] at p2
              have hmul: (off+len+ys.length)*sz≤(μ.φ r').cap*sz:=Nat.mul_le_mul_right _ (by omega)
              rw[Nat.add_mul] at hmul
              have hw:=sG.write (k:=off+len) (us:=us) (by omega) CY (by rw[bX cc,B1];omega)
              have mh:=gU (P:=X.P) (w:=μ.w) (q:=(μ.φ r').base+(off+len)*sz) p1 (flat us) (by rw[xa,B1];omega) vQ
              have rJ:=iy (X:=X) (sT:=sT) (xT:=xT) (sLen:=len) (sCap:=cap) (ty:=o.type) (base:=some ⟨(μ.φ r').cD,(μ.φ r').base+off*(O1 r').sz,none⟩)
                (w':=μ.w.setRow (μ.φ r').cD (cG cc.toList ((μ.φ r').base+(off+len)*sz) (flat us)).toArray) lr zY Bl hn k3 (by omega) C9 (by
                  simp only[eK,fw]
                  have: (μ.φ r').base+off*sz+len*sz=(μ.φ r').base+(off+len)*sz:=by rw[Nat.add_mul];omega
                  rw[this];exact mh)
              have GP:=j6 (X:=X) (μ:=⟨μ.w,μ.φ,O1⟩) g4 r' bJ fY p1 jX (c':=(cG cc.toList ((μ.φ r').base+(off+len)*sz) (flat us)).toArray)
                (by
                  have: (cG cc.toList ((μ.φ r').base+(off+len)*sz) (flat us)).length=cc.toList.length:=ew (by rw[bX cc,xa,B1];omega)
                  simpa using this)
                (O1 r').gen (μ.φ r').base (μ.φ r').cap (es':=overwrite es (off+len) ys) (vs':=vs.take (off+len)++us++vs.drop (off+len+us.length)) (.inl ⟨rfl,rfl,rfl⟩) jX
                (by simp[overwrite];omega)
                (by
                  simp only[fw] at q3 ⊢
                  have t1:=iO (p:=(aN · sz)) (off+len) q3
                  have t2:=j7 (p:=(aN · sz)) (off+len+ys.length) q3
                  simp only[overwrite,List.all_append,t1,oh,t2,Bool.and_self])
                (by
                  have:=((aj.take (off+len) p3).append g2).append (aj.drop (off+len+ys.length) p3)
                  rw[B1];exact this)
                (by rw[fw];exact p2)
                (fun j y hy=>by
                  obtain⟨m1,m2⟩:=hw j y hy
                  refine⟨by rw[fw];exact m1,fun l q hq=> ?_⟩
                  have:=m2 l q hq
                  simp only[fw]
                  simpa using this)
              refine⟨_,_,_,.inl (fin _ _ (by rw[hp];exact rJ)),?_,g3.trans GP.1,GP.2⟩
              simp only[ak,aA]
              exact⟨_,cap,rfl,by omega,by omega,fun _=> ⟨a0,a1,.inr rfl⟩⟩
        · rename_i qj
          simp only[Act.run,Option.some.injEq,Prod.mk.injEq] at g1
          obtain⟨rfl,rfl⟩:=g1
          refine⟨rfl,?_⟩
          have QO:0 <ys.length:=by omega
          have mZ: (aH es off len).length=len:=by simp[aH];omega
          have Mf: (aH es off len).all (aN · sz)=true:=by
            rw[fw] at q3;exact iO _ (j7 _ q3)
          by_cases nC:len+ys.length≤cap
          ·
            have dJ:cap≠0:=by omega
            have jX: (μ.φ r').cap≠0:=by omega
            rcases q4 with q4| ⟨cc,T0,vs,p1,p2,p3,p4⟩
            · exact absurd q4 jX
            · have uL:=a2.resolve_left dJ
              subst uL
              have B2:=p3.length
              have sG:dh cc.toList (μ.φ r').base sz vs:=by have:=gT p1 p4;rwa [fw] at this
              rw[fw] at p2
              have hmul: (off+len+ys.length)*sz≤(μ.φ r').cap*sz:=Nat.mul_le_mul_right _ (by omega)
              rw[Nat.add_mul] at hmul
              have hw:=sG.write (k:=off+len) (us:=us) (by omega) CY (by rw[bX cc,B1];omega)
              have mh:=gU (P:=X.P) (w:=μ.w) (q:=(μ.φ r').base+(off+len)*sz) p1 (flat us) (by rw[xa,B1];omega) vQ
              have rJ:=iy (X:=X) (sT:=sT) (xT:=xT) (sLen:=len) (sCap:=cap) (ty:=o.type) (base:=some ⟨(μ.φ r').cD,(μ.φ r').base+off*(O1 r').sz,none⟩)
                (w':=μ.w.setRow (μ.φ r').cD (cG cc.toList ((μ.φ r').base+(off+len)*sz) (flat us)).toArray) lr zY Bl hn k3 (by omega) C9 (by
                  simp only[eK,fw]
                  have: (μ.φ r').base+off*sz+len*sz=(μ.φ r').base+(off+len)*sz:=by rw[Nat.add_mul];omega
                  rw[this];exact mh)
              have wk:dh (cG cc.toList ((μ.φ r').base+(off+len)*sz) (flat us)) ((μ.φ r').base+off*sz) sz ((vs.drop off).take len++us):=by
                have h3:=(hw.take (off+len+us.length)).drop off
                have e1: (List.take (off+len+us.length) (vs.take (off+len)++us++vs.drop (off+len+us.length))).drop off=(vs.drop off).take len++us:=by
                  have l1: (vs.take (off+len)).length=off+len:=by simp;omega
                  have l2: (vs.take (off+len)++us).length=off+len+us.length:=by rw[List.length_append,l1]
                  rw[←l2,List.take_left,List.drop_append_of_le_length (by omega),List.drop_take]
                  congr 2;omega
                rwa [e1] at h3
              have XE:off*sz+cap*sz=(μ.φ r').cap*sz:=by rw[←Nat.add_mul];congr 1;omega
              have GP:=j6 (X:=X) (μ:=⟨μ.w,μ.φ,O1⟩) g4 r' bJ fY p1 jX (c':=(cG cc.toList ((μ.φ r').base+(off+len)*sz) (flat us)).toArray)
                (by
                  have: (cG cc.toList ((μ.φ r').base+(off+len)*sz) (flat us)).length=cc.toList.length:=ew (by rw[bX cc,xa,B1];omega)
                  simpa using this)
                (g+1) ((μ.φ r').base+off*sz) cap (es':=aH es off len++ys) (vs':=(vs.drop off).take len++us) (.inr (by simp only;omega)) dJ
                (by rw[List.length_append,mZ];omega)
                (by
                  simp only[fw]
                  simp only[List.all_append,Mf,oh,Bool.and_self])
                ((aj.take len (aj.drop off p3)).append g2)
                (by simp only[fw];omega)
                (fun j y hy=>by
                  obtain⟨m1,m2⟩:=wk j y hy
                  refine⟨by rw[fw];exact m1,fun l q hq=> ?_⟩
                  have:=m2 l q hq
                  simp only[fw]
                  simpa using this)
              refine⟨_,_,_,.inl (fin _ _ (by rw[hp];exact rJ)),?_,g3.trans GP.1,GP.2⟩
              simp only[ak,aA]
              exact⟨_,cap,rfl,by omega,Nat.le_refl _,fun _=> ⟨a0,by omega,.inr (by simp[fw])⟩⟩
          ·
            have hold: ∃ous,aj X ⟨μ.w,μ.φ,O1⟩ (aH es off len) ous∧(Builtin.firstCells sz len (.slice p len cap)).run X.P μ.w.drew= .ok (flat ous).toArray μ.w.drew:=by
              by_cases dJ:cap=0
              · have yd:len=0:=by omega
                subst yd
                exact⟨[],by simp[aH,aj],mq⟩
              · rcases q4 with q4| ⟨cc,T0,vs,p1,p2,p3,p4⟩
                · omega
                · have uL:=a2.resolve_left dJ
                  subst uL
                  have B2:=p3.length
                  refine⟨(vs.drop off).take len,aj.take _ (aj.drop _ p3),?_⟩
                  have pS:=(p4.drop off)
                  rw[fw] at pS ⊢
                  have:=qt (P:=X.P) (pS.cA (w':=μ.w.drew) rfl) (n:=len) (by simp;omega)
                  simpa [Builtin.firstCells] using this
            obtain⟨ous,Mg,Md⟩:=hold
            obtain⟨newCap,yV,rJ⟩:=lu (X:=X) (sT:=sT) (xT:=xT) (sLen:=len) (sCap:=cap) (base:=p) (ty:=o.type) lr zY Bl hn yc XD k3 (by omega) xf Md Da
            obtain⟨D8,XF⟩:=xi (X:=X) (μ:=μ) (O1:=O1) g4 (r:=r') (sz:=sz) (newCap:=newCap) (olds:=aH es off len) (ous:=ous) (ys:=ys) (us:=us) (zv:=zv) (e:=e)
              (o0:={gen:=g+1,sz:=sz,arr:=true,fz:=false,es:=some (aH es off len++ys)}) rfl (by simp only;omega) cE Mg g2 Mf oh C2 (by rw[mZ];exact yV)
            have hO:cW O1 r' {O1 r' with gen:=g+1,es:=some (aH es off len++ys)}=cW O1 r' {gen:=g+1,sz:=sz,arr:=true,fz:=false,es:=some (aH es off len++ys)}:=by
              have: ({O1 r' with gen:=g+1,es:=some (aH es off len++ys)}:Obj)={gen:=g+1,sz:=sz,arr:=true,fz:=false,es:=some (aH es off len++ys)}:=by
                rw[←fw,←iw,←fY]
              rw[this]
            simp only[hO]
            rw[mZ] at D8 XF
            refine⟨_,_,cW μ.φ r' ⟨μ.w.heap.size,0,newCap⟩,.inl (fin _ _ (by rw[hp];exact rJ)),?_,g3.trans D8,XF⟩
            simp only[ak,aA]
            exact⟨_,newCap,rfl,by omega,Nat.le_refl _,fun _=> ⟨by omega,by simp,by simp⟩⟩
      · exact absurd g1 an
    · exact absurd g1 an
   · exact absurd g1 an
 · exact absurd g1 an
theorem uT {c:Call} {s x:Operand} {sT xT e:TypeId} {d:TypeDesc} {s' x':aP} {r sz:Nat} {i:TypeInfo} {z:V} (hr:Rel X T a μ) (ho:o.op= .call c) (hc:c.callee= .builtin .append)
  (jm:c.args= #[s,x]) (vS:c.argTypes= #[sT,xT]) (hd:bg X sT=some (.slice e)) (hx:bg X xT=some d) (Bl: ∀k,d≠ .int k) (hn:bz X e=some sz) (hi:info X e=some i)
  (hz:dX X e=some z) (C6:aN z sz=true) (h1:cK X s=some s') (h2:cK X x=some x')
  (ah: (ar E (.append r sz (nB i.bytes) s' x')).run C ⟨T,μ.O⟩=some (v,σ')):σ'.T=T∧cF X o a μ σ'.O v:=by
 refine mr (C:=C) (v:=v) false (r:=r) hr ho hc jm vS hd hx Bl hn hi hz C6 h1 h2 ?_
 simp only[ar,bo] at ah
 exact ah
theorem te {c:Call} {s x:Operand} {sT xT e:TypeId} {d:TypeDesc} {s' x':aP} {r sz:Nat} {i:TypeInfo} {z:V} (hr:Rel X T a μ) (ho:o.op= .call c) (hc:c.callee= .builtin .append)
  (jm:c.args= #[s,x]) (vS:c.argTypes= #[sT,xT]) (hd:bg X sT=some (.slice e)) (hx:bg X xT=some d) (Bl: ∀k,d≠ .int k) (hn:bz X e=some sz) (hi:info X e=some i)
  (hz:dX X e=some z) (C6:aN z sz=true) (h1:cK X s=some s') (h2:cK X x=some x')
  (ah: (ar E (.kE r sz (nB i.bytes) s' x')).run C ⟨T,μ.O⟩=some (v,σ')):σ'.T=T∧cF X o a μ σ'.O v:=by
 refine mr (C:=C) (v:=v) true (r:=r) hr ho hc jm vS hd hx Bl hn hi hz C6 h1 h2 ?_
 simp only[ar,bo] at ah
 exact ah
end
end Go.AM
namespace Go.AM
open Go Go.RowKit
section
variable {X:Ctx} {E:Env} {C:bb} {o:Oper} {a:Go.Act} {T:Nat→V} {μ:Mu} {v:V} {σ':St}
theorem ra (ho:bj X μ) {r g off len sz:Nat} {es ys:List V} {us:List Value} {p:Option Addr} {cap:Nat} (bJ: (μ.O r).es=some es) (fY: (μ.O r).fz=false) (fw: (μ.O r).sz=sz)
   (cm: (μ.O r).gen=g) (hle:len≤cap) (a0:0 < (μ.O r).sz) (a1:cap+off=(μ.φ r).cap) (a2:cap=0∨p=some ⟨(μ.φ r).cD,(μ.φ r).base+off*(μ.O r).sz,none⟩)
   (gl:off+len≤es.length) (hy:ys.length≤len) (bQ:aj X μ ys us) (oh:ys.all (aN · sz)=true):
   ∃w',(match p with| some q=> (storeCells q (flat us)).run X.P μ.w= .ok () w'| none=>w'=μ.w∧flat us=[])∧
     ∃φ',φ' r=μ.φ r∧Le μ ⟨w',φ',cW μ.O r {μ.O r with es:=some (overwrite es off ys)}⟩∧bj X ⟨w',φ',cW μ.O r {μ.O r with es:=some (overwrite es off ys)}⟩:=by
 have B1:us.length=ys.length:=bQ.length.symm
 obtain⟨CY,vQ⟩:=bQ.qu oh
 have xa:=fG CY
 have fk:μ.O r={μ.O r with es:=some es}:=by rw[←bJ]
 rcases Nat.eq_zero_or_pos ys.length with h0| h0
 · have K7:ys=[]:=by simpa using h0
   have UK:us=[]:=List.length_eq_zero_iff.1 (by omega)
   have Me:overwrite es off ys=es:=by simp[overwrite,K7]
   have hO:cW μ.O r {μ.O r with es:=some (overwrite es off ys)}=μ.O:=by
     funext q
     by_cases hq:q=r
     · subst hq;rw[aA,Me];exact fk.symm
     · rw[aU _ _ hq]
   rw[hO]
   refine⟨μ.w,?_,μ.φ,rfl,Le.refl μ,ho⟩
   cases p with
   | none=>simp[UK,flat]
   | some q=>simp[UK,flat,storeCells]
 · obtain⟨q1,q2,q3,q4⟩:=ho.row r es bJ a0
   have dJ:cap≠0:=by omega
   have jX: (μ.φ r).cap≠0:=by omega
   rcases q4 with q4| ⟨cc,T0,vs,p1,p2,p3,p4⟩
   · exact absurd q4 jX
   · have uL:=a2.resolve_left dJ
     subst uL
     have B2:=p3.length
     have sG:dh cc.toList (μ.φ r).base sz vs:=by have:=gT p1 p4;rwa [fw] at this
     rw[fw] at p2
     have hmul: (off+ys.length)*sz≤(μ.φ r).cap*sz:=Nat.mul_le_mul_right _ (by omega)
     rw[Nat.add_mul] at hmul
     have hw:=sG.write (k:=off) (us:=us) (by omega) CY (by rw[bX cc,B1];omega)
     have mh:=gU (P:=X.P) (w:=μ.w) (q:=(μ.φ r).base+off*sz) p1 (flat us) (by rw[xa,B1];omega) vQ
     have GP:=j6 (X:=X) (μ:=μ) ho r bJ fY p1 jX (c':=(cG cc.toList ((μ.φ r).base+off*sz) (flat us)).toArray)
      (by
        have: (cG cc.toList ((μ.φ r).base+off*sz) (flat us)).length=cc.toList.length:=ew (by rw[bX cc,xa,B1];omega)
        simpa using this)
      (μ.O r).gen (μ.φ r).base (μ.φ r).cap (es':=overwrite es off ys) (vs':=vs.take off++us++vs.drop (off+us.length)) (.inl ⟨rfl,rfl,rfl⟩) jX
      (by simp[overwrite];omega)
      (by
        simp only[fw] at q3 ⊢
        have t1:=iO (p:=(aN · sz)) off q3
        have t2:=j7 (p:=(aN · sz)) (off+ys.length) q3
        simp only[overwrite,List.all_append,t1,oh,t2,Bool.and_self])
      (by
        have:=((aj.take off p3).append bQ).append (aj.drop (off+ys.length) p3)
        rw[B1];exact this)
      (by rw[fw];exact p2)
      (fun j y hy=>by
        obtain⟨m1,m2⟩:=hw j y hy
        refine⟨by rw[fw];exact m1,fun l q hq=> ?_⟩
        have:=m2 l q hq
        simp only[fw]
        simpa using this)
     refine⟨_,?_,_,?_,GP.1,GP.2⟩
     · simp only[fw];exact mh
     · rw[aA]
theorem FQ {c:Call} {d s:Operand} {dT sT e:TypeId} {d' s':aP} {sz:Nat} (hr:Rel X T a μ) (ho:o.op= .call c) (hc:c.callee= .builtin .copy)
   (jm:c.args= #[d,s]) (vS:c.argTypes= #[dT,sT]) (hd:bg X dT=some (.slice e)) (hn:bz X e=some sz) (h1:cK X d=some d') (h2:cK X s=some s')
   (ah: (ar E (.copy sz d' s')).run C ⟨T,μ.O⟩=some (v,σ')):σ'.T=T∧cF X o a μ σ'.O v:=by
 simp only[ar,bo] at ah
 have BW:=aO hr h1 μ.O
 have VU:=aO hr h2 μ.O
 have lr:X.P.underlying dT=some (.slice e):=hd
 obtain⟨ys,us,k1,k2,k3,k4⟩:=nM hr.aX VU ah
 have fin: ∀ (p:Option Addr) (len cap:Nat) (w':World),a.eval d= .slice p len cap→
     (match p with| some q=> (storeCells q (flat (us.take (min ys.length len)))).run X.P μ.w= .ok () w'| none=>w'=μ.w∧flat (us.take (min ys.length len))=[])→
     (execOp a.eval o).run X.P μ.w= .ok (.value (goInt ((min ys.length len:Nat):Int))) w':=fun p len cap w' hp mh=>by
   refine dY ho hc ?_
   simp only[builtin,jm,vS]
   refine b9 ?_
   have FP: (#[dT,sT]:Array TypeId)[0]? =some dT:=rfl
   have Wa:Array.map a.eval #[d,s]= #[a.eval d,a.eval s]:=by simp
   rw[Wa,hp]
   have K6: (#[Value.slice p len cap,a.eval s]:Array Value)[0]? =some (Value.slice p len cap):=rfl
   have D9: (#[Value.slice p len cap,a.eval s]:Array Value)[1]? =some (a.eval s):=rfl
   have XG:=k4 μ.w rfl (min ys.length len) (Nat.min_le_left _ _)
   simp only[Builtin.copy_,FP,K6,D9,Sem.run_bind,run_underlying lr,Result.andThen_ok,k3,cU hn,Nat.min_def] at XG ⊢
   rw[XG]
   simp only[Result.andThen_ok]
   simp only[Nat.min_def] at mh
   cases p with
   | none=>simp only at mh;obtain⟨rfl,_⟩:=mh;simp
   | some q=>simp only at mh;simp[Sem.run_bind,mh]
 generalize bc ⟨T,μ.O⟩ d'=dv at k1 BW
 split at k1
 · obtain⟨rfl,rfl⟩:=aS k1
   simp only[ak] at BW
   obtain⟨p,hp⟩:=BW
   have h0:min ys.length 0=0:=Nat.min_eq_right (Nat.zero_le _)
   have:=fin p 0 0 μ.w hp (by rw[h0];cases p<;>simp[flat,storeCells])
   rw[h0] at this
   exact⟨rfl,aG (val:=goInt 0) hr.aX (by simpa using this) (by simp[ak,goInt])⟩
 · rename_i r g off len
   simp only[Act.run] at k1
   split at k1
   · rename_i es bJ
     split at k1
     · rename_i Em
       obtain⟨cm,iw,fY,fw,gl,oh⟩:=Em
       simp only[Act.run,Option.some.injEq,Prod.mk.injEq] at k1
       obtain⟨rfl,rfl⟩:=k1
       simp only[ak] at BW
       obtain⟨p,cap,hp,hle,pR,cB⟩:=BW
       obtain⟨a0,a1,a2⟩:=cB cm
       obtain⟨w',mh,φ',hφ,le,fk⟩:=ra (X:=X) hr.aX (us:=us.take len) bJ fY fw cm hle a0 a1 a2 gl (ys:=ys.take len) (by simp;omega) (aj.take _ k2) oh
       have Wb:us.take (min ys.length len)=us.take len:=by
        have hl:=k2.length
        rcases Nat.le_total ys.length len with h| h
        · rw[Nat.min_eq_left h,hl,List.take_length,List.take_of_length_le (by omega)]
        · rw[Nat.min_eq_right h]
       refine⟨rfl,goInt ((min ys.length len:Nat):Int),w',φ',.inl (fin p len cap w' hp (by rw[Wb];exact mh)),?_,le,fk⟩
       simp only[ak,goInt,List.length_take]
       rw[Nat.min_comm]
     · exact absurd k1 an
   · exact absurd k1 an
 · exact absurd k1 an
theorem mu {zv:Value} {sz n:Nat} (hz:zv.cells.size=sz) (cE:0 <sz): (Builtin.zeroCells zv.cells n).toList=flat (List.replicate n zv):=by
 have hs: ∀u ∈ List.replicate n zv,u.cells.size=sz:=fun u hu=>by rw[(List.mem_replicate.1 hu).2];exact hz
 have xa:=fG hs
 rw[List.length_replicate] at xa
 apply List.ext_getElem?
 intro q
 by_cases hq:q<n*sz
 · have hi:q / sz<n:=Nat.div_lt_of_lt_mul (by rw[Nat.mul_comm];exact hq)
   have uL:q / sz*sz+q % sz=q:=by rw[Nat.mul_comm];exact Nat.div_add_mod q sz
   have hm:q % sz<zv.cells.size:=by rw[hz];exact Nat.mod_lt _ cE
   have hc:zv.cells[q % sz]? =some zv.cells[q % sz]:=Array.getElem?_eq_getElem hm
   have hv: (List.replicate n zv)[q / sz]? =some zv:=by rw[List.getElem?_replicate];simp[hi]
   have g1:=pA hs hv hc
   rw[uL] at g1
   rw[g1,Array.getElem?_toList]
   have hr: (Array.range (n*sz))[q]? =some q:=by simp[hq]
   simp only[Builtin.zeroCells,Array.getElem?_map,hz,hr,Option.map_some]
   rw[getElem!_def,hc]
 · rw[List.getElem?_eq_none (by rw[bX (Builtin.zeroCells _ _),mn hz];omega),List.getElem?_eq_none (by omega)]
theorem Dc {c:Call} {x:Operand} {t e:TypeId} {x':aP} {sz:Nat} {z:V} (hr:Rel X T a μ) (ho:o.op= .call c) (hc:c.callee= .builtin .clear)
   (jm:c.args= #[x]) (vS:c.argTypes= #[t]) (hd:bg X t=some (.slice e)) (hz:dX X e=some z) (h1:cK X x=some x')
   (ah: (ar E (.clear sz z x')).run C ⟨T,μ.O⟩=some (v,σ')):σ'.T=T∧cF X o a μ σ'.O v:=by
 simp only[ar,bo] at ah
 have hx:=aO hr h1 μ.O
 have lr:X.P.underlying t=some (.slice e):=hd
 have fin: ∀w',(Builtin.clear_ #[t] o.type #[a.eval x]).run X.P μ.w= .ok (.tuple #[]) w'→(execOp a.eval o).run X.P μ.w= .ok (.value (.tuple #[])) w':=fun w' hv=>by
   refine dY ho hc ?_
   simp only[builtin,jm,vS]
   refine b9 ?_
   simpa using hv
 have FP: (#[t]:Array TypeId)[0]? =some t:=rfl
 have K6: ∀y:Value,(#[y]:Array Value)[0]? =some y:=fun _=>rfl
 split at ah
 · rename_i ex
   obtain⟨rfl,rfl⟩:=aS ah
   rw[ex] at hx;simp only[ak] at hx
   obtain⟨p,hp⟩:=hx
   refine⟨rfl,aG (val:= .tuple #[]) hr.aX (fin _ ?_) (by simp only[ak];exact⟨#[],rfl,by simp[aj]⟩)⟩
   cases p<;>simp[Builtin.clear_,Sem.run_bind,run_underlying lr,hp]
 · rename_i r g off len ex
   rw[ex] at hx
   simp only[Act.run] at ah
   split at ah
   · rename_i es bJ
     split at ah
     · rename_i Em
       obtain⟨cm,iw,fY,fw,gl,C6⟩:=Em
       simp only[Act.run,Option.some.injEq,Prod.mk.injEq] at ah
       obtain⟨rfl,rfl⟩:=ah
       simp only[ak] at hx
       obtain⟨p,cap,hp,hle,pR,cB⟩:=hx
       obtain⟨a0,a1,a2⟩:=cB cm
       obtain⟨zv,tN,uM⟩:=fZ hz μ.w
       obtain⟨sY,C1⟩:=eh (X:=X) (μ:=μ) uM
       have C2:zv.cells.size=sz:=by rw[sY.dE C1,(b7 C6).2]
       have cE:0 <sz:=fw ▸ a0
       obtain⟨w',mh,φ',hφ,le,fk⟩:=ra (X:=X) hr.aX (us:=List.replicate len zv) bJ fY fw cm hle a0 a1 a2 gl (ys:=List.replicate len z) (by simp) (aj.replicate sY len)
         (by simp only[List.all_eq_true,List.mem_replicate];rintro y ⟨_,rfl⟩;exact C6)
       refine⟨rfl,.tuple #[],w',φ',.inl (fin _ ?_),by simp only[ak];exact⟨#[],rfl,by simp[aj]⟩,le,fk⟩
       rw[←mu C2 cE] at mh
       rw[hp]
       simp only[Builtin.clear_,FP,K6,Sem.run_bind,run_underlying lr,Result.andThen_ok]
       rcases Nat.eq_zero_or_pos len with h0| h0
       · subst h0
         have GL: (Builtin.zeroCells zv.cells 0).toList=[]:=by rw[mu C2 cE];rfl
         rw[GL] at mh
         have hw:w'=μ.w:=by
           cases p with
           | none=>exact mh.1
           | some q=>simp[storeCells] at mh;exact mh.symm
         subst hw
         cases p<;>simp
       · cases p with
         | none=>
           have dJ:cap≠0:=by omega
           exact absurd (a2.resolve_left dJ) (by simp)
         | some q=>
           obtain⟨n,rfl⟩: ∃n,len=n+1:=⟨len - 1,by omega⟩
           simp only at mh
           simp[Sem.run_bind,tN,mh]
     · exact absurd ah an
   · exact absurd ah an
 · exact absurd ah an
theorem z6 {x:Operand} {y:aP} (hr:Rel X T a μ) (ho:o.op= .move x∨o.op= .assign x) (ht:cK X x=some y) (ah: (ar E (.deep y)).run C ⟨T,μ.O⟩=some (v,σ')):
   σ'.T=T∧cF X o a μ σ'.O v:=by
 simp only[ar,bo] at ah
 have bQ:=aO hr ht μ.O
 have jJ: (execOp a.eval o).run X.P μ.w= .ok (.value (a.eval x)) μ.w:=by rcases ho with ho| ho<;>simp[execOp,ho]
 unfold kF at ah
 split at ah
 · rename_i r g off len he
   rw[he] at bQ
   simp only[Act.run] at ah
   split at ah
   · rename_i es bJ
     split at ah
     rotate_left
     · exact absurd ah an
     rename_i cm
     have GQ:=bQ
     simp only[ak] at GQ
     obtain⟨_,_,_,_,_,cB⟩:=GQ
     obtain⟨q1,q2,q3,q4⟩:=hr.aX.row r es bJ (cB cm).1
     obtain⟨vs,rZ,jk⟩: ∃vs,aj X μ es vs∧((μ.φ r).cap=0∨ ∃c T,μ.w.heap[(μ.φ r).cD]? =some (.cells c T (0,0))∧(μ.φ r).base+(μ.φ r).cap*(μ.O r).sz≤c.size∧
         dz μ.w (μ.φ r).cD (μ.φ r).base (μ.O r).sz vs):=by
       rcases q4 with q4| ⟨c,T0,vs,p1,p2,p3,p4⟩
       · have:es=[]:=by
          have:es.length=0:=by omega
          simpa using this
         subst this
         exact⟨[],by simp[aj],.inl q4⟩
       · exact⟨vs,p3,.inr ⟨c,T0,p1,p2,p4⟩⟩
     obtain⟨es',O1,g1,g2,g3,g4⟩:=s6 (μ:=μ) hr.aX rZ ah
     simp only[Act.run] at g1
     split at g1
     · rename_i hc
       obtain⟨wG,yb,Mb⟩:=hc
       simp only[Act.run,Option.some.injEq,Prod.mk.injEq] at g1
       obtain⟨rfl,rfl⟩:=g1
       have hs: (O1 r).sz=(μ.O r).sz:=(g3.row r wG).2
       have hlen:es'.length=es.length:=by rw[g2.length,rZ.length]
       obtain⟨le,tV⟩:=A9 (X:=X) (μ:=⟨μ.w,μ.φ,O1⟩) g4 r (es':=es') yb (by rw[hs];exact q1) (by rw[hlen];exact q2) (by rw[hs];exact Mb) (by
         refine jk.imp id ?_
         rintro⟨c,T0,p1,p2,p4⟩
         exact⟨c,T0,vs,p1,by simp only[hs];exact p2,g2,by simp only[hs];exact p4⟩)
       exact⟨rfl,a.eval x,μ.w,μ.φ,.inl jJ,ak.mono (g3.trans le) bQ,g3.trans le,tV⟩
     · exact absurd g1 an
   · exact absurd ah an
 · obtain⟨rfl,rfl⟩:=aS ah
   exact⟨rfl,aG hr.aX jJ bQ⟩
end
end Go.AM
namespace Go.AM
open Go Go.RowKit
def iz (X:Ctx) (μ:Mu) (rs:List Nat) (a:V) (v:Value):Prop:= ∀ (B:Nat→Prop) (μ':Mu),μ'.w=μ.w→
 (∀b,Own ⟨X.toTrEnv,B,X.tok⟩ μ' b→Own X μ b∧ ∀r ∈ rs,(μ.O r).es.isSome=true→(μ.φ r).cap≠0→b≠(μ.φ r).cD)→ak ⟨X.toTrEnv,B,X.tok⟩ μ' a v
def pC (X:Ctx) (μ:Mu) (rs:List Nat) (as:List V) (vs:List Value):Prop:= ∀ (B:Nat→Prop) (μ':Mu),μ'.w=μ.w→
 (∀b,Own ⟨X.toTrEnv,B,X.tok⟩ μ' b→Own X μ b∧ ∀r ∈ rs,(μ.O r).es.isSome=true→(μ.φ r).cap≠0→b≠(μ.φ r).cD)→aj ⟨X.toTrEnv,B,X.tok⟩ μ' as vs
section
variable {X:Ctx} {B:Nat→Prop} {μ μ':Mu}
mutual
theorem dj (hw:μ'.w=μ.w) (ho: ∀b,Own ⟨X.toTrEnv,B,X.tok⟩ μ' b→Own X μ b): ∀ {x:V} {v:Value},V.aC x=true→ak X μ x v→ak ⟨X.toTrEnv,B,X.tok⟩ μ' x v
 | .bool _,_,_,h| .int ..,_,_,h| .float _,_,_,h| .str _,_,_,h| .nilp,_,_,h| .nilfn,_,_,h| .nili,_,_,h| .nils,_,_,h=>by simpa [ak] using h
 | .any,_,hp,_| .own ..,_,hp,_| .msl ..,_,hp,_| .mptr ..,_,hp,_| .sl ..,_,hp,_| .ptr ..,_,hp,_| .mp ..,_,hp,_| .it ..,_,hp,_=>by simp[V.aC] at hp
 | .mlit es,_,hp,h=>by
   simp only[ak] at h ⊢
   obtain⟨h0,h⟩:=h
   refine⟨h0,h.imp id ?_⟩
   rintro⟨a,ents,clock,rfl,hb,hs,h1,h2⟩
   exact⟨a,ents,clock,rfl,fun hh=>hb (ho _ hh),by rw[hw];exact hs,by rw[hw];exact h1,bL hw ho h0 h2⟩
 | .agg cs,_,hp,h=>by
   simp only[ak] at h ⊢
   obtain⟨h1,vs,rfl,h2⟩:=h
   exact⟨h1,vs,rfl,bL hw ho (by simpa [V.aC] using hp) h2⟩
 | .tuple cs,_,hp,h=>by
   simp only[ak] at h ⊢
   obtain⟨vs,rfl,h2⟩:=h
   exact⟨vs,rfl,bL hw ho (by simpa [V.aC] using hp) h2⟩
 | .fn f cs,_,hp,h=>by
   simp only[ak] at h ⊢
   obtain⟨F,cv,rfl,h1,h2⟩:=h
   exact⟨F,cv,rfl,h1,bL hw ho (by simpa [V.aC] using hp) h2⟩
 | .iface t x,_,hp,h=>by
   simp only[ak] at h ⊢
   obtain⟨F,y,rfl,h1,h2⟩:=h
   exact⟨F,y,rfl,h1,dj hw ho (by simpa [V.aC] using hp) h2⟩
 | .lit sz xs,_,hp,h=>by
   simp only[ak] at h ⊢
   obtain⟨h0,jy,a,cap,vs,rfl,h1,h2,h3⟩:=h
   refine⟨h0,jy,a,cap,vs,rfl,h1,bL hw ho h0 h2,h3.imp id ?_⟩
   rintro⟨b,o,rfl,hb,hs,hr⟩
   exact⟨b,o,rfl,fun hh=>hb (ho b hh),by rw[hw];exact hs,by rw[hw];exact hr⟩
 | .litk sz xs,_,hp,h=>by
   simp only[ak] at h ⊢
   obtain⟨h0,jy,a,cap,vs,rfl,h1,h2,h3⟩:=h
   refine⟨h0,jy,a,cap,vs,rfl,h1,bL hw ho h0 h2,h3.imp id ?_⟩
   rintro⟨rfl,hb,hs,hr⟩
   exact⟨rfl,fun hh=>hb (ho _ hh),by rw[hw];exact hs,by rw[hw];exact hr⟩
 | .epk i sz e off,_,hp,h=>by
   simp only[ak] at h ⊢
   obtain⟨h0,jy,x,rfl,hb,hs,h1,hr⟩:=h
   exact⟨h0,jy,x,rfl,fun hh=>hb (ho _ hh),by rw[hw];exact hs,dj hw ho h0 h1,by rw[hw];exact hr⟩
 | .eptr e off,_,hp,h=>by
   simp only[ak] at h ⊢
   obtain⟨h0,jy,b,o,sz,x,rfl,hb,hs,h1,hr⟩:=h
   exact⟨h0,jy,b,o,sz,x,rfl,fun hh=>hb (ho b hh),by rw[hw];exact hs,dj hw ho h0 h1,by rw[hw];exact hr⟩
theorem bL (hw:μ'.w=μ.w) (ho: ∀b,Own ⟨X.toTrEnv,B,X.tok⟩ μ' b→Own X μ b): ∀ {xs:List V} {vs:List Value},V.aq xs=true→aj X μ xs vs→aj ⟨X.toTrEnv,B,X.tok⟩ μ' xs vs
 | [],[],_,_=>by simp[aj]
 | [],_::_,_,h=>by simp[aj] at h
 | _::_,[],_,h=>by simp[aj] at h
 | x::xs,v::vs,hp,h=>by
   simp only[aj] at h ⊢
   simp only[V.aq,Bool.and_eq_true] at hp
   exact⟨dj hw ho hp.1 h.1,bL hw ho hp.2 h.2⟩
end
end
section
variable {X:Ctx} {C:bb} {T:Nat→V} {μ:Mu}
theorem iz.z7 {a:V} {v:Value} (hp:V.aC a=true) (h:ak X μ a v) (rs:List Nat):iz X μ rs a v:=
 fun _ _ hw ho=>dj hw (fun b hb=> (ho b hb).1) hp h
theorem iz.more {rs rs':List Nat} {a:V} {v:Value} (h:iz X μ rs a v) (hs: ∀r ∈ rs,r ∈ rs'):iz X μ rs' a v:=
 fun B μ' hw ho=>h B μ' hw fun b hb=> ⟨(ho b hb).1,fun r hr=> (ho b hb).2 r (hs r hr)⟩
theorem pC.more {rs rs':List Nat} {a:List V} {v:List Value} (h:pC X μ rs a v) (hs: ∀r ∈ rs,r ∈ rs'):pC X μ rs' a v:=
 fun B μ' hw ho=>h B μ' hw fun b hb=> ⟨(ho b hb).1,fun r hr=> (ho b hb).2 r (hs r hr)⟩
theorem jK {f:V→(V→List Nat→Act)→Act}
   (hf: ∀ {v:V} {k:V→List Nat→Act} {val:Value} {p:V×St},ak X μ v val→(f v k).run C ⟨T,μ.O⟩=some p→ ∃v' rs,(k v' rs).run C ⟨T,μ.O⟩=some p∧V.aC v'=true∧iz X μ rs v' val∧(v.cX=true→v'.cX=true)∧(v.aI=true→v'.aI=true)):
   ∀ {vs:List V} {k:List V→List Nat→Act} {vals:List Value} {p:V×St},aj X μ vs vals→(nz f vs k).run C ⟨T,μ.O⟩=some p→
     ∃vs' rs,(k vs' rs).run C ⟨T,μ.O⟩=some p∧V.aq vs'=true∧pC X μ rs vs' vals∧vs'.length=vs.length∧(vs.all V.cX=true→vs'.all V.cX=true)∧(vs.all V.aI=true→vs'.all V.aI=true)
 | [],k,[],p,_,ah=> ⟨[],[],ah,rfl,fun _ _ _ _=>by simp[aj],rfl,id,id⟩
 | [],_,_::_,_,h,_=>by simp[aj] at h
 | _::_,_,[],_,h,_=>by simp[aj] at h
 | v::vs,k,val::vals,p,h,ah=>by
   simp only[aj] at h
   obtain⟨v',rs,h1,h2,h3,h4,h5⟩:=hf h.1 ah
   obtain⟨vs',rs',k1,k2,k3,k4,k5,k6⟩:=jK hf h.2 h1
   refine⟨v'::vs',rs++rs',k1,by simp[V.aq,h2,k2],fun B μ' hw ho=> ?_,by simp[k4],?_,?_⟩
   · simp only[aj]
     exact⟨h3.more (fun r hr=>by simp[hr]) B μ' hw ho,k3.more (fun r hr=>by simp[hr]) B μ' hw ho⟩
   · simp only[List.all_cons,Bool.and_eq_true];exact fun hh=> ⟨h4 hh.1,k5 hh.2⟩
   · simp only[List.all_cons,Bool.and_eq_true];exact fun hh=> ⟨h5 hh.1,k6 hh.2⟩
theorem ua {f:V→(V→List Nat→Act)→Act}
   (hf: ∀ {v:V} {k:V→List Nat→Act} {val:Value} {p:V×St},ak X μ v val→(f v k).run C ⟨T,μ.O⟩=some p→ ∃v' rs,(k v' rs).run C ⟨T,μ.O⟩=some p∧V.aC v'=true∧iz X μ rs v' val∧(v.cX=true→v'.cX=true)∧(v.aI=true→v'.aI=true))
   {vs:List V} {k:List V→List Nat→Act} {vals:List Value} {p:V×St} (h:aj X μ vs vals) (ah: (rT f vs k).run C ⟨T,μ.O⟩=some p):
     ∃vs' rs,(k vs' rs).run C ⟨T,μ.O⟩=some p∧V.aq vs'=true∧pC X μ rs vs' vals∧vs'.length=vs.length∧(vs.all V.cX=true→vs'.all V.cX=true)∧(vs.all V.aI=true→vs'.all V.aI=true):=by
 unfold rT at ah
 split at ah
 · rename_i hp
   exact⟨vs,[],ah,hp,fun _ _ hw ho=>bL hw (fun b hb=> (ho b hb).1) hp h,rfl,id,id⟩
 · exact jK hf h ah
theorem jL (     ho:bj X μ): ∀ (d:Nat) {v:V} {k:V→List Nat→Act} {val:Value} {p:V×St},ak X μ v val→(eG d v k).run C ⟨T,μ.O⟩=some p→
   ∃v' rs,(k v' rs).run C ⟨T,μ.O⟩=some p∧V.aC v'=true∧iz X μ rs v' val∧(v.cX=true→v'.cX=true)∧(v.aI=true→v'.aI=true)
 | 0,v,k,val,p,h,ah=>by
   simp only[eG] at ah
   split at ah
   · rename_i hp;exact⟨v,[],ah,hp,iz.z7 hp h _,id,id⟩
   · exact absurd ah an
 | d+1,v,k,val,p,h,ah=>by
   have ih:=fun {v:V} {k:V→List Nat→Act} {val:Value} {p:V×St}=>jL ho d (v:=v) (k:=k) (val:=val) (p:=p)
   simp only[eG] at ah
   split at ah
   · rename_i hp;exact⟨v,[],ah,hp,iz.z7 hp h _,id,id⟩
   · rename_i UL
     split at ah
     ·
      simp only[ak] at h
      obtain⟨h0,vs,rfl,hv⟩:=h
      obtain⟨cI,rs,k1,k2,k3,k4,k5,k6⟩:=jK ih hv ah
      refine⟨_,rs,k1,by simpa [V.aC] using k2,fun B μ' hw hh=> ?_,fun _=>rfl,fun hc=>by simp[V.aI] at hc⟩
      simp only[ak]
      exact⟨k6 h0,vs,rfl,k3 B μ' hw hh⟩
     ·
      simp only[ak] at h
      obtain⟨F,cv,rfl,hf,hv⟩:=h
      obtain⟨cI,rs,k1,k2,k3,k4,k5,k6⟩:=jK ih hv ah
      refine⟨_,rs,k1,by simpa [V.aC] using k2,fun B μ' hw hh=> ?_,fun _=>rfl,fun _=>rfl⟩
      simp only[ak]
      exact⟨F,cv,rfl,hf,k3 B μ' hw hh⟩
     ·
      simp only[ak] at h
      obtain⟨F,y,rfl,hf,hv⟩:=h
      obtain⟨x',rs,k1,k2,k3,k4,k5⟩:=ih hv ah
      refine⟨_,rs,k1,by simpa [V.aC] using k2,fun B μ' hw hh=> ?_,fun _=>rfl,fun _=>rfl⟩
      simp only[ak]
      exact⟨F,y,rfl,hf,k3 B μ' hw hh⟩
     ·
      rename_i r g off len
      simp only[Act.run] at ah
      split at ah
      · rename_i es bJ
        split at ah
        · rename_i hc
          obtain⟨cm,iw,gl⟩:=hc
          simp only[ak] at h
          obtain⟨a,cap,rfl,hle,pR,cB⟩:=h
          obtain⟨a0,a1,a2⟩:=cB cm
          obtain⟨q1,q2,q3,q4⟩:=ho.row r es bJ a0
          have mZ: (aH es off len).length=len:=by simp[aH];omega
          have kb: (aH es off len).all V.cX=true:=by
            simp only[List.all_eq_true] at q3 ⊢
            exact fun x hx=> (b7 (q3 x (List.mem_of_mem_drop (List.mem_of_mem_take hx)))).1
          have rZ: ∃vs,aj X μ (aH es off len) vs∧(len=0∨((μ.φ r).cap≠0∧(μ.φ r).cD<μ.w.heap.size∧a=some ⟨(μ.φ r).cD,(μ.φ r).base+off*(μ.O r).sz,none⟩∧dz μ.w (μ.φ r).cD ((μ.φ r).base+off*(μ.O r).sz) (μ.O r).sz vs)):=by
            by_cases yd:len=0
            · exact⟨[],by simp[aH,yd,aj],.inl yd⟩
            · rcases q4 with q4| ⟨cc,TT,vs,p1,p2,p3,p4⟩
              · omega
              · exact⟨(vs.drop off).take len,aj.take _ (aj.drop _ p3),.inr ⟨by omega,(Array.getElem?_eq_some_iff.1 p1).1,a2.resolve_left (by omega),(p4.drop off).take len⟩⟩
          obtain⟨vs,Wc,B0⟩:=rZ
          obtain⟨FN,rs,k1,k2,k3,k4,k5,k6⟩:=ua ih Wc ah
          refine⟨_,r::rs,k1,rfl,fun B μ' hw hh=> ?_,fun _=>rfl,fun _=>rfl⟩
          have hx:=k3.more (rs':=r::rs) (fun q hq=>by simp[hq]) B μ' hw hh
          simp only[ak]
          refine⟨k2,k5 kb,a,cap,vs,by rw[k4,mZ],by rw[k4,mZ];exact hle,hx,?_⟩
          rcases B0 with yd| ⟨c0,c1,c2,c3⟩
          · left
            have:FN.length=0:=by rw[k4,mZ];exact yd
            simpa using this
          · right
            refine⟨_,_,c2,fun gC=> ?_,by rw[hw];exact c1,by rw[hw];exact c3⟩
            exact(hh _ gC).2 r (by simp) (by simp[bJ]) c0 rfl
        · exact absurd ah an
      · exact absurd ah an
     ·
      rename_i r g idx off
      simp only[Act.run] at ah
      split at ah
      · rename_i es bJ
        split at ah
        · rename_i cm
          split at ah
          · rename_i e he
            simp only[ak] at h
            obtain⟨a,rfl,pR,cB⟩:=h
            obtain⟨a0,XH⟩:=cB cm
            obtain⟨q1,q2,q3,q4⟩:=ho.row r es bJ a0
            have bA:idx<es.length:=(List.getElem?_eq_some_iff.1 he).1
            rcases q4 with q4| ⟨cc,TT,vs,p1,p2,p3,p4⟩
            · omega
            · obtain⟨x,hx,bQ⟩:=p3.get he
              have oh:aN e (μ.O r).sz=true:=by
               simp only[List.all_eq_true] at q3
               exact q3 e (List.mem_of_getElem? he)
              obtain⟨e',rs,k1,k2,k3,k4,k5⟩:=ih bQ ah
              refine⟨_,r::rs,k1,rfl,fun B μ' hw hh=> ?_,fun _=>rfl,fun _=>rfl⟩
              simp only[ak]
              have dI:dz μ.w (μ.φ r).cD ((μ.φ r).base+idx*(μ.O r).sz) (μ.O r).sz [x]:=by
               have:=(p4.drop idx).take 1
               have Ba: (vs.drop idx).take 1=[x]:=by
                have zJ:idx<vs.length:=(List.getElem?_eq_some_iff.1 hx).1
                rw[List.drop_eq_getElem_cons zJ,List.take_succ_cons,List.take_zero]
                rw[List.getElem?_eq_getElem zJ] at hx
                injection hx with hx;rw[hx]
               rwa [Ba] at this
              refine⟨k2,k4 (b7 oh).1,(μ.φ r).cD,(μ.φ r).base+idx*(μ.O r).sz,(μ.O r).sz,x,by rw[XH],fun gC=> ?_,by rw[hw];exact(Array.getElem?_eq_some_iff.1 p1).1,
               k3.more (rs':=r::rs) (fun q hq=>by simp[hq]) B μ' hw hh,by rw[hw];exact dI⟩
              exact(hh _ gC).2 r (by simp) (by simp[bJ]) (by omega) rfl
          · exact absurd ah an
        · exact absurd ah an
      · exact absurd ah an
     · exact absurd ah an
inductive jz (X:Ctx) (μ:Mu) (r0:Nat):Nat→List V→List Value→List Nat→List dH→Prop
 | nil (i:Nat):jz X μ r0 i [] [] [] []
 | plain {i:Nat} {a:V} {v:Value} {rs rs':List Nat} {as:List V} {vs:List Value} {ws:List dH} (hp:V.aC a=true) (hs:iz X μ rs a v) (h:jz X μ r0 (i+1) as vs rs' ws):
    jz X μ r0 i (a::as) (v::vs) (rs++rs') ws
 | sl {i r g off len:Nat} {es:List V} {v:Value} {rs:List Nat} {as:List V} {vs:List Value} {ws:List dH} (bJ: (μ.O r).es=some es) (fY: (μ.O r).fz=false) (cm: (μ.O r).gen=g) (lJ:V.aq es=true)
    (gl:off+len≤es.length) (hv:ak X μ (.sl r g off len) v) (h:jz X μ r0 (i+1) as vs rs ws):jz X μ r0 i (.msl (μ.O r).sz es off len::as) (v::vs) rs (⟨i,r,none⟩::ws)
 | ptr {i r g idx off:Nat} {es:List V} {v:Value} {rs:List Nat} {as:List V} {vs:List Value} {ws:List dH} (bJ: (μ.O r).es=some es) (fY: (μ.O r).fz=false) (cm: (μ.O r).gen=g) (lJ:V.aq es=true)
    (hv:ak X μ (.ptr r g idx off) v) (h:jz X μ r0 (i+1) as vs rs ws):jz X μ r0 i (.mptr (μ.O r).sz es idx off::as) (v::vs) rs (⟨i,r,none⟩::ws)
 | fresh {i sz:Nat} {v:Value} {rs:List Nat} {as:List V} {vs:List Value} {ws:List dH} (cE:0 <sz) (hv: ∃a,v= .slice a 0 0) (h:jz X μ r0 (i+1) as vs rs ws):
    jz X μ r0 i (.msl sz [] 0 0::as) (v::vs) rs (⟨i,r0+i,some sz⟩::ws)
theorem ez (ho:bj X μ) {r0:Nat}: ∀ {vs:List V} {ms:List (Option Nat)} {i:Nat} {k:List V→List Nat→List dH→Act} {vals:List Value} {p:V×St},aj X μ vs vals→
   (df r0 vs ms i k).run C ⟨T,μ.O⟩=some p→ ∃as rs ws,(k as rs ws).run C ⟨T,μ.O⟩=some p∧jz X μ r0 i as vals rs ws
 | [],ms,i,k,[],p,_,ah=> ⟨[],[],[],by simpa [df] using ah,.nil i⟩
 | [],_,_,_,_::_,_,h,_=>by simp[aj] at h
 | _::_,_,_,_,[],_,h,_=>by simp[aj] at h
 | v::vs,[],i,k,val::vals,p,h,ah=>by
   simp only[aj] at h
   simp only[df,snap] at ah
   obtain⟨v',rs,h1,h2,h3,_,_⟩:=jL ho 5 h.1 ah
   obtain⟨as,rs',ws,k1,k2⟩:=ez ho h.2 h1
   exact⟨_,_,_,k1,.plain h2 h3 k2⟩
 | v::vs,m::ms,i,k,val::vals,p,h,ah=>by
   simp only[aj] at h
   simp only[df] at ah
   split at ah
   · split at ah
     · split at ah
       · rename_i cE
         obtain⟨as,rs',ws,k1,k2⟩:=ez ho h.2 ah
         have h1:=h.1
         simp only[ak] at h1
         exact⟨_,_,_,k1,.fresh cE h1 k2⟩
       · exact absurd ah an
     · rename_i r g off len
       simp only[Act.run] at ah
       split at ah
       · rename_i es bJ
         split at ah
         · rename_i hc
           obtain⟨c1,c2,c3,c4,c5⟩:=hc
           obtain⟨as,rs',ws,k1,k2⟩:=ez ho h.2 ah
           rw[←c3] at k1
           exact⟨_,_,_,k1,.sl bJ c2 c1 c5 c4 h.1 k2⟩
         · exact absurd ah an
       · exact absurd ah an
     · rename_i r g idx off
       simp only[Act.run] at ah
       split at ah
       · rename_i es bJ
         split at ah
         · rename_i hc
           obtain⟨c1,c2,c3,c4⟩:=hc
           obtain⟨as,rs',ws,k1,k2⟩:=ez ho h.2 ah
           rw[←c3] at k1
           exact⟨_,_,_,k1,.ptr bJ c2 c1 c4 h.1 k2⟩
         · exact absurd ah an
       · exact absurd ah an
     · exact absurd ah an
   · simp only[snap] at ah
     obtain⟨v',rs,h1,h2,h3,_,_⟩:=jL ho 5 h.1 ah
     obtain⟨as,rs',ws,k1,k2⟩:=ez ho h.2 h1
     exact⟨_,_,_,k1,.plain h2 h3 k2⟩
end
theorem iA {X:Ctx} {C:bb} {T:Nat→V} {w:World} {φ:Nat→Row}: ∀ (rs:List Nat) {O:Nat→Obj} {k:Act} {p:V×St},bj X ⟨w,φ,O⟩→(cj rs k).run C ⟨T,O⟩=some p→
   ∃O',k.run C ⟨T,O'⟩=some p∧Le ⟨w,φ,O⟩ ⟨w,φ,O'⟩∧bj X ⟨w,φ,O'⟩∧(∀r,r ∉ rs→O' r=O r)∧(∀r,r ∈ rs→O' r={O r with fz:=true})
 | [],O,k,p,ho,h=> ⟨O,h,Le.refl _,ho,fun _ _=>rfl,fun r hr=>by simp at hr⟩
 | q::rs,O,k,p,ho,h=>by
   simp only[cj,Act.run] at h
   obtain⟨l1,o1⟩:=oo ho q
   obtain⟨O',h1,h2,h3,h4,h5⟩:=iA rs o1 h
   refine⟨O',h1,l1.trans h2,h3,fun r hr=> ?_,fun r hr=> ?_⟩
   · have ql:r≠q∧r ∉ rs:=by simpa using hr
     rw[h4 r ql.2,aU _ _ ql.1]
   · by_cases hm:r ∈ rs
     · rw[h5 r hm]
       by_cases e:r=q
       · subst e;simp[aA]
       · simp[aU _ _ e]
     · have e:r=q:=by
        rcases List.mem_cons.1 hr with e| hr
        · exact e
        · exact absurd hr hm
       subst e
       rw[h4 r hm,aA]
theorem xj {X:Ctx} {C:bb} {T:Nat→V} {μ:Mu} (ho:bj X μ) {v:V} {val:Value} {p:V×St} (hv:ak X μ v val) (ah: (snap v fun v' rs=>cj rs (.done v')).run C ⟨T,μ.O⟩=some p):
   ∃c' O',(Act.done c').run C ⟨T,O'⟩=some p∧ak X ⟨μ.w,μ.φ,O'⟩ c' val∧Le μ ⟨μ.w,μ.φ,O'⟩∧bj X ⟨μ.w,μ.φ,O'⟩:=by
 obtain⟨v',rs,h1,_,h3,_,_⟩:=jL ho 5 hv ah
 obtain⟨O',k1,k2,k3,k4,k5⟩:=iA (w:=μ.w) (φ:=μ.φ) rs ho h1
 refine⟨v',O',k1,?_,k2,k3⟩
 refine h3 X.GI ⟨μ.w,μ.φ,O'⟩ rfl fun b hb=> ?_
 rcases hb with⟨r',q1,q2,q3,q4⟩ | hb
 · simp only at q1 q2 q3 q4
   by_cases hm:r' ∈ rs
   · rw[k5 r' hm] at q2;simp at q2
   · rw[k4 r' hm] at q1 q2
     refine⟨.inl ⟨r',q1,q2,q3,q4⟩,fun r hr hs hc e=> ?_⟩
     exact ho.inj r' r (fun e'=>hm (e' ▸ hr)) q1 hs q3 hc (q4.trans e)
 · exact⟨.inr hb,fun r hr hs hc e=>ho.qU r hs hc (e ▸ hb)⟩
end Go.AM
namespace Go.AM
open Go Go.RowKit Go.MapKept
section
variable {X:Ctx} {E:Env} {C:bb} {o:Oper} {a:Go.Act} {T:Nat→V} {μ:Mu} {v:V} {σ':St}
def Ea (e:MapEntry):Value:= .tuple #[e.key,e.val]
def gV (q:Option IntKind) (d:TypeDesc):Prop:=match q with
 | some q=>d= .int q
 | none=>d= .string
theorem Dd {q:Option IntKind} {d:TypeDesc} {k:V} {kv:Value} (hd:gV q d) (hk:isKey q k=true) (hv:ak X μ k kv):IsKey d kv:=by
 unfold isKey at hk
 unfold gV at hd
 split at hk
 · simp only[ak] at hv
   subst hv;subst hd
   simpa [IsKey] using hk
 · simp only[ak] at hv
   obtain⟨bs,rfl,_⟩:=hv
   subst hd
   simp[IsKey]
 · simp at hk
theorem nb {q:Option IntKind} {d:TypeDesc} {k k':V} {kv Wd:Value} {b:Bool} (hd:gV q d) (hk:isKey q k=true) (h1:ak X μ k kv) (h2:ak X μ k' Wd) (h:zB k k'=some b):
   Instr.sameNow d kv Wd=some b∧(b=true→Wd=kv):=by
 unfold zB at h
 split at h
 · simp only[ak] at h1 h2
   subst h1;subst h2
   split at h
   · rename_i e
     subst e
     injection h with h
     subst h
     have: ∃q',d= .int q':=by
       unfold isKey at hk
       unfold gV at hd
       cases q<;>simp_all
     obtain⟨q',rfl⟩:=this
     refine⟨by simp[Instr.sameNow],fun hb=> ?_⟩
     simp only[beq_iff_eq] at hb
     rw[hb]
   · simp at h
 · simp only[ak] at h1 h2
   obtain⟨x,rfl,rfl⟩:=h1
   obtain⟨y,rfl,rfl⟩:=h2
   injection h with h
   subst h
   have:d= .string:=by
     unfold isKey at hk
     unfold gV at hd
     cases q<;>simp_all
   subst this
   have D5: (x==y)=decide (x.data.toList=y.data.toList):=by
     rw[Bool.eq_iff_iff,bytes_beq,decide_eq_true_eq]
     constructor
     · rintro rfl;rfl
     · intro h
       cases x;cases y
       simp only[ByteArray.mk.injEq]
       exact Array.toList_inj.1 h
   refine⟨by simp[Instr.sameNow,D5],fun hb=> ?_⟩
   rw[←D5,bytes_beq] at hb
   rw[hb]
 · simp at h
theorem z8 {e:V} {me:MapEntry} (h:ak X μ e (Ea me)) {k v:V} (he:e= .tuple [k,v]):ak X μ k me.key∧ak X μ v me.val:=by
 subst he
 simp only[Ea,ak] at h
 obtain⟨vs,h1,h2⟩:=h
 injection h1 with h1
 subst h1
 simpa [aj] using h2
theorem vT {k v:V} {me:MapEntry} (h1:ak X μ k me.key) (h2:ak X μ v me.val):ak X μ (.tuple [k,v]) (Ea me):=by
 simp only[Ea,ak]
 exact⟨_,rfl,by simp[aj,h1,h2]⟩
theorem mw {q:Option IntKind} {d:TypeDesc} {k:V} {kv:Value} (hd:gV q d) (hk:isKey q k=true) (h1:ak X μ k kv): ∀ {es:List V} {ents:List MapEntry} {i:Nat} {r:Option V},aj X μ es (ents.map Ea)→kH k es=some r→
   (r=none∧Instr.findNow d kv ents i=some none)∨ ∃v j e,r=some v∧Instr.findNow d kv ents i=some (some (j,e))∧ak X μ v e
 | [],[],i,r,_,h=>by simp[kH] at h;subst h;exact .inl ⟨rfl,rfl⟩
 | [],_::_,_,_,h,_=>by simp[aj] at h
 | _::_,[],_,_,h,_=>by simp[aj] at h
 | e::es,m::ents,i,r,hr,h=>by
   simp only[List.map_cons,aj] at hr
   unfold kH at h
   split at h
   · rename_i heq;simp at heq
   · rename_i k' v' es' heq
     injection heq with e1 e2
     subst e2
     obtain⟨t1,t2⟩:=z8 hr.1 e1
     split at h
     · rename_i hq
       injection h with h
       subst h
       obtain⟨s1,_⟩:=nb hd hk h1 t1 hq
       exact .inr ⟨v',i,m.val,rfl,by simp[Instr.findNow,s1],t2⟩
     · rename_i hq
       obtain⟨s1,_⟩:=nb hd hk h1 t1 hq
       rcases mw hd hk h1 (i:=i+1) hr.2 h with⟨g1,g2⟩ | ⟨v,j,x,g1,g2,g3⟩
       · exact .inl ⟨g1,by simp[Instr.findNow,s1,g2]⟩
       · exact .inr ⟨v,j,x,g1,by simp[Instr.findNow,s1,g2],g3⟩
     · simp at h
   · simp at h
theorem tf {q:Option IntKind} {d:TypeDesc} {k u:V} {kv val:Value} (hd:gV q d) (hk:isKey q k=true) (h1:ak X μ k kv) (h2:ak X μ u val): ∀ {es es':List V} {ents:List MapEntry} {i:Nat},aj X μ es (ents.map Ea)→lU k u es=some es'→
   (Instr.findNow d kv ents i=some none∧ ∀c,aj X μ es' ((ents++[({key:=kv,val:=val,born:=c}:MapEntry)]).map Ea))∨
   ∃j e,Instr.findNow d kv ents i=some (some (i+j,e.val))∧ents[j]? =some e∧e.key=kv∧aj X μ es' ((ents.set j ({key:=kv,val:=val,born:=e.born}:MapEntry)).map Ea)
 | [],es',[],i,_,h=>by
   simp[lU] at h;subst h
   exact .inl ⟨rfl,fun c=>by simp only[List.nil_append,List.map_cons,List.map_nil,aj];exact⟨vT (me:={key:=kv,val:=val,born:=c}) h1 h2,trivial⟩⟩
 | [],_,_::_,_,h,_=>by simp[aj] at h
 | _::_,_,[],_,h,_=>by simp[aj] at h
 | e::es,es',m::ents,i,hr,h=>by
   simp only[List.map_cons,aj] at hr
   unfold lU at h
   split at h
   · rename_i heq;simp at heq
   · rename_i k' v' Qw heq
     injection heq with e1 e2
     subst e2
     obtain⟨t1,t2⟩:=z8 hr.1 e1
     split at h
     · rename_i hq
       injection h with h
       subst h
       obtain⟨s1,s2⟩:=nb hd hk h1 t1 hq
       exact .inr ⟨0,m,by simp[Instr.findNow,s1],rfl,s2 rfl,by simp only[List.set_cons_zero,List.map_cons,aj];exact⟨vT (me:={key:=kv,val:=val,born:=m.born}) h1 h2,hr.2⟩⟩
     · rename_i hq
       obtain⟨s1,_⟩:=nb hd hk h1 t1 hq
       rw[Option.map_eq_some_iff] at h
       obtain⟨es3,g0,rfl⟩:=h
       rcases tf hd hk h1 h2 (i:=i+1) hr.2 g0 with⟨g1,g2⟩ | ⟨j,x,g1,g2,g3,g4⟩
       · exact .inl ⟨by simp[Instr.findNow,s1,g1],fun c=>by simp only[List.cons_append,List.map_cons,aj];exact⟨vT t1 t2,g2 c⟩⟩
       · exact .inr ⟨j+1,x,by simp[Instr.findNow,s1,g1];omega,by simpa using g2,g3,by simp only[List.set_cons_succ,List.map_cons,aj];exact⟨vT t1 t2,g4⟩⟩
     · simp at h
   · simp at h
theorem De {t:TypeId} {rs:Option Operand} {r:Nat} (hr:Rel X T a μ) (ho:o.op= .makeMap t rs) (We:rs=none) (ah: (ar E (.mkMap r)).run C ⟨T,μ.O⟩=some (v,σ')):σ'.T=T∧cF X o a μ σ'.O v:=by
 subst We
 simp only[ar,Act.run,Option.some.injEq,Prod.mk.injEq] at ah
 obtain⟨rfl,rfl⟩:=ah
 obtain⟨le,fk⟩:=pn hr.aX r (.map #[] 0) [] (.inl ⟨#[],0,rfl,by simp[aj],by simp[sO]⟩)
 refine⟨rfl,.map (some μ.w.heap.size),_,_,.inl ?_,?_,le,fk⟩
 · simp only[execOp,ho]
   refine b9 ?_
   simp[Instr.makeMap,Sem.run_bind]
 · simp only[ak,aA]
   exact⟨_,rfl,Nat.le_refl _,fun _=> ⟨trivial,rfl⟩⟩
theorem Bn {  t kt et:TypeId} {d:TypeDesc} {x i:Operand} {x' i':aP} {ok:Bool} {q:Option IntKind} {z:V} (hr:Rel X T a μ) (ho:o.op= .lookup t x i ok) (ht:bg X t=some (.map kt et)) (FR:bg X kt=some d) (hd:gV q d)
   (hz:dX X et=some z) (h1:cK X x=some x') (h2:cK X i=some i') (ah: (ar E (.qg q ok z x' i')).run C ⟨T,μ.O⟩=some (v,σ')):σ'.T=T∧cF X o a μ σ'.O v:=by
 simp only[ar,bo] at ah
 have hx:=aO hr h1 μ.O
 have hi:=aO hr h2 μ.O
 have tO:X.P.underlying t=some (.map kt et):=ht
 have qw:X.P.underlying kt=some d:=FR
 obtain⟨zv,tN,uM⟩:=fZ hz μ.w
 obtain⟨sY,C1⟩:=eh (X:=X) (μ:=μ) uM
 split at ah
 · rename_i Bo
   have CX:=Dd hd Bo hi
   have main: ∀ {es:List V} {ents:Array MapEntry} {m:Option Nat},aj X μ es (ents.toList.map Ea)→(iG ok z es (bc ⟨T,μ.O⟩ i')).run C ⟨T,μ.O⟩=some (v,σ')→a.eval x= .map m→
       (match m with| none=>ents= #[] | some r=> ∃clock,μ.w.heap[r]? =some (.map ents clock))→σ'.T=T∧cF X o a μ σ'.O v:=by
     intro es ents m bQ qx hm hb
     have fin: ∀ (u:Value) (b:Bool),(match Instr.findNow d (a.eval i) ents.toList 0 with
         | some (some (_,v))=>u=v∧b=true
         | some none=>u=zv∧b=false
         | none=>False)→(execOp a.eval o).run X.P μ.w= .ok (.value (if ok then .tuple #[u,.bool b] else u)) μ.w:=by
       intro u b hf
       simp only[execOp,ho]
       refine b9 ?_
       cases pQ:Instr.findNow d (a.eval i) ents.toList 0 with
       | none=>rw[pQ] at hf;exact hf.elim
       | some r=>
         rw[pQ] at hf
         cases m with
         | none=>
           simp only at hb
           subst hb
           cases r with
           | none=>
             simp only at hf;obtain⟨rfl,rfl⟩:=hf
             cases ok<;>simp[Instr.lookup,Sem.run_bind,run_underlying tO,Result.andThen,hm,Go.MapKept.run_checkKey qw CX,Go.MapKept.run_findKey (l:=[]) qw (by simpa using pQ),tN]
           | some p=>
             obtain⟨j,y⟩:=p
             simp only at hf;obtain⟨rfl,rfl⟩:=hf
             cases ok<;>simp[Instr.lookup,Sem.run_bind,run_underlying tO,Result.andThen,hm,Go.MapKept.run_checkKey qw CX,Go.MapKept.run_findKey (l:=[]) qw (by simpa using pQ)]
         | some rr=>
           obtain⟨clock,hb⟩:=hb
           cases r with
           | none=>
             simp only at hf;obtain⟨rfl,rfl⟩:=hf
             cases ok<;>simp[Instr.lookup,Sem.run_bind,run_underlying tO,Result.andThen,hm,Go.MapKept.run_getObj_map hb,Go.MapKept.run_checkKey qw CX,Go.MapKept.run_findKey qw pQ,tN]
           | some p=>
             obtain⟨j,y⟩:=p
             simp only at hf;obtain⟨rfl,rfl⟩:=hf
             cases ok<;>simp[Instr.lookup,Sem.run_bind,run_underlying tO,Result.andThen,hm,Go.MapKept.run_getObj_map hb,Go.MapKept.run_checkKey qw CX,Go.MapKept.run_findKey qw pQ]
     unfold iG at qx
     split at qx
     · rename_i y hy
       obtain⟨rfl,rfl⟩:=aS qx
       rcases mw hd Bo hi (i:=0) bQ hy with⟨g1,_⟩ | ⟨v0,j,e,g1,g2,g3⟩
       · cases g1
       · injection g1 with g1
         subst g1
         refine⟨rfl,aG hr.aX (fin e true (by rw[g2];exact⟨rfl,rfl⟩)) ?_⟩
         cases ok
         · simpa using g3
         · simp only[if_true,ak];exact⟨_,rfl,by simp[aj,ak,g3]⟩
     · rename_i hy
       obtain⟨rfl,rfl⟩:=aS qx
       rcases mw hd Bo hi (i:=0) bQ hy with⟨_,g2⟩ | ⟨v0,j,e,g1,g2,g3⟩
       · refine⟨rfl,aG hr.aX (fin zv false (by rw[g2];exact⟨rfl,rfl⟩)) ?_⟩
         cases ok
         · simpa using sY
         · simp only[if_true,ak];exact⟨_,rfl,by simp[aj,ak,sY]⟩
       · cases g1
     · exact absurd qx an
   split at ah
   · rename_i r g e
     rw[e] at hx
     simp only[ak] at hx
     obtain⟨b,hp,pR,cB⟩:=hx
     simp only[Act.run] at ah
     split at ah
     · rename_i es bJ
       split at ah
       · rename_i hc
         obtain⟨k0,rfl⟩:=cB hc.1
         rcases hr.aX.ents r es bJ hc.2 with⟨dJ,ents,clock,hm,bQ,_⟩ | ⟨_,s,pos,_,rfl⟩ | ⟨mX,rfl⟩
         · exact main bQ ah hp ⟨clock,hm⟩
         · exact absurd (by simpa [iG,kH] using ah) an
         · exact absurd (by simpa [iG,kH] using ah) an
       · exact absurd ah an
     · exact absurd ah an
   · rename_i es e
     rw[e] at hx
     simp only[ak] at hx
     obtain⟨_,⟨rfl,hp⟩ | ⟨b,ents,clock,hp,_,_,⟨hm,_⟩,bQ⟩⟩:=hx
     · exact main (ents:= #[]) (by simp[aj]) ah hp rfl
     · exact main bQ ah hp ⟨clock,hm⟩
   · exact absurd ah an
 · exact absurd ah an
theorem Bp {ents:Array MapEntry} {clock:Nat} (h:sO ents clock) (e:MapEntry) (he:e.born=clock):sO (ents.push e) (clock+1):=by
 obtain⟨h1,h2⟩:=h
 refine⟨fun x hx=> ?_,?_⟩
 · rw[Array.toList_push,List.mem_append,List.mem_singleton] at hx
   rcases hx with hx| rfl
   · have:=h1 x hx;omega
   · omega
 · rw[Array.toList_push,List.map_append,List.nodup_append]
   refine⟨h2,by simp,fun a ha b hb=> ?_⟩
   simp only[List.map_cons,List.map_nil,List.mem_singleton] at hb
   obtain⟨x,hx,rfl⟩:=List.mem_map.1 ha
   have:=h1 x hx
   omega
theorem xk {ents:Array MapEntry} {clock:Nat} (h:sO ents clock) (j:Nat) {f:MapEntry→MapEntry} (hf: ∀e,(f e).born=e.born):sO (ents.modify j f) clock:=by
 have hm: (ents.modify j f).toList.map (·.born)=ents.toList.map (·.born):=by
  apply List.ext_getElem?
  intro n
  simp only[List.getElem?_map,Array.toList_modify,List.getElem?_modify]
  cases ents.toList[n]? with
  | none=>rfl
  | some x=>
    simp only[Option.map_some]
    split
    · simp[hf]
    · rfl
 refine⟨fun x hx=> ?_,by rw[hm];exact h.2⟩
 have:x.born ∈ (ents.modify j f).toList.map (·.born):=List.mem_map.2 ⟨x,hx,rfl⟩
 rw[hm] at this
 obtain⟨y,hy,e⟩:=List.mem_map.1 this
 rw[←e];exact h.1 y hy
theorem uU {     t kt et:TypeId} {d:TypeDesc} {x i y:Operand} {x' i' y':aP} {q:Option IntKind} (hr:Rel X T a μ) (ho:o.op= .mapUpdate t x i y∨o.op= .insert t x i y) (ht:bg X t=some (.map kt et)) (FR:bg X kt=some d) (hd:gV q d)
   (h1:cK X x=some x') (h2:cK X i=some i') (h3:cK X y=some y') (ah: (ar E (.lT q x' i' y')).run C ⟨T,μ.O⟩=some (v,σ')):σ'.T=T∧cF X o a μ σ'.O v:=by
 simp only[ar,bo] at ah
 have hx:=aO hr h1 μ.O
 have hi:=aO hr h2 μ.O
 have hy:=aO hr h3 μ.O
 have tO:X.P.underlying t=some (.map kt et):=ht
 have qw:X.P.underlying kt=some d:=FR
 split at ah
 · rename_i r g e
   rw[e] at hx
   simp only[bo] at ah
   obtain⟨u,O1,k1,k2,k3,k4⟩:=ka (μ:=μ) hr.aX hy ah
   have UF:=ak.mono k3 hx
   have rF:=ak.mono k3 hi
   simp only[Act.run] at k1
   split at k1
   · rename_i es bJ
     split at k1
     · rename_i hc
       obtain⟨cm,cE,fY,Bo,kb⟩:=hc
       split at k1
       · rename_i es' rI
         simp only[Act.run,Option.some.injEq,Prod.mk.injEq] at k1
         obtain⟨rfl,rfl⟩:=k1
         simp only[ak] at UF
         obtain⟨b,hp,pR,cB⟩:=UF
         obtain⟨_,rfl⟩:=cB cm
         obtain⟨dJ,ents,clock,hm,bQ,j9⟩: (μ.φ r).cap≠0∧ ∃ents clock,μ.w.heap[(μ.φ r).cD]? =some (.map ents clock)∧aj X ⟨μ.w,μ.φ,O1⟩ es (ents.toList.map Ea)∧sO ents clock:=by
           rcases k4.ents r es bJ cE with h| ⟨_,s,pos,_,rfl⟩ | ⟨mX,rfl⟩
           · exact h
           · simp[lU] at rI
           · simp[lU] at rI
         have CX:=Dd hd Bo rF
         have fin: ∀w',(Instr.mapUpdate t (.map (some (μ.φ r).cD)) (a.eval i) (a.eval y)).run X.P μ.w= .ok () w'→(execOp a.eval o).run X.P μ.w= .ok .skip w':=fun w' hw=>by
           rcases ho with ho| ho
           · simp only[execOp,ho,hp];exact CP hw
           · simp only[execOp,ho,hp];exact CP hw
         rcases tf hd Bo rF k2 (i:=0) bQ rI with⟨g1,g2⟩ | ⟨j,e,g1,g2,g3,g4⟩
         · obtain⟨le,fk⟩:=oq (μ:=⟨μ.w,μ.φ,O1⟩) k4 r (es':=es') (ob':= .map (ents.push {key:=a.eval i,val:=a.eval y,born:=clock}) (clock+1)) bJ fY cE hm dJ (.inl ⟨ents,clock,rfl,bQ,j9⟩) (.inl ⟨_,_,rfl,by
            have:=g2 clock
            have e1: (ents.push ({key:=a.eval i,val:=a.eval y,born:=clock}:MapEntry)).toList=ents.toList++[({key:=a.eval i,val:=a.eval y,born:=clock}:MapEntry)]:=by simp
            rw[e1];exact this,Bp j9 _ rfl⟩)
           refine⟨rfl,undef,_,_,.inr ⟨fin _ ?_,rfl⟩,by simp only[ak];exact⟨#[],rfl,by simp[aj]⟩,k3.trans le,fk⟩
           simp[Instr.mapUpdate,run_underlying tO,Go.MapKept.run_getObj_map hm,Go.MapKept.run_checkKey qw CX,Go.MapKept.run_findKey qw g1,Go.MapKept.run_setObj_map _ hm,Result.andThen,Sem.run_bind]
         · rw[Nat.zero_add] at g1
           have YR:ents[j]? =some e:=by simpa using g2
           obtain⟨le,fk⟩:=oq (μ:=⟨μ.w,μ.φ,O1⟩) k4 r (es':=es') (ob':= .map (ents.modify j fun e=> {e with key:=a.eval i,val:=a.eval y}) (clock)) bJ fY cE hm dJ (.inl ⟨ents,clock,rfl,bQ,j9⟩) (.inl ⟨_,_,rfl,by
            have hl: (ents.modify j fun e=> {e with key:=a.eval i,val:=a.eval y}).toList=ents.toList.set j {e with key:=a.eval i,val:=a.eval y}:=by
              apply List.ext_getElem?
              intro n
              rw[Array.toList_modify,List.getElem?_modify,List.getElem?_set]
              by_cases hn:j=n
              · subst hn
                have bA:=(List.getElem?_eq_some_iff.1 g2).1
                simp only[if_true,bA,g2,Option.map_some,and_self]
                rfl
              · simp[hn]
            rw[hl];exact g4,xk j9 j fun _=>rfl⟩)
           refine⟨rfl,undef,_,_,.inr ⟨fin _ ?_,rfl⟩,by simp only[ak];exact⟨#[],rfl,by simp[aj]⟩,k3.trans le,fk⟩
           simp[Instr.mapUpdate,run_underlying tO,Go.MapKept.run_getObj_map hm,Go.MapKept.run_checkKey qw CX,Go.MapKept.run_findKey qw g1,YR,g3,Go.MapKept.run_keyThatStays CX,Go.MapKept.run_setObj_map _ hm,Result.andThen,Sem.run_bind]
       · exact absurd k1 an
     · exact absurd k1 an
   · exact absurd k1 an
 · exact absurd ah an
theorem lz {P:Program} {w:World} {r:Nat} {s:ByteArray} {pos:Nat} (hb:w.heap[r]? =some (.stringIter s pos)): (getObj r).run P w= .ok (.stringIter s pos) w:=by
 simp[getObj,Sem.run,hb]
theorem lA {P:Program} {w:World} {r:Nat} {s:ByteArray} {pos:Nat} (o:Go.Obj) (hb:w.heap[r]? =some (.stringIter s pos)): (setObj r o).run P w= .ok () {w with heap:=w.heap.setIfInBounds r o}:=by
 simp[setObj,Sem.run,hb]
theorem yW {t:TypeId} {x:Operand} {y:aP} {r:Nat} (hr:Rel X T a μ) (ho:o.op= .range t x) (ht:bg X t=some .string) (h1:cK X x=some y) (ah: (ar E (.mQ r y)).run C ⟨T,μ.O⟩=some (v,σ')):σ'.T=T∧cF X o a μ σ'.O v:=by
 simp only[ar,bo] at ah
 have hx:=aO hr h1 μ.O
 have tO:X.P.underlying t=some .string:=ht
 split at ah
 · rename_i s e
   rw[e] at hx
   simp only[ak] at hx
   obtain⟨bs,hp,rfl⟩:=hx
   simp only[Act.run,Option.some.injEq,Prod.mk.injEq] at ah
   obtain⟨rfl,rfl⟩:=ah
   obtain⟨le,fk⟩:=pn hr.aX r (.stringIter bs 0) [.str bs.data.toList,.int .i64 0] (.inr (.inl ⟨bs,0,rfl,rfl⟩))
   refine⟨rfl,.pointer (some ⟨μ.w.heap.size,0,none⟩),_,_,.inl ?_,?_,le,fk⟩
   · simp only[execOp,ho]
     refine b9 ?_
     simp[Instr.range,Sem.run_bind,run_underlying tO,hp,Result.andThen]
   · simp only[ak,aA]
     exact⟨_,rfl,Nat.le_refl _,fun _=> ⟨trivial,rfl⟩⟩
 · exact absurd ah an
theorem yX {t kt et:TypeId} {x:Operand} {y:aP} {r:Nat} (hr:Rel X T a μ) (ho:o.op= .range t x) (ht:bg X t=some (.map kt et)) (h1:cK X x=some y) (ah: (ar E (.mapIter r y)).run C ⟨T,μ.O⟩=some (v,σ')):σ'.T=T∧cF X o a μ σ'.O v:=by
 simp only[ar,bo] at ah
 have hx:=aO hr h1 μ.O
 have tO:X.P.underlying t=some (.map kt et):=ht
 split at ah
 · rename_i es e
   rw[e] at hx
   simp only[ak] at hx
   simp only[Act.run,Option.some.injEq,Prod.mk.injEq] at ah
   obtain⟨rfl,rfl⟩:=ah
   obtain⟨_,⟨rfl,hp⟩ | ⟨b,ents,clock,hp,kN,bA,⟨hm,j9⟩,bQ⟩⟩:=hx
   · obtain⟨le,fk⟩:=pn hr.aX r (.mapIter none 0 #[] 0) [.mlit []] (.inr (.inr ⟨none,0,[],rfl,rfl,.inl ⟨rfl,rfl⟩⟩))
     refine⟨rfl,.pointer (some ⟨μ.w.heap.size,0,none⟩),_,_,.inl ?_,?_,le,fk⟩
     · simp only[execOp,ho]
       refine b9 ?_
       simp[Instr.range,Sem.run_bind,run_underlying tO,hp,Result.andThen]
     · simp only[ak,aA]
       exact⟨_,rfl,Nat.le_refl _,fun _=> ⟨trivial,rfl⟩⟩
   · obtain⟨le,fk⟩:=pn hr.aX r (.mapIter (some b) clock #[] clock) [.mlit es] (.inr (.inr ⟨some b,clock,es,rfl,rfl,.inr ⟨b,ents,rfl,kN,bA,hm,j9,bQ⟩⟩))
     refine⟨rfl,.pointer (some ⟨μ.w.heap.size,0,none⟩),_,_,.inl ?_,?_,le,fk⟩
     · simp only[execOp,ho]
       refine b9 ?_
       simp[Instr.range,Sem.run_bind,run_underlying tO,hp,Result.andThen,Go.MapKept.run_getObj_map hm]
     · simp only[ak,aA]
       exact⟨_,rfl,Nat.le_refl _,fun _=> ⟨trivial,rfl⟩⟩
 · exact absurd ah an
theorem yY {  x:Operand} {y:aP} (hr:Rel X T a μ) (ho:o.op= .next x true) (h1:cK X x=some y) (ah: (ar E (.mR y)).run C ⟨T,μ.O⟩=some (v,σ')):σ'.T=T∧cF X o a μ σ'.O v:=by
 simp only[ar,bo] at ah
 have hx:=aO hr h1 μ.O
 split at ah
 · rename_i r g e
   rw[e] at hx
   simp only[ak] at hx
   obtain⟨b,hp,pR,cB⟩:=hx
   simp only[Act.run] at ah
   split at ah
   · rename_i s p bJ
     split at ah
     · rename_i hc
       obtain⟨cm,cE,fY⟩:=hc
       obtain⟨_,rfl⟩:=cB cm
       rcases hr.aX.ents r _ bJ cE with⟨dJ,ents,clock,hm,bQ,_⟩ | ⟨dJ,bs,pos,hm,hs⟩ | ⟨mX,hs⟩
       · exfalso
         cases he:ents.toList with
         | nil=>simp[he,aj] at bQ
         | cons e es=>simp[he,aj,ak] at bQ
       · simp only[List.cons.injEq,V.str.injEq,V.int.injEq,true_and,and_true] at hs
         obtain⟨rfl,rfl⟩:=hs
         simp only[Int.toNat_natCast] at ah
         have hlen:bs.data.toList.length=bs.size:=by rw[Array.length_toList];rfl
         have yQ: (⟨bs.data.toList.toArray⟩:ByteArray)=bs:=by cases bs;simp
         rw[hlen,yQ] at ah
         split at ah
         · rename_i bA
           simp only[Act.run,Option.some.injEq,Prod.mk.injEq] at ah
           obtain⟨rfl,rfl⟩:=ah
           obtain⟨le,fk⟩:=oq hr.aX r (es':=[.str bs.data.toList,.int .i64 ((pos+(Utf8.decode bs pos).2:Nat):Int)]) (ob':= .stringIter bs (pos+(Utf8.decode bs pos).2)) bJ fY cE hm dJ (.inr (.inl ⟨bs,pos,rfl,rfl⟩)) (.inr (.inl ⟨bs,_,rfl,rfl⟩))
           refine⟨rfl,.tuple #[.bool true,goInt pos,.int .i32 ((Utf8.decode bs pos).1:Int)],_,_,.inl ?_,?_,le,fk⟩
           · simp only[execOp,ho]
             refine b9 ?_
             simp[Instr.next,Sem.run_bind,hp,Result.andThen,lz hm,lA _ hm,bA,-bind_pure_comp]
           · simp only[ak]
             exact⟨_,rfl,by simp[aj,ak,goInt]⟩
         · rename_i bA
           obtain⟨rfl,rfl⟩:=aS ah
           refine⟨rfl,aG hr.aX (val:= .tuple #[.bool false]) ?_ ?_⟩
           · simp only[execOp,ho]
             refine b9 ?_
             simp[Instr.next,Sem.run_bind,hp,Result.andThen,lz hm,lA _ hm,bA,-bind_pure_comp]
           · simp only[ak]
             exact⟨_,rfl,by simp[aj,ak]⟩
       · simp at hs
     · exact absurd ah an
   · exact absurd ah an
 · exact absurd ah an
theorem Aa {x:Operand} {y:aP} (hr:Rel X T a μ) (ho:o.op= .move x∨o.op= .assign x) (ht:cK X x=some y) (ah: (ar E (.yp y)).run C ⟨T,μ.O⟩=some (v,σ')):σ'.T=T∧cF X o a μ σ'.O v:=by
 simp only[ar,bo] at ah
 have jJ: (execOp a.eval o).run X.P μ.w= .ok (.value (a.eval x)) μ.w:=by rcases ho with ho| ho<;>simp[execOp,ho]
 obtain⟨u,O1,k1,k2,k3,k4⟩: ∃c' O',(Act.done c').run C ⟨T,O'⟩=some (v,σ')∧ak X ⟨μ.w,μ.φ,O'⟩ c' (a.eval x)∧Le μ ⟨μ.w,μ.φ,O'⟩∧bj X ⟨μ.w,μ.φ,O'⟩:=by
  split at ah
  · exact xj hr.aX (aO hr ht μ.O) ah
  · exact ka (μ:=μ) hr.aX (aO hr ht μ.O) ah
 obtain⟨rfl,rfl⟩:=aS k1
 exact⟨rfl,a.eval x,μ.w,μ.φ,.inl jJ,k2,k3,k4⟩
end
end Go.AM
namespace Go.AM
open Go Go.RowKit
def pP.gG:pP→Bool
 | .call .. =>true
 | _=>false
section
variable {X:Ctx} {E:Env} {C:bb} {o:Oper} {a:Go.Act} {T:Nat→V} {μ:Mu} {v:V} {σ':St}
theorem FT {p:V×St} {σ:St}: (ar E .bad).run C σ≠some p:=by simp[ar,Act.run]
theorem yZ {h:Hints} {dst:Nat} {c:Call} {nq:pP} (hr:Rel X T a μ) (ho:o.op= .call c) (aM:sM X h dst c=some nq) (yV:nq.gG=false)
   (ah: (ar E nq).run C ⟨T,μ.O⟩=some (v,σ')):σ'.T=T∧cF X o a μ σ'.O v:=by
 unfold sM at aM
 split at aM
 · split at aM
   · injection aM with aM;subst aM;simp[pP.gG] at yV
   · simp at aM
 · simp at aM
 · rename_i b hc
   have iw: ∀ {α:Type} (l:Array α) (m:List α),l.toList=m→l=m.toArray:=fun l m e=>by rw[←e]
   split at aM
   · rename_i x t h1 h2
     have e1:=iw _ _ h1;have e2:=iw _ _ h2
     split at aM
     · rename_i x' e hx hd
       injection aM with aM;subst aM
       exact KZ hr ho hc e1 e2 hd hx ah
     · rename_i x' hx hd
       injection aM with aM;subst aM
       exact Be hr ho hc e1 e2 hd hx ah
     · rename_i x' n e hx hd
       injection aM with aM;subst aM
       exact Bf hr ho hc e1 e2 hd ah
     · simp at aM
   · rename_i xs _
     simp only[Option.map_eq_some_iff] at aM
     obtain⟨as,h1,rfl⟩:=aM
     exact K0 hr ho hc h1 ah
   · rename_i xs _
     simp only[Option.map_eq_some_iff] at aM
     obtain⟨as,h1,rfl⟩:=aM
     exact K1 hr ho hc h1 ah
   · rename_i s x t t' h1 h2
     have e1:=iw _ _ h1;have e2:=iw _ _ h2
     split at aM
     · rename_i s' x' e d hs hx hd BV
       split at aM
       · rename_i sz i z e' hn hi hz
         split at aM<;>simp at aM
         rename_i hb
         subst aM
         split at ah
         · exact te hr ho hc e1 e2 hd BV (by simp) hn hi hz hb hs hx ah
         · exact uT hr ho hc e1 e2 hd BV (by simp) hn hi hz hb hs hx ah
       · rename_i sz i z hn hi hz
         split at aM<;>simp at aM
         rename_i hb
         subst aM
         split at ah
         · exact te hr ho hc e1 e2 hd BV (by simp) hn hi hz hb hs hx ah
         · exact uT hr ho hc e1 e2 hd BV (by simp) hn hi hz hb hs hx ah
       · simp at aM
     · simp at aM
   · rename_i d s t t' h1 h2
     have e1:=iw _ _ h1;have e2:=iw _ _ h2
     split at aM
     · rename_i d' s' e hd hs ht
       simp only[Option.map_eq_some_iff] at aM
       obtain⟨sz,hn,rfl⟩:=aM
       exact FQ hr ho hc e1 e2 ht hn hd hs ah
     · simp at aM
   · rename_i x t h1 h2
     have e1:=iw _ _ h1;have e2:=iw _ _ h2
     split at aM
     · rename_i x' e hx hd
       split at aM
       · rename_i sz z hn hz
         injection aM with aM;subst aM
         exact Dc hr ho hc e1 e2 hd hz hx ah
       · simp at aM
     · simp at aM
   · simp at aM
theorem kQ {kt:TypeId} {q:Option IntKind} (h:pf X kt=some q): ∃d,bg X kt=some d∧gV q d:=by
 unfold pf at h
 split at h
 · rename_i k hk
   injection h with h;subst h
   exact⟨_,hk,rfl⟩
 · rename_i hk
   injection h with h;subst h
   exact⟨_,hk,rfl⟩
 · simp at h
theorem Df (lI: ∀t1 t2 k,X.iv t1=some k→X.iv t2=some k→t1=t2) {h:Hints} {dst:Nat} {nq:pP} (hr:Rel X T a μ) (aM:tX X h dst o.op=some nq) (yV:nq.gG=false)
  (ah: (ar E nq).run C ⟨T,μ.O⟩=some (v,σ')):σ'.T=T∧cF X o a μ σ'.O v:=by
 cases du:o.op<;>simp only[tX,du] at aM<;>try (simp at aM;done)
 case move x=>
  split at aM
  · simp only[Option.map_eq_some_iff] at aM
    obtain⟨y,h1,rfl⟩:=aM
    exact z6 hr (.inl du) h1 ah
  · split at aM
    ·  simp only[Option.map_eq_some_iff] at aM
       obtain⟨y,h1,rfl⟩:=aM
       exact Aa hr (.inl du) h1 ah
    · exact GK hr (.inl du) aM ah
 case assign x=>
  split at aM
  · simp only[Option.map_eq_some_iff] at aM
    obtain⟨y,h1,rfl⟩:=aM
    exact z6 hr (.inr du) h1 ah
  · split at aM
    ·  simp only[Option.map_eq_some_iff] at aM
       obtain⟨y,h1,rfl⟩:=aM
       exact Aa hr (.inr du) h1 ah
    · exact GK hr (.inr du) aM ah
 case pick c p q=>
  split at aM
  · rename_i c' p' q' h1 h2 h3
    injection aM with aM;subst aM
    exact FH hr du h1 h2 h3 ah
  · simp at aM
 case alloc t=>
  split at aM
  · rename_i sz z h1 h2
    injection aM with aM;subst aM
    exact C0 _ hr du h2 ah
  · simp at aM
 case box t x=>
  split at aM
  · rename_i sz y h1 h2
    injection aM with aM;subst aM
    exact K2 _ hr du h2 ah
  · simp at aM
 case build t ps=>
  split at aM
  · rename_i z fs h1 h2
    split at aM
    · simp at aM
    ·  rename_i oX
       simp only[Option.map_eq_some_iff] at aM
       obtain⟨as,h3,rfl⟩:=aM
       exact Bi _ hr du h1 h2 (by revert oX;cases fs.toList.all (fun f=> (bz X f.type).isSome) <;>simp) h3 ah
  · rename_i z n e h1 h2
    split at aM
    ·  rename_i s hs
       simp only[Option.map_eq_some_iff] at aM
       obtain⟨as,h3,rfl⟩:=aM
       exact Bj _ hr du h1 h2 hs h3 ah
    · simp at aM
  · simp at aM
 case buildSlice t n ps=>
  split at aM
  · rename_i e hd
    split at aM
    ·  rename_i sz z as h1 h2 h3
       injection aM with aM;subst aM
       split at ah
       · exact td hr du hd h1 h2 h3 ah
       · split at ah
         · exact s9 hr du hd h1 h2 h3 ah
         · exact nL hr du hd h1 h2 h3 ah
    · simp at aM
  · simp at aM
 case load t x=>
  split at aM
  · rename_i g sz y h1 h2 h3
    injection aM with aM;subst aM
    split at ah
    · exact zZ hr du h3 h1 h2 ah
    · exact CV _ hr du h3 h1 h2 ah
  · simp at aM
 case store t x y=>
  split at aM
  · rename_i g sz x' y' h1 h2 h3 h4
    injection aM with aM;subst aM
    exact C3 hr du h3 h4 h2 ah
  · simp at aM
 case nilCheck x=>
  simp only[Option.map_eq_some_iff] at aM
  obtain⟨y,h1,rfl⟩:=aM
  exact wU hr du h1 ah
 case binOp op t x y t2=>
  split at aM
  · rename_i x' y' h1 h2
    unfold zT at aM
    split at aM
    ·  rename_i heq
       have Dg:op= .eql∨op= .neq:=by cases op<;>simp[CN] at heq<;>simp
       split at aM
       · rename_i hd
         injection aM with aM;subst aM
         exact KV hr du Dg hd h1 h2 rfl ah
       · injection aM with aM;subst aM
         exact yM hr du h1 h2 ah
       · injection aM with aM;subst aM
         exact yM hr du h1 h2 ah
       · rename_i ms hd
         injection aM with aM;subst aM
         exact KX hr du Dg ⟨_,hd⟩ lI h1 h2 rfl ah
       · rename_i e hd
         split at aM
         · rename_i n cE
           injection aM with aM;subst aM
           exact KY hr du Dg hd cE h1 h2 rfl ah
         · simp at aM
       · rename_i fs hd
         split at aM
         · rename_i hg
           simp only[Option.map_eq_some_iff] at aM
           obtain⟨ks,h3,rfl⟩:=aM
           exact CU hr du Dg hg h3 (by simp[fU,hd]) h1 h2 rfl ah
         · simp at aM
       · rename_i hd
         split at aM
         · rename_i hg
           simp only[Option.map_eq_some_iff] at aM
           obtain⟨ks,h3,rfl⟩:=aM
           exact CU hr du Dg hg h3 (by simp[fU,hd]) h1 h2 rfl ah
         · simp at aM
       · simp at aM
    ·  injection aM with aM;subst aM
       exact yM hr du h1 h2 ah
  · simp at aM
 case unOp op t x=>
  simp only[Option.map_eq_some_iff] at aM
  obtain⟨y,h1,rfl⟩:=aM
  exact QA hr du h1 ah
 case convert s d x=>
  split at aM
  · rename_i k0 k y h1 h2 h3
    injection aM with aM;subst aM
    exact yO hr du h1 h2 h3 ah
  · rename_i k0 y h1 h2 h3
    injection aM with aM;subst aM
    exact Bc hr du h1 h2 h3 ah
  · rename_i k y h1 h2 h3
    injection aM with aM;subst aM
    exact Bd hr du h1 h2 h3 ah
  · rename_i y h1 h2 h3
    injection aM with aM;subst aM
    exact yP hr du h1 h2 h3 ah
  · simp at aM
 case makeInterface t x=>
  split at aM
  · simp at aM
  · rename_i n y d c9 h1 h2 h3
    injection aM with aM;subst aM
    exact qq hr du h1 h2 ⟨_,h3,fun ms e=>c9 ms e⟩ ah
  · simp at aM
 case typeAssert x t0 t ok=>
  split at aM
  · simp at aM
  · rename_i n y z d c9 h1 h2 h3 h4
    injection aM with aM;subst aM
    exact Bk hr du lI h1 h2 h3 ⟨_,h4,fun ms e=>c9 ms e⟩ ah
  · simp at aM
 case makeFunc fn first caps=>
  cases fn<;>simp only at aM<;>try (simp at aM;done)
  split at aM
  · rename_i hf
    split at aM
    ·  rename_i n cs h1 h2
       injection aM with aM;subst aM
       exact wV hr du hf h1 h2 ah
    · simp at aM
  · simp at aM
 case makeSlice t l c=>
  split at aM
  · rename_i e hd
    split at aM
    ·  rename_i sz i z l' c' h1 h2 h3 h4 h5
       injection aM with aM;subst aM
       exact vP hr du hd h1 h2 h3 h4 h5 ah
    · simp at aM
  · simp at aM
 case slice t x lo hi mx=>
  split at aM
  · rename_i e x' GN yc UH hd h1 h2 h3 h4
    simp only[Option.map_eq_some_iff] at aM
    obtain⟨sz,hn,rfl⟩:=aM
    exact CW hr du hd hn h1 h2 h3 h4 ah
  · rename_i x' GN yc hd h1 h2 h3 h4
    injection aM with aM;subst aM
    have QE:mx=none:=by
       cases mx with
       | none=>rfl
       | some m=>simp[qo] at h4
    subst QE
    exact w6 hr du hd h1 h2 h3 ah
  · simp at aM
 case fieldAddr s x i=>
  split at aM
  · rename_i fs y hd h1
    split at aM
    ·  rename_i f hf
       split at aM
       · rename_i n hn
         injection aM with aM;subst aM
         exact vL hr du h1 hd hf hn ah
       · simp at aM
    · simp at aM
  · simp at aM
 case field s x i=>
  split at aM
  · rename_i fs y hd h1
    split at aM
    ·  rename_i f hf
       split at aM
       · rename_i g sz h2 h3
         injection aM with aM;subst aM
         exact CQ hr du h1 hd hf h2 h3 ah
       · simp at aM
    · simp at aM
  · simp at aM
 case indexAddr t x i=>
  split at aM
  · rename_i e x' i' hd h1 h2
    simp only[Option.map_eq_some_iff] at aM
    obtain⟨sz,hn,rfl⟩:=aM
    exact vM hr du hd hn h1 h2 ah
  · rename_i n e x' i' hd h1 h2
    simp only[Option.map_eq_some_iff] at aM
    obtain⟨sz,hn,rfl⟩:=aM
    exact wZ hr du hd hn h1 h2 ah
  · simp at aM
 case index t x i=>
  split at aM
  · rename_i x' i' hd h1 h2
    injection aM with aM;subst aM
    exact w4 hr du hd h1 h2 ah
  · rename_i n e x' i' hd h1 h2
    split at aM
    ·  rename_i g sz h3 h4
       injection aM with aM;subst aM
       exact w5 hr du hd h3 h4 h1 h2 ah
    · simp at aM
  · simp at aM
 case extract x i=>
  simp only[Option.map_eq_some_iff] at aM
  obtain⟨y,h1,rfl⟩:=aM
  exact yK hr du h1 ah
 case makeMap t rs=>
  cases rs with
  | some _=>simp at aM
  | none=>
    injection aM with aM;subst aM
    exact De hr du rfl ah
 case range t x=>
  split at aM
  · rename_i x' hd h1
    injection aM with aM;subst aM
    exact yW hr du hd h1 ah
  · rename_i x' hd h1
    injection aM with aM;subst aM
    exact yX hr du hd h1 ah
  · simp at aM
 case next x isS=>
  cases isS with
  | false=>simp at aM
  | true=>
    simp only[Option.map_eq_some_iff] at aM
    obtain⟨y,h1,rfl⟩:=aM
    exact yY hr du h1 ah
 case lookup t x i ok=>
  split at aM
  · rename_i kt et x' i' hd h1 h2
    split at aM
    ·  rename_i q z hq hz
       injection aM with aM;subst aM
       obtain⟨d,FR,hk⟩:=kQ hq
       exact Bn hr du hd FR hk hz h1 h2 ah
    · simp at aM
  · simp at aM
 case mapUpdate t m k v=>
  split at aM
  · rename_i kt et m' k' v' hd h1 h2 h3
    simp only[Option.map_eq_some_iff] at aM
    obtain⟨q,hq,rfl⟩:=aM
    obtain⟨d,FR,hk⟩:=kQ hq
    exact uU hr (.inl du) hd FR hk h1 h2 h3 ah
  · simp at aM
 case insert t m k v=>
  split at aM
  · rename_i kt et m' k' v' hd h1 h2 h3
    simp only[Option.map_eq_some_iff] at aM
    obtain⟨q,hq,rfl⟩:=aM
    obtain⟨d,FR,hk⟩:=kQ hq
    exact uU hr (.inr du) hd FR hk h1 h2 h3 ah
  · simp at aM
 case call c=>exact yZ hr du aM yV ah
end
end Go.AM
namespace Go.AM
open Go Go.RowKit
def my (X:Ctx) (E:Env) (C:bb):Prop:= ∀ (h:Hints) (dst:Nat) (o:Oper) (nq:pP) (a:Go.Act) (T:Nat→V) (μ:Mu) (v:V) (σ':St),Rel X T a μ→tX X h dst o.op=some nq→
 (ar E nq).run C ⟨T,μ.O⟩=some (v,σ')→σ'.T=T∧ ∀ (next:Go.Act→World→Prop) (Q:Go.Exit→Go.Act→World→Prop),
   (∀val w' φ',ak X ⟨w',φ',σ'.O⟩ v val→Le μ ⟨w',φ',σ'.O⟩→bj X ⟨w',φ',σ'.O⟩→next (a.put o.dst val) w')→o.wp X.P a μ.w next Q
structure Fp where
 tm:Nat
 fl:Nat
 ro:Option Nat
def Marks (n:Fp) (w:World) (ds:List Deferred):Prop:=(n.fl≤w.heap.size∧ ∀l,n.ro=some l→ ∃L,w.heap[l]? =some (.loop L))∧ ∃Ds:List Nat,ds=Ds.map (fun D=> {target:= .collected D,args:= #[]})∧Ds.Nodup∧ ∀D ∈ Ds,n.fl≤D∧w.heap[D]? =some (.deferred (some []))
theorem Marks.nil {n:Fp} {w:World} (h:n.fl≤w.heap.size) (hl: ∀l,n.ro=some l→ ∃L,w.heap[l]? =some (.loop L)):Marks n w []:=⟨⟨h,hl⟩,[],rfl,.nil,by simp⟩
theorem dV {X:Ctx} {μ:Mu} (ho:bj X μ) {D:Nat} {o:Go.Obj} (hD:μ.w.heap[D]? =some o) (h1:o.isCells=false) (h2:o.isWalk=false): ¬μ.own D:=by
 rintro⟨r,hr,_,hc,hb⟩
 obtain⟨es,bJ⟩:=Option.isSome_iff_exists.1 hr
 rcases ho.ok r es bJ with⟨_,_,_,h4⟩ | ⟨_,_,ob,h3,h4⟩
 · rcases h4 with h4| ⟨c,T,vs,k1,_⟩
   · exact hc h4
   · rw[hb,hD] at k1;injection k1 with k1;subst k1;simp[Obj.isCells] at h1
 · rw[hb,hD] at h3;injection h3 with h3;subst h3
   rcases h4 with⟨_,_,rfl,_⟩ | ⟨_,_,rfl,_⟩ | ⟨_,_,_,rfl,_⟩ <;>simp[Obj.isWalk] at h2
theorem Marks.le {X:Ctx} {μ μ':Mu} {n:Fp} {ds:List Deferred} (h:Marks n μ.w ds) (ho:bj X μ) (le:Le μ μ'):Marks n μ'.w ds:=by
 obtain⟨⟨h0,jy⟩,Ds,h1,h2,h3⟩:=h
 refine⟨⟨Nat.le_trans h0 le.size,fun l hl=>by
  obtain⟨L,k⟩:=jy l hl
  exact⟨L,(le.cA l (Array.getElem?_eq_some_iff.1 k).1 (dV ho k rfl rfl)).1.trans k⟩⟩,Ds,h1,h2,fun D hD=> ⟨(h3 D hD).1,?_⟩⟩
 have k:=(h3 D hD).2
 rw[(le.cA D (Array.getElem?_eq_some_iff.1 k).1 (dV ho k rfl rfl)).1]
 exact k
structure iE (X:Ctx) (μ0:Mu) (n:Fp) (σ:St) (a:Go.Act) (w:World):Prop where
 defers:Marks n w a.defers
 size:a.tmps.size=n.1
 rel: ∃φ,Rel X σ.T a ⟨w,φ,σ.O⟩∧Le μ0 ⟨w,φ,σ.O⟩
section
variable {X:Ctx} {E:Env} {C:bb} {μ0:Mu} {n:Fp}
theorem nc {T:Nat→V} {a:Go.Act} {μ μ':Mu} {dst:Option Nat} {v:V} {val:Value} (hr:Rel X T a μ) (le:Le μ μ') (ho:bj X μ') (hv:ak X μ' v val) (hd:dst.all (· <a.tmps.size)=true) (O:Nat→Obj):
   Rel X (St.put ⟨T,O⟩ dst v).T (a.put dst val) μ':=by
 refine⟨fun t=> ?_,ho⟩
 cases dst with
 | none=>exact ak.mono le (hr.tmps t)
 | some d=>
   simp at hd
   simp only[St.put,Go.Act.put,cW]
   split
   · rename_i e
     subst e
     have: (a.tmps.setIfInBounds t val).getD t undef=val:=by simp[hd]
     rw[this];exact hv
   · rename_i c9
     have: (a.tmps.setIfInBounds d val).getD t undef=a.tmps.getD t undef:=by
      simp[Array.getElem?_setIfInBounds_ne (fun e=>c9 e.symm)]
     rw[this];exact ak.mono le (hr.tmps t)
theorem ke (a:Go.Act) (dst:Option Nat) (v:Value): (a.put dst v).tmps.size=a.tmps.size:=by cases dst<;>simp[Go.Act.put]
theorem put_defers (a:Go.Act) (dst:Option Nat) (v:Value): (a.put dst v).defers=a.defers:=by cases dst<;>simp[Go.Act.put]
theorem qy {μ:Mu}:ak X μ dp undef:=by simp only[dp,ak];exact⟨#[],rfl,by simp[aj]⟩
theorem ou (    H:my X E C) {h:Hints} {ops:Array Oper} {i:Nat} {o:Oper} {ao:bq} {σ σ':St} {a:Go.Act} {w:World} {K:Go.Act→World→Prop} {Q:Go.Exit→Go.Act→World→Prop}
   (ho:ops[i]? =some o) (aM:mf X h ops o=some ao) (hn:h.n=n.1) (hs:iE X μ0 n σ a w) (ah:ep E C ao σ=some σ') (hK: ∀a' w',iE X μ0 n σ' a' w'→K a' w'):
   wpOpIn (Fr n.ro) 0 X.P ops Q i K a w:=by
 obtain⟨iK,cE,φ,hr,hle⟩:=hs
 unfold mf at aM
 simp only at aM
 split at aM
 · rename_i g hg Wf
   injection aM with aM
   subst aM
   have hd:o.dst.all (· <a.tmps.size)=true:=by rw[cE,←hn];exact Wf
   simp only[ep] at ah
   split at ah
   · rename_i v σ1 ub
     injection ah with ah
     subst ah
     have runs: (ar E ((tX X h (o.dst.getD 0) o.op).getD .bad)).run C σ=some (v,σ1)→o.wpIn (Fr n.ro) 0 X.P a w K Q:=fun du=>by
       cases Dh:tX X h (o.dst.getD 0) o.op with
       | none=>rw[Dh] at du;exact absurd du FT
       | some nq=>
         rw[Dh] at du
         obtain⟨hT,Wg⟩:=H h _ o nq a σ.T ⟨w,φ,σ.O⟩ v σ1 hr Dh du
         refine vU (fun c e=>by rw[e] at Dh;simp[tX] at Dh) (Wg K Q fun val w' φ' hv le fk=>hK _ _ ⟨by rw[put_defers];exact iK.le hr.aX le,by rw[ke];exact cE,φ',?_,?_⟩)
         · have:=nc hr le fk hv hd σ1.O
           rw[←hT] at this
           have e: (σ1.put o.dst v).O=σ1.O:=by cases o.dst<;>rfl
           rw[e];exact this
         · have e: (σ1.put o.dst v).O=σ1.O:=by cases o.dst<;>rfl
           rw[e];exact hle.trans le
     have GR:v=dp→σ1=σ→K (a.put o.dst undef) w:=fun hv hσ=>by
       subst hv;subst hσ
       refine hK _ _ ⟨by rw[put_defers];exact iK,by rw[ke];exact cE,φ,?_,?_⟩
       · have:=nc hr (Le.refl _) hr.aX qy hd σ1.O
         have e: (σ1.put o.dst dp).O=σ1.O:=by cases o.dst<;>rfl
         rw[e];exact this
       · have e: (σ1.put o.dst dp).O=σ1.O:=by cases o.dst<;>rfl
         rw[e];exact hle
     simp only[wpOpIn,ho]
     cases yN:o.guard with
     | none=>
       rw[yN] at hg
       injection hg with hg
       subst hg
       rw[if_pos (by simp[Region.wanted,yN])]
       exact runs (by simpa [dr] using ub)
     | some gw=>
       obtain⟨j,want⟩:=gw
       rw[yN] at hg
       simp only at hg
       split at hg
       · rename_i d XI
         injection hg with hg
         subst hg
         simp only[dr,Act.run] at ub
         have hv:=hr.tmps d
         split at ub
         · rename_i b hb
           rw[hb] at hv
           simp only[ak] at hv
           have bA:d<a.tmps.size:=by
             rcases Nat.lt_or_ge d a.tmps.size with hl| hl
             · exact hl
             · simp[Array.getElem?_eq_none hl,undef] at hv
           have Wh:a.tmps[d]? =some (.bool b):=by
             rw[Array.getElem?_eq_getElem bA]
             simp[Array.getElem?_eq_getElem bA] at hv
             rw[hv]
           have hy:yielded ops a.tmps j=some b:=by simp[yielded,XI,Wh]
           split at ub
           · rename_i Mf
             rw[if_pos (by simp[Region.wanted,yN,hy,Mf])]
             exact runs ub
           · rename_i Mf
             rw[if_neg (by simp[Region.wanted,yN,hy,Mf])]
             obtain⟨e1,e2⟩:=aS ub
             exact⟨fun _ _=>trivial,GR e1.symm e2⟩
         · rename_i hb
           rw[hb] at hv
           simp only[ak] at hv
           obtain⟨vs,rZ,hv0⟩:=hv
           have hy:yielded ops a.tmps j=none:=by
             simp only[yielded,XI,Option.bind_some]
             cases hq:a.tmps[d]? with
             | none=>rfl
             | some x=>
               have:x= .tuple vs:=by simpa [hq] using rZ
               rw[this]
           rw[if_neg (by simp[Region.wanted,yN,hy])]
           obtain⟨e1,e2⟩:=aS ub
           exact⟨fun _ _=>trivial,GR e1.symm e2⟩
         · exact absurd ub an
       · simp at hg
   · simp at ah
 · simp at aM
theorem jM {h:Hints} {ops:Array Oper}: ∀ {l:List Oper} {as:List bq},fp X h ops l=some as→as.length=l.length∧ ∀ (i:Nat) o,l[i]? =some o→ ∃ao,as[i]? =some ao∧mf X h ops o=some ao
 | [],as,h'=>by simp[fp] at h';subst h';simp
 | o::l,as,h'=>by
   simp only[fp] at h'
   split at h'
   · rename_i ao UJ h1 h2
     injection h' with h';subst h'
     obtain⟨k1,k2⟩:=jM h2
     refine⟨by simp[k1],fun i o' hi=> ?_⟩
     cases i with
     | zero=>simp at hi;subst hi;exact⟨ao,by simp,h1⟩
     | succ i=>simpa using k2 i o' (by simpa using hi)
   · simp at h'
theorem Bq {ao:bq} {σ:St} {p:List Nat}:ep E C {ao with pre:=p} σ=ep E C ao σ:=rfl
theorem ej (H:my X E C) {h:Hints} {ops:Array Oper} {as:List bq} (hn:h.n=n.1) (aM:fp X h ops ops.toList=some as) {Q:Go.Exit→Go.Act→World→Prop}:
   ∀ (m k:Nat),k+m=ops.size→ ∀ {σ σ':St} {a:Go.Act} {w:World},iE X μ0 n σ a w→ig E C ((as.drop k).map fun o=> {o with pre:=[]}) σ=some σ'→
     (∀a' w',iE X μ0 n σ' a' w'→Q .normal a' w')→wpOpsIn (Fr n.ro) 0 X.P ops Q (List.range' k m) a w
 | 0,k,hk,σ,σ',a,w,hs,ah,hQ=>by
   obtain⟨hl,_⟩:=jM aM
   have:as.drop k=[]:=by simp at hl;simp;omega
   rw[this] at ah
   simp[ig] at ah
   subst ah
   simpa [wpOpsIn] using hQ a w hs
 | m+1,k,hk,σ,σ',a,w,hs,ah,hQ=>by
   obtain⟨hl,qx⟩:=jM aM
   have Uy:k<ops.size:=by omega
   obtain⟨ao,Bs,kf⟩:=qx k ops[k] (by simp[Uy])
   have XJ:k<as.length:=by simp at hl;omega
   have hd:as.drop k=ao::as.drop (k+1):=by
     rw[List.drop_eq_getElem_cons XJ]
     rw[List.getElem?_eq_getElem XJ] at Bs
     injection Bs with Bs;rw[Bs]
   rw[hd] at ah
   simp only[List.map_cons,ig,Bq] at ah
   split at ah
   · rename_i σ1 h1
     rw[List.range'_succ,wpOpsIn_cons]
     refine ou H (o:=ops[k]) (by simp[Uy]) kf hn hs h1 fun a' w' jY=> ?_
     exact ej H hn aM m (k+1) (by omega) jY ah hQ
   · simp at ah
end
end Go.AM
namespace Go.AM
open Go Go.RowKit
inductive Cell where
 | v (x:V)
 | o (x:Obj)
def St.at (σ:St):Loc→Cell
 | .t n=> .v (σ.T n)
 | .o n=> .o (σ.O n)
theorem St.ext' {σ τ:St} (h: ∀l,σ.at l=τ.at l):σ=τ:=by
 cases σ;cases τ
 congr
 · funext n;have:=h (.t n);simpa [St.at] using this
 · funext n;have:=h (.o n);simpa [St.at] using this
theorem kh {C:bb}: ∀ (act:Act) {σ τ σ':St} {v:V},act.run C σ=some (v,σ')→(∀l ∈ (act.dB C σ).reads,σ.at l=τ.at l)→
   ∃τ',act.run C τ=some (v,τ')∧act.dB C τ=act.dB C σ∧ ∀l,(l ∈ (act.dB C σ).writes→τ'.at l=σ'.at l)∧(l ∉ (act.dB C σ).writes→τ'.at l=τ.at l∧σ'.at l=σ.at l)
 | .done u,σ,τ,σ',v,h,_=>by
   simp only[Act.run,Option.some.injEq,Prod.mk.injEq] at h
   obtain⟨rfl,rfl⟩:=h
   exact⟨τ,rfl,rfl,fun l=> ⟨fun hl=>by simp[Act.dB] at hl,fun _=> ⟨rfl,rfl⟩⟩⟩
 | .fail,_,_,_,_,h,_=>by simp[Act.run] at h
 | .lE t k,σ,τ,σ',v,h,hr=>by
   simp only[Act.run] at h
   have e:σ.T t=τ.T t:=by have:=hr (.t t) (by simp[Act.dB]);simpa [St.at] using this
   obtain⟨τ',h1,h2,h3⟩:=kh (k (σ.T t)) h (fun l hl=>hr l (by simp[Act.dB,hl]))
   exact⟨τ',by simp only[Act.run,←e];exact h1,by simp only[Act.dB,←e,h2],by simpa [Act.dB] using h3⟩
 | .bR r k,σ,τ,σ',v,h,hr=>by
   simp only[Act.run] at h
   have e:σ.O r=τ.O r:=by have:=hr (.o r) (by simp[Act.dB]);simpa [St.at] using this
   obtain⟨τ',h1,h2,h3⟩:=kh (k (σ.O r)) h (fun l hl=>hr l (by simp[Act.dB,hl]))
   exact⟨τ',by simp only[Act.run,←e];exact h1,by simp only[Act.dB,←e,h2],by simpa [Act.dB] using h3⟩
 | .bC r o k,σ,τ,σ',v,h,hr=>by
   simp only[Act.run] at h
   obtain⟨τ',h1,h2,h3⟩:=kh k (τ:={τ with O:=cW τ.O r o}) h (fun l hl=>by
     have:=hr l (by simp[Act.dB,hl])
     cases l with
     | t n=>simpa [St.at] using this
     | o n=>
       simp only[St.at,Cell.o.injEq] at this ⊢
       by_cases hn:n=r
       · subst hn;simp[aA]
       · simp[aU _ _ hn,this])
   refine⟨τ',by simp only[Act.run];exact h1,by simp only[Act.dB,h2],fun l=> ⟨fun hl=> ?_,fun hl=> ?_⟩⟩
   · simp only[Act.dB,List.mem_cons] at hl
     by_cases hw:l ∈ (k.dB C {σ with O:=cW σ.O r o}).writes
     · exact(h3 l).1 hw
     · obtain⟨e1,e2⟩:=(h3 l).2 hw
       rcases hl with rfl| hl
       · rw[e1,e2];simp[St.at,aA]
       · exact absurd hl hw
   · simp only[Act.dB,List.mem_cons,not_or] at hl
     obtain⟨e1,e2⟩:=(h3 l).2 hl.2
     rw[e1,e2]
     cases l with
     | t n=>simp[St.at]
     | o n=>
       have hn:n≠r:=fun e=>hl.1 (by rw[e])
       simp[St.at,aU _ _ hn]
 | .call f as k,σ,τ,σ',v,h,hr=>by
   simp only[Act.run] at h
   split at h
   · rename_i res lK
     obtain⟨τ',h1,h2,h3⟩:=kh (k res) h (fun l hl=>hr l (by simp[Act.dB,lK,hl]))
     exact⟨τ',by simp only[Act.run,lK];exact h1,by simp only[Act.dB,lK,h2],by simpa [Act.dB,lK] using h3⟩
   · simp at h
theorem Di (σ:St) (dst:Option Nat) (v:V) (l:Loc): (σ.put dst v).at l=if dst.any (fun d=>l= .t d) then .v v else σ.at l:=by
 cases dst with
 | none=>simp[St.put]
 | some d=>
   cases l with
   | t n=>
     simp only[St.put,St.at,cW,Option.any_some,Loc.t.injEq]
     by_cases h:n=d<;>simp[h]
   | o n=>simp[St.put,St.at]
theorem re {E:Env} {C:bb} {o:bq} {σ τ σ':St} (h:ep E C o σ=some σ') (hr: ∀l ∈ (cL E C o σ).reads,σ.at l=τ.at l):
   ∃τ',ep E C o τ=some τ'∧ ∀l,(l ∈ (cL E C o σ).writes→τ'.at l=σ'.at l)∧(l ∉ (cL E C o σ).writes→τ'.at l=τ.at l∧σ'.at l=σ.at l):=by
 simp only[ep] at h
 split at h
 · rename_i v σ1 ub
   injection h with h
   subst h
   obtain⟨τ1,h1,h2,h3⟩:=kh (dr E o) ub hr
   refine⟨τ1.put o.dst v,by simp only[ep,h1],fun l=> ?_⟩
   rw[Di,Di]
   have hw: (cL E C o σ).writes=(match o.dst with| some d=> [Loc.t d] | none=> [])++((dr E o).dB C σ).writes:=rfl
   rw[hw]
   cases hd:o.dst with
   | none=>simpa using h3 l
   | some d=>
     by_cases hl:l= .t d
     · subst hl;simp
     · refine⟨fun hm=> ?_,fun hm=> ?_⟩
       · simp[hl] at hm
         simp[hl]
         exact(h3 l).1 hm
       · simp[hl] at hm
         simp[hl]
         exact(h3 l).2 hm
 · simp at h
structure Trace (E:Env) (C:bb) (as:List bq) (S:Nat→St) (F:Nat→dZ) (W:Nat→List Nat):Prop where
 step: ∀ (i:Nat) ao,as[i]? =some ao→ep E C ao (S i)=some (S (i+1))∧F i=cL E C ao (S i)∧W i=ao.pre++ao.pre.flatMap W∧(∀p ∈ ao.pre,p<i)∧
  ∀j,j<i→j ∈ W i∨(F j).lj (F i)=false
theorem xl {bV:List dZ} {wait:List Nat} {f:dZ}: ∀ {k:Nat},fits bV wait f k=true→ ∀j,j<k→j ∈ wait∨(bV.getD j ⟨[],[]⟩).lj f=false
 | 0,_,j,hj=>by omega
 | k+1,h,j,hj=>by
   simp only[fits,Bool.and_eq_true,Bool.or_eq_true,Bool.not_eq_true'] at h
   by_cases e:j=k
   · subst e
     rcases h.1 with h1| h1
     · exact .inl (by simpa using h1)
     · exact .inr h1
   · exact xl h.2 j (by omega)
theorem mz {α β:Type} {f g:α→List β}: ∀ {l:List α},(∀x ∈ l,f x=g x)→l.flatMap f=l.flatMap g
 | [],_=>rfl
 | x::l,h=>by
   simp only[List.flatMap_cons]
   rw[h x (by simp),mz fun y hy=>h y (by simp[hy])]
theorem rf {  E:Env} {C:bb}: ∀ (l:List bq) (bV:List dZ) (before:List (List Nat)) (σ σ':St),bV.length=before.length→dw E C l bV before σ=some σ'→
   ∃ (S:Nat→St) (F:Nat→dZ) (W:Nat→List Nat),S bV.length=σ∧S (bV.length+l.length)=σ'∧(∀k,k<bV.length→F k=bV.getD k ⟨[],[]⟩∧W k=before.getD k [])∧
     ∀ (i:Nat) ao,l[i]? =some ao→ep E C ao (S (bV.length+i))=some (S (bV.length+i+1))∧F (bV.length+i)=cL E C ao (S (bV.length+i))∧
       W (bV.length+i)=ao.pre++ao.pre.flatMap W∧(∀p ∈ ao.pre,p<bV.length+i)∧ ∀j,j<bV.length+i→j ∈ W (bV.length+i)∨(F j).lj (F (bV.length+i))=false
 | [],bV,before,σ,σ',hl,h=>by
   simp only[dw,Option.some.injEq] at h
   subst h
   exact⟨fun _=>σ,fun k=>bV.getD k ⟨[],[]⟩,fun k=>before.getD k [],rfl,rfl,fun k _=> ⟨rfl,rfl⟩,fun i ao hi=>by simp at hi⟩
 | o::l,bV,before,σ,σ',hl,h=>by
   simp only[dw] at h
   split at h
   · rename_i hf
     simp only[Bool.and_eq_true,List.all_eq_true,decide_eq_true_eq] at hf
     split at h
     · rename_i σ1 h1
       obtain⟨S,F,W,s1,s2,s3,s4⟩:=rf l (bV++[cL E C o σ]) (before++[closure before o.pre]) σ1 σ' (by simp[hl]) h
       simp only[List.length_append,List.length_singleton] at s1 s2 s3 s4
       let S':Nat→St:=fun k=>if k=bV.length then σ else S k
       have e1:S' (bV.length+1)=σ1:=by simp[S',s1]
       have e2: ∀k,bV.length<k→S' k=S k:=fun k hk=>by simp[S'];intro e;omega
       have Mh:F bV.length=cL E C o σ:=by
         have:=(s3 bV.length (by omega)).1
         simpa using this
       have XK:W bV.length=closure before o.pre:=by
         have:=(s3 bV.length (by omega)).2
         rw[hl] at this
         simpa [hl] using this
       have QP: ∀k,k<bV.length→W k=before.getD k []:=fun k hk=>by
         have:=(s3 k (by omega)).2
         rw[this]
         simp[List.getElem?_append_left (show k<before.length by omega)]
       have QQ: ∀k,k<bV.length→F k=bV.getD k ⟨[],[]⟩:=fun k hk=>by
         have:=(s3 k (by omega)).1
         rw[this]
         simp[List.getElem?_append_left hk]
       refine⟨S',F,W,by simp[S'],?_,fun k hk=> ⟨QQ k hk,QP k hk⟩,fun i ao hi=> ?_⟩
       · rw[e2 _ (by simp)]
         rw[←s2];congr 1;simp;omega
       · cases i with
         | zero=>
           simp at hi
           subst hi
           simp only[Nat.add_zero]
           have hS:S' bV.length=σ:=by simp[S']
           rw[hS,e1]
           refine⟨h1,Mh,?_,hf.2,fun j hj=> ?_⟩
           · rw[XK,closure]
             congr 1
             apply mz
             intro p hp
             exact(QP p (hf.2 p hp)).symm
           · rw[Mh,XK,QQ j hj]
             exact xl hf.1 j hj
         | succ i=>
           have:=s4 i ao (by simpa using hi)
           have ea:bV.length+1+i=bV.length+(i+1):=by omega
           rw[ea] at this
           rw[e2 _ (by omega),e2 _ (by omega)]
           exact this
     · simp at h
   · simp at h
def kR (S:Nat→St) (F:Nat→dZ) (D:Nat→Bool) (l:Loc):Nat→Cell
 | 0=> (S 0).at l
 | i+1=>if D i=true∧l ∈ (F i).writes then(S (i+1)).at l else kR S F D l i
theorem ov {S:Nat→St} {F:Nat→dZ} {D D':Nat→Bool} {l:Loc}: ∀ {n:Nat},(∀i,i<n→l ∈ (F i).writes→D i=D' i)→kR S F D l n=kR S F D' l n
 | 0,_=>rfl
 | n+1,h=>by
   simp only[kR]
   rw[ov fun i hi=>h i (by omega)]
   by_cases hl:l ∈ (F n).writes
   · rw[h n (by omega) hl]
   · simp[hl]
theorem nd {  S:Nat→St} {F:Nat→dZ} {D:Nat→Bool} {l:Loc} {m:Nat}: ∀ {n:Nat},m≤n→(∀i,m≤i→i<n→l ∈ (F i).writes→D i=false)→kR S F D l n=kR S F D l m
 | 0,h,_=>by have:m=0:=by omega
             subst this;rfl
 | n+1,h,hh=>by
   by_cases e:m=n+1
   · subst e;rfl
   · simp only[kR]
     rw[if_neg (by rintro⟨h1,h2⟩;have:=hh n (by omega) (by omega) h2;simp[this] at h1)]
     exact nd (by omega) fun i h1 h2=>hh i h1 (by omega)
theorem tg {E:Env} {C:bb} {as:List bq} {S:Nat→St} {F:Nat→dZ} {W:Nat→List Nat} (tr:Trace E C as S F W) {D:Nat→Bool} {l:Loc}:
   ∀ {n:Nat},n≤as.length→(∀i,i<n→D i=true)→kR S F D l n=(S n).at l
 | 0,_,_=>rfl
 | n+1,hn,hD=>by
   obtain⟨ao,Bs⟩: ∃ao,as[n]? =some ao:=⟨as[n],List.getElem?_eq_getElem (by omega)⟩
   obtain⟨h1,h2,_⟩:=tr.step n ao Bs
   simp only[kR,hD n (by omega),true_and]
   split
   · rfl
   · rename_i hl
     rw[tg tr (by omega) fun i hi=>hD i (by omega)]
     obtain⟨_,_,h3⟩:=re h1 (τ:=S n) fun _ _=>rfl
     rw[h2] at hl
     exact((h3 l).2 hl).2.symm
theorem th {a b:dZ} {l:Loc} (h: (l ∈ a.writes∧l ∈ b.writes)∨(l ∈ a.writes∧l ∈ b.reads)∨(l ∈ a.reads∧l ∈ b.writes)):a.lj b=true:=by
 simp only[dZ.lj,meets,Bool.or_eq_true,List.any_eq_true,List.contains_iff_mem]
 rcases h with⟨h1,h2⟩ | ⟨h1,h2⟩ | ⟨h1,h2⟩
 · exact .inl (.inl ⟨l,h1,h2⟩)
 · exact .inl (.inr ⟨l,h1,h2⟩)
 · exact .inr ⟨l,h1,h2⟩
structure mA (S:Nat→St) (F:Nat→dZ) (W:Nat→List Nat) (m:Nat) (D:Nat→Bool) (τ:St):Prop where
 closed: ∀i,D i=true→ ∀p ∈ W i,D p=true
 state: ∀l,τ.at l=kR S F D l m
theorem uc {E:Env} {C:bb} {as:List bq} {S:Nat→St} {F:Nat→dZ} {W:Nat→List Nat} (tr:Trace E C as S F W) {D:Nat→Bool} {τ:St} (hA:mA S F W as.length D τ)
   {j:Nat} {ao:bq} (hj:as[j]? =some ao) (hD:D j=false) (xm: ∀p ∈ ao.pre,D p=true):
   ∃τ',ep E C ao τ=some τ'∧mA S F W as.length (fun i=>i==j || D i) τ':=by
 obtain⟨h1,h2,h3,h4,h5⟩:=tr.step j ao hj
 have bM:j<as.length:=(List.getElem?_eq_some_iff.1 hj).1
 have hW: ∀p ∈ W j,D p=true:=by
   rw[h3]
   intro p hp
   simp only[List.mem_append,List.mem_flatMap] at hp
   rcases hp with hp| ⟨q,hq,hp⟩
   · exact xm p hp
   · exact hA.closed q (xm q hq) p hp
 have key: ∀i,i≠j→i<as.length→(F i).lj (F j)=true∨(F j).lj (F i)=true→(D i=true↔i<j):=by
   intro i c9 hi hc
   rcases Nat.lt_or_ge i j with bA| pR
   · refine⟨fun _=>bA,fun _=> ?_⟩
     rcases h5 i bA with h| h
     · exact hW i h
     · rcases hc with hc| hc
       · rw[h] at hc;cases hc
       · exfalso
         have: (F i).lj (F j)=true:=by
          simp only[dZ.lj,Bool.or_eq_true,meets,List.any_eq_true,List.contains_iff_mem] at hc ⊢
          rcases hc with(⟨l,a,b⟩ | ⟨l,a,b⟩) | ⟨l,a,b⟩
          · exact .inl (.inl ⟨l,b,a⟩)
          · exact .inr ⟨l,b,a⟩
          · exact .inl (.inr ⟨l,b,a⟩)
         rw[h] at this;cases this
   · have YS:j<i:=by omega
     refine⟨fun Mi=> ?_,fun h=>by omega⟩
     obtain⟨Wi,Wj⟩: ∃Wi,as[i]? =some Wi:=⟨as[i],List.getElem?_eq_getElem hi⟩
     obtain⟨_,_,_,_,g5⟩:=tr.step i Wi Wj
     rcases g5 j YS with h| h
     · have:=hA.closed i Mi j h
       rw[hD] at this;cases this
     · exfalso
       rcases hc with hc| hc
       · have: (F j).lj (F i)=true:=by
          simp only[dZ.lj,Bool.or_eq_true,meets,List.any_eq_true,List.contains_iff_mem] at hc ⊢
          rcases hc with(⟨l,a,b⟩ | ⟨l,a,b⟩) | ⟨l,a,b⟩
          · exact .inl (.inl ⟨l,b,a⟩)
          · exact .inr ⟨l,b,a⟩
          · exact .inl (.inr ⟨l,b,a⟩)
         rw[h] at this;cases this
       · rw[h] at hc;cases hc
 have agree: ∀l ∈ (F j).reads,(S j).at l=τ.at l:=by
   intro l hl
   rw[hA.state l]
   have e1:kR S F D l as.length=kR S F D l j:=nd (by omega) fun i rF yJ hw=>by
     by_cases e:i=j
     · subst e;exact hD
     · have:=key i e yJ (.inl (th (.inr (.inl ⟨hw,hl⟩))))
       cases Mi:D i with
       | false=>rfl
       | true=>have:=this.1 Mi;omega
   have e2:kR S F D l j=kR S F (fun i=>decide (i<j)) l j:=ov fun i hi hw=>by
     have:=(key i (by omega) (by omega) (.inl (th (.inr (.inl ⟨hw,hl⟩))))).2 hi
     simp[this,hi]
   rw[e1,e2]
   exact(tg tr (by omega) fun i hi=>by simp[hi]).symm
 rw[h2] at agree
 obtain⟨τ',k1,k2⟩:=re h1 agree
 rw[←h2] at k2
 refine⟨τ',k1,fun i hi p hp=> ?_,fun l=> ?_⟩
 · simp only[Bool.or_eq_true,beq_iff_eq] at hi ⊢
   rcases hi with rfl| hi
   · exact .inr (hW p hp)
   · exact .inr (hA.closed i hi p hp)
 · by_cases hl:l ∈ (F j).writes
   · rw[(k2 l).1 hl]
     have e1:kR S F (fun i=>i==j || D i) l as.length=kR S F (fun i=>i==j || D i) l (j+1):=nd (by omega) fun i rF yJ hw=>by
       have c9:i≠j:=by omega
       have:=key i c9 yJ (.inl (th (.inl ⟨hw,hl⟩)))
       cases Mi:D i with
       | false=>simp[c9,Mi]
       | true=>have:=this.1 Mi;omega
     rw[e1]
     simp[kR,hl]
   · rw[((k2 l).2 hl).1,hA.state l]
     exact ov fun i _ hw=>by
       by_cases e:i=j
       · subst e;exact absurd hw hl
       · simp[e]
theorem vV {E:Env} {C:bb} {as:List bq} {S:Nat→St} {F:Nat→dZ} {W:Nat→List Nat} (tr:Trace E C as S F W) {D:Nat→Bool} {τ:St} (hA:mA S F W as.length D τ)
  (oX: ∀i,i<as.length→D i=true):τ=S as.length:=
 St.ext' fun l=>by rw[hA.state l,tg tr (Nat.le_refl _) oX]
section
variable {X:Ctx} {E:Env} {C:bb} {μ0:Mu} {n:Fp}
theorem Dj {σ:St} {a:Go.Act} {w:World} (h:iE X μ0 n σ a w):iE X μ0 n σ a {w with drawn:=w.drawn+1}:=by
 obtain⟨h1,h2,φ,hr,hle⟩:=h
 obtain⟨QN,V9⟩:=Le.drew (X:=X) (μ:=⟨w,φ,σ.O⟩) hr.aX
 exact⟨h1,h2,φ,⟨fun t=>ak.mono QN (hr.tmps t),V9⟩,hle.trans QN⟩
theorem Bt ( H:my X E C) {h:Hints} {ops:Array Oper} {as:List bq} (hn:h.n=n.1) (aM:fp X h ops ops.toList=some as) {S:Nat→St} {F:Nat→dZ} {W:Nat→List Nat}
   (tr:Trace E C as S F W) {Q:Go.Exit→Go.Act→World→Prop} (hQ: ∀a w,iE X μ0 n (S as.length) a w→Q .normal a w):
   ∀ (fuel:Nat) (bN:Array Bool) (τ:St) (a:Go.Act) (w:World),bN.size=ops.size→((List.range ops.size).filter fun i=> !bN.getD i true).length≤fuel→
     mA S F W as.length (fun i=>bN.getD i false) τ→iE X μ0 n τ a w→wpAnyIn (Fr n.ro) 0 X.P .any ops Q fuel bN a w:=by
 obtain⟨hlen,qx⟩:=jM aM
 have uR:as.length=ops.size:=by simpa using hlen
 have ready: ∀ (bN:Array Bool) (j:Nat),j ∈ Region.ready .any ops bN→ ∃o ao,ops[j]? =some o∧as[j]? =some ao∧mf X h ops o=some ao∧bN.getD j true=false∧ ∀p ∈ ao.pre,bN.getD p false=true:=by
   intro bN j hj
   simp only[Region.ready,List.mem_filter,List.mem_range,Bool.and_eq_true,Bool.not_eq_true'] at hj
   obtain⟨bA,hl,hr⟩:=hj
   have ho:ops[j]? =some ops[j]:=by simp[bA]
   obtain⟨ao,Bs,kf⟩:=qx j ops[j] (by simp[bA])
   refine⟨_,ao,ho,Bs,kf,hl,fun p hp=> ?_⟩
   rw[ho] at hr
   simp only[Option.map_some,Option.getD_some] at hr
   have xm:ao.pre=(ops[j].after.toList.filter (Region.binds .any)).map (·.on):=by
     unfold mf at kf
     simp only at kf
     split at kf
     · injection kf with kf;rw[←kf]
     · simp at kf
   rw[xm] at hp
   simp only[List.mem_map,List.mem_filter] at hp
   obtain⟨e,⟨YT,VT⟩,rfl⟩:=hp
   rw[Array.all_eq_true'] at hr
   have:=hr e (by simpa using YT)
   simpa [VT] using this
 have done: ∀ (bN:Array Bool),Region.ready .any ops bN=[]→bN.size=ops.size→ ∀i,i<as.length→bN.getD i false=true:=by
   intro bN Bu cE i
   induction i using Nat.strongRecOn with
   | _ i ih=>
     intro hi
     cases hl:bN.getD i false with
     | true=>rfl
     | false=>
       exfalso
       have bA:i<ops.size:=by omega
       have fJ:i<bN.size:=by omega
       have YU:bN.getD i true=false:=by simpa [fJ] using hl
       obtain⟨ao,Bs,kf⟩:=qx i ops[i] (by simp[bA])
       obtain⟨_,_,_,GF,_⟩:=tr.step i ao Bs
       have xm:ao.pre=(ops[i].after.toList.filter (Region.binds .any)).map (·.on):=by
         unfold mf at kf
         simp only at kf
         split at kf
         · injection kf with kf;rw[←kf]
         · simp at kf
       have:i ∈ Region.ready .any ops bN:=by
         simp only[Region.ready,List.mem_filter,List.mem_range,Bool.and_eq_true,Bool.not_eq_true']
         refine⟨bA,YU,?_⟩
         have ho:ops[i]? =some ops[i]:=by simp[bA]
         rw[ho]
         simp only[Option.map_some,Option.getD_some]
         rw[Array.all_eq_true']
         intro e he
         cases hb:Region.binds .any e with
         | false=>simp
         | true=>
           have hm:e.on ∈ ao.pre:=by
            rw[xm];simp only[List.mem_map,List.mem_filter]
            exact⟨e,⟨by simpa using he,hb⟩,rfl⟩
           have h1:=GF _ hm
           simpa using ih e.on h1 (by omega)
       rw[Bu] at this
       cases this
 have finish: ∀ (bN:Array Bool) (τ:St) (a:Go.Act) (w:World),bN.size=ops.size→mA S F W as.length (fun i=>bN.getD i false) τ→iE X μ0 n τ a w→Region.ready .any ops bN=[]→Q .normal a w:=by
   intro bN τ a w cE hA hs Bu
   have:=vV tr hA (done bN Bu cE)
   exact hQ a w (this ▸ hs)
 intro fuel
 induction fuel with
 | zero=>
   intro bN τ a w cE hf hA hs
   have Bu:Region.ready .any ops bN=[]:=by
     simp only[Nat.le_zero,List.length_eq_zero_iff,List.filter_eq_nil_iff,List.mem_range] at hf
     simp only[Region.ready,List.filter_eq_nil_iff,List.mem_range]
     intro i hi
     have:=hf i hi
     simp at this
     simp[this]
   exact⟨Bu,finish bN τ a w cE hA hs Bu⟩
 | succ fuel ih=>
   intro bN τ a w cE hf hA hs
   refine⟨finish bN τ a w cE hA hs,fun j hj=> ?_⟩
   obtain⟨o,ao,ho,Bs,kf,hl,xm⟩:=ready bN j hj
   have bM:j<ops.size:=by rw[←uR];exact(List.getElem?_eq_some_iff.1 Bs).1
   have YV:bN.getD j false=false:=by
     have h1:j<bN.size:=by omega
     simpa [h1] using hl
   obtain⟨τ',k1,k2⟩:=uc tr hA Bs YV xm
   refine ou H ho kf hn hs k1 fun a' w' jY=>ih _ τ' a' w' (by simpa using cE) ?_ ?_ jY
   ·
     have Cz: ∀ (L:List Nat),L.Nodup→j ∈ L→(L.filter fun i=> !(bN.setIfInBounds j true).getD i true).length+1≤(L.filter fun i=> !bN.getD i true).length:=by
       intro L
       induction L with
       | nil=>intro _ h;cases h
       | cons x L YW=>
         intro Eb hm
         have c9: ∀i,i≠j→(bN.setIfInBounds j true).getD i true=bN.getD i true:=fun i hi=>by
           simp[Array.getElem?_setIfInBounds_ne (fun e=>hi e.symm)]
         have YX: (bN.setIfInBounds j true).getD j true=true:=by
           have h1:j<bN.size:=by omega
           simp[h1]
         by_cases e:x=j
         · subst e
           have wW: (L.filter fun i=> !(bN.setIfInBounds x true).getD i true)=L.filter fun i=> !bN.getD i true:=by
            apply List.filter_congr
            intro i hi
            have:i≠x:=fun e=>by rw[List.nodup_cons] at Eb;exact Eb.1 (e ▸ hi)
            rw[c9 i this]
           simp only[List.filter_cons,YX,hl,wW]
           simp
         · have FU:j ∈ L:=by
            rcases List.mem_cons.1 hm with h1| h1
            · exact absurd h1.symm e
            · exact h1
           have:=YW (List.nodup_cons.1 Eb).2 FU
           simp only[List.filter_cons,c9 x e]
           split
           · simp only[List.length_cons];omega
           · omega
     have:=Cz (List.range ops.size) List.nodup_range (by simp[bM])
     omega
   · have Wk: (fun i=>i==j || bN.getD i false)=fun i=> (bN.setIfInBounds j true).getD i false:=by
       funext i
       have h1:j<bN.size:=by omega
       by_cases e:i=j
       · subst e;simp[h1]
       · simp[e,Array.getElem?_setIfInBounds_ne (fun e'=>e e'.symm)]
     rw[Wk] at k2
     exact k2
theorem xn (H:my X E C) (hm:X.P.follows .mixedOrders=true) {h:Hints} {ops:Array Oper} {as:List bq} (hn:h.n=n.1) (aM:fp X h ops ops.toList=some as) {id:Nat}
   {σ σ':St} {a:Go.Act} {w:World} (hs:iE X μ0 n σ a w) (ah:dw E C as [] [] σ=some σ') {Q:Go.Exit→Go.Act→World→Prop} (hQ: ∀a' w',iE X μ0 n σ' a' w'→Q .normal a' w'):
   (Code.region id ops true).wpIn (Fr n.ro) 0 X.P Q a w:=by
 obtain⟨S,F,W,s1,s2,_,s4⟩:=rf as [] [] σ σ' rfl ah
 simp only[List.length_nil,Nat.zero_add] at s1 s2 s4
 have tr:Trace E C as S F W:=⟨fun i ao hi=>s4 i ao hi⟩
 refine wpIn_region_any hm ?_
 refine Bt H hn aM tr (by rw[s2];exact hQ) ops.size _ σ _ _ (by simp) ?_ ?_ (Dj hs)
 · exact Nat.le_trans (List.length_filter_le _ _) (by simp)
 · have Dk: ∀i,(Array.replicate ops.size false).getD i false=false:=fun i=>by
    simp only[Array.getD_eq_getD_getElem?,Array.getElem?_replicate];split<;>rfl
   refine⟨(fun i hi=>by rw[Dk i] at hi;cases hi),fun l=> ?_⟩
   rw[←s1]
   have:kR S F (fun i=> (Array.replicate ops.size false).getD i false) l as.length=kR S F (fun i=> (Array.replicate ops.size false).getD i false) l 0:=nd (Nat.zero_le _) fun i _ _ _=>Dk i
   rw[this];rfl
end
end Go.AM
namespace Go.AM
open Go Go.RowKit
theorem Dl {P:Program} {w:World} {ty:TypeId} {bi bm since:Nat} {seen:Array Nat} {es:Array MapEntry} (hi:w.heap[bi]? =some (.mapIter (some bm) since seen since)) (hb:w.heap[bm]? =some (.map es since)) (hold: ∀x ∈ es.toList,x.born<since):
   ((leftOf es seen).size=0∧(Instr.next (.pointer (some ⟨bi,0,none⟩)) false ty).run P w= .ok (.tuple #[.bool false]) w)∨
   ∃e ∈ (leftOf es seen).toList,∃d,(Instr.next (.pointer (some ⟨bi,0,none⟩)) false ty).run P w= .ok (.tuple #[.bool true,e.key,e.val]) {w with drawn:=w.drawn+d,heap:=w.heap.setIfInBounds bi (.mapIter (some bm) since (seen.push e.born) since)}:=by
 simp only[Instr.next,getObj,Sem.run_bind,Sem.run,hi,hb,Result.andThen,next_test_false seen es since since hold (Nat.le_refl _),Bool.false_eq_true,if_false]
 unfold leftOf
 have jk: ∀x ∈ (Array.filter (fun e=> !seen.contains e.born) es).toList,x.born<since:=fun x hx=>hold x (by simp at hx ⊢;exact hx.1)
 generalize Array.filter (fun e=> !seen.contains e.born) es=L at jk ⊢
 have e1:L.filter (fun x=>decide (x.born<since))=L:=Array.filter_eq_self.2 (fun x hx=>by simpa using jk x (by simpa using hx))
 have e2:L.filter (fun x=>decide (x.born≥since))= #[]:=by
   rw[Array.filter_eq_empty_iff]
   intro x hx
   have:=jk x (by simpa using hx)
   simp
   omega
 simp only[e1,e2,Array.append_empty]
 by_cases h0:L.size=0
 · left
   have:L= #[]:=Array.eq_empty_of_size_eq_zero h0
   subst this
   refine⟨rfl,?_⟩
   simp[choose,Sem.run,Question.forced]
 · right
   have c9:L.isEmpty=false:=by simp[Array.isEmpty,h0]
   simp only[c9,Bool.false_eq_true,if_false,Array.empty_append,Array.size_map]
   have V8: ∃ (j d:Nat),j<L.size∧(choose (Question.mapNext L.size)).run P w= .ok j {w with drawn:=w.drawn+d}:=by
    by_cases hf:L.size≤1
    · exact⟨0,0,by omega,by simp[choose,Sem.run,Question.forced,hf]⟩
    · exact⟨w.tape w.drawn (Question.mapNext L.size) % L.size,1,Nat.mod_lt _ (by omega),by
       simp only[choose,Sem.run,Question.forced,decide_eq_true_eq,hf,if_false,Question.cut]⟩
   obtain⟨j,d,hj,ah⟩:=V8
   refine⟨L[j],by simp,d,?_⟩
   have je: ∀ (o':Go.Obj),(setObj bi o').run P {w with drawn:=w.drawn+d}= .ok () {w with drawn:=w.drawn+d,heap:=w.heap.setIfInBounds bi o'}:=fun o'=>by
    simp only[setObj,Sem.run,hi]
   simp only[ah,Array.getElem?_map,Array.getElem?_eq_getElem hj,Option.map_some,Sem.run_bind,je,Result.andThen]
   rfl
theorem Dm {P:Program} {w:World} {ty:TypeId} {bi a b:Nat} {s:Array Nat} (hi:w.heap[bi]? =some (.mapIter none a s b)):
  (Instr.next (.pointer (some ⟨bi,0,none⟩)) false ty).run P w= .ok (.tuple #[.bool false]) w:=by
 simp only[Instr.next,getObj,Sem.run_bind,Sem.run,hi,Result.andThen]
 rfl
structure iB (X:Ctx) (μ:Mu) (w':World):Prop where
 cell: ∀a c,μ.w.cell? a=some c→w'.cell? a=some c
 map: ∀ (a:Nat) ents clock,μ.w.heap[a]? =some (.map ents clock)→w'.heap[a]? =some (.map ents clock)
 size:μ.w.heap.size≤w'.heap.size
section
variable {X:Ctx} {μ:Mu} {w':World}
theorem iB.row (h:iB X μ w') {b off sz:Nat} {vs:List Value} (hr:dz μ.w b off sz vs):dz w' b off sz vs:=
 fun i v hv=> ⟨(hr i v hv).1,fun j c hc=>h.cell _ _ ((hr i v hv).2 j c hc)⟩
mutual
theorem ak.cn (h:iB X μ w'): ∀ {x:V} {v:Value},ak X μ x v→ak X ⟨w',μ.φ,μ.O⟩ x v
 | .bool _,_,k| .int ..,_,k| .float _,_,k| .str _,_,k| .nilp,_,k| .nilfn,_,k| .nili,_,k| .nils,_,k| .sl ..,_,k| .ptr ..,_,k| .mp ..,_,k| .it ..,_,k=>by simpa [ak] using k
 | .any,_,_=>by simp[ak]
 | .own ..,_,k| .msl ..,_,k| .mptr ..,_,k=>by simp[ak] at k
 | .agg cs,_,k=>by
   simp only[ak] at k ⊢
   obtain⟨h1,vs,rfl,h2⟩:=k
   exact⟨h1,vs,rfl,aj.cn h h2⟩
 | .tuple cs,_,k=>by
   simp only[ak] at k ⊢
   obtain⟨vs,rfl,h2⟩:=k
   exact⟨vs,rfl,aj.cn h h2⟩
 | .fn f cs,_,k=>by
   simp only[ak] at k ⊢
   obtain⟨F,cv,rfl,h1,h2⟩:=k
   exact⟨F,cv,rfl,h1,aj.cn h h2⟩
 | .iface t x,_,k=>by
   simp only[ak] at k ⊢
   obtain⟨F,y,rfl,h1,h2⟩:=k
   exact⟨F,y,rfl,h1,ak.cn h h2⟩
 | .lit sz xs,_,k=>by
   simp only[ak] at k ⊢
   obtain⟨h0,jy,a,cap,vs,rfl,h1,h2,h3⟩:=k
   refine⟨h0,jy,a,cap,vs,rfl,h1,aj.cn h h2,h3.imp id ?_⟩
   rintro⟨b,o,rfl,hb,hs,hr⟩
   exact⟨b,o,rfl,hb,Nat.lt_of_lt_of_le hs h.size,h.row hr⟩
 | .litk sz xs,_,k=>by
   simp only[ak] at k ⊢
   obtain⟨h0,jy,a,cap,vs,rfl,h1,h2,h3⟩:=k
   refine⟨h0,jy,a,cap,vs,rfl,h1,aj.cn h h2,h3.imp id ?_⟩
   rintro⟨rfl,hb,hs,hr⟩
   exact⟨rfl,hb,Nat.lt_of_lt_of_le hs h.size,h.row hr⟩
 | .eptr e off,_,k=>by
   simp only[ak] at k ⊢
   obtain⟨h0,jy,b,o,sz,x,rfl,hb,hs,h1,hr⟩:=k
   exact⟨h0,jy,b,o,sz,x,rfl,hb,Nat.lt_of_lt_of_le hs h.size,ak.cn h h1,h.row hr⟩
 | .epk i sz e off,_,k=>by
   simp only[ak] at k ⊢
   obtain⟨h0,jy,x,rfl,hb,hs,h1,hr⟩:=k
   exact⟨h0,jy,x,rfl,hb,Nat.lt_of_lt_of_le hs h.size,ak.cn h h1,h.row hr⟩
 | .mlit es,_,k=>by
   simp only[ak] at k ⊢
   obtain⟨h0,k⟩:=k
   refine⟨h0,k.imp id ?_⟩
   rintro⟨a,ents,clock,rfl,hb,hs,h1,h2⟩
   exact⟨a,ents,clock,rfl,hb,Nat.lt_of_lt_of_le hs h.size,⟨h.map _ _ _ h1.1,h1.2⟩,aj.cn h h2⟩
theorem aj.cn (h:iB X μ w'): ∀ {xs:List V} {vs:List Value},aj X μ xs vs→aj X ⟨w',μ.φ,μ.O⟩ xs vs
 | [],[],_=>by simp[aj]
 | [],_::_,k=>by simp[aj] at k
 | _::_,[],k=>by simp[aj] at k
 | x::xs,v::vs,k=>by
   simp only[aj] at k ⊢
   exact⟨ak.cn h k.1,aj.cn h k.2⟩
end
theorem bj.cn (h:iB X μ w') (ho:bj X μ) (hb: ∀r,(μ.O r).es.isSome=true→(μ.φ r).cap≠0→w'.heap[(μ.φ r).cD]? =μ.w.heap[(μ.φ r).cD]?):bj X ⟨w',μ.φ,μ.O⟩ where
 ok:=fun r es bJ=>by
  have K8: (μ.O r).es.isSome=true:=by rw[bJ];rfl
  rcases ho.ok r es bJ with⟨h1,h2,h3,h4⟩ | ⟨h1,h2,ob,h3,h4⟩
  · refine .inl ⟨h1,h2,h3,?_⟩
    rcases h4 with h4| ⟨c,T,vs,k1,k2,k3,k4⟩
    · exact .inl h4
    · by_cases hc: (μ.φ r).cap=0
      · exact .inl hc
      · exact .inr ⟨c,T,vs,by show w'.heap[(μ.φ r).cD]? =_;rw[hb r K8 hc];exact k1,k2,aj.cn h k3,h.row k4⟩
  · refine .inr ⟨h1,h2,ob,by show w'.heap[(μ.φ r).cD]? =_;rw[hb r K8 h2];exact h3,?_⟩
    rcases h4 with⟨ents,clock,k1,k2,k3⟩ | k| ⟨mo,since,mX,k1,k2,k3⟩
    · exact .inl ⟨ents,clock,k1,aj.cn h k2,k3⟩
    · exact .inr (.inl k)
    · refine .inr (.inr ⟨mo,since,mX,k1,k2,k3.imp id ?_⟩)
      rintro⟨m,ents,l1,l2,l3,l4,l5,l6⟩
      exact⟨m,ents,l1,l2,Nat.lt_of_lt_of_le l3 h.size,h.map _ _ _ l4,l5,aj.cn h l6⟩
 inj:=ho.inj
 qU:=ho.qU
 blt:=fun b nD=>Nat.lt_of_lt_of_le (ho.blt b nD) h.size
end
theorem uV {X:Ctx} {w:World} {φ:Nat→Row} {O O':Nat→Obj} (ho:bj X ⟨w,φ,O⟩) (h: ∀r,O' r=O r∨(O' r).es=none∧((O r).gen< (O' r).gen∨(O' r).gen=(O r).gen∧(O' r).sz=(O r).sz)):
   Le ⟨w,φ,O⟩ ⟨w,φ,O'⟩∧bj X ⟨w,φ,O'⟩:=by
 have GS: ∀r es,(O' r).es=some es→O' r=O r:=fun r es bJ=>by
   rcases h r with h| ⟨h,_⟩
   · exact h
   · rw[h] at bJ;simp at bJ
 have K8: ∀r,(O' r).es.isSome=true→O' r=O r:=fun r hr=>by
   obtain⟨es,bJ⟩:=Option.isSome_iff_exists.1 hr
   exact GS r es bJ
 have gC: ∀b,(Mu.mk w φ O').own b→(Mu.mk w φ O).own b:=by
   rintro b ⟨r,h1,h2,h3,h4⟩
   have e:=K8 r h1
   have tU: (O' r).es.isSome=true:=h1
   have yL: (O' r).fz=false:=h2
   rw[e] at tU yL
   exact⟨r,tU,yL,h3,h4⟩
 have le:Le ⟨w,φ,O⟩ ⟨w,φ,O'⟩:=by
   refine⟨Nat.le_refl _,fun b _ hn=> ⟨rfl,fun h'=>hn (gC b h')⟩,fun r=> ?_,fun r e=> ?_,rfl,rfl,rfl,fun _ _=>rfl⟩
   · show (O r).gen≤(O' r).gen
     rcases h r with h| ⟨_,h| ⟨h,_⟩⟩
     · rw[h];exact Nat.le_refl _
     · omega
     · omega
   · have e': (O' r).gen=(O r).gen:=e
     refine⟨rfl,?_⟩
     show (O' r).sz=(O r).sz
     rcases h r with h| ⟨_,h| ⟨_,h⟩⟩
     · rw[h]
     · omega
     · exact h
 refine⟨le,fun r es bJ=> ?_,fun r r' c9 h1 h2 h3 h4=> ?_,fun r h1 h2=> ?_,ho.blt⟩
 · have e:=GS r es bJ
   have fe: (O r).es=some es:=by rw[←e];exact bJ
   exact eY.cA (r:=r) (r':=r) le (ho.ok r es fe) (by show (O' r).sz=(O r).sz;rw[e]) rfl fun _=>rfl
 · have tU: (O' r).es.isSome=true:=h1
   have yL: (O' r').es.isSome=true:=h2
   rw[K8 r tU] at tU
   rw[K8 r' yL] at yL
   exact ho.inj r r' c9 tU yL h3 h4
 · have tU: (O' r).es.isSome=true:=h1
   rw[K8 r tU] at tU
   exact ho.qU r tU h2
def gq (Z:List (V×MapEntry)) (seen:Array Nat):List (V×MapEntry):=Z.filter fun z=> !seen.contains z.2.born
theorem uW {Z:List (V×MapEntry)} {ents:Array MapEntry} (h:Z.map (·.2)=ents.toList) (seen:Array Nat): (gq Z seen).map (·.2)=(leftOf ents seen).toList:=by
 unfold gq leftOf
 rw[Array.toList_filter,←h,List.filter_map]
 rfl
theorem rj {α:Type} (f:α→Nat): ∀ {l:List α} {z:α},z ∈ l→(l.map f).Nodup→l.Perm (z::l.filter fun x=> !(f x==f z))
 | a::l,z,hz,hn=>by
   rw[List.map_cons,List.nodup_cons] at hn
   rcases List.mem_cons.1 hz with rfl| hz
   · have:l.filter (fun x=> !(f x==f z))=l:=List.filter_eq_self.2 fun x hx=>by
      have:f x≠f z:=fun e=>hn.1 (e ▸ List.mem_map.2 ⟨x,hx,rfl⟩)
      simpa using this
     simp[this]
   · have c9: ¬ (f a=f z):=fun e=>hn.1 (e ▸ List.mem_map.2 ⟨z,hz,rfl⟩)
     have ih:=rj f hz hn.2
     have: (a::l).filter (fun x=> !(f x==f z))=a::l.filter (fun x=> !(f x==f z)):=by
      rw[List.filter_cons_of_pos (by simpa using c9)]
     rw[this]
     exact(ih.cons a).trans (.swap z a _)
theorem y0 {Z:List (V×MapEntry)} {seen:Array Nat} (hn: (Z.map fun z=>z.2.born).Nodup) {z:V×MapEntry} (hz:z ∈ gq Z seen): (gq Z seen).Perm (z::gq Z (seen.push z.2.born)):=by
 have h1: ((gq Z seen).map fun z=>z.2.born).Nodup:=hn.sublist (List.filter_sublist.map _)
 have h2:=rj (fun z:V×MapEntry=>z.2.born) hz h1
 have h3: (gq Z seen).filter (fun x=> !(x.2.born==z.2.born))=gq Z (seen.push z.2.born):=by
  unfold gq
  rw[List.filter_filter]
  refine List.filter_congr fun x _=> ?_
  rw[contains_push]
  cases seen.contains x.2.born<;>cases (x.2.born==z.2.born) <;>rfl
 rw[h3] at h2
 exact h2
theorem xo {X:Ctx} {μ:Mu}: ∀ {es:List V} {l:List MapEntry},aj X μ es (l.map fun e=>Value.tuple #[e.key,e.val])→ ∃Z:List (V×MapEntry),Z.map (·.1)=es∧Z.map (·.2)=l∧ ∀z ∈ Z,ak X μ z.1 (.tuple #[z.2.key,z.2.val])
 | [],[],_=> ⟨[],rfl,rfl,by simp⟩
 | [],_::_,h=>by simp[aj] at h
 | _::_,[],h=>by simp[aj] at h
 | x::es,e::l,h=>by
   simp only[List.map_cons,aj] at h
   obtain⟨Z,h1,h2,h3⟩:=xo h.2
   refine⟨(x,e)::Z,by simp[h1],by simp[h2],fun z hz=> ?_⟩
   rcases List.mem_cons.1 hz with rfl| hz
   · exact h.1
   · exact h3 z hz
section
variable {X:Ctx} {E:Env} {n:Fp}
def vW (X:Ctx) (n:Fp) (ops:Array Oper) (y:Code) (rec:al→St→Option (aY×St)) (tb:al):Prop:=
 ∀ (σ σ':St) (e:aY) (μ0:Mu) (a:Go.Act) (w:World) (Q K:Go.Exit→Go.Act→World→Prop),rec tb σ=some (e,σ')→iE X μ0 n σ a w→(∀a' w',iE X μ0 n σ' a' w'→Q (match e with| .normal=> .normal| .exit id=> .exit id| .ret=> .ret) a' w')→
  (∀a' w',y.wpIn (Fr n.ro) 0 X.P Q a' w'→K .normal a' w')→wpOpsIn (Fr n.ro) 0 X.P ops K (List.range' 1 (ops.size - 1)) a w
def y6 (X:Ctx) (n:Fp) (ops:Array Oper) (z:Code) (b1:Nat) (rec:al→St→Option (aY×St)) (tm:al):Prop:=
 ∀ (σ σ':St) (μ0:Mu) (a:Go.Act) (w:World) (Q:Go.Exit→Go.Act→World→Prop),rec tm σ=some (.normal,σ')→iE X μ0 n σ a w→(∀a' w',iE X μ0 n σ' a' w'→Q .normal a' w')→
  wpOpsIn (Fr n.ro) 0 X.P ops (Exit.then (z.wpIn (Fr n.ro) 0 X.P (Exit.inBlock b1 Q)) (Exit.inBlock b1 Q)) (List.range' 1 (ops.size - 1)) a w
abbrev mB (i0:Nat) (ops:Array Oper) (y:Code) (b1 i5:Nat) (fX:Array Oper) (z5:Code):Code:= .seq (.region i0 ops false) (.seq y (.block b1 (.seq (.region i5 fX false) z5)))
theorem Bv {P:Program} {w:World} {bi bm since:Nat} {seen:Array Nat} {ents:Array MapEntry} {e:MapEntry} (hi:w.heap[bi]? =some (.mapIter (some bm) since (seen.push e.born) since)) (hb:w.heap[bm]? =some (.map ents since)) (he:e ∈ ents.toList) (hn: (ents.toList.map (·.born)).Nodup):
  (Instr.entry (.pointer (some ⟨bi,0,none⟩))).run P w= .ok (.tuple #[e.key,e.val]) w:=by
 have hf:ents.find? (·.born==e.born)=some e:=by
  rw[←Array.find?_toList]
  generalize ents.toList=l at he hn
  induction l with
  | nil=>simp at he
  | cons x l ih=>
    rw[List.map_cons,List.nodup_cons] at hn
    rw[List.find?_cons]
    rcases List.mem_cons.1 he with rfl| he
    · simp
    · have c9: ¬ (x.born==e.born)=true:=by
       intro h
       exact hn.1 (List.mem_map.2 ⟨e,he,(by simpa using h:x.born=e.born).symm⟩)
      simp only[c9]
      exact ih he hn.2
 simp only[Instr.entry,getObj,Sem.run_bind,Sem.run,hi,hb,Result.andThen,Array.back?_push,bne_self_eq_false,Bool.false_eq_true,if_false,hf]
 rfl
structure vX (X:Ctx) (n:Fp) (μ0:Mu) (rec:al→St→Option (aY×St)) (tl:al) (Good:St→Prop) (a:Go.Act) (w:World):Prop where
 h: ∃σe σp,iE X μ0 n σe a w∧rec tl σe=some (.normal,σp)∧Good σp
variable {ops fX:Array Oper} {o1 o5:Oper} {y z5:Code} {it nx ne id b1 r g:Nat} {μ0:Mu} {rec:al→St→Option (aY×St)} {tb tm tl:al} {Good:St→Prop} {i0 i5:Nat}
theorem tj (h0:ops[0]? =some o1) (hd: ∀c,o1.op≠ .defer c) (hg:o1.guard=none) {a:Go.Act} {w w1:World} {v:Value} (jJ: (execOp a.eval o1).run X.P w= .ok (.value v) w1) {Q:Go.Exit→Go.Act→World→Prop}
  (h:wpOpsIn (Fr n.ro) 0 X.P ops Q (List.range' 1 (ops.size - 1)) (a.put o1.dst v) w1): (Code.region i0 ops false).wpIn (Fr n.ro) 0 X.P Q a w:=by
 refine wpIn_region ?_
 have cE:0 <ops.size:=(Array.getElem?_eq_some_iff.1 h0).1
 have hr:List.range ops.size=0::List.range' 1 (ops.size - 1):=by
  rw[List.range_eq_range']
  obtain⟨k,hk⟩: ∃k,ops.size=k+1:=⟨ops.size - 1,by omega⟩
  rw[hk,List.range'_succ]
  rfl
 rw[hr,wpOpsIn_cons]
 simp only[wpOpIn,h0]
 rw[if_pos (by simp[Region.wanted,hg])]
 refine vU hd ?_
 unfold Oper.wp
 rw[jJ,Oper.upon_value]
 exact h
theorem uX (du:o1.op= .next (.tmp it) false) {a:Go.Act} {w w1:World} {v:Value} (ah: (Instr.next (a.eval (.tmp it)) false o1.type).run X.P w= .ok v w1): (execOp a.eval o1).run X.P w= .ok (.value v) w1:=by
 simp only[execOp,du]
 exact b9 ah
theorem y7 (du:o5.op= .entry (.tmp it)) {a:Go.Act} {w w1:World} {v:Value} (ah: (Instr.entry (a.eval (.tmp it))).run X.P w= .ok v w1): (execOp a.eval o5).run X.P w= .ok (.value v) w1:=by
 simp only[execOp,du]
 exact b9 ah
theorem uY {Q:Go.Exit→Go.Act→World→Prop} (hQ: ∀a w,vX X n μ0 rec tl Good a w→Q (.exit id) a w) (hB:vW X n ops y rec tb) (h0:ops[0]? =some o1) (du:o1.op= .next (.tmp it) false) (hd:o1.dst=some nx) (hg:o1.guard=none) (FV:nx<n.1)
   {σ σp:St} {a:Go.Act} {w:World} (hs:iE X μ0 n σ a w) (ah: (Instr.next (a.eval (.tmp it)) false o1.type).run X.P w= .ok (.tuple #[.bool false]) w)
   (hk:runK rec it r g nx ne id tb tm tl [] σ=some σp) (xp:Good σp) (m:Nat):
   Code.roundsIn (Fr n.ro) 0 X.P (mB i0 ops y b1 i5 fX z5) Q (m+1) a w:=by
 rw[roundsIn_succ]
 simp only[runK] at hk
 split at hk
 · split at hk
   · rename_i jv σe ib
     split at hk
     · rename_i Vf
       subst Vf
       split at hk
       · rename_i σ'' q7
         injection hk with hk;subst hk
         refine wpIn_seq (tj (X:=X) h0 (by rw[du];simp) hg (uX du ah) ?_)
         obtain⟨iK,cE,φ,hr,hle⟩:=hs
         have qY:iE X μ0 n (σ.put (some nx) (.tuple [.bool false])) (a.put o1.dst (.tuple #[.bool false])) w:=by
          rw[hd]
          exact⟨by rw[put_defers];exact iK,by rw[ke];exact cE,φ,nc hr (Le.refl _) hr.aX (by simp only[ak];exact⟨_,rfl,by simp[aj,ak]⟩) (by simp;omega) σ.O,hle⟩
         exact hB _ _ _ _ _ _ (Exit.then (Code.wpIn (Fr n.ro) 0 X.P (.block b1 (.seq (.region i5 fX false) z5)) (Exit.then (Code.roundsIn (Fr n.ro) 0 X.P (mB i0 ops y b1 i5 fX z5) Q m) Q)) (Exit.then (Code.roundsIn (Fr n.ro) 0 X.P (mB i0 ops y b1 i5 fX z5) Q m) Q)) _ ib qY (fun a' w' jY=>hQ _ _ ⟨σe,σ'',jY,q7,xp⟩) fun a' w' h=>wpIn_seq h
       · simp at hk
     · simp at hk
   · simp at hk
 · simp at hk
theorem tn {σ:St} (h:rE it r g σ=true):σ.T it= .it r g∧(σ.O r).gen=g:=by
 unfold rE at h
 split at h
 · rename_i r' g' e
   simp only[Bool.and_eq_true,Nat.beq_eq] at h
   obtain⟨rfl,rfl,h⟩:=h
   exact⟨e,h⟩
 · simp at h
theorem pD { Q:Go.Exit→Go.Act→World→Prop} (hQ: ∀a w,vX X n μ0 rec tl Good a w→Q (.exit id) a w) (hB:vW X n ops y rec tb) (hM:y6 X n fX z5 b1 rec tm) (h0:ops[0]? =some o1) (du:o1.op= .next (.tmp it) false) (hd:o1.dst=some nx) (hg:o1.guard=none) (FV:nx<n.1)
   (k0:fX[0]? =some o5) (Wl:o5.op= .entry (.tmp it)) (kd:o5.dst=some ne) (kg:o5.guard=none) (c9:ne<n.1)
   {bi bm since:Nat} {ents:Array MapEntry} {Z:List (V×MapEntry)} (hZ:Z.map (·.2)=ents.toList) (j9:sO ents since):
   ∀ (m:Nat) (seen:Array Nat) (σ:St) (a:Go.Act) (w:World) (φ:Nat→Row),(gq Z seen).length=m→Marks n w a.defers→a.tmps.size=n.1→Rel X σ.T a ⟨w,φ,σ.O⟩→Le μ0 ⟨w,φ,σ.O⟩→
    (φ r).cD=bi→w.heap[bi]? =some (.mapIter (some bm) since seen since)→ ¬ (Mu.mk w φ σ.O).own bi→(bi<μ0.w.heap.size→μ0.own bi)→
    (∀r',(σ.O r').es.isSome=true→(φ r').cap≠0→(φ r').cD≠bi)→w.heap[bm]? =some (.map ents since)→ ¬Own X ⟨w,φ,σ.O⟩ bm→
    (∀z ∈ Z,ak X ⟨w,φ,σ.O⟩ z.1 (.tuple #[z.2.key,z.2.val]))→
    (∀p,p.Perm ((gq Z seen).map (·.1))→ ∃σp,runK rec it r g nx ne id tb tm tl p σ=some σp∧Good σp)→
    Code.roundsIn (Fr n.ro) 0 X.P (mB i0 ops y b1 i5 fX z5) Q (m+1) a w
 | m,seen,σ,a,w,φ,hm,iK,cE,hr,hle,hφ,GU,kN,qj,fk,Mj,MG,bQ,tq=>by
   have Eh:rE it r g σ=true:=by
    obtain⟨σp,hk,_⟩:=tq _ (.refl _)
    cases hl: (gq Z seen).map (·.1) with
    | nil=>
      rw[hl] at hk
      simp only[runK] at hk
      split at hk
      · rename_i h;exact h
      · simp at hk
    | cons e p=>
      rw[hl] at hk
      simp only[runK] at hk
      split at hk
      · split at hk
        · rename_i h;exact h
        · simp at hk
      · simp at hk
   obtain⟨hT,cm⟩:=tn Eh
   have Mc:a.eval (.tmp it)= .pointer (some ⟨bi,0,none⟩):=by
    have:=hr.tmps it
    rw[hT] at this
    simp only[ak] at this
    obtain⟨a0,h1,_,h2⟩:=this
    obtain⟨_,rfl⟩:=h2 cm
    show a.tmps.getD it undef=_
    rw[h1,hφ]
   have ki:iE X μ0 n σ a w:=⟨iK,cE,φ,hr,hle⟩
   have bA:bi<w.heap.size:=(Array.getElem?_eq_some_iff.1 GU).1
   rcases Dl (P:=X.P) (ty:=o1.type) GU Mj j9.1 with⟨hz,ah⟩ | ⟨e,he,d,ah⟩
   ·
    have hl:gq Z seen=[]:=by
      have:=uW hZ seen
      rw[Array.eq_empty_of_size_eq_zero hz] at this
      exact List.map_eq_nil_iff.1 this
    obtain⟨σp,hk,xp⟩:=tq [] (by rw[hl];exact .refl _)
    exact uY hQ hB h0 du hd hg FV ki (by rw[Mc];exact ah) hk xp m
   ·
    rw[←uW hZ seen] at he
    obtain⟨z,hz,rfl⟩:=List.mem_map.1 he
    have Eb: (Z.map fun z=>z.2.born).Nodup:=by
      have:=j9.2
      rw[←hZ,List.map_map] at this
      exact this
    have Ab:=y0 Eb hz
    obtain⟨m',rfl⟩: ∃m',m=m'+1:=by
      have:=Ab.length_eq
      simp only[List.length_cons] at this
      exact⟨_,by rw[←hm];exact this⟩
    have XL:z ∈ Z:=(List.mem_filter.1 hz).1
    have sY:=bQ z XL
    obtain⟨σp1,vC,_⟩:=tq (z.1:: (gq Z (seen.push z.2.born)).map (·.1)) (by have:=(Ab.map (·.1)).symm;simpa using this)
    obtain⟨ k,v,σm,σ',XM,Dn,FW,ib⟩: ∃k v σm σ',z.1= .tuple [k,v]∧rec tb (σ.put (some nx) (.tuple [.bool true,k,v]))=some (.normal,σm)∧rE it r g σm=true∧rec tm (σm.put (some ne) (.tuple [k,v]))=some (.normal,σ'):=by
      simp only[runK] at vC
      split at vC
      · rename_i k v Mk
        rw[if_pos Eh] at vC
        split at vC
        · rename_i σm hb
          split at vC
          · rename_i FW
            split at vC
            · rename_i σ' nD;exact⟨k,v,σm,σ',Mk,hb,FW,nD⟩
            · simp at vC
          · simp at vC
        · simp at vC
      · simp at vC
    have Mk:ak X ⟨w,φ,σ.O⟩ k z.2.key∧ak X ⟨w,φ,σ.O⟩ v z.2.val:=by
      rw[XM] at sY
      simp only[ak] at sY
      obtain⟨vs,h1,h2⟩:=sY
      injection h1 with h1
      subst h1
      simpa [aj] using h2
    rw[roundsIn_succ]
    refine wpIn_seq (tj (X:=X) h0 (by rw[du];simp) hg (uX du (by rw[Mc];exact ah)) ?_)
    generalize wk: ({w with drawn:=w.drawn+d,heap:=w.heap.setIfInBounds bi (.mapIter (some bm) since (seen.push z.2.born) since)}:World)=w2
    have ia: ∀b,b≠bi→w2.heap[b]? =w.heap[b]? :=fun b hb=>by
      rw[←wk];exact Array.getElem?_setIfInBounds_ne (fun e=>hb e.symm)
    have K9:w2.heap[bi]? =some (.mapIter (some bm) since (seen.push z.2.born) since):=by
      rw[←wk];simp[bA]
    have pk:w2.heap.size=w.heap.size:=by rw[←wk];simp
    have st:iB X ⟨w,φ,σ.O⟩ w2:=by
      refine⟨fun ad c hc=> ?_,fun b es cl hb=> ?_,by show w.heap.size≤w2.heap.size;omega⟩
      · have c9:ad.block≠bi:=fun e=>by
          have xY:w.cell? ad=some c:=hc
          simp[World.cell?,e,GU] at xY
        have xY:w.cell? ad=some c:=hc
        simp only[World.cell?,ia _ c9] at xY ⊢
        exact xY
      · have nD:w.heap[b]? =some (.map es cl):=hb
        rw[ia b (fun e=>by rw[e,GU] at nD;simp at nD)]
        exact nD
    have QR:bj X ⟨w2,φ,σ.O⟩:=hr.aX.cn st fun r' h1 h2=>ia _ (fk r' h1 h2)
    have La:Le μ0 ⟨w2,φ,σ.O⟩:=by
      refine⟨by have:=hle.size;show μ0.w.heap.size≤w2.heap.size;have h2:μ0.w.heap.size≤w.heap.size:=this;omega,fun b hb hn=> ?_,hle.gen,hle.row,?_,?_,?_,fun ad Lb=> ?_⟩
      · have c9:b≠bi:=fun e=>by subst e;exact hn (qj hb)
        obtain⟨k1,k2⟩:=hle.cA b hb hn
        exact⟨(ia b c9).trans k1,k2⟩
      · rw[←hle.os,←wk]
      · rw[←hle.output,←wk]
      · rw[←hle.tape,←wk]
      · have k1:w.frozen? ad=μ0.w.frozen? ad:=hle.frozen ad Lb
        show w2.frozen? ad=_
        rw[←k1]
        by_cases e:ad.block=bi
        · simp only[World.frozen?,e,GU,K9]
        · simp only[World.frozen?,ia _ e]
    have pS:Rel X σ.T a ⟨w2,φ,σ.O⟩:=⟨fun t=>ak.cn st (hr.tmps t),QR⟩
    have Dp:Marks n w2 a.defers:=by
      obtain⟨⟨m0,YY⟩,Ds,m1,m2,m3⟩:=iK
      exact⟨⟨by omega,fun l hl=>by
        obtain⟨L,k⟩:=YY l hl
        exact⟨L,(ia l (fun e=>by rw[e,GU] at k;simp at k)).trans k⟩⟩,Ds,m1,m2,fun D hD=> ⟨(m3 D hD).1,(ia D (fun e=>by have:=(m3 D hD).2;rw[e,GU] at this;simp at this)).trans (m3 D hD).2⟩⟩
    have tZ:iE X ⟨w2,φ,σ.O⟩ n (σ.put (some nx) (.tuple [.bool true,k,v])) (a.put o1.dst (.tuple #[.bool true,z.2.key,z.2.val])) w2:=by
      rw[hd]
      refine⟨by rw[put_defers];exact Dp,by rw[ke];exact cE,φ,nc pS (Le.refl _) QR ?_ (by simp;omega) σ.O,Le.refl _⟩
      simp only[ak]
      exact⟨_,rfl,by simp only[aj,ak];exact⟨trivial,ak.cn st Mk.1,ak.cn st Mk.2,trivial⟩⟩
    refine hB _ _ _ _ _ _ (Exit.then (Code.wpIn (Fr n.ro) 0 X.P (.block b1 (.seq (.region i5 fX false) z5)) (Exit.then (Code.roundsIn (Fr n.ro) 0 X.P (mB i0 ops y b1 i5 fX z5) Q (m'+1)) Q)) (Exit.then (Code.roundsIn (Fr n.ro) 0 X.P (mB i0 ops y b1 i5 fX z5) Q (m'+1)) Q)) _ Dn tZ (fun am wm QS=> ?_) fun a' w' h=>wpIn_seq h
    have fJ:bi<w2.heap.size:=by omega
    have GV:bm<w2.heap.size:=by rw[pk];exact(Array.getElem?_eq_some_iff.1 Mj).1
    have GW:bm≠bi:=fun e=>by rw[e,GU] at Mj;simp at Mj
    obtain⟨Wm,GX⟩:=tn FW
    have YZ:=QS
    obtain⟨QT,Wn,φm,Wo,Bw⟩:=QS
    have Y0:φm r=φ r:=(Bw.row r (by show (σm.O r).gen=(σ.O r).gen;rw[GX,cm])).1
    have Wp:wm.heap[bi]? =some (.mapIter (some bm) since (seen.push z.2.born) since):=(Bw.cA bi fJ kN).1.trans K9
    have Wq:wm.heap[bm]? =some (.map ents since):=(Bw.cA bm GV (fun h=>MG (.inl h))).1.trans ((ia bm GW).trans Mj)
    have Wr:am.eval (.tmp it)= .pointer (some ⟨bi,0,none⟩):=by
      have:=Wo.tmps it
      rw[Wm] at this
      simp only[ak] at this
      obtain⟨a0,h1,_,h2⟩:=this
      obtain⟨_,rfl⟩:=h2 GX
      show am.tmps.getD it undef=_
      rw[h1,Y0,hφ]
    have Y1:z.2 ∈ ents.toList:=by rw[←hZ];exact List.mem_map.2 ⟨z,XL,rfl⟩
    refine wpIn_block (wpIn_seq (tj (X:=X) k0 (by rw[Wl];simp) kg (y7 Wl (by rw[Wr];exact Bv Wp Wq Y1 j9.2)) ?_))
    have zM:iE X ⟨w2,φ,σ.O⟩ n (σm.put (some ne) (.tuple [k,v])) (am.put o5.dst (.tuple #[z.2.key,z.2.val])) wm:=by
      rw[kd]
      refine⟨by rw[put_defers];exact QT,by rw[ke];exact Wn,φm,nc Wo (Le.refl _) Wo.aX ?_ (by simp;omega) σm.O,Bw⟩
      simp only[ak]
      exact⟨_,rfl,by simp only[aj];exact⟨ak.mono Bw (ak.cn st Mk.1),ak.mono Bw (ak.cn st Mk.2),trivial⟩⟩
    refine hM _ _ _ _ _ _ ib zM fun a' w' jY=> ?_
    obtain⟨QU,FL,φ',ql,pE⟩:=jY
    have Dr: ∀p,p.Perm ((gq Z (seen.push z.2.born)).map (·.1))→ ∃σp,runK rec it r g nx ne id tb tm tl p σ'=some σp∧Good σp:=fun p hp=>by
      obtain⟨σp,hk,yN⟩:=tq (z.1::p) ((hp.cons z.1).trans (by have:=(Ab.map (·.1)).symm;simpa using this))
      refine⟨σp,?_,yN⟩
      rw[XM] at hk
      simp only[runK,Eh,FW,if_true,Dn,ib] at hk
      exact hk
    have Ws:rE it r g σ'=true:=by
      obtain⟨σp,hk,_⟩:=Dr _ (.refl _)
      cases hl: (gq Z (seen.push z.2.born)).map (·.1) with
      | nil=>
        rw[hl] at hk
        simp only[runK] at hk
        split at hk
        · rename_i h;exact h
        · simp at hk
      | cons e p=>
        rw[hl] at hk
        simp only[runK] at hk
        split at hk
        · split at hk
          · rename_i h;exact h
          · simp at hk
        · simp at hk
    have tu: (σ'.O r).gen=g:=(tn Ws).2
    obtain⟨Y2,Y3⟩:=pE.cA bi fJ kN
    obtain⟨Y4,Y5⟩:=pE.cA bm GV (fun h=>MG (.inl h))
    have Lc:w'.heap[bi]? =some (.mapIter (some bm) since (seen.push z.2.born) since):=Y2.trans K9
    have hlen: (gq Z (seen.push z.2.born)).length=m':=by
      have:=Ab.length_eq
      rw[hm,List.length_cons] at this
      omega
    refine pD hQ hB hM h0 du hd hg FV k0 Wl kd kg c9 hZ j9 m' (seen.push z.2.born) σ' a' w' φ' hlen QU FL ql (La.trans pE) ?_ Lc Y3 qj ?_ (Y4.trans ((ia bm GW).trans Mj)) ?_ (fun x hx=>ak.mono pE (ak.cn st (bQ x hx))) Dr
    · have:=(pE.row r (by show (σ'.O r).gen=(σ.O r).gen;rw[tu,cm])).1
      rw[show φ' r=φ r from this];exact hφ
    · intro r' h1 h2 hb
      obtain⟨es,bJ⟩:=Option.isSome_iff_exists.1 h1
      rcases ql.aX.ok r' es bJ with⟨_,_,_,h4⟩ | ⟨_,_,ob,h3,h4⟩
      · rcases h4 with h4| ⟨c,T,vs,k1,_⟩
        · exact h2 h4
        · have XN:w'.heap[(φ' r').cD]? =some (.cells c T (0,0)):=k1
          rw[hb,Lc] at XN;simp at XN
      · have Ml:w'.heap[(φ' r').cD]? =some ob:=h3
        rw[hb,Lc] at Ml
        injection Ml with Ml
        rcases h4 with⟨_,_,k1,_⟩ | ⟨_,_,k1,_⟩ | ⟨_,_,_,k1,_⟩
        · rw[←Ml] at k1;simp at k1
        · rw[←Ml] at k1;simp at k1
        · rw[←Ml] at k1
          injection k1 with _ _ k1 _
          have:=congrArg Array.size k1
          simp at this
    · rintro(h| h)
      · exact Y5 h
      · exact MG (.inr h)
termination_by m=>m
theorem tw {      kT kO:List Nat} (hB:vW X n ops y rec tb) (hM:y6 X n fX z5 b1 rec tm) (h0:ops[0]? =some o1) (du:o1.op= .next (.tmp it) false) (hd:o1.dst=some nx) (hg:o1.guard=none) (FV:nx<n.1)
   (l0:fX[0]? =some o5) (Y6:o5.op= .entry (.tmp it)) (ld:o5.dst=some ne) (lg:o5.guard=none) (c9:ne<n.1)
   {C:bb} {σ σ2:St} {e:aY} {a:Go.Act} {w:World} (ah:aE E C rec (.keys it nx ne id kT kO tb tm tl) σ=some (e,σ2)) (hs:iE X μ0 n σ a w):
   e= .normal∧(Code.block id (.loop (mB i0 ops y b1 i5 fX z5))).wpIn (Fr n.ro) 0 X.P (fun ex a' w'=>ex= .normal∧ ∃σe σp,iE X μ0 n σe a' w'∧rec tl σe=some (.normal,σp)∧ ∀Bx Ac,iE X μ0 n σp Bx Ac→iE X μ0 n σ2 Bx Ac) a w:=by
 simp only[aE] at ah
 split at ah
 · rename_i r g hT
   split at ah
   · rename_i es hO
     split at ah
     · rename_i hc
       obtain⟨cm,QV,fY⟩:=hc
       split at ah
       · rename_i σ1 σs oX
         split at ah
         · rename_i Ld
           simp only[Option.some.injEq,Prod.mk.injEq] at ah
           obtain⟨rfl,rfl⟩:=ah
           refine⟨rfl,?_⟩
           let Good:St→Prop:=fun σp=> ∀Bx Ac,iE X μ0 n σp Bx Ac→iE X μ0 n (forget kT kO σ1 σs) Bx Ac
           have xp: ∀σp ∈ σ1::σs,Good σp:=by
            rintro σp hp Bx Ac ⟨iK,cE,φ,hr,hle⟩
            have Ho:agree kT kO σ1 σp=true∨σp=σ1:=by
              rcases List.mem_cons.1 hp with h| h
              · exact .inr h
              · exact .inl (List.all_eq_true.1 Ld σp h)
            have Y7: ∀t,t ∈ kT→σp.T t=σ1.T t:=fun t ht=>by
              rcases Ho with h| h
              · simp only[agree,Bool.and_eq_true,List.all_eq_true] at h
                exact V.beq_eq (h.1 t ht)
              · rw[h]
            have Y8: ∀x,x ∈ kO→σp.O x=σ1.O x:=fun x hx=>by
              rcases Ho with h| h
              · simp only[agree,Bool.and_eq_true,List.all_eq_true] at h
                exact Obj.beq_eq (h.2 x hx)
              · rw[h]
            have BX:=uV (O':=(forget kT kO σ1 σs).O) hr.aX fun x=>by
              simp only[forget]
              by_cases hx:kO.contains x=true
              · rw[if_pos hx]
                exact .inl (Y8 x (by simpa using hx)).symm
              · rw[if_neg hx]
                refine .inr ⟨rfl,.inl ?_⟩
                have:=o6 (fun σ:St=> (σ.O x).gen) hp
                show (σp.O x).gen<_+1
                omega
            refine⟨iK,cE,φ,⟨fun t=> ?_,BX.2⟩,hle.trans BX.1⟩
            simp only[forget]
            split
            · rename_i ht
              rw[←Y7 t (by simpa using ht)]
              exact ak.mono BX.1 (hr.tmps t)
            · simp[ak]
           have tq: ∀p,p.Perm es→ ∃σp,runK rec it r g nx ne id tb tm tl p ⟨σ.T,cW σ.O r ⟨g,0,false,false,none⟩⟩=some σp∧Good σp:=fun p hp=>by
            obtain⟨σp,h1,h2⟩:=qN oX p (lW hp)
            exact⟨σp,h2,xp σp h1⟩
           obtain⟨iK,cE,φ,hr,hle⟩:=hs
           have BX:=uV (O':=cW σ.O r ⟨g,0,false,false,none⟩) hr.aX fun x=>by
            by_cases hx:x=r
            · subst hx
              rw[aA]
              exact .inr ⟨rfl,.inr ⟨cm.symm,QV.symm⟩⟩
            · rw[aU _ _ hx];exact .inl rfl
           have pS:Rel X σ.T a ⟨w,φ,cW σ.O r ⟨g,0,false,false,none⟩⟩:=⟨fun t=>ak.mono BX.1 (hr.tmps t),BX.2⟩
           obtain⟨_,dJ,ob,zV,hh⟩:=hr.aX.map r _ hO QV
           have gC: (Mu.mk w φ σ.O).own (φ r).cD:=⟨r,by show (σ.O r).es.isSome=true;rw[hO];rfl,fY,dJ,rfl⟩
           have kN: ¬ (Mu.mk w φ (cW σ.O r ⟨g,0,false,false,none⟩)).own (φ r).cD:=by
            rintro⟨r',h1,h2,h3,h4⟩
            by_cases hx:r'=r
            · subst hx;simp[aA] at h1
            · have tU: (σ.O r').es.isSome=true:=by have:=h1;simp only[aU _ _ hx] at this;exact this
              exact hr.aX.inj r' r hx tU (by show (σ.O r).es.isSome=true;rw[hO];rfl) h3 dJ h4
           have qj: (φ r).cD<μ0.w.heap.size→μ0.own (φ r).cD:=fun bA=>Classical.byContradiction fun hn=> (hle.cA _ bA hn).2 gC
           have fk: ∀r',((cW σ.O r ⟨g,0,false,false,none⟩) r').es.isSome=true→(φ r').cap≠0→(φ r').cD≠(φ r).cD:=fun r' h1 h2 h4=>by
            by_cases hx:r'=r
            · subst hx;simp[aA] at h1
            · have tU: (σ.O r').es.isSome=true:=by have:=h1;simp only[aU _ _ hx] at this;exact this
              exact hr.aX.inj r' r hx tU (by show (σ.O r).es.isSome=true;rw[hO];rfl) h2 dJ h4
           have hQ: ∀a' w',vX X n μ0 rec tl Good a' w'→Exit.inBlock id (fun ex a' w'=>ex= .normal∧ ∃σe σp,iE X μ0 n σe a' w'∧rec tl σe=some (.normal,σp)∧ ∀Bx Ac,iE X μ0 n σp Bx Ac→iE X μ0 n (forget kT kO σ1 σs) Bx Ac) (.exit id) a' w':=by
            rintro a' w' ⟨σe,σp,q1,q2,q3⟩
            simp only[Go.Exit.inBlock,if_true]
            exact⟨trivial,σe,σp,q1,q2,q3⟩
           have key: ∃m,Code.roundsIn (Fr n.ro) 0 X.P (mB i0 ops y b1 i5 fX z5) (Exit.inBlock id (fun ex a' w'=>ex= .normal∧ ∃σe σp,iE X μ0 n σe a' w'∧rec tl σe=some (.normal,σp)∧ ∀Bx Ac,iE X μ0 n σp Bx Ac→iE X μ0 n (forget kT kO σ1 σs) Bx Ac)) (m+1) a w:=by
            rcases hh with⟨ents,clock,k1,hh,_⟩ | ⟨s,pos,_,hh⟩ | ⟨mo,since,mX,h1,h2,h3⟩
            · exfalso
              cases he:ents.toList with
              | nil=>rw[he] at hh;simp[aj] at hh
              | cons x xs=>rw[he] at hh;simp[aj,ak] at hh
            · simp at hh
            · simp only[List.cons.injEq,V.mlit.injEq,and_true] at h2
              subst h2
              subst h1
              rcases h3 with⟨rfl,rfl⟩ | ⟨bm,ents,rfl,k2,k3,k4,k5,k6⟩
              · obtain⟨σp,hk,yN⟩:=tq [] (.refl _)
                have Eh:a.eval (.tmp it)= .pointer (some ⟨(φ r).cD,0,none⟩):=by
                  have:=hr.tmps it
                  rw[hT] at this
                  simp only[ak] at this
                  obtain⟨a0,e1,_,e2⟩:=this
                  obtain⟨_,rfl⟩:=e2 cm
                  exact e1
                exact⟨0,uY hQ hB h0 du hd hg FV ⟨iK,cE,φ,pS,hle.trans BX.1⟩ (by rw[Eh];exact Dm zV) hk yN 0⟩
              · obtain⟨Z,z1,z2,z3⟩:=xo k6
                have pB:gq Z #[]=Z:=List.filter_eq_self.2 fun z _=>by simp
                refine⟨_,pD (r:=r) (g:=g) hQ hB hM h0 du hd hg FV l0 Y6 ld lg c9 z2 k5 _ #[] ⟨σ.T,cW σ.O r ⟨g,0,false,false,none⟩⟩ a w φ rfl iK cE pS (hle.trans BX.1) rfl zV kN qj fk k4 ?_ (fun z hz=>ak.mono BX.1 (z3 z hz)) ?_⟩
                · rintro(⟨r',h1,h2,h3,h4⟩ | h)
                  · refine k2 (.inl ⟨r',?_,?_,h3,h4⟩)
                    · by_cases hx:r'=r
                      · subst hx;simp[aA] at h1
                      · have:=h1;simp only[aU _ _ hx] at this;exact this
                    · by_cases hx:r'=r
                      · subst hx;exact fY
                      · have:=h2;simp only[aU _ _ hx] at this;exact this
                  · exact k2 (.inr h)
                · rw[pB,z1];exact tq
           obtain⟨m,hm⟩:=key
           exact wpIn_block (wpIn_loop_rounds (m+1) hm)
         · simp at ah
       · simp at ah
     · simp at ah
   · simp at ah
 · simp at ah
end
end Go.AM
namespace Go.AM
open Go Go.RowKit
theorem Dt {X:Ctx} {μ:Mu} (ho:bj X μ) {D:Nat} {o:Go.Obj} (hD:μ.w.heap[D]? =some o) (h1:o.isCells=false) (h2:o.isWalk=false) {r:Nat} (hr: (μ.O r).es.isSome=true) (hc: (μ.φ r).cap≠0): (μ.φ r).cD≠D:=fun hb=>by
 obtain⟨es,bJ⟩:=Option.isSome_iff_exists.1 hr
 rcases ho.ok r es bJ with⟨_,_,_,h4⟩ | ⟨_,_,ob,h3,h4⟩
 · rcases h4 with h4| ⟨c,T,vs,k1,_⟩
   · exact hc h4
   · rw[hb,hD] at k1;injection k1 with k1;subst k1;simp[Obj.isCells] at h1
 · rw[hb,hD] at h3;injection h3 with h3;subst h3
   rcases h4 with⟨_,_,rfl,_⟩ | ⟨_,_,rfl,_⟩ | ⟨_,_,_,rfl,_⟩ <;>simp[Obj.isWalk] at h2
theorem jn {X:Ctx} {μ:Mu} {D:Nat} {o o':Go.Obj} (hD:μ.w.heap[D]? =some o) (h1:o.isCells=false) (h2:o.isWalk=false):iB X μ (μ.w.putObj D o'):=by
 refine⟨fun ad c hc=> ?_,fun b es cl hb=> ?_,by simp[World.putObj]⟩
 · have c9:ad.block≠D:=fun e=>by
    simp only[World.cell?,e,hD] at hc
    cases o<;>simp_all[Obj.isCells]
   simp only[World.cell?,World.putObj_heap_other c9] at hc ⊢
   exact hc
 · rw[World.putObj_heap_other (fun e=>by rw[e,hD] at hb;injection hb with hb;subst hb;simp[Obj.isWalk] at h2)]
   exact hb
theorem y8 {μ0:Mu} {w:World} {φ:Nat→Row} {O:Nat→Obj} (le:Le μ0 ⟨w,φ,O⟩) {D:Nat} {o':Go.Obj} (hf:μ0.w.heap.size≤D):Le μ0 ⟨w.putObj D o',φ,O⟩:=by
 refine⟨by have:=le.size;simpa [World.putObj] using this,fun b hb hn=> ?_,le.gen,le.row,le.os,le.output,le.tape,fun ad Lb=> ?_⟩
 · have c9:b≠D:=by omega
   exact⟨(World.putObj_heap_other c9).trans (le.cA b hb hn).1,(le.cA b hb hn).2⟩
 · have c9:ad.block≠D:=by omega
   have:=le.frozen ad Lb
   simp only[World.frozen?] at this ⊢
   show (match (w.putObj D o').heap[ad.block]? with| some (.cells _ _ (lo,hi))=>_| _=>false)=_
   rw[World.putObj_heap_other c9]
   exact this
theorem uZ {X:Ctx} {w:World} {φ:Nat→Row} {O:Nat→Obj} (ho:bj X ⟨w,φ,O⟩) {D:Nat} (h2:w.heap[D]? =some (.deferred (some []))):bj X ⟨w.putObj D (.deferred none),φ,O⟩:=
 ho.cn (jn (μ:=⟨w,φ,O⟩) h2 rfl rfl) fun r h3 h4=>World.putObj_heap_other (Dt ho h2 rfl rfl h3 h4)
def Kept (μ:Mu) (W W':World):Prop:= ∀b,b<μ.w.heap.size→ ¬μ.own b→W'.heap[b]? =W.heap[b]?
def Abides (J:Nat→World→Prop):Prop:= ∀k A B,J k A→A.grownBy B none→J k B
structure FX (J:Nat→(Nat→Prop)→World→Prop):Prop where
 grow: ∀k F A B,J k F A→A.grownBy B none→J k (fun b=>F b∨(A.heap.size≤b∧b<B.heap.size)) B
 less: ∀k F F' A,J k F A→(∀b,F' b→F b)→J k F' A
structure r5 (X:Ctx) (μ:Mu) (gf:Nat) (lb:Array Value) (xs:List (List V)):Prop where
 enters: ∀args w,(callFunc gf args).run X.P w= .ok (.enter gf args) w
 ex: ∃Mm:List (Array Value),Mm.length=xs.length∧(∀ (i:Nat) x v,xs[i]? =some x→Mm[i]? =some v→aj X μ x v.toList)∧
  ∀ (l:Nat) (J:Nat→(Nat→Prop)→World→Prop) (Jx:Nat→World→Prop) (W0:World),Below μ.w.heap.size μ.w W0→FX J→Abides Jx→
   (∀ (k:Nat) F W1 v,Mm[k]? =some v→J k F W1→YieldAt (Fr none) 0 X.P l v W1 fun e W'=> (e= .returned (.bool true)∧J (k+1) F W'∧Kept μ W1 W'∧ ∀b,F b→W'.heap[b]? =W1.heap[b]?)∨(e= .returned (.bool false)∧Jx (k+1) W'))→
   J 0 (fun _=>False) W0→CallsIn (Fr none) 0 X.P gf (#[.func (.yield l) #[] #[]]++lb) W0 fun e W'=> (∃v,e= .returned v)∧((∃F,J Mm.length F W')∨ ∃k,k≤Mm.length∧Jx k W')
theorem rk {X:Ctx} {μ:Mu} {W':World} (h:μ.w.grownBy W' none):iB X μ W':=by
 have hb: ∀k,k<μ.w.heap.size→W'.heap[k]? =μ.w.heap[k]? :=fun k hk=>h.block k hk (by simp)
 refine⟨fun ad c hc=> ?_,fun b es cl hc=> ?_,h.size⟩
 · have bA:ad.block<μ.w.heap.size:=by
    rcases Nat.lt_or_ge ad.block μ.w.heap.size with hl| hl
    · exact hl
    · simp[World.cell?,Array.getElem?_eq_none hl] at hc
   simp only[World.cell?,hb _ bA] at hc ⊢
   exact hc
 · rw[hb _ (Array.getElem?_eq_some_iff.1 hc).1];exact hc
theorem y9 {X:Ctx} {μ:Mu} (ho:bj X μ) {r:Nat} (hr: (μ.O r).es.isSome=true) (hc: (μ.φ r).cap≠0): (μ.φ r).cD<μ.w.heap.size:=by
 obtain⟨es,bJ⟩:=Option.isSome_iff_exists.1 hr
 rcases ho.ok r es bJ with⟨_,_,_,h4⟩ | ⟨_,_,ob,h3,h4⟩
 · rcases h4 with h4| ⟨c,T,vs,k1,_⟩
   · exact absurd h4 hc
   · exact(Array.getElem?_eq_some_iff.1 k1).1
 · exact(Array.getElem?_eq_some_iff.1 h3).1
structure fg (X:Ctx) (μb:Mu) (T:Nat→V) (a:Go.Act) (l:Nat) (Dq:Option Nat) (L:Loop) (O:Nat→Obj) (φ:Nat→Row) (W:World):Prop where
 rel:Rel X T a ⟨W,φ,O⟩
 le:Le μb ⟨W,φ,O⟩
 u4:W.heap[l]? =some (.loop L)
 Lf: ∀D,Dq=some D→W.heap[D]? =some (.deferred (some []))
section
variable {X:Ctx} {μb:Mu} {T:Nat→V} {a:Go.Act} {l:Nat} {Dq:Option Nat} {L L':Loop} {O:Nat→Obj} {φ:Nat→Row} {W W':World}
theorem fg.grow (h:fg X μb T a l Dq L O φ W) (hg:W.grownBy W' none):fg X μb T a l Dq L O φ W':=by
 have st:iB X ⟨W,φ,O⟩ W':=rk (μ:=⟨W,φ,O⟩) hg
 have hb: ∀k,k<W.heap.size→W'.heap[k]? =W.heap[k]? :=fun k hk=>hg.block k hk (by simp)
 refine⟨⟨fun t=>ak.cn st (h.rel.tmps t),h.rel.aX.cn st fun r h1 h2=>hb _ (y9 h.rel.aX h1 h2)⟩,?_,(hb _ (Array.getElem?_eq_some_iff.1 h.u4).1).trans h.u4,fun D hD=> (hb _ (Array.getElem?_eq_some_iff.1 (h.Lf D hD)).1).trans (h.Lf D hD)⟩
 have le:=h.le
 have cE:μb.w.heap.size≤W.heap.size:=le.size
 exact⟨Nat.le_trans cE hg.size,fun b nD hn=> ⟨(hb b (by omega)).trans (le.cA b nD hn).1,(le.cA b nD hn).2⟩,le.gen,le.row,hg.os.trans le.os,hg.output.trans le.output,hg.tape.trans le.tape,fun ad Lb=>by
  have:=le.frozen ad Lb
  rw[←this]
  show W'.frozen? ad=W.frozen? ad
  simp only[World.frozen?,hb ad.block (by omega)]⟩
theorem fg.put (h:fg X μb T a l Dq L O φ W) (hl:μb.w.heap.size≤l) (hD: ∀D,Dq=some D→D≠l):fg X μb T a l Dq L' O φ (W.putObj l (.loop L')):=by
 have st:iB X ⟨W,φ,O⟩ (W.putObj l (.loop L')):=jn (μ:=⟨W,φ,O⟩) h.u4 rfl rfl
 refine⟨⟨fun t=>ak.cn st (h.rel.tmps t),h.rel.aX.cn st fun r h3 h4=>World.putObj_heap_other (Dt h.rel.aX h.u4 rfl rfl h3 h4)⟩,y8 h.le hl,World.putObj_heap_same (Array.getElem?_eq_some_iff.1 h.u4).1,fun D hd=> (World.putObj_heap_other (hD D hd)).trans (h.Lf D hd)⟩
end
def aY.conv:aY→Go.Exit
 | .normal=> .normal
 | .exit id=> .exit id
 | .ret=> .ret
def Du (X:Ctx) (n:Fp) (c:Code) (rec:al→St→Option (aY×St)) (tc:al):Prop:=
 ∀ (σ σ':St) (e:aY) (μ0:Mu) (a:Go.Act) (w:World),rec tc σ=some (e,σ')→iE X μ0 n σ a w→c.wpIn (Fr n.ro) 0 X.P (fun ex a' w'=>ex=e.conv∧iE X μ0 n σ' a' w') a w
theorem Ad {X:Ctx} {μ:Mu}: ∀ {ps:List Nat} {x:List V} {vs:List Value} {T:Nat→V} {tmps:Array Value},aj X μ x vs→(∀t,ak X μ (T t) (tmps.getD t undef))→(∀p ∈ ps,p<tmps.size)→
   (∀t,ak X μ (lV T ps x t) (((ps.zip vs).foldl (fun t p=>t.setIfInBounds p.1 p.2) tmps).getD t undef))∧((ps.zip vs).foldl (fun t p=>t.setIfInBounds p.1 p.2) tmps).size=tmps.size
 | [],x,vs,T,tmps,_,h,_=> ⟨by simpa [lV] using h,rfl⟩
 | p::ps,[],[],T,tmps,_,h,_=> ⟨by simpa [lV] using h,rfl⟩
 | p::ps,[],_::_,T,tmps,hx,_,_=>by simp[aj] at hx
 | p::ps,_::_,[],T,tmps,hx,_,_=>by simp[aj] at hx
 | p::ps,x::xs,v::vs,T,tmps,hx,h,hp=>by
   simp only[aj] at hx
   have bA:=hp p (by simp)
   obtain⟨k1,k2⟩:=Ad (ps:=ps) (T:=cW T p x) (tmps:=tmps.setIfInBounds p v) hx.2 (fun t=>by
    unfold cW
    split
    · rename_i e;subst e
      have: (tmps.setIfInBounds t v).getD t undef=v:=by simp[bA]
      rw[this];exact hx.1
    · rename_i c9
      have: (tmps.setIfInBounds p v).getD t undef=tmps.getD t undef:=by
       simp[Array.getElem?_setIfInBounds_ne (fun e=>c9 e.symm)]
      rw[this];exact h t) (fun q hq=>by simpa using hp q (by simp[hq]))
   exact⟨k1,by simpa using k2⟩
theorem By {P:Program} {w:World} (ro:Option Nat) (h: ∀l,ro=some l→ ∃L,w.heap[l]? =some (.loop L)) (fn:FuncId) (tmps:Array Value) (ps:Array Tmp) (assign body:Code):
   ∃ (l:Nat) (Dq:Option Nat) (dD:Nat) (W1:World),(Instr.enterLoop fn tmps ps assign body ro).run P w= .ok (l,Dq.toList.map fun D=> {target:= .collected D,args:= #[]}) W1∧w.grownBy W1 none∧w.heap.size≤l∧
     W1.heap[l]? =some (.loop {state:= .ready,pending:=none,fn,tmps,params:=ps,assign,body,defers:=dD})∧ ∀D,Dq=some D→w.heap.size≤D∧D≠l∧W1.heap[D]? =some (.deferred (some [])):=by
 cases ro with
 | none=>
   have cE: (w.alloc (.deferred (some []))).heap.size=w.heap.size+1:=World.size_alloc _ _
   refine⟨w.heap.size+1,some w.heap.size,w.heap.size,_,run_enterLoop_outer fn tmps ps assign body,?_,by omega,?_,?_⟩
   · have b1:Below w.heap.size w ((w.alloc (.deferred (some []))).alloc (.loop {state:= .ready,pending:=none,fn,tmps,params:=ps,assign,body,defers:=w.heap.size})):=((Below.refl _ w).alloc (Nat.le_refl _) _).alloc (by simp) _
     exact⟨b1.os,b1.tape,b1.output,b1.size,fun k hk _=>b1.block k hk⟩
   · have:=World.alloc_heap_new (w.alloc (.deferred (some []))) (.loop {state:= .ready,pending:=none,fn,tmps,params:=ps,assign,body,defers:=w.heap.size})
     rwa [cE] at this
   · rintro D hD
     injection hD with hD;subst hD
     exact⟨Nat.le_refl _,by omega,(Below.heap_alloc _ _ _ (by rw[cE];omega)).trans (World.alloc_heap_new w _)⟩
 | some l0=>
   obtain⟨L,hL⟩:=h l0 rfl
   refine⟨w.heap.size,none,L.defers,_,run_enterLoop_inner hL fn tmps ps assign body,?_,Nat.le_refl _,World.alloc_heap_new w _,by simp⟩
   have b1:Below w.heap.size w (w.alloc (.loop {state:= .ready,pending:=none,fn,tmps,params:=ps,assign,body,defers:=L.defers})):=(Below.refl _ w).alloc (Nat.le_refl _) _
   exact⟨b1.os,b1.tape,b1.output,b1.size,fun k hk _=>b1.block k hk⟩
theorem u5 {X:Ctx} {μ0:Mu} {n:Fp} {T:Nat→V} {a:Go.Act} {w W:World} {φ φ':Nat→Row} {O0 O:Nat→Obj} {l:Nat} {Dq:Option Nat} {L:Loop} (iK:Marks n w a.defers) (cE:a.tmps.size=n.tm) (ho:bj X ⟨w,φ,O0⟩) (hle:Le μ0 ⟨w,φ,O0⟩)
   (h:fg X ⟨w,φ,O0⟩ T a l Dq L O φ' W) (hD: ∀D,Dq=some D→w.heap.size≤D):iE X μ0 n ⟨T,O⟩ {a with defers:=(Dq.toList.map fun D=> {target:= .collected D,args:= #[]})++a.defers} W:=by
 refine⟨?_,cE,φ',⟨h.rel.tmps,h.rel.aX⟩,hle.trans h.le⟩
 obtain⟨h0,Ds,h1,h2,h3⟩:=iK.le ho h.le
 refine⟨h0,Dq.toList++Ds,by simp[h1],?_,fun D hd=> ?_⟩
 · cases Dq with
   | none=>simpa using h2
   | some D=>
     simp only[Option.toList_some,List.cons_append,List.nil_append,List.nodup_cons]
     refine⟨fun hm=> ?_,h2⟩
     obtain⟨_,Y9,k1,_,k3⟩:=iK
     have:Ds=Y9:=by
       rw[h1] at k1
       have lI:Function.Injective (fun D:Nat=> ({target:= .collected D,args:= #[]}:Deferred)):=fun x y e=>by injection e with e;injection e
       exact List.map_inj_right (fun x y e=>lI e) |>.1 k1
     subst this
     have:=(Array.getElem?_eq_some_iff.1 (k3 D hm).2).1
     have:=hD D rfl
     omega
 · rcases List.mem_append.1 hd with hd| hd
   · cases Dq with
     | none=>simp at hd
     | some D'=>
       simp at hd;subst hd
       exact⟨Nat.le_trans iK.1.1 (hD _ rfl),h.Lf _ rfl⟩
   · exact h3 D hd
theorem xq {X:Ctx} {n:Fp} {g:Operand} {ps:Array Tmp} {assign body:Code} {rec:al→St→Option (aY×St)} {ta tb:al} (hA: ∀l,Du X ⟨n.tm,0,some l⟩ assign rec ta) (hB: ∀l,Du X ⟨n.tm,0,some l⟩ body rec tb)
   {μ0:Mu} {σ σ':St} {e:aY} {a:Go.Act} {w:World} (hs:iE X μ0 n σ a w) (tK: ∀p ∈ ps.toList,p<n.tm) {gf:Nat} {lb:Array Value} {xs:List (List V)} (hg:a.eval g= .func (.func gf) #[] lb)
   (hI: ∀φ,Rel X σ.T a ⟨w,φ,σ.O⟩→r5 X ⟨w,φ,σ.O⟩ gf lb xs) (hlen: ∀x ∈ xs,x.length=ps.size) (ah:oW rec ps.toList ta tb σ.T xs σ.O=some (e,σ')):
   (Code.rangeFunc g ps assign body).wpIn (Fr n.ro) 0 X.P (fun ex a' w'=>ex=e.conv∧iE X μ0 n σ' a' w') a w:=by
 obtain⟨iK,cE,φ,hr,hle⟩:=hs
 obtain⟨enters,Mm,B2,yg,QW⟩:=hI φ hr
 refine wpIn_rangeFunc fun fn pQ=> ?_
 obtain⟨l,Dq,dD,W1,Wt,kc,hl,Wu,UM⟩:=By (P:=X.P) n.ro iK.1.2 fn a.tmps ps assign body
 obtain⟨fm,kj⟩: ∃fm:LoopState→Option Code→Loop,fm=fun st pe=> {state:=st,pending:=pe,fn,tmps:=a.tmps,params:=ps,assign,body,defers:=dD}:=⟨_,rfl⟩
 have c9: ∀D,Dq=some D→D≠l:=fun D hD=> (UM D hD).2.1
 have Wv:fg X ⟨w,φ,σ.O⟩ σ.T a l Dq (fm .ready none) σ.O φ W1:=by
   have st:iB X ⟨w,φ,σ.O⟩ W1:=rk (μ:=⟨w,φ,σ.O⟩) kc
   have hb: ∀k,k<w.heap.size→W1.heap[k]? =w.heap[k]? :=fun k hk=>kc.block k hk (by simp)
   refine⟨⟨fun t=>ak.cn st (hr.tmps t),hr.aX.cn st fun r h1 h2=>hb _ (y9 hr.aX h1 h2)⟩,?_,by rw[kj];exact Wu,fun D hD=> (UM D hD).2.2⟩
   exact⟨kc.size,fun b nD hn=> ⟨hb b nD,hn⟩,fun _=>Nat.le_refl _,fun _ _=> ⟨rfl,rfl⟩,kc.os,kc.output,kc.tape,fun ad Lb=>by simp only[World.frozen?,hb ad.block Lb]⟩
 refine⟨l,_,W1,{target:= .fn (.func gf) lb,args:= #[.func (.yield l) #[] #[]]},W1,gf,#[.func (.yield l) #[] #[]]++lb,W1,Wt,?_,fun _ _=>trivial,?_,fun h=>by simp[Fr,Fence.wide] at h,?_⟩
 · simp only[resolve,hg]
   simp[go_sem]
 · simp[invoke,go_sem,enters]
 have key:=QW l (fun k F W=> ∃O φ',fg X ⟨w,φ,σ.O⟩ σ.T a l Dq (fm .ready none) O φ' W∧oW rec ps.toList ta tb σ.T (xs.drop k) O=some (e,σ')∧ ∀b,F b→b<W.heap.size∧ ¬Mu.own ⟨W,φ',O⟩ b∧b≠l)
   (fun k W=> ∃O φ' c,fg X ⟨w,φ,σ.O⟩ σ.T a l Dq (fm .done (some c)) O φ' W∧σ'=⟨σ.T,O⟩∧(e= .ret∧c= .ret∨ ∃id,e= .exit id∧c= .exit id)) W1
   ⟨kc.os,kc.tape,kc.output,kc.size,fun k hk=>kc.block k hk (by simp)⟩
   ⟨fun k F A B ⟨O,φ',h1,h2,h3⟩ hg=> ⟨O,φ',h1.grow hg,h2,fun b hb=>by
     rcases hb with hb| ⟨GJ,Mn⟩
     · exact⟨Nat.lt_of_lt_of_le (h3 b hb).1 hg.size,(h3 b hb).2⟩
     · refine⟨Mn,?_,fun oh=> ?_⟩
       · rintro⟨r,q1,_,q3,q4⟩
         have:=y9 (μ:=⟨A,φ',O⟩) h1.rel.aX q1 q3
         have hq: (φ' r).cD=b:=q4
         have: (φ' r).cD<A.heap.size:=this
         omega
       · subst oh
         have:=(Array.getElem?_eq_some_iff.1 h1.u4).1
         omega⟩,fun k F F' A ⟨O,φ',h1,h2,h3⟩ hF=> ⟨O,φ',h1,h2,fun b hb=>h3 b (hF b hb)⟩⟩ (fun k A B ⟨O,φ',c,h1,h2⟩ hg=> ⟨O,φ',c,h1.grow hg,h2⟩) ?round ⟨σ.O,φ,Wv,by simpa using ah,fun b hb=>hb.elim⟩
 case round=>
   rintro k F W v hv ⟨O,φ',qj,rJ,hF⟩
   have hk:k<xs.length:=by rw[←B2];exact(List.getElem?_eq_some_iff.1 hv).1
   have hx:xs[k]? =some xs[k]:=List.getElem?_eq_getElem hk
   rw[List.drop_eq_getElem_cons hk] at rJ
   generalize xs[k]=x at hx rJ
   have qZ:=yg k x v hx hv
   have tM:=hlen x (List.mem_of_getElem? hx)
   simp only[oW] at rJ
   split at rJ
   rotate_left
   · simp at rJ
   rename_i σ1 h1
   have Ww:=qj.le
   have Wx:aj X ⟨W,φ',O⟩ x v.toList:=aj.mono Ww qZ
   have rZ:v.size=ps.size:=by
     have:=qZ.length
     rw[←tM,this];simp
   have L5:=Ad (ps:=ps.toList) (T:=σ.T) (tmps:=a.tmps) Wx qj.rel.tmps (by rw[cE];exact tK)
   have Wy: ((ps.zip v).foldl (fun tmps (p:Tmp×Value)=>tmps.setIfInBounds p.1 p.2) a.tmps)=(ps.toList.zip v.toList).foldl (fun t p=>t.setIfInBounds p.1 p.2) a.tmps:=by
     rw[←Array.foldl_toList,Array.toList_zip]
   have hy:=run_yield (P:=X.P) (args:=v) qj.u4 (by rw[kj];exact rZ)
   rw[kj] at hy
   refine⟨fn,_,assign,body,hy,roundIn_of_wpIn pQ ?_⟩
   have ki:iE X ⟨W,φ',O⟩ ⟨n.tm,0,some l⟩ ⟨lV σ.T ps.toList x,O⟩ {tmps:=(ps.zip v).foldl (fun tmps (p:Tmp×Value)=>tmps.setIfInBounds p.1 p.2) a.tmps,defers:=[]} W:=by
     refine⟨Marks.nil (Nat.zero_le _) (fun l' vB=>by injection vB with vB;subst vB;exact⟨_,qj.u4⟩),by show Array.size _=n.tm;rw[Wy,L5.2];exact cE,φ',⟨fun t=> ?_,qj.rel.aX⟩,Le.refl _⟩
     show ak X _ _ (Array.getD _ t undef)
     rw[Wy];exact L5.1 t
   refine wpIn_mono (hA l _ _ _ _ _ _ h1 ki) fun ex a1 w1 hq=> ?_
   obtain⟨rfl,Ba,tN,φ1,QX,Dv⟩:=hq
   have GY: ∀ {b:Nat} {o:Go.Obj},W.heap[b]? =some o→o.isCells=false→o.isWalk=false→w1.heap[b]? =some o:=fun {b o} hb i1 i2=>
     (Dv.cA b (Array.getElem?_eq_some_iff.1 hb).1 (dV qj.rel.aX hb i1 i2)).1.trans hb
   have FY:fg X ⟨w,φ,σ.O⟩ σ.T a l Dq (fm .ready none) σ1.O φ1 w1:=⟨⟨fun t=>ak.mono Dv (qj.rel.tmps t),QX.aX⟩,qj.le.trans Dv,GY qj.u4 rfl rfl,fun D hD=>GY (qj.Lf D hD) rfl rfl⟩
   show ∃w₂,_∧_
   refine⟨_,run_beginRound FY.u4 (by rw[kj]),?_⟩
   have rK:fg X ⟨w,φ,σ.O⟩ σ.T a l Dq (fm .busy none) σ1.O φ1 (w1.putObj l (.loop (fm .busy none))):=FY.put hl c9
   have QY: ({fm .ready none with state:= .busy}:Loop)=fm .busy none:=by rw[kj]
   rw[QY]
   have Za:iB X ⟨w1,φ1,σ1.O⟩ (w1.putObj l (.loop (fm .busy none))):=jn (μ:=⟨w1,φ1,σ1.O⟩) FY.u4 rfl rfl
   have GZ:iE X ⟨w1.putObj l (.loop (fm .busy none)),φ1,σ1.O⟩ ⟨n.tm,0,some l⟩ σ1 a1 (w1.putObj l (.loop (fm .busy none))):=by
     refine⟨?_,tN,φ1,⟨fun t=>ak.cn Za (QX.tmps t),rK.rel.aX⟩,Le.refl _⟩
     obtain⟨_,Ds,m1,m2,m3⟩:=Ba
     refine⟨⟨Nat.zero_le _,fun l' vB=>by injection vB with vB;subst vB;exact⟨_,rK.u4⟩⟩,Ds,m1,m2,fun D hD=> ⟨Nat.zero_le _,?_⟩⟩
     rw[World.putObj_heap_other (fun e=>by have:=(m3 D hD).2;rw[e,FY.u4] at this;simp at this)]
     exact(m3 D hD).2
   split at rJ
   ·
     rename_i σ2 h2
     refine wpIn_mono (hB l _ _ _ _ _ _ h2 GZ) fun ex a3 w3 hq=> ?_
     obtain⟨rfl,_,_,φ3,QZ,vY⟩:=hq
     have xr: ∀ {b:Nat} {o:Go.Obj},(w1.putObj l (.loop (fm .busy none))).heap[b]? =some o→o.isCells=false→o.isWalk=false→w3.heap[b]? =some o:=fun {b o} hb i1 i2=>
       (vY.cA b (Array.getElem?_eq_some_iff.1 hb).1 (dV rK.rel.aX hb i1 i2)).1.trans hb
     have Bz:fg X ⟨w,φ,σ.O⟩ σ.T a l Dq (fm .busy none) σ2.O φ3 w3:=⟨⟨fun t=>ak.mono vY (rK.rel.tmps t),QZ.aX⟩,rK.le.trans vY,xr rK.u4 rfl rfl,fun D hD=>xr (rK.Lf D hD) rfl rfl⟩
     have Dw:fg X ⟨w,φ,σ.O⟩ σ.T a l Dq (fm .ready none) σ2.O φ3 (w3.putObj l (.loop (fm .ready none))):=Bz.put hl c9
     have e4: ({fm .busy none with state:=if (none:Option Code).isNone then .ready else .done,pending:=none}:Loop)=fm .ready none:=by rw[kj];rfl
     have Mh: ∀b,F b→(w3.putObj l (.loop (fm .ready none))).heap[b]? =W.heap[b]? ∧b<w3.heap.size∧ ¬Mu.own ⟨w3,φ3,σ2.O⟩ b:=fun b hb=>by
       obtain⟨f1,f2,f3⟩:=hF b hb
       have g1:=Dv.cA b f1 f2
       have s1:W.heap.size≤w1.heap.size:=Dv.size
       have s2: (w1.putObj l (.loop (fm .busy none))).heap.size≤w3.heap.size:=vY.size
       have s3: (w1.putObj l (.loop (fm .busy none))).heap.size=w1.heap.size:=World.putObj_size ..
       have g2:=vY.cA b (by show b< (w1.putObj l (.loop (fm .busy none))).heap.size;omega) g1.2
       refine⟨?_,by omega,g2.2⟩
       rw[World.putObj_heap_other f3,show w3.heap[b]? =(w1.putObj l (.loop (fm .busy none))).heap[b]? from g2.1,World.putObj_heap_other f3]
       exact g1.1
     refine⟨_,_,run_endRound none Bz.u4,.inl ⟨rfl,⟨σ2.O,φ3,by rw[e4];exact Dw,rJ,fun b hb=> ?_⟩,fun b hb hn=> ?_,fun b hb=> ?_⟩⟩
     · rw[e4]
       refine⟨?_,(Mh b hb).2.2,(hF b hb).2.2⟩
       rw[show (w3.putObj l (.loop (fm .ready none))).heap.size=w3.heap.size from World.putObj_size ..]
       exact(Mh b hb).2.1
     · rw[e4]
       exact(Dw.le.cA b hb hn).1.trans (qj.le.cA b hb hn).1.symm
     · rw[e4];exact(Mh b hb).1
   ·
     rename_i e2 σ2 sy h2
     simp only[Option.some.injEq,Prod.mk.injEq] at rJ
     obtain⟨rfl,rfl⟩:=rJ
     refine wpIn_mono (hB l _ _ _ _ _ _ h2 GZ) fun ex a3 w3 hq=> ?_
     obtain⟨rfl,_,_,φ3,QZ,vY⟩:=hq
     have xr: ∀ {b:Nat} {o:Go.Obj},(w1.putObj l (.loop (fm .busy none))).heap[b]? =some o→o.isCells=false→o.isWalk=false→w3.heap[b]? =some o:=fun {b o} hb i1 i2=>
       (vY.cA b (Array.getElem?_eq_some_iff.1 hb).1 (dV rK.rel.aX hb i1 i2)).1.trans hb
     have Bz:fg X ⟨w,φ,σ.O⟩ σ.T a l Dq (fm .busy none) σ2.O φ3 w3:=⟨⟨fun t=>ak.mono vY (rK.rel.tmps t),QZ.aX⟩,rK.le.trans vY,xr rK.u4 rfl rfl,fun D hD=>xr (rK.Lf D hD) rfl rfl⟩
     have Dw: ∀c,fg X ⟨w,φ,σ.O⟩ σ.T a l Dq (fm .done (some c)) σ2.O φ3 (w3.putObj l (.loop (fm .done (some c)))):=fun c=>Bz.put hl c9
     have e4: ∀c,({fm .busy none with state:=if (some c:Option Code).isNone then .ready else .done,pending:=some c}:Loop)=fm .done (some c):=fun c=>by rw[kj];rfl
     cases e2 with
     | normal=>exact absurd rfl (sy ·)
     | exit id=>exact⟨_,_,run_endRound (some (.exit id)) Bz.u4,.inr ⟨rfl,σ2.O,φ3,_,by rw[e4];exact Dw _,rfl,.inr ⟨id,rfl,rfl⟩⟩⟩
     | ret=>exact⟨_,_,run_endRound (some .ret) Bz.u4,.inr ⟨rfl,σ2.O,φ3,_,by rw[e4];exact Dw _,rfl,.inl ⟨rfl,rfl⟩⟩⟩
   · simp at rJ
 refine CallsIn.mono (show CallsIn (Fr n.ro) (0 - 1) X.P gf _ W1 _ from key) ?_
 rintro ending W' ⟨⟨v,rfl⟩,(⟨_,O,φ',qj,rJ,_⟩ | ⟨k,_,O,φ',c,qj,hσ,hc⟩)⟩
 · rw[List.drop_of_length_le (by omega)] at rJ
   simp only[oW,Option.some.injEq,Prod.mk.injEq] at rJ
   obtain⟨rfl,rfl⟩:=rJ
   exact⟨none,_,by have:=run_endLoop (P:=X.P) qj.u4 (by rw[kj];simp);rw[this,kj],rfl,u5 iK cE hr.aX hle (qj.put hl c9) fun D hD=> (UM D hD).1⟩
 · subst hσ
   refine⟨some c,_,by have:=run_endLoop (P:=X.P) qj.u4 (by rw[kj];simp);rw[this,kj],?_⟩
   have ki:=u5 iK cE hr.aX hle (qj.put (L':=fm .exhausted (some c)) hl c9) fun D hD=> (UM D hD).1
   rcases hc with⟨rfl,rfl⟩ | ⟨id,rfl,rfl⟩
   · refine wpIn_ret ⟨rfl,?_⟩
     rw[kj] at ki;exact ki
   · refine wpIn_exit ⟨rfl,?_⟩
     rw[kj] at ki;exact ki
end Go.AM
namespace Go.AM
open Go Go.RowKit
def Ends (X:Ctx) (μ0:Mu) (n:Fp) (e:aY) (σ:St):Go.Exit→Go.Act→World→Prop:=fun ex a w=>ex=e.conv∧iE X μ0 n σ a w
section
variable {X:Ctx} {E:Env} {μ0:Mu} {n:Fp}
theorem tx {σ:St} {a:Go.Act} {w:World} (hs:iE X μ0 n σ a w) {c:Operand} {c':aP} (hc:cK X c=some c') {b:Bool} (hb:bc σ c'= .bool b):a.eval c= .bool b:=by
 obtain⟨_,_,φ,hr,_⟩:=hs
 have:=aO hr hc σ.O
 have e:bc ⟨σ.T,σ.O⟩ c'=bc σ c':=rfl
 rw[e,hb] at this
 simpa [ak] using this
theorem jN {h:Hints} {i:Nat} {ops:Array Oper} {d:Bool} {b:Code} {ta tb:al}:wR h (.region i ops d) b ta tb= .seq ta tb:=by
 simp[wR,vJ]
theorem BA {h:Hints} {c:Operand} {x y b:Code} {ta tb:al}:wR h (.cond c x y) b ta tb= .seq ta tb:=by
 simp[wR,vJ]
theorem za {    h:Hints} {x y:Code} {ax ay:al}:wR h x y ax ay= .seq ax ay∨ ∃iR BB dR i0 ops cc cx cy b1 i5 fX z5 id iS Dx dS rest it nx ne kT kO o1 o5 jv Q0 as tc bs tz tR tS sN,
   x= .seq (.region iR BB dR) (.block id (.loop (.seq (.region i0 ops false) (.seq (.cond cc cx cy) (.block b1 (.seq (.region i5 fX false) z5))))))∧y= .seq (.region iS Dx dS) rest∧(ops[0]? =some o1∧o1.op= .next (.tmp it) false∧o1.dst=some nx∧o1.guard=none∧nx<h.n)∧
   (fX[0]? =some o5∧o5.op= .entry (.tmp it)∧o5.dst=some ne∧o5.guard=none∧ne<h.n)∧
   ax= .seq tR (.block jv (.loop (.seq (.region as) (.seq tc (.block Q0 (.seq (.region bs) tz))))))∧ay= .seq tS sN∧wR h x y ax ay= .seq tR (.seq (.keys it nx ne id kT kO (.seq (.region (as.drop 1)) tc) (.block Q0 (.seq (.region (bs.drop 1)) tz)) tS) sN):=by
 unfold wR
 split
 · rename_i it nx ne id kT kO tR jv as tc Q0 bs tz tS sN hk hr
   right
   unfold vJ at hk
   split at hk
   · rename_i iR BB dR Zb i0 ops cc cx cy b1 i5 fX z5
     split at hk
     · rename_i o1 o5 ho Q1
       split at hk
       · rename_i it2 Zc Zd Qv k1 k2 k3 k4 k5 k6
         split at hk
         · split at hk
           · rename_i hn
             simp only[Option.some.injEq,Prod.mk.injEq] at hk
             obtain⟨rfl,rfl,rfl,rfl,rfl,rfl⟩:=hk
             obtain⟨QB,Xj,rfl⟩:=hn
             unfold wQ at hr
             split at hr
             · rename_i iS Dx dS rest
               exact⟨iR,BB,dR,i0,ops,cc,cx,cy,b1,i5,fX,z5,Zb,iS,Dx,dS,rest,Zd,Zc,Qv,_,_,o1,o5,jv,Q0,as,tc,bs,tz,tR,tS,sN,rfl,rfl,⟨ho,k1,k2,k3,QB⟩,⟨Q1,k4,k5,k6,Xj⟩,rfl,rfl,rfl⟩
             · simp at hr
           · simp at hk
         · simp at hk
       · simp at hk
     · simp at hk
   · simp at hk
 · exact .inl rfl
def FZ (X:Ctx) (E:Env):Prop:= ∀g F caps xs,E.iter g caps=some xs→X.jg F=some g→ ∀ (μ:Mu) (lb:Array Value),aj X μ caps lb.toList→bj X μ→r5 X μ F lb xs
theorem zb (     hm:X.P.follows .mixedOrders=true) (Eh:FZ X E) {h:Hints}: ∀ (fuel:Nat),(∀m,m<fuel→my X E (dL E (exec E m)))→ ∀ {n:Fp} (hn:h.n=n.1) {μ0:Mu} (c:Code) (ac:al) (σ σ':St) (e:aY) (a:Go.Act) (w:World),
   cJ X h c=some ac→exec E fuel ac σ=some (e,σ')→iE X μ0 n σ a w→c.wpIn (Fr n.ro) 0 X.P (Ends X μ0 n e σ') a w:=by
 intro fuel
 induction fuel using Nat.strongRecOn with
 | _ xu Mo=>
   intro hH n hn μ0 c
   rcases Nat.eq_zero_or_pos xu with h0| xw
   · subst h0;intro ac σ σ' e a w _ ah;simp[exec] at ah
   obtain⟨fuel,rfl⟩: ∃f,xu=f+1:=⟨xu - 1,by omega⟩
   have B3: ∀m,m<fuel→my X E (dL E (exec E m)):=fun m FU=>hH m (by omega)
   have ih:=Mo fuel (by omega)
   have H:=hH fuel (by omega)
   cases c with
   | skip=>
     intro ac σ σ' e a w aM ah hs
     simp[cJ] at aM;subst aM
     simp[exec,aE] at ah
     obtain⟨rfl,rfl⟩:=ah
     exact wpIn_skip ⟨rfl,hs⟩
   | region id ops d=>
     intro ac σ σ' e a w aM ah hs
     cases d with
     | false=>
       simp only[cJ,Option.map_eq_some_iff] at aM
       obtain⟨as,h1,rfl⟩:=aM
       simp only[exec,aE,Option.map_eq_some_iff,Prod.mk.injEq] at ah
       obtain⟨σ1,h2,rfl,rfl⟩:=ah
       refine wpIn_region ?_
       rw[List.range_eq_range']
       exact ej H hn h1 ops.size 0 (by omega) hs (by simpa using h2) fun a' w' jY=> ⟨rfl,jY⟩
     | true=>
       simp only[cJ,Option.map_eq_some_iff] at aM
       obtain⟨as,h1,rfl⟩:=aM
       simp only[exec,aE,Option.map_eq_some_iff,Prod.mk.injEq] at ah
       obtain⟨σ1,h2,rfl,rfl⟩:=ah
       exact xn H hm hn h1 hs h2 fun a' w' jY=> ⟨rfl,jY⟩
   | seq x y=>
     intro ac σ σ' e a w aM ah hs
     simp only[cJ] at aM
     split at aM
     · rename_i ax ay h1 h2
       injection aM with aM;subst aM
       rcases za (h:=h) (x:=x) (y:=y) (ax:=ax) (ay:=ay) with hk| hk
       rotate_left
       · obtain⟨iR,BB,dR,i0,ops,cc,cx,cy,b1,i5,fX,z5,id,iS,Dx,dS,rest,it,nx,ne,kT,kO,o1,o5,jv,Q0,as,tc,bs,tz,tR,tS,sN,rfl,rfl,⟨ho,k1,k2,k3,FV⟩,⟨Q1,k4,k5,k6,c9⟩,rfl,rfl,hk⟩:=hk
         rw[hk] at ah
         simp only[cJ] at h1 h2
         split at h1
         rotate_left
         · simp at h1
         rename_i t1 t2 g1 g2
         rw[jN] at h1
         simp only[Option.some.injEq,al.seq.injEq] at h1
         obtain⟨rfl,rfl⟩:=h1
         split at h2
         rotate_left
         · simp at h2
         rename_i t3 t4 g3 g4
         rw[jN] at h2
         simp only[Option.some.injEq,al.seq.injEq] at h2
         obtain⟨rfl,rfl⟩:=h2
         rw[Option.map_eq_some_iff] at g2
         obtain⟨q1,g2,e2⟩:=g2
         rw[Option.map_eq_some_iff] at g2
         obtain⟨q2,g2,e1⟩:=g2
         subst e1
         simp only[al.block.injEq,al.loop.injEq] at e2
         obtain⟨rfl,e2⟩:=e2
         subst e2
         split at g2
         rotate_left
         · simp at g2
         rename_i t5 t6 g5 g6
         rw[jN] at g2
         simp only[Option.some.injEq,al.seq.injEq] at g2
         obtain⟨e3,e4⟩:=g2
         subst e3 e4
         rw[Option.map_eq_some_iff] at g5
         obtain⟨l,g5,e4⟩:=g5
         simp only[al.region.injEq] at e4
         subst e4
         split at g6
         rotate_left
         · simp at g6
         rename_i t7 t8 g7 g8
         rw[BA] at g6
         simp only[Option.some.injEq,al.seq.injEq] at g6
         obtain⟨e5,e6⟩:=g6
         subst e5 e6
         rw[Option.map_eq_some_iff] at g8
         obtain⟨q3,g8,e7⟩:=g8
         simp only[al.block.injEq] at e7
         obtain⟨rfl,e7⟩:=e7
         subst e7
         split at g8
         rotate_left
         · simp at g8
         rename_i t9 t10 g9 G0
         rw[jN] at g8
         simp only[Option.some.injEq,al.seq.injEq] at g8
         obtain⟨e8,e9⟩:=g8
         subst e8 e9
         rw[Option.map_eq_some_iff] at g9
         obtain⟨l5,g9,XO⟩:=g9
         simp only[al.region.injEq] at XO
         subst XO
         simp only[exec,aE] at ah
         refine wpIn_seq (wpIn_seq ?_)
         split at ah
         rotate_left
         · rename_i r sR
           refine wpIn_mono (ih B3 hn (.region iR BB dR) _ σ σ' e a w (by simpa only[cJ] using g1) ah hs) fun ex a' w' hq=> ?_
           obtain⟨rfl,jY⟩:=hq
           cases e with
           | normal=>exact absurd ah (sR σ')
           | exit id=>exact⟨rfl,jY⟩
           | ret=>exact⟨rfl,jY⟩
         rename_i σ1 hx
         refine wpIn_mono (ih B3 hn (.region iR BB dR) _ σ σ1 .normal a w (by simpa only[cJ] using g1) hx hs) fun ex a' w' hq=> ?_
         obtain⟨rfl,qY⟩:=hq
         rcases Nat.eq_zero_or_pos fuel with hf| hf
         · subst hf;simp[exec] at ah
         obtain⟨f1,rfl⟩: ∃f,fuel=f+1:=⟨fuel - 1,by omega⟩
         simp only[exec,aE] at ah
         rcases Nat.eq_zero_or_pos f1 with UN| UN
         · subst UN;simp[exec] at ah
         obtain⟨f2,rfl⟩: ∃f,f1=f+1:=⟨f1 - 1,by omega⟩
         have hB:vW X n ops (.cond cc cx cy) (exec E f2) (.seq (.region ((l.map fun o=> {o with pre:=[]}).drop 1)) t7):=by
           intro s s' e' μ1 a1 w1 Q K hb ki hQ hK
           rcases Nat.eq_zero_or_pos f2 with Dy| Dy
           · subst Dy;simp[exec] at hb
           obtain⟨f3,rfl⟩: ∃f,f2=f+1:=⟨f2 - 1,by omega⟩
           simp only[exec,aE] at hb
           rcases Nat.eq_zero_or_pos f3 with Q2| Q2
           · subst Q2;simp[exec] at hb
           obtain⟨f4,rfl⟩: ∃f,f3=f+1:=⟨f3 - 1,by omega⟩
           have cE:0 <ops.size:=(Array.getElem?_eq_some_iff.1 ho).1
           split at hb
           rotate_left
           · rename_i r sR
             simp only[exec,aE,Option.map_eq_some_iff,Prod.mk.injEq] at hb
             obtain⟨s1,h3,rfl,rfl⟩:=hb
             exact absurd (by simp only[exec,aE,h3,Option.map_some]) (sR s1)
           rename_i s1 Dz
           simp only[exec,aE,Option.map_eq_some_iff,Prod.mk.injEq,true_and] at Dz
           obtain⟨s2,h3,rfl⟩:=Dz
           refine ej (hH f4 (by omega)) hn g5 (ops.size - 1) 1 (by omega) ki (by rw[List.map_drop];exact h3) fun a2 w2 tZ=>hK _ _ ?_
           refine wpIn_mono (Mo (f4+1) (by omega) (fun m FU=>hH m (by omega)) hn (.cond cc cx cy) t7 s2 s' e' a2 w2 (by simpa only[cJ] using g7) hb tZ) fun ex a3 w3 hq=> ?_
           obtain⟨rfl,zM⟩:=hq
           have:=hQ a3 w3 zM
           cases e'<;>exact this
         have hM:y6 X n fX z5 b1 (exec E f2) (.block b1 (.seq (.region ((l5.map fun o=> {o with pre:=[]}).drop 1)) t10)):=by
           intro s s' μ1 a1 w1 Q hb ki hQ
           rcases Nat.eq_zero_or_pos f2 with Dy| Dy
           · subst Dy;simp[exec] at hb
           obtain⟨f3,rfl⟩: ∃f,f2=f+1:=⟨f2 - 1,by omega⟩
           simp only[exec,aE] at hb
           rcases Nat.eq_zero_or_pos f3 with Q2| Q2
           · subst Q2;simp[exec] at hb
           obtain⟨f4,rfl⟩: ∃f,f3=f+1:=⟨f3 - 1,by omega⟩
           have cE:0 <fX.size:=(Array.getElem?_eq_some_iff.1 Q1).1
           have inner: ∀e' (R:Go.Exit→Go.Act→World→Prop),exec E (f4+1) (.seq (.region ((l5.map fun o=> {o with pre:=[]}).drop 1)) t10) s=some (e',s')→(∀a' w',iE X μ1 n s' a' w'→R e'.conv a' w')→wpOpsIn (Fr n.ro) 0 X.P fX (Exit.then (z5.wpIn (Fr n.ro) 0 X.P R) R) (List.range' 1 (fX.size - 1)) a1 w1:=by
             intro e' R hb hR
             simp only[exec,aE] at hb
             rcases Nat.eq_zero_or_pos f4 with XP| XP
             · subst XP;simp[exec] at hb
             obtain⟨f5,rfl⟩: ∃f,f4=f+1:=⟨f4 - 1,by omega⟩
             split at hb
             rotate_left
             · rename_i r sR
               simp only[exec,aE,Option.map_eq_some_iff,Prod.mk.injEq] at hb
               obtain⟨s1,h3,rfl,rfl⟩:=hb
               exact absurd (by simp only[exec,aE,h3,Option.map_some]) (sR s1)
             rename_i s1 Dz
             simp only[exec,aE,Option.map_eq_some_iff,Prod.mk.injEq,true_and] at Dz
             obtain⟨s2,h3,rfl⟩:=Dz
             refine ej (hH f5 (by omega)) hn g9 (fX.size - 1) 1 (by omega) ki (by rw[List.map_drop];exact h3) fun a2 w2 tZ=> ?_
             refine wpIn_mono (Mo (f5+1) (by omega) (fun m FU=>hH m (by omega)) hn z5 t10 s2 s' e' a2 w2 G0 hb tZ) fun ex a3 w3 hq=> ?_
             obtain⟨rfl,zM⟩:=hq
             exact hR a3 w3 zM
           split at hb
           · rename_i jv s1 qj
             split at hb
             · rename_i heq
               simp only[Option.some.injEq,Prod.mk.injEq,true_and] at hb
               subst hb;subst heq
               exact inner _ _ qj fun a' w' jY=>by
                simp only[aY.conv,Go.Exit.inBlock,if_true]
                exact hQ a' w' jY
             · simp at hb
           · exact inner _ _ hb fun a' w' jY=>hQ a' w' jY
         split at ah
         rotate_left
         · rename_i r sR
           obtain⟨rfl,_⟩:=tw (μ0:=μ0) (i0:=i0) (i5:=i5) hB hM ho k1 k2 k3 (by rw[←hn];exact FV) Q1 k4 k5 k6 (by rw[←hn];exact c9) ah qY
           exact absurd ah (sR σ')
         rename_i σ2 Ze
         obtain⟨_,Wg⟩:=tw (μ0:=μ0) (i0:=i0) (i5:=i5) hB hM ho k1 k2 k3 (by rw[←hn];exact FV) Q1 k4 k5 k6 (by rw[←hn];exact c9) Ze qY
         refine wpIn_mono Wg fun ex a2 w2 hq=> ?_
         obtain⟨rfl,σe,σp,q1,q2,q3⟩:=hq
         refine wpIn_seq ?_
         refine wpIn_mono (Mo f2 (by omega) (fun m FU=>hH m (by omega)) hn (.region iS Dx dS) _ σe σp .normal a2 w2 (by simpa only[cJ] using g3) q2 q1) fun ex a3 w3 hq=> ?_
         obtain⟨rfl,zM⟩:=hq
         exact Mo (f2+1) (by omega) (fun m FU=>hH m (by omega)) hn rest _ σ2 σ' e a3 w3 g4 ah (q3 a3 w3 zM)
       rw[hk] at ah
       simp only[exec,aE] at ah
       refine wpIn_seq ?_
       split at ah
       · rename_i σ1 hx
         refine wpIn_mono (ih B3 hn x ax σ σ1 .normal a w h1 hx hs) fun ex a' w' hq=> ?_
         obtain⟨rfl,jY⟩:=hq
         exact ih B3 hn y ay σ1 σ' e a' w' h2 ah jY
       · rename_i r c9
         refine wpIn_mono (ih B3 hn x ax σ σ' e a w h1 ah hs) fun ex a' w' hq=> ?_
         obtain⟨rfl,jY⟩:=hq
         cases e with
         | normal=>exact absurd ah (c9 σ')
         | exit id=>exact⟨rfl,jY⟩
         | ret=>exact⟨rfl,jY⟩
     · simp at aM
   | cond c x y=>
     intro ac σ σ' e a w aM ah hs
     simp only[cJ] at aM
     split at aM
     · rename_i c' ax ay h0 h1 h2
       injection aM with aM;subst aM
       simp only[exec,aE] at ah
       split at ah
       · rename_i hb
         exact wpIn_cond_true (tx hs h0 hb) (ih B3 hn x ax σ σ' e a w h1 ah hs)
       · rename_i hb
         exact wpIn_cond_false (tx hs h0 hb) (ih B3 hn y ay σ σ' e a w h2 ah hs)
       · simp at ah
     · simp at aM
   | block id b=>
     intro ac σ σ' e a w aM ah hs
     simp only[cJ,Option.map_eq_some_iff] at aM
     obtain⟨ab,h1,rfl⟩:=aM
     simp only[exec,aE] at ah
     refine wpIn_block ?_
     split at ah
     · rename_i jv σ1 hb
       refine wpIn_mono (ih B3 hn b ab σ σ1 (.exit jv) a w h1 hb hs) fun ex a' w' hq=> ?_
       obtain⟨rfl,jY⟩:=hq
       simp only[aY.conv,Go.Exit.inBlock]
       split at ah
       · rename_i heq
         simp only[Option.some.injEq,Prod.mk.injEq] at ah
         obtain⟨rfl,rfl⟩:=ah
         rw[if_pos heq]
         exact⟨rfl,jY⟩
       · rename_i c9
         simp only[Option.some.injEq,Prod.mk.injEq] at ah
         obtain⟨rfl,rfl⟩:=ah
         rw[if_neg c9]
         exact⟨rfl,jY⟩
     · rename_i r c9
       refine wpIn_mono (ih B3 hn b ab σ σ' e a w h1 ah hs) fun ex a' w' hq=> ?_
       obtain⟨rfl,jY⟩:=hq
       cases e with
       | normal=>exact⟨rfl,jY⟩
       | exit jv=>exact absurd ah (c9 jv σ')
       | ret=>exact⟨rfl,jY⟩
   | loop b=>
     intro ac σ σ' e a w aM ah hs
     simp only[cJ,Option.map_eq_some_iff] at aM
     obtain⟨ab,h1,rfl⟩:=aM
     have rounds: ∀ (k:Nat),k≤fuel+1→ ∀ (σ:St),exec E k (.loop ab) σ=some (e,σ')→ ∃m,∀a w,iE X μ0 n σ a w→Code.roundsIn (Fr n.ro) 0 X.P b (Ends X μ0 n e σ') m a w:=by
       intro k
       induction k with
       | zero=>intro _ σ hr;simp[exec] at hr
       | succ k Zf=>
         intro hk σ hr
         simp only[exec,aE] at hr
         have body: ∀ (σ1:St) (e1:aY),exec E k ab σ=some (e1,σ1)→ ∀a w,iE X μ0 n σ a w→b.wpIn (Fr n.ro) 0 X.P (Ends X μ0 n e1 σ1) a w:=fun σ1 e1 hx a w hs=>
           Mo k (by omega) (fun m FU=>hH m (by omega)) hn b ab σ σ1 e1 a w h1 hx hs
         split at hr
         · rename_i σ1 hx
           obtain⟨m,Zg⟩:=Zf (by omega) σ1 hr
           refine⟨m+1,fun a w hs=> ?_⟩
           rw[roundsIn_succ]
           refine wpIn_mono (body σ1 .normal hx a w hs) fun ex a' w' hq=> ?_
           obtain⟨rfl,jY⟩:=hq
           exact Zg a' w' jY
         · rename_i r c9
           refine⟨1,fun a w hs=> ?_⟩
           rw[roundsIn_succ]
           refine wpIn_mono (body σ' e hr a w hs) fun ex a' w' hq=> ?_
           obtain⟨rfl,jY⟩:=hq
           cases e with
           | normal=>exact absurd hr (c9 σ')
           | exit jv=>exact⟨rfl,jY⟩
           | ret=>exact⟨rfl,jY⟩
     obtain⟨m,FU⟩:=rounds (fuel+1) (Nat.le_refl _) σ ah
     exact wpIn_loop_rounds m (FU a w hs)
   | exit id=>
     intro ac σ σ' e a w aM ah hs
     simp[cJ] at aM;subst aM
     simp[exec,aE] at ah
     obtain⟨rfl,rfl⟩:=ah
     exact wpIn_exit ⟨rfl,hs⟩
   | ret=>
     intro ac σ σ' e a w aM ah hs
     simp[cJ] at aM;subst aM
     simp[exec,aE] at ah
     obtain⟨rfl,rfl⟩:=ah
     exact wpIn_ret ⟨rfl,hs⟩
   | label l=>
     intro ac σ σ' e a w aM ah hs
     simp[cJ] at aM;subst aM
     simp[exec,aE] at ah
     obtain⟨rfl,rfl⟩:=ah
     exact wpIn_label ⟨rfl,hs⟩
   | scope b=>
     intro ac σ σ' e a w aM ah hs
     simp only[cJ,Option.map_eq_some_iff] at aM
     obtain⟨ab,h1,rfl⟩:=aM
     simp only[exec,aE] at ah
     refine zc ?_
     refine wpIn_mono (ih B3 hn b ab σ σ' e a w h1 ah hs) fun ex a' w' hq=> ?_
     obtain⟨rfl,jY⟩:=hq
     cases e<;>exact⟨rfl,jY⟩
   | rangeFunc f ps x y=>
     intro ac σ σ' e a w aM ah hs
     simp only[cJ] at aM
     split at aM
     rotate_left
     · simp at aM
     rename_i f' ax ay h0 h1 h2
     split at aM
     rotate_left
     · simp at aM
     rename_i tK
     injection aM with aM;subst aM
     simp only[exec,aE] at ah
     split at ah
     · rename_i g caps pQ
       split at ah
       · rename_i xs zx
         split at ah
         · rename_i hlen
           obtain⟨iK,cE,φ,hr,hle⟩:=hs
           have hf:=aO hr h0 σ.O
           have Zh:bc ⟨σ.T,σ.O⟩ f'= .fn g caps:=pQ
           rw[Zh] at hf
           simp only[ak] at hf
           obtain⟨F,cv,hF,Lg,G1⟩:=hf
           refine xq (lb:=cv) (xs:=xs) (rec:=exec E fuel) ?_ ?_ ⟨iK,cE,φ,hr,hle⟩ ?_ hF ?_ ?_ ah
           · intro l s s' e' m b v hb ki
             exact ih B3 (n:=⟨n.tm,0,some l⟩) hn x ax s s' e' b v h1 hb ki
           · intro l s s' e' m b v hb ki
             exact ih B3 (n:=⟨n.tm,0,some l⟩) hn y ay s s' e' b v h2 hb ki
           · intro p hp
             rw[List.all_eq_true] at tK
             have:=tK p hp
             rw[Nat.blt_eq] at this
             rw[hn] at this
             exact this
           · intro φ2 pS
             exact Eh g F caps xs zx Lg ⟨w,φ2,σ.O⟩ cv (by
               have Dy:=aO pS h0 σ.O
               have Wz:bc ⟨σ.T,σ.O⟩ f'= .fn g caps:=pQ
               rw[Wz] at Dy
               simp only[ak] at Dy
               obtain⟨F2,cv2,XQ,_,Lh⟩:=Dy
               rw[hF] at XQ
               injection XQ with _ _ e3
               rw[e3];exact Lh) pS.aX
           · intro x hx
             rw[List.all_eq_true] at hlen
             have:=hlen x hx
             rw[Nat.beq_eq] at this
             simpa using this
         · simp at ah
       · simp at ah
     · simp at ah
   | goto l=>
     intro ac σ σ' e a w aM ah hs
     simp[cJ] at aM;subst aM
     simp[exec,aE] at ah
   | refuse y=>
     intro ac σ σ' e a w aM ah hs
     simp[cJ] at aM;subst aM
     simp[exec,aE] at ah
end
end Go.AM
