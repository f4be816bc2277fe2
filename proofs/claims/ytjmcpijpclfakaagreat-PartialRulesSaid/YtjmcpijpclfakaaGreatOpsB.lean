/-
  Texts of the proof: AmOps8, AmOps9, AmCall1, AmMap, AmConv, AmApp, AmDisp, AmExec, AmDraw, AmLoopM, AmRange, AmCode.
-/
import Derived.Test.YtjmcpijpclfakaaGreatOpsA
import Derived.Test.YtjmcpijpclfakaaGreatTail
import Derived.Test.YtjmcpijpclfakaaGreatDefs
import Derived.MapKept
import Derived.Lib.ConvBytes
import Derived.Laws.BytesString
import Derived.Laws.AppendOwn
import Derived.Scope
import Derived.Laws.IdiomRangeMap
set_option linter.unusedSimpArgs false
set_option linter.unusedVariables false
namespace Go.AM
open Go Go.RowKit
section
variable {X:Ctx} {E:Env} {C:bO} {o:Oper} {a:Go.Act} {T:Nat→V} {μ:Mu} {v:V} {σ':St}
theorem zo (bs:List UInt8):flat (bs.map fun b=>Value.int .u8 b.toNat)=bs.map fun b=>Value.int .u8 b.toNat:=by
 induction bs with
 | nil=>rfl
 | cons b bs ih=>simp only[List.map_cons,flat,List.flatMap_cons] at ih ⊢;rw[ih];rfl
theorem ak.bytes (bs:List UInt8):ak X μ (bs.map fun b=>V.int .u8 b.toNat) (bs.map fun b=>Value.int .u8 b.toNat):=by
 induction bs with
 | nil=>simp[ak]
 | cons b bs ih=>simp only[List.map_cons,ak];exact⟨by simp[au],ih⟩
theorem ij {sz:Nat} {x:V} {xv:Value} {k:List V→Act} {p:V×St} (ho:bQ X μ) (hx:au X μ x xv) (ag: (content sz x k).run C ⟨T,μ.O⟩=some p):
  ∃ys us,(k ys).run C ⟨T,μ.O⟩=some p∧ak X μ ys us∧(Builtin.lenOf xv).run X.P μ.w= .ok ys.length μ.w∧
    ∀w',w'.heap=μ.w.heap→ ∀n,n≤ys.length→(Builtin.firstCells sz n xv).run X.P w'= .ok (flat (us.take n)).toArray w':=by
 cases x<;>simp only[content] at ag<;>try exact absurd ag aC
 ·
  split at ag
  · rename_i s hs
    simp only[au] at hx
    obtain⟨bs,rfl,rfl⟩:=hx
    refine⟨_,_,ag,ak.bytes _,?_,fun w' pX n hn=> ?_⟩
    · simp only[Builtin.lenOf,Sem.run_pure,List.length_map];rw[cB];rfl
    · have: (bs.extract 0 n).data.map (fun b=>Value.int .u8 b.toNat)=(flat ((bs.data.toList.map fun b=>Value.int .u8 b.toNat).take n)).toArray:=by
        rw[←List.map_take,zo]
        apply Array.ext'
        simp[ByteArray.data_extract,Array.toList_extract,List.extract_eq_take_drop]
      simp only[Builtin.firstCells,Sem.run_pure,this]
  · exact absurd ag aC
 ·
  simp only[au] at hx
  obtain⟨q,rfl⟩:=hx
  refine⟨[],[],ag,by simp[ak],by simp[Builtin.lenOf],fun w' pX n hn=> ?_⟩
  have:n=0:=by simpa using hn
  subst this
  cases q<;>simp[Builtin.firstCells,loadCells,loadCellsFrom,flat]
 ·
  split at ag
  · rename_i sz' xs hs
    subst hs
    simp only[au] at hx
    obtain⟨_,_,q,cap,vs,rfl,_,xQ,gm⟩:=hx
    refine⟨xs,vs,ag,xQ,by simp[Builtin.lenOf],fun w' pX n hn=> ?_⟩
    rcases gm with rfl| ⟨b,q',rfl,_,_,iY⟩
    · have:n=0:=by simpa using hn
      subst this
      cases q<;>simp[Builtin.firstCells,loadCells,loadCellsFrom,flat]
    · simp only[Builtin.firstCells]
      exact qR (iY.dq (by rw[pX])) (by rw[←xQ.length];exact hn)
  · exact absurd ag aC
 ·
  rename_i r g off len
  simp only[Act.run] at ag
  split at ag
  · rename_i es bX
    split at ag
    · rename_i hc
      obtain⟨oZ,vJ,YI⟩:=hc
      simp only[au] at hx
      obtain⟨q,cap,rfl,hle,_,dm⟩:=hx
      obtain⟨k0,k1,k2⟩:=dm oZ
      have sF: (bb es off len).length=len:=by simp[bb];omega
      obtain⟨q1,q2,q3,q4⟩:=ho.row r es bX k0
      by_cases eb:cap=0
      · have Cz:len=0:=by omega
        subst Cz
        refine⟨_,[],ag,by simp[bb,ak],by simp[Builtin.lenOf,bb],fun w' pX n hn=> ?_⟩
        have:n=0:=by simpa [bb] using hn
        subst this
        cases q<;>simp[Builtin.firstCells,loadCells,loadCellsFrom,flat]
      · rcases q4 with q4| ⟨cc,TT,vs,p1,p2,p3,p4⟩
        · omega
        · have hqe:=k2.resolve_left eb
          subst hqe
          refine⟨_,(vs.drop off).take len,ag,ak.take _ (ak.drop _ p3),by simp only[Builtin.lenOf,Sem.run_pure,sF],fun w' pX n hn=> ?_⟩
          simp only[Builtin.firstCells]
          have sY:=(p4.drop off).take len
          rw[vJ] at sY
          rw[vJ]
          refine qR (sY.dq (by rw[pX])) ?_
          rw[sF] at hn
          have:=p3.length
          simp;omega
    · exact absurd ag aC
  · exact absurd ag aC
theorem Bf (cq:Nat): ∀ (k c:Nat),c≤cq+(cq+768) / 4→Builtin.growBy cq k c≤cq+(cq+768) / 4
 | 0,c,h=>h
 | k+1,c,h=>by
   simp only[Builtin.growBy]
   split
   · exact h
   · exact Bf cq k _ (by omega)
theorem Gn {cq old:Nat} (h:old<cq):Builtin.nextslicecap cq old≤2*cq+192:=by
 unfold Builtin.nextslicecap
 split
 · omega
 · split
   · omega
   · have:=Bf cq 4 old (by omega)
     omega
theorem LY {cq old bytes:Nat} (h:old<cq) (hl:cq≤rK bytes): ¬Builtin.nextslicecap cq old*bytes >2 ^ 48∧ ¬ ((cq:Int) >IntKind.i64.max):=by
 unfold rK at hl
 rw[Nat.mul_comm,Nat.sub_mul_div] at hl
 have h1:=Gn h
 have h2:cq+200≤140737488355328 / (bytes+1):=by omega
 have h3: (cq+200)*(bytes+1)≤140737488355328:=(Nat.le_div_iff_mul_le (by omega)).1 h2
 have h4:Builtin.nextslicecap cq old*bytes≤(2*(cq+200))*(bytes+1):=Nat.mul_le_mul (by omega) (by omega)
 have h5: (2*(cq+200))*(bytes+1)=2*((cq+200)*(bytes+1)):=by rw[Nat.mul_assoc]
 have h6: (2:Nat) ^ 48=281474976710656:=by decide
 have h7:cq+200≤(cq+200)*(bytes+1):=Nat.le_mul_of_pos_right _ (by omega)
 have h8:IntKind.i64.max=9223372036854775807:=by decide
 refine⟨by omega,by rw[h8];omega⟩
theorem iC {sT xT e:TypeId} {d:TypeDesc} {sz n sLen sCap:Nat} {base:Option Addr} {xv:Value} {new:Array Value} {w w':World} {ty:TypeId}
  (hd:X.P.underlying sT=some (.slice e)) (hx:X.P.underlying xT=some d) (Ep: ∀k,d≠ .int k) (hn:bT X e=some sz) (hl: (Builtin.lenOf xv).run X.P w= .ok n w)
  (jh:sLen+n≤sCap) (sy: (Builtin.firstCells sz n xv).run X.P w= .ok new w)
  (ni:match base with| some p=> (storeCells (p.add (sLen*sz)) new.toList).run X.P w= .ok () w'| none=>w'=w):
  (Builtin.append_ #[sT,xT] ty #[.slice base sLen sCap,xv]).run X.P w= .ok (.slice base (sLen+n) sCap) w':=by
 have hm: (match d with| .int _=>true| _=>false)=false:=by
  cases d<;>first| rfl| exact absurd rfl (Ep _)
 have PN: (#[sT,xT]:Array TypeId)[0]? =some sT:=rfl
 have hg1: (#[sT,xT]:Array TypeId)[1]? =some xT:=rfl
 have Xo: (#[Value.slice base sLen sCap,xv]:Array Value)[0]? =some (.slice base sLen sCap):=rfl
 have NG: (#[Value.slice base sLen sCap,xv]:Array Value)[1]? =some xv:=rfl
 simp only[Builtin.append_,PN,hg1,Xo,NG,Sem.run_bind,run_underlying hd,Result.andThen_ok,dU hn,run_underlying hx,Sem.run_pure,hm,Bool.false_eq_true,if_false,hl]
 rw[if_pos jh]
 simp only[Bool.not_false,if_true,Sem.run_bind,sy,Result.andThen_ok]
 cases base with
 | none=>simp only at ni;subst ni;simp
 | some p=>simp only at ni;simp[Sem.run_bind,ni]
theorem kx {sT xT e:TypeId} {d:TypeDesc} {sz n sLen sCap:Nat} {base:Option Addr} {xv zv:Value} {old new:Array Value} {w:World} {ty:TypeId} {i:TypeInfo}
  (hd:X.P.underlying sT=some (.slice e)) (hx:X.P.underlying xT=some d) (Ep: ∀k,d≠ .int k) (hn:bT X e=some sz) (hi:X.P.info? e=some i)
  (hz: ∀w,(zeroValue e).run X.P w= .ok zv w) (hl: (Builtin.lenOf xv).run X.P w= .ok n w) (nq:sCap<sLen+n) (Ap:sLen+n≤rK i.bytes)
  (hold: (Builtin.firstCells sz sLen (.slice base sLen sCap)).run X.P w.drew= .ok old w.drew) (sy: (Builtin.firstCells sz n xv).run X.P w.drew= .ok new w.drew):
  ∃newCap,sLen+n≤newCap∧(Builtin.append_ #[sT,xT] ty #[.slice base sLen sCap,xv]).run X.P w=
   .ok (.slice (some ⟨w.heap.size,0,none⟩) (sLen+n) newCap) (w.drew.alloc (.cells (old++new++Builtin.zeroCells zv.cells (newCap - (sLen+n))) e)):=by
 have hm: (match d with| .int _=>true| _=>false)=false:=by
  cases d<;>first| rfl| exact absurd rfl (Ep _)
 have PN: (#[sT,xT]:Array TypeId)[0]? =some sT:=rfl
 have hg1: (#[sT,xT]:Array TypeId)[1]? =some xT:=rfl
 have Xo: (#[Value.slice base sLen sCap,xv]:Array Value)[0]? =some (.slice base sLen sCap):=rfl
 have NG: (#[Value.slice base sLen sCap,xv]:Array Value)[1]? =some xv:=rfl
 obtain⟨r1,r2⟩:=LY nq Ap
 refine⟨(Question.appendCap (sLen+n) sCap e).cut (w.tape w.drawn (.appendCap (sLen+n) sCap e)),by simp[Question.cut],?_⟩
 simp only[Builtin.append_,PN,hg1,Xo,NG,Sem.run_bind,run_underlying hd,Result.andThen_ok,dU hn,run_underlying hx,Sem.run_pure,hm,Bool.false_eq_true,if_false,hl]
 rw[if_neg (by omega)]
 simp only[Sem.run_bind,run_typeInfo w hi,Result.andThen_ok]
 have c2: ¬ (((sLen+n:Nat):Int) >IntKind.i64.max∧(False∨i.bytes=0)):=fun h=>r2 h.1
 rw[if_neg c2]
 simp only[Sem.run_bind,run_typeInfo w hi,Result.andThen_ok]
 rw[if_neg r1]
 have dj: (choose (.appendCap (sLen+n) sCap e)).run X.P w= .ok ((Question.appendCap (sLen+n) sCap e).cut (w.tape w.drawn (.appendCap (sLen+n) sCap e))) w.drew:=by
  rw[run_choose];simp only[Question.forced,Bool.false_eq_true,if_false];rfl
 simp only[Sem.run_bind,dj,Result.andThen_ok,run_typeInfo w.drew hi,run_askRoom,hold,Bool.not_false,if_true,sy,hz,Sem.run_pure,newRow,run_newObj]
 rfl
theorem Er {us rest:List Value} {sz:Nat} (h: ∀u ∈ us,u.cells.size=sz):ek (flat us++rest) 0 sz us:=by
 intro i v hv
 have hm:=h v (List.mem_of_getElem? hv)
 refine⟨hm,fun j x hx=> ?_⟩
 have:=uA h hv hx
 have bY:i*sz+j< (flat us).length:=(List.getElem?_eq_some_iff.1 this).1
 rw[Nat.zero_add,List.getElem?_append_left bY];exact this
theorem Es (us vs:List Value):flat (us++vs)=flat us++flat vs:=by simp[flat]
theorem pY {zv:Value} {sz n:Nat} (h:zv.cells.size=sz): (Builtin.zeroCells zv.cells n).size=n*sz:=by simp[Builtin.zeroCells,h]
theorem qS {α:Type} {n:Nat} {l:List α} (h:l.length≤n):l.take n=l:=List.take_of_length_le h
theorem zp {O1:Nat→Obj} (hO:bQ X ⟨μ.w,μ.φ,O1⟩) {r sz newCap:Nat} {olds ys:List V} {ous us:List Value} {zv:Value} {e:TypeId} {o0:Obj}
  (ho0:o0={gen:=o0.gen,sz:=sz,arr:=true,fz:=false,es:=some (olds++ys)}) (hg':o0.gen=(O1 r).gen+1)
  (cJ:0 <sz) (h1:ak X ⟨μ.w,μ.φ,O1⟩ olds ous) (h2:ak X ⟨μ.w,μ.φ,O1⟩ ys us) (b1:olds.all (aZ · sz)=true) (b2:ys.all (aZ · sz)=true)
  (hz:zv.cells.size=sz) (eb:olds.length+ys.length≤newCap):
  let μ':Mu:=⟨μ.w.drew.alloc (.cells ((flat ous).toArray++(flat us).toArray++Builtin.zeroCells zv.cells (newCap - (olds.length+ys.length))) e),eI μ.φ r ⟨μ.w.heap.size,0,newCap⟩,eI O1 r o0⟩
  Le ⟨μ.w,μ.φ,O1⟩ μ'∧bQ X μ':=by
 intro μ'
 obtain⟨led,hod⟩:=Le.drew (X:=X) (μ:=⟨μ.w,μ.φ,O1⟩) hO
 have cK:ak X ⟨μ.w.drew,μ.φ,O1⟩ (olds++ys) (ous++us):=ak.mono led (h1.append h2)
 have hs: ∀u ∈ ous++us,u.cells.size=sz:=((h1.append h2).nm (sz:=sz) (by simp only[List.all_append,b1,b2,Bool.and_self])).1
 have hl1:=h1.length
 have JB:=h2.length
 have Ao:=fI hs
 have rj: ((flat ous).toArray++(flat us).toArray++Builtin.zeroCells zv.cells (newCap - (olds.length+ys.length))).toList=flat (ous++us)++(Builtin.zeroCells zv.cells (newCap - (olds.length+ys.length))).toList:=by
  simp[Es]
 have nT:newCap*sz≤((flat ous).toArray++(flat us).toArray++Builtin.zeroCells zv.cells (newCap - (olds.length+ys.length))).size:=by
  rw[←cB,rj,List.length_append,Ao,cB (Builtin.zeroCells _ _),pY hz,←Nat.add_mul]
  apply Nat.mul_le_mul_right
  rw[List.length_append];omega
 have:=Cv (X:=X) (μ:=⟨μ.w.drew,μ.φ,O1⟩) hod r sz newCap true (es:=olds++ys) (vs:=ous++us) (c:=(flat ous).toArray++(flat us).toArray++Builtin.zeroCells zv.cells (newCap - (olds.length+ys.length))) e cJ
  (by simp;omega) (by simp only[List.all_append,b1,b2,Bool.and_self]) cK nT (fun i u hu=>by
    have se:=Er (rest:=(Builtin.zeroCells zv.cells (newCap - (olds.length+ys.length))).toList) hs
    rw[←rj] at se
    obtain⟨m1,m2⟩:=se i u hu
    refine⟨m1,fun j x hx=> ?_⟩
    have:=m2 j x hx
    rw[Nat.zero_add] at this
    rw[←Array.getElem?_toList];exact this)
 have heq: ({gen:=(O1 r).gen+1,sz:=sz,arr:=true,fz:=false,es:=some (olds++ys)}:Obj)=o0:=by rw[ho0,hg']
 simp only[heq] at this
 exact⟨led.trans this.1,this.2⟩
theorem lN {sz:Nat} {p:Option Addr} {n m:Nat} {w:World}: (Builtin.firstCells sz 0 (.slice p n m)).run X.P w= .ok #[] w:=by
 cases p<;>simp[Builtin.firstCells,loadCells,loadCellsFrom]
theorem pZ (       dq:Bool) {c:Call} {s x:Operand} {sT xT e:TypeId} {d:TypeDesc} {s' x':bg} {r sz:Nat} {i:TypeInfo} {z:V} (hr:Rel X T a μ) (ho:o.op= .call c) (hc:c.callee= .builtin .append)
   (jw:c.args= #[s,x]) (vU:c.argTypes= #[sT,xT]) (hd:bG X sT=some (.slice e)) (hx:bG X xT=some d) (Ep: ∀k,d≠ .int k) (hn:bT X e=some sz) (hi:info X e=some i)
   (hz:fq X e=some z) (Eo:aZ z sz=true) (h1:du X s=some s') (h2:du X x=some x')
   (ag: (content sz (bM ⟨T,μ.O⟩ x') fun ys=>match dq with| true=>DA r sz (rK i.bytes) (bM ⟨T,μ.O⟩ s') ys| false=>kJ ys fun ys=>DA r sz (rK i.bytes) (bM ⟨T,μ.O⟩ s') ys).run C ⟨T,μ.O⟩=some (v,σ')):σ'.T=T∧de X o a μ σ'.O v:=by
 have hs:=aX hr h1 μ.O
 have vd:=aX hr h2 μ.O
 have oV:X.P.underlying sT=some (.slice e):=hd
 have sX:X.P.underlying xT=some d:=hx
 have gP:X.P.info? e=some i:=hi
 obtain⟨ys0,us,k1,k2,k3,k4⟩:=ij hr.bB vd ag
 have jn: ∃ys O1,(DA r sz (rK i.bytes) (bM ⟨T,μ.O⟩ s') ys).run C ⟨T,O1⟩=some (v,σ')∧ak X ⟨μ.w,μ.φ,O1⟩ ys us∧Le μ ⟨μ.w,μ.φ,O1⟩∧bQ X ⟨μ.w,μ.φ,O1⟩:=by
   cases dq with
   | true=>exact⟨ys0,μ.O,k1,k2,Le.refl μ,hr.bB⟩
   | false=>exact zj (μ:=μ) hr.bB k2 k1
 obtain⟨ys,O1,g1,g2,g3,g4⟩:=jn
 unfold DA at g1
 have hyl:ys.length=ys0.length:=by rw[g2.length,k2.length]
 rw[←hyl] at k3 k4
 have Et:us.length=ys.length:=g2.length.symm
 have LZ: ∀w',w'.heap=μ.w.heap→(Builtin.firstCells sz ys.length (a.eval x)).run X.P w'= .ok (flat us).toArray w':=fun w' pX=>by
   have:=k4 w' pX ys.length (Nat.le_refl _)
   rwa [qS (by omega)] at this
 have Eu:=LZ μ.w rfl
 have CF:=LZ μ.w.drew rfl
 have ub:=au.mono g3 hs
 have fin: ∀val w',(Builtin.append_ #[sT,xT] o.type #[a.eval s,a.eval x]).run X.P μ.w= .ok val w'→(execOp a.eval o).run X.P μ.w= .ok (.value val) w':=fun val w' hv=>by
   refine eD ho hc ?_
   simp only[builtin,jw,vU]
   refine cO ?_
   simpa using hv
 split at g1
 · rename_i hb
   simp only[Bool.and_eq_true,decide_eq_true_eq] at hb
   obtain⟨oL,cJ⟩:=hb
   obtain⟨zv,vS,Ae⟩:=gG hz μ.w
   have hzw: ∀w,(zeroValue e).run X.P w= .ok zv w:=fun w=>by
    obtain⟨zv',q1,q2⟩:=gG hz w
    have:zv'=zv:=by
      simp only[fq,info,Option.bind_eq_some_iff] at hz
      obtain⟨i0,e1,zq,e2,_⟩:=hz
      simp only[zeroValue,Sem.run_bind,run_typeInfo w e1,run_typeInfo μ.w e1,Result.andThen_ok,e2,Sem.run_pure] at q1 vS
      injection q1 with q1 _;injection vS with vS _
      rw[←q1,←vS]
    rw[←this];exact q1
   obtain⟨xz,NA⟩:=fm (X:=X) (μ:=μ) Ae
   have LU:zv.cells.size=sz:=by rw[xz.ej NA,(cE Eo).2]
   obtain⟨Dd,CC⟩:=g2.nm oL
   have Ao:=fI Dd
   have zr:ys.length=0→ ∀ (p:Option Addr) (len cap:Nat),len≤cap→a.eval s= .slice p len cap→(execOp a.eval o).run X.P μ.w= .ok (.value (.slice p len cap)) μ.w:=fun h0 p len cap hle hp=>by
    have A7:us=[]:=by
      have:us.length=0:=by omega
      simpa using this
    have uC:=iC (X:=X) (sT:=sT) (xT:=xT) (sLen:=len) (sCap:=cap) (base:=p) (ty:=o.type) (w':=μ.w) oV sX Ep hn k3 (by omega) Eu (by
        cases p with
        | none=>rfl
        | some q=>simp[A7,flat,storeCells])
    rw[h0,Nat.add_zero] at uC
    exact fin _ _ (by rw[hp];exact uC)
   generalize bM ⟨T,μ.O⟩ s'=sv at g1 hs ub
   split at g1
   ·
    simp only[au] at hs
    obtain⟨p,hp⟩:=hs
    split at g1
    · rename_i L4
      obtain⟨rfl,rfl⟩:=bo g1
      have PO:ys.length=0:=by simpa [List.isEmpty_iff] using L4
      exact⟨rfl,.slice p 0 0,μ.w,μ.φ,.inl (zr PO p 0 0 (Nat.le_refl _) hp),by simp[au],g3,g4⟩
    · rename_i L4
      split at g1
      · rename_i Ap
        simp only[Act.run,Option.some.injEq,Prod.mk.injEq] at g1
        obtain⟨rfl,rfl⟩:=g1
        have acg:0 <ys.length:=by
          rcases Nat.eq_zero_or_pos ys.length with h0| h0
          · exact absurd (by simpa [List.isEmpty_iff] using h0) L4
          · exact h0
        obtain⟨newCap,Ew,uC⟩:=kx (X:=X) (sT:=sT) (xT:=xT) (sLen:=0) (sCap:=0) (base:=p) (ty:=o.type) (old:= #[]) oV sX Ep hn gP hzw k3 (by omega) (by simpa using Ap) lN CF
        obtain⟨NF,RN⟩:=zp (X:=X) (μ:=μ) (O1:=O1) g4 (r:=r) (sz:=sz) (newCap:=newCap) (olds:=[]) (ous:=[]) (ys:=ys) (us:=us) (zv:=zv) (e:=e)
          (o0:={gen:=(O1 r).gen+1,sz:=sz,arr:=true,fz:=false,es:=some ys}) rfl rfl cJ (by simp[ak]) g2 rfl oL LU (by simpa using Ew)
        have So: (flat ([]:List Value)).toArray= #[]:=rfl
        simp only[So,List.length_nil] at NF RN
        refine⟨rfl,.slice (some ⟨μ.w.heap.size,0,none⟩) (0+ys.length) newCap,_,eI μ.φ r ⟨μ.w.heap.size,0,newCap⟩,.inl (fin _ _ (by rw[hp];exact uC)),?_,g3.trans NF,RN⟩
        simp only[au,aL]
        exact⟨_,newCap,by rw[Nat.zero_add],by omega,Nat.le_refl _,fun _=> ⟨by omega,by simp,by simp⟩⟩
      · exact absurd g1 aC
   ·
    rename_i sz' xs
    split at g1
    · rename_i L4
      obtain⟨rfl,rfl⟩:=bo g1
      have PO:ys.length=0:=by simpa [List.isEmpty_iff] using L4
      have Ck:=hs
      simp only[au] at Ck
      obtain⟨_,_,p,cap,_,hp,hle,_⟩:=Ck
      exact⟨rfl,a.eval s,μ.w,μ.φ,.inl (by rw[hp];exact zr PO p _ cap hle hp),ub,g3,g4⟩
    · exact absurd g1 aC
   ·
    rename_i r' g off len
    simp only[Act.run] at g1
    split at g1
    · rename_i es bX
      split at g1
      · rename_i hc
        obtain⟨cW,lM,jn,ft,jh,Ap⟩:=hc
        simp only[au] at ub
        obtain⟨p,cap,hp,hle,ve,dm⟩:=ub
        obtain⟨a0,a1,a2⟩:=dm cW
        obtain⟨q1,q2,q3,q4⟩:=g4.row r' es bX a0
        simp only at q1 q2 q3 q4
        have ig:O1 r'={O1 r' with es:=some es}:=by rw[←bX]
        split at g1
        · rename_i sG
          simp only[Act.run,Option.some.injEq,Prod.mk.injEq] at g1
          obtain⟨rfl,rfl⟩:=g1
          refine⟨rfl,?_⟩
          rcases Nat.eq_zero_or_pos ys.length with h0| h0
          ·
            have PO:ys=[]:=by simpa using h0
            have sw:overwrite es (off+len) ys=es:=by simp[overwrite,PO]
            have hO:eI O1 r' {O1 r' with es:=some (overwrite es (off+len) ys)}=O1:=by
              funext q
              by_cases hq:q=r'
              · subst hq;rw[aL,sw];exact ig.symm
              · rw[bu _ _ hq]
            simp only[hO]
            refine⟨.slice p len cap,μ.w,μ.φ,.inl (zr h0 p len cap hle hp),?_,g3,g4⟩
            rw[h0]
            simp only[au]
            exact⟨p,cap,rfl,hle,ve,dm⟩
          · have eb:cap≠0:=by omega
            have kQ: (μ.φ r').cap≠0:=by omega
            rcases q4 with q4| ⟨cc,T0,vs,p1,p2,p3,p4⟩
            · exact absurd q4 kQ
            · have vR:=a2.resolve_left eb
              subst vR
              have De:=p3.length
              have se:ek cc.toList (μ.φ r').base sz vs:=by have:=ia p1 p4;rwa [ft] at this
              rw[ft] at p2
              have hmul: (off+len+ys.length)*sz≤(μ.φ r').cap*sz:=Nat.mul_le_mul_right _ (by omega)
              rw[Nat.add_mul] at hmul
              have hw:=se.write (k:=off+len) (us:=us) (by omega) Dd (by rw[cB cc,Et];omega)
              have ni:=ib (P:=X.P) (w:=μ.w) (q:=(μ.φ r').base+(off+len)*sz) p1 (flat us) (by rw[Ao,Et];omega) CC
              have uC:=iC (X:=X) (sT:=sT) (xT:=xT) (sLen:=len) (sCap:=cap) (ty:=o.type) (base:=some ⟨(μ.φ r').dQ,(μ.φ r').base+off*(O1 r').sz,none⟩)
                (w':=μ.w.setRow (μ.φ r').dQ (dk cc.toList ((μ.φ r').base+(off+len)*sz) (flat us)).toArray) oV sX Ep hn k3 (by omega) Eu (by
                  simp only[fZ,ft]
                  have: (μ.φ r').base+off*sz+len*sz=(μ.φ r').base+(off+len)*sz:=by rw[Nat.add_mul];omega
                  rw[this];exact ni)
              have L5:=nh (X:=X) (μ:=⟨μ.w,μ.φ,O1⟩) g4 r' bX jn p1 kQ (c':=(dk cc.toList ((μ.φ r').base+(off+len)*sz) (flat us)).toArray)
                (by
                  have: (dk cc.toList ((μ.φ r').base+(off+len)*sz) (flat us)).length=cc.toList.length:=fo (by rw[cB cc,Ao,Et];omega)
                  simpa using this)
                (O1 r').gen (μ.φ r').base (μ.φ r').cap (es':=overwrite es (off+len) ys) (vs':=vs.take (off+len)++us++vs.drop (off+len+us.length)) (.inl ⟨rfl,rfl,rfl⟩) kQ
                (by simp[overwrite];omega)
                (by
                  simp only[ft] at q3 ⊢
                  have t1:=kW (p:=(aZ · sz)) (off+len) q3
                  have t2:=nj (p:=(aZ · sz)) (off+len+ys.length) q3
                  simp only[overwrite,List.all_append,t1,oL,t2,Bool.and_self])
                (by
                  have:=((ak.take (off+len) p3).append g2).append (ak.drop (off+len+ys.length) p3)
                  rw[Et];exact this)
                (by rw[ft];exact p2)
                (fun j y hy=>by
                  obtain⟨m1,m2⟩:=hw j y hy
                  refine⟨by rw[ft];exact m1,fun l q hq=> ?_⟩
                  have:=m2 l q hq
                  simp only[ft]
                  simpa using this)
              refine⟨_,_,_,.inl (fin _ _ (by rw[hp];exact uC)),?_,g3.trans L5.1,L5.2⟩
              simp only[au,aL]
              exact⟨_,cap,rfl,by omega,by omega,fun _=> ⟨a0,a1,.inr rfl⟩⟩
        · rename_i sG
          simp only[Act.run,Option.some.injEq,Prod.mk.injEq] at g1
          obtain⟨rfl,rfl⟩:=g1
          refine⟨rfl,?_⟩
          have acg:0 <ys.length:=by omega
          have sF: (bb es off len).length=len:=by simp[bb];omega
          have YK: (bb es off len).all (aZ · sz)=true:=by
            rw[ft] at q3;exact kW _ (nj _ q3)
          by_cases rL:len+ys.length≤cap
          ·
            have eb:cap≠0:=by omega
            have kQ: (μ.φ r').cap≠0:=by omega
            rcases q4 with q4| ⟨cc,T0,vs,p1,p2,p3,p4⟩
            · exact absurd q4 kQ
            · have vR:=a2.resolve_left eb
              subst vR
              have De:=p3.length
              have se:ek cc.toList (μ.φ r').base sz vs:=by have:=ia p1 p4;rwa [ft] at this
              rw[ft] at p2
              have hmul: (off+len+ys.length)*sz≤(μ.φ r').cap*sz:=Nat.mul_le_mul_right _ (by omega)
              rw[Nat.add_mul] at hmul
              have hw:=se.write (k:=off+len) (us:=us) (by omega) Dd (by rw[cB cc,Et];omega)
              have ni:=ib (P:=X.P) (w:=μ.w) (q:=(μ.φ r').base+(off+len)*sz) p1 (flat us) (by rw[Ao,Et];omega) CC
              have uC:=iC (X:=X) (sT:=sT) (xT:=xT) (sLen:=len) (sCap:=cap) (ty:=o.type) (base:=some ⟨(μ.φ r').dQ,(μ.φ r').base+off*(O1 r').sz,none⟩)
                (w':=μ.w.setRow (μ.φ r').dQ (dk cc.toList ((μ.φ r').base+(off+len)*sz) (flat us)).toArray) oV sX Ep hn k3 (by omega) Eu (by
                  simp only[fZ,ft]
                  have: (μ.φ r').base+off*sz+len*sz=(μ.φ r').base+(off+len)*sz:=by rw[Nat.add_mul];omega
                  rw[this];exact ni)
              have IS:ek (dk cc.toList ((μ.φ r').base+(off+len)*sz) (flat us)) ((μ.φ r').base+off*sz) sz ((vs.drop off).take len++us):=by
                have h3:=(hw.take (off+len+us.length)).drop off
                have e1: (List.take (off+len+us.length) (vs.take (off+len)++us++vs.drop (off+len+us.length))).drop off=(vs.drop off).take len++us:=by
                  have l1: (vs.take (off+len)).length=off+len:=by simp;omega
                  have l2: (vs.take (off+len)++us).length=off+len+us.length:=by rw[List.length_append,l1]
                  rw[←l2,List.take_left,List.drop_append_of_le_length (by omega),List.drop_take]
                  congr 2;omega
                rwa [e1] at h3
              have agy:off*sz+cap*sz=(μ.φ r').cap*sz:=by rw[←Nat.add_mul];congr 1;omega
              have L5:=nh (X:=X) (μ:=⟨μ.w,μ.φ,O1⟩) g4 r' bX jn p1 kQ (c':=(dk cc.toList ((μ.φ r').base+(off+len)*sz) (flat us)).toArray)
                (by
                  have: (dk cc.toList ((μ.φ r').base+(off+len)*sz) (flat us)).length=cc.toList.length:=fo (by rw[cB cc,Ao,Et];omega)
                  simpa using this)
                (g+1) ((μ.φ r').base+off*sz) cap (es':=bb es off len++ys) (vs':=(vs.drop off).take len++us) (.inr (by simp only;omega)) eb
                (by rw[List.length_append,sF];omega)
                (by
                  simp only[ft]
                  simp only[List.all_append,YK,oL,Bool.and_self])
                ((ak.take len (ak.drop off p3)).append g2)
                (by simp only[ft];omega)
                (fun j y hy=>by
                  obtain⟨m1,m2⟩:=IS j y hy
                  refine⟨by rw[ft];exact m1,fun l q hq=> ?_⟩
                  have:=m2 l q hq
                  simp only[ft]
                  simpa using this)
              refine⟨_,_,_,.inl (fin _ _ (by rw[hp];exact uC)),?_,g3.trans L5.1,L5.2⟩
              simp only[au,aL]
              exact⟨_,cap,rfl,by omega,Nat.le_refl _,fun _=> ⟨a0,by omega,.inr (by simp[ft])⟩⟩
          ·
            have hold: ∃ous,ak X ⟨μ.w,μ.φ,O1⟩ (bb es off len) ous∧(Builtin.firstCells sz len (.slice p len cap)).run X.P μ.w.drew= .ok (flat ous).toArray μ.w.drew:=by
              by_cases eb:cap=0
              · have Cz:len=0:=by omega
                subst Cz
                exact⟨[],by simp[bb,ak],lN⟩
              · rcases q4 with q4| ⟨cc,T0,vs,p1,p2,p3,p4⟩
                · omega
                · have vR:=a2.resolve_left eb
                  subst vR
                  have De:=p3.length
                  refine⟨(vs.drop off).take len,ak.take _ (ak.drop _ p3),?_⟩
                  have sY:=(p4.drop off)
                  rw[ft] at sY ⊢
                  have:=qR (P:=X.P) (sY.dq (w':=μ.w.drew) rfl) (n:=len) (by simp;omega)
                  simpa [Builtin.firstCells] using this
            obtain⟨ous,RO,RN⟩:=hold
            obtain⟨newCap,Ew,uC⟩:=kx (X:=X) (sT:=sT) (xT:=xT) (sLen:=len) (sCap:=cap) (base:=p) (ty:=o.type) oV sX Ep hn gP hzw k3 (by omega) Ap RN CF
            obtain⟨NF,ho3⟩:=zp (X:=X) (μ:=μ) (O1:=O1) g4 (r:=r') (sz:=sz) (newCap:=newCap) (olds:=bb es off len) (ous:=ous) (ys:=ys) (us:=us) (zv:=zv) (e:=e)
              (o0:={gen:=g+1,sz:=sz,arr:=true,fz:=false,es:=some (bb es off len++ys)}) rfl (by simp only;omega) cJ RO g2 YK oL LU (by rw[sF];exact Ew)
            have hO:eI O1 r' {O1 r' with gen:=g+1,es:=some (bb es off len++ys)}=eI O1 r' {gen:=g+1,sz:=sz,arr:=true,fz:=false,es:=some (bb es off len++ys)}:=by
              have: ({O1 r' with gen:=g+1,es:=some (bb es off len++ys)}:Obj)={gen:=g+1,sz:=sz,arr:=true,fz:=false,es:=some (bb es off len++ys)}:=by
                rw[←ft,←lM,←jn]
              rw[this]
            simp only[hO]
            rw[sF] at NF ho3
            refine⟨_,_,eI μ.φ r' ⟨μ.w.heap.size,0,newCap⟩,.inl (fin _ _ (by rw[hp];exact uC)),?_,g3.trans NF,ho3⟩
            simp only[au,aL]
            exact⟨_,newCap,rfl,by omega,Nat.le_refl _,fun _=> ⟨by omega,by simp,by simp⟩⟩
      · exact absurd g1 aC
    · exact absurd g1 aC
   · exact absurd g1 aC
 · exact absurd g1 aC
theorem Bg {c:Call} {s x:Operand} {sT xT e:TypeId} {d:TypeDesc} {s' x':bg} {r sz:Nat} {i:TypeInfo} {z:V} (hr:Rel X T a μ) (ho:o.op= .call c) (hc:c.callee= .builtin .append)
  (jw:c.args= #[s,x]) (vU:c.argTypes= #[sT,xT]) (hd:bG X sT=some (.slice e)) (hx:bG X xT=some d) (Ep: ∀k,d≠ .int k) (hn:bT X e=some sz) (hi:info X e=some i)
  (hz:fq X e=some z) (Eo:aZ z sz=true) (h1:du X s=some s') (h2:du X x=some x')
  (ag: (aF E (.append r sz (rK i.bytes) s' x')).run C ⟨T,μ.O⟩=some (v,σ')):σ'.T=T∧de X o a μ σ'.O v:=by
 refine pZ (C:=C) (v:=v) false (r:=r) hr ho hc jw vU hd hx Ep hn hi hz Eo h1 h2 ?_
 simp only[aF,bP] at ag
 exact ag
theorem zt {c:Call} {s x:Operand} {sT xT e:TypeId} {d:TypeDesc} {s' x':bg} {r sz:Nat} {i:TypeInfo} {z:V} (hr:Rel X T a μ) (ho:o.op= .call c) (hc:c.callee= .builtin .append)
  (jw:c.args= #[s,x]) (vU:c.argTypes= #[sT,xT]) (hd:bG X sT=some (.slice e)) (hx:bG X xT=some d) (Ep: ∀k,d≠ .int k) (hn:bT X e=some sz) (hi:info X e=some i)
  (hz:fq X e=some z) (Eo:aZ z sz=true) (h1:du X s=some s') (h2:du X x=some x')
  (ag: (aF E (.tK r sz (rK i.bytes) s' x')).run C ⟨T,μ.O⟩=some (v,σ')):σ'.T=T∧de X o a μ σ'.O v:=by
 refine pZ (C:=C) (v:=v) true (r:=r) hr ho hc jw vU hd hx Ep hn hi hz Eo h1 h2 ?_
 simp only[aF,bP] at ag
 exact ag
end
end Go.AM
namespace Go.AM
open Go Go.RowKit
section
variable {X:Ctx} {E:Env} {C:bO} {o:Oper} {a:Go.Act} {T:Nat→V} {μ:Mu} {v:V} {σ':St}
theorem wT (ho:bQ X μ) {r g off len sz:Nat} {es ys:List V} {us:List Value} {p:Option Addr} {cap:Nat} (bX: (μ.O r).es=some es) (jn: (μ.O r).fz=false) (ft: (μ.O r).sz=sz)
   (cW: (μ.O r).gen=g) (hle:len≤cap) (a0:0 < (μ.O r).sz) (a1:cap+off=(μ.φ r).cap) (a2:cap=0∨p=some ⟨(μ.φ r).dQ,(μ.φ r).base+off*(μ.O r).sz,none⟩)
   (jh:off+len≤es.length) (hy:ys.length≤len) (cK:ak X μ ys us) (oL:ys.all (aZ · sz)=true):
   ∃w',(match p with| some q=> (storeCells q (flat us)).run X.P μ.w= .ok () w'| none=>w'=μ.w∧flat us=[])∧
     ∃φ',φ' r=μ.φ r∧Le μ ⟨w',φ',eI μ.O r {μ.O r with es:=some (overwrite es off ys)}⟩∧bQ X ⟨w',φ',eI μ.O r {μ.O r with es:=some (overwrite es off ys)}⟩:=by
 have Et:us.length=ys.length:=cK.length.symm
 obtain⟨Dd,CC⟩:=cK.nm oL
 have Ao:=fI Dd
 have ig:μ.O r={μ.O r with es:=some es}:=by rw[←bX]
 rcases Nat.eq_zero_or_pos ys.length with h0| h0
 · have PO:ys=[]:=by simpa using h0
   have A7:us=[]:=List.length_eq_zero_iff.1 (by omega)
   have sw:overwrite es off ys=es:=by simp[overwrite,PO]
   have hO:eI μ.O r {μ.O r with es:=some (overwrite es off ys)}=μ.O:=by
     funext q
     by_cases hq:q=r
     · subst hq;rw[aL,sw];exact ig.symm
     · rw[bu _ _ hq]
   rw[hO]
   refine⟨μ.w,?_,μ.φ,rfl,Le.refl μ,ho⟩
   cases p with
   | none=>simp[A7,flat]
   | some q=>simp[A7,flat,storeCells]
 · obtain⟨q1,q2,q3,q4⟩:=ho.row r es bX a0
   have eb:cap≠0:=by omega
   have kQ: (μ.φ r).cap≠0:=by omega
   rcases q4 with q4| ⟨cc,T0,vs,p1,p2,p3,p4⟩
   · exact absurd q4 kQ
   · have vR:=a2.resolve_left eb
     subst vR
     have De:=p3.length
     have se:ek cc.toList (μ.φ r).base sz vs:=by have:=ia p1 p4;rwa [ft] at this
     rw[ft] at p2
     have hmul: (off+ys.length)*sz≤(μ.φ r).cap*sz:=Nat.mul_le_mul_right _ (by omega)
     rw[Nat.add_mul] at hmul
     have hw:=se.write (k:=off) (us:=us) (by omega) Dd (by rw[cB cc,Et];omega)
     have ni:=ib (P:=X.P) (w:=μ.w) (q:=(μ.φ r).base+off*sz) p1 (flat us) (by rw[Ao,Et];omega) CC
     have L5:=nh (X:=X) (μ:=μ) ho r bX jn p1 kQ (c':=(dk cc.toList ((μ.φ r).base+off*sz) (flat us)).toArray)
      (by
        have: (dk cc.toList ((μ.φ r).base+off*sz) (flat us)).length=cc.toList.length:=fo (by rw[cB cc,Ao,Et];omega)
        simpa using this)
      (μ.O r).gen (μ.φ r).base (μ.φ r).cap (es':=overwrite es off ys) (vs':=vs.take off++us++vs.drop (off+us.length)) (.inl ⟨rfl,rfl,rfl⟩) kQ
      (by simp[overwrite];omega)
      (by
        simp only[ft] at q3 ⊢
        have t1:=kW (p:=(aZ · sz)) off q3
        have t2:=nj (p:=(aZ · sz)) (off+ys.length) q3
        simp only[overwrite,List.all_append,t1,oL,t2,Bool.and_self])
      (by
        have:=((ak.take off p3).append cK).append (ak.drop (off+ys.length) p3)
        rw[Et];exact this)
      (by rw[ft];exact p2)
      (fun j y hy=>by
        obtain⟨m1,m2⟩:=hw j y hy
        refine⟨by rw[ft];exact m1,fun l q hq=> ?_⟩
        have:=m2 l q hq
        simp only[ft]
        simpa using this)
     refine⟨_,?_,_,?_,L5.1,L5.2⟩
     · simp only[ft];exact ni
     · rw[aL]
theorem PQ {c:Call} {d s:Operand} {dT sT e:TypeId} {d' s':bg} {sz:Nat} (hr:Rel X T a μ) (ho:o.op= .call c) (hc:c.callee= .builtin .copy)
   (jw:c.args= #[d,s]) (vU:c.argTypes= #[dT,sT]) (hd:bG X dT=some (.slice e)) (hn:bT X e=some sz) (h1:du X d=some d') (h2:du X s=some s')
   (ag: (aF E (.copy sz d' s')).run C ⟨T,μ.O⟩=some (v,σ')):σ'.T=T∧de X o a μ σ'.O v:=by
 simp only[aF,bP] at ag
 have Kg:=aX hr h1 μ.O
 have hss:=aX hr h2 μ.O
 have oV:X.P.underlying dT=some (.slice e):=hd
 obtain⟨ys,us,k1,k2,k3,k4⟩:=ij hr.bB hss ag
 have fin: ∀ (p:Option Addr) (len cap:Nat) (w':World),a.eval d= .slice p len cap→
     (match p with| some q=> (storeCells q (flat (us.take (min ys.length len)))).run X.P μ.w= .ok () w'| none=>w'=μ.w∧flat (us.take (min ys.length len))=[])→
     (execOp a.eval o).run X.P μ.w= .ok (.value (goInt ((min ys.length len:Nat):Int))) w':=fun p len cap w' hp ni=>by
   refine eD ho hc ?_
   simp only[builtin,jw,vU]
   refine cO ?_
   have PN: (#[dT,sT]:Array TypeId)[0]? =some dT:=rfl
   have afS:Array.map a.eval #[d,s]= #[a.eval d,a.eval s]:=by simp
   rw[afS,hp]
   have Xo: (#[Value.slice p len cap,a.eval s]:Array Value)[0]? =some (Value.slice p len cap):=rfl
   have NG: (#[Value.slice p len cap,a.eval s]:Array Value)[1]? =some (a.eval s):=rfl
   have hfc:=k4 μ.w rfl (min ys.length len) (Nat.min_le_left _ _)
   simp only[Builtin.copy_,PN,Xo,NG,Sem.run_bind,run_underlying oV,Result.andThen_ok,k3,dU hn,Nat.min_def] at hfc ⊢
   rw[hfc]
   simp only[Result.andThen_ok]
   simp only[Nat.min_def] at ni
   cases p with
   | none=>simp only at ni;obtain⟨rfl,_⟩:=ni;simp
   | some q=>simp only at ni;simp[Sem.run_bind,ni]
 generalize bM ⟨T,μ.O⟩ d'=dv at k1 Kg
 split at k1
 · obtain⟨rfl,rfl⟩:=bo k1
   simp only[au] at Kg
   obtain⟨p,hp⟩:=Kg
   have h0:min ys.length 0=0:=Nat.min_eq_right (Nat.zero_le _)
   have:=fin p 0 0 μ.w hp (by rw[h0];cases p<;>simp[flat,storeCells])
   rw[h0] at this
   exact⟨rfl,aS (val:=goInt 0) hr.bB (by simpa using this) (by simp[au,goInt])⟩
 · rename_i r g off len
   simp only[Act.run] at k1
   split at k1
   · rename_i es bX
     split at k1
     · rename_i YE
       obtain⟨cW,lM,jn,ft,jh,oL⟩:=YE
       simp only[Act.run,Option.some.injEq,Prod.mk.injEq] at k1
       obtain⟨rfl,rfl⟩:=k1
       simp only[au] at Kg
       obtain⟨p,cap,hp,hle,ve,dm⟩:=Kg
       obtain⟨a0,a1,a2⟩:=dm cW
       obtain⟨w',ni,φ',hφ,le,ig⟩:=wT (X:=X) hr.bB (us:=us.take len) bX jn ft cW hle a0 a1 a2 jh (ys:=ys.take len) (by simp;omega) (ak.take _ k2) oL
       have afT:us.take (min ys.length len)=us.take len:=by
        have hl:=k2.length
        rcases Nat.le_total ys.length len with h| h
        · rw[Nat.min_eq_left h,hl,List.take_length,List.take_of_length_le (by omega)]
        · rw[Nat.min_eq_right h]
       refine⟨rfl,goInt ((min ys.length len:Nat):Int),w',φ',.inl (fin p len cap w' hp (by rw[afT];exact ni)),?_,le,ig⟩
       simp only[au,goInt,List.length_take]
       rw[Nat.min_comm]
     · exact absurd k1 aC
   · exact absurd k1 aC
 · exact absurd k1 aC
theorem p9 {zv:Value} {sz n:Nat} (hz:zv.cells.size=sz) (cJ:0 <sz): (Builtin.zeroCells zv.cells n).toList=flat (List.replicate n zv):=by
 have hs: ∀u ∈ List.replicate n zv,u.cells.size=sz:=fun u hu=>by rw[(List.mem_replicate.1 hu).2];exact hz
 have Ao:=fI hs
 rw[List.length_replicate] at Ao
 apply List.ext_getElem?
 intro q
 by_cases hq:q<n*sz
 · have hi:q / sz<n:=Nat.div_lt_of_lt_mul (by rw[Nat.mul_comm];exact hq)
   have vR:q / sz*sz+q % sz=q:=by rw[Nat.mul_comm];exact Nat.div_add_mod q sz
   have hm:q % sz<zv.cells.size:=by rw[hz];exact Nat.mod_lt _ cJ
   have hc:zv.cells[q % sz]? =some zv.cells[q % sz]:=Array.getElem?_eq_getElem hm
   have hv: (List.replicate n zv)[q / sz]? =some zv:=by rw[List.getElem?_replicate];simp[hi]
   have g1:=uA hs hv hc
   rw[vR] at g1
   rw[g1,Array.getElem?_toList]
   have hr: (Array.range (n*sz))[q]? =some q:=by simp[hq]
   simp only[Builtin.zeroCells,Array.getElem?_map,hz,hr,Option.map_some]
   rw[getElem!_def,hc]
 · rw[List.getElem?_eq_none (by rw[cB (Builtin.zeroCells _ _),pY hz];omega),List.getElem?_eq_none (by omega)]
theorem L6 {c:Call} {x:Operand} {t e:TypeId} {x':bg} {sz:Nat} {z:V} (hr:Rel X T a μ) (ho:o.op= .call c) (hc:c.callee= .builtin .clear)
   (jw:c.args= #[x]) (vU:c.argTypes= #[t]) (hd:bG X t=some (.slice e)) (hz:fq X e=some z) (h1:du X x=some x')
   (ag: (aF E (.clear sz z x')).run C ⟨T,μ.O⟩=some (v,σ')):σ'.T=T∧de X o a μ σ'.O v:=by
 simp only[aF,bP] at ag
 have hx:=aX hr h1 μ.O
 have oV:X.P.underlying t=some (.slice e):=hd
 have fin: ∀w',(Builtin.clear_ #[t] o.type #[a.eval x]).run X.P μ.w= .ok (.tuple #[]) w'→(execOp a.eval o).run X.P μ.w= .ok (.value (.tuple #[])) w':=fun w' hv=>by
   refine eD ho hc ?_
   simp only[builtin,jw,vU]
   refine cO ?_
   simpa using hv
 have PN: (#[t]:Array TypeId)[0]? =some t:=rfl
 have Xo: ∀y:Value,(#[y]:Array Value)[0]? =some y:=fun _=>rfl
 split at ag
 · rename_i ex
   obtain⟨rfl,rfl⟩:=bo ag
   rw[ex] at hx;simp only[au] at hx
   obtain⟨p,hp⟩:=hx
   refine⟨rfl,aS (val:= .tuple #[]) hr.bB (fin _ ?_) (by simp only[au];exact⟨#[],rfl,by simp[ak]⟩)⟩
   cases p<;>simp[Builtin.clear_,Sem.run_bind,run_underlying oV,hp]
 · rename_i r g off len ex
   rw[ex] at hx
   simp only[Act.run] at ag
   split at ag
   · rename_i es bX
     split at ag
     · rename_i YE
       obtain⟨cW,lM,jn,ft,jh,Eo⟩:=YE
       simp only[Act.run,Option.some.injEq,Prod.mk.injEq] at ag
       obtain⟨rfl,rfl⟩:=ag
       simp only[au] at hx
       obtain⟨p,cap,hp,hle,ve,dm⟩:=hx
       obtain⟨a0,a1,a2⟩:=dm cW
       obtain⟨zv,vS,Ae⟩:=gG hz μ.w
       obtain⟨xz,NA⟩:=fm (X:=X) (μ:=μ) Ae
       have LU:zv.cells.size=sz:=by rw[xz.ej NA,(cE Eo).2]
       have cJ:0 <sz:=ft ▸ a0
       obtain⟨w',ni,φ',hφ,le,ig⟩:=wT (X:=X) hr.bB (us:=List.replicate len zv) bX jn ft cW hle a0 a1 a2 jh (ys:=List.replicate len z) (by simp) (ak.replicate xz len)
         (by simp only[List.all_eq_true,List.mem_replicate];rintro y ⟨_,rfl⟩;exact Eo)
       refine⟨rfl,.tuple #[],w',φ',.inl (fin _ ?_),by simp only[au];exact⟨#[],rfl,by simp[ak]⟩,le,ig⟩
       rw[←p9 LU cJ] at ni
       rw[hp]
       simp only[Builtin.clear_,PN,Xo,Sem.run_bind,run_underlying oV,Result.andThen_ok]
       rcases Nat.eq_zero_or_pos len with h0| h0
       · subst h0
         have YD: (Builtin.zeroCells zv.cells 0).toList=[]:=by rw[p9 LU cJ];rfl
         rw[YD] at ni
         have hw:w'=μ.w:=by
           cases p with
           | none=>exact ni.1
           | some q=>simp[storeCells] at ni;exact ni.symm
         subst hw
         cases p<;>simp
       · cases p with
         | none=>
           have eb:cap≠0:=by omega
           exact absurd (a2.resolve_left eb) (by simp)
         | some q=>
           obtain⟨n,rfl⟩: ∃n,len=n+1:=⟨len - 1,by omega⟩
           simp only at ni
           simp[Sem.run_bind,vS,ni]
     · exact absurd ag aC
   · exact absurd ag aC
 · exact absurd ag aC
theorem HT {x:Operand} {y:bg} (hr:Rel X T a μ) (ho:o.op= .move x∨o.op= .assign x) (ht:du X x=some y) (ag: (aF E (.deep y)).run C ⟨T,μ.O⟩=some (v,σ')):
   σ'.T=T∧de X o a μ σ'.O v:=by
 simp only[aF,bP] at ag
 have cK:=aX hr ht μ.O
 have kG: (execOp a.eval o).run X.P μ.w= .ok (.value (a.eval x)) μ.w:=by rcases ho with ho| ho<;>simp[execOp,ho]
 unfold BZ at ag
 split at ag
 · rename_i r g off len he
   rw[he] at cK
   simp only[Act.run] at ag
   split at ag
   · rename_i es bX
     split at ag
     rotate_left
     · exact absurd ag aC
     rename_i cW
     have RP:=cK
     simp only[au] at RP
     obtain⟨_,_,_,_,_,dm⟩:=RP
     obtain⟨q1,q2,q3,q4⟩:=hr.bB.row r es bX (dm cW).1
     obtain⟨vs,xQ,gm⟩: ∃vs,ak X μ es vs∧((μ.φ r).cap=0∨ ∃c T,μ.w.heap[(μ.φ r).dQ]? =some (.cells c T (0,0))∧(μ.φ r).base+(μ.φ r).cap*(μ.O r).sz≤c.size∧
         fb μ.w (μ.φ r).dQ (μ.φ r).base (μ.O r).sz vs):=by
       rcases q4 with q4| ⟨c,T0,vs,p1,p2,p3,p4⟩
       · have:es=[]:=by
          have:es.length=0:=by omega
          simpa using this
         subst this
         exact⟨[],by simp[ak],.inl q4⟩
       · exact⟨vs,p3,.inr ⟨c,T0,p1,p2,p4⟩⟩
     obtain⟨es',O1,g1,g2,g3,g4⟩:=zj (μ:=μ) hr.bB xQ ag
     simp only[Act.run] at g1
     split at g1
     · rename_i hc
       obtain⟨oZ,vJ,YI⟩:=hc
       simp only[Act.run,Option.some.injEq,Prod.mk.injEq] at g1
       obtain⟨rfl,rfl⟩:=g1
       have hs: (O1 r).sz=(μ.O r).sz:=(g3.row r oZ).2
       have hlen:es'.length=es.length:=by rw[g2.length,xQ.length]
       obtain⟨le,vB⟩:=Jr (X:=X) (μ:=⟨μ.w,μ.φ,O1⟩) g4 r (es':=es') vJ (by rw[hs];exact q1) (by rw[hlen];exact q2) (by rw[hs];exact YI) (by
         refine gm.imp id ?_
         rintro⟨c,T0,p1,p2,p4⟩
         exact⟨c,T0,vs,p1,by simp only[hs];exact p2,g2,by simp only[hs];exact p4⟩)
       exact⟨rfl,a.eval x,μ.w,μ.φ,.inl kG,au.mono (g3.trans le) cK,g3.trans le,vB⟩
     · exact absurd g1 aC
   · exact absurd ag aC
 · obtain⟨rfl,rfl⟩:=bo ag
   exact⟨rfl,aS hr.bB kG cK⟩
end
end Go.AM
namespace Go.AM
open Go Go.RowKit
def ky (X:Ctx) (μ:Mu) (rs:List Nat) (a:V) (v:Value):Prop:= ∀ (B:Nat→Prop) (μ':Mu),μ'.w=μ.w→
 (∀b,Own ⟨X.toTrEnv,B,X.tok⟩ μ' b→Own X μ b∧ ∀r ∈ rs,(μ.O r).es.isSome=true→(μ.φ r).cap≠0→b≠(μ.φ r).dQ)→au ⟨X.toTrEnv,B,X.tok⟩ μ' a v
def uD (X:Ctx) (μ:Mu) (rs:List Nat) (as:List V) (vs:List Value):Prop:= ∀ (B:Nat→Prop) (μ':Mu),μ'.w=μ.w→
 (∀b,Own ⟨X.toTrEnv,B,X.tok⟩ μ' b→Own X μ b∧ ∀r ∈ rs,(μ.O r).es.isSome=true→(μ.φ r).cap≠0→b≠(μ.φ r).dQ)→ak ⟨X.toTrEnv,B,X.tok⟩ μ' as vs
section
variable {X:Ctx} {B:Nat→Prop} {μ μ':Mu}
mutual
theorem eE (hw:μ'.w=μ.w) (ho: ∀b,Own ⟨X.toTrEnv,B,X.tok⟩ μ' b→Own X μ b): ∀ {x:V} {v:Value},V.aj x=true→au X μ x v→au ⟨X.toTrEnv,B,X.tok⟩ μ' x v
 | .bool _,_,_,h| .int ..,_,_,h| .float _,_,_,h| .str _,_,_,h| .nilp,_,_,h| .nilfn,_,_,h| .nili,_,_,h| .nils,_,_,h=>by simpa [au] using h
 | .any,_,hp,_| .own ..,_,hp,_| .msl ..,_,hp,_| .mptr ..,_,hp,_| .sl ..,_,hp,_| .ptr ..,_,hp,_| .mp ..,_,hp,_| .it ..,_,hp,_=>by simp[V.aj] at hp
 | .mlit es,_,hp,h=>by
   simp only[au] at h ⊢
   obtain⟨h0,h⟩:=h
   refine⟨h0,h.imp id ?_⟩
   rintro⟨a,ents,clock,rfl,hb,hs,h1,h2⟩
   exact⟨a,ents,clock,rfl,fun hh=>hb (ho _ hh),by rw[hw];exact hs,by rw[hw];exact h1,ca hw ho h0 h2⟩
 | .agg cs,_,hp,h=>by
   simp only[au] at h ⊢
   obtain⟨h1,vs,rfl,h2⟩:=h
   exact⟨h1,vs,rfl,ca hw ho (by simpa [V.aj] using hp) h2⟩
 | .tuple cs,_,hp,h=>by
   simp only[au] at h ⊢
   obtain⟨vs,rfl,h2⟩:=h
   exact⟨vs,rfl,ca hw ho (by simpa [V.aj] using hp) h2⟩
 | .bfn f cs,_,hp,h=>by
   simp only[au] at h ⊢
   obtain⟨F,cv,rfl,h1,h2⟩:=h
   exact⟨F,cv,rfl,h1,ca hw ho (by simpa [V.aj] using hp) h2⟩
 | .fn f cs,_,hp,h=>by
   simp only[au] at h ⊢
   obtain⟨F,cv,rfl,h1,h2⟩:=h
   exact⟨F,cv,rfl,h1,ca hw ho (by simpa [V.aj] using hp) h2⟩
 | .iface t x,_,hp,h=>by
   simp only[au] at h ⊢
   obtain⟨F,y,rfl,h1,h2⟩:=h
   exact⟨F,y,rfl,h1,eE hw ho (by simpa [V.aj] using hp) h2⟩
 | .lit sz xs,_,hp,h=>by
   simp only[au] at h ⊢
   obtain⟨h0,lY,a,cap,vs,rfl,h1,h2,h3⟩:=h
   refine⟨h0,lY,a,cap,vs,rfl,h1,ca hw ho h0 h2,h3.imp id ?_⟩
   rintro⟨b,o,rfl,hb,hs,hr⟩
   exact⟨b,o,rfl,fun hh=>hb (ho b hh),by rw[hw];exact hs,by rw[hw];exact hr⟩
 | .litk sz xs,_,hp,h=>by
   simp only[au] at h ⊢
   obtain⟨h0,lY,a,cap,vs,rfl,h1,h2,h3⟩:=h
   refine⟨h0,lY,a,cap,vs,rfl,h1,ca hw ho h0 h2,h3.imp id ?_⟩
   rintro⟨rfl,hb,hs,hr⟩
   exact⟨rfl,fun hh=>hb (ho _ hh),by rw[hw];exact hs,by rw[hw];exact hr⟩
 | .epk i sz e off,_,hp,h=>by
   simp only[au] at h ⊢
   obtain⟨h0,lY,x,rfl,hb,hs,h1,hr⟩:=h
   exact⟨h0,lY,x,rfl,fun hh=>hb (ho _ hh),by rw[hw];exact hs,eE hw ho h0 h1,by rw[hw];exact hr⟩
 | .eptr e off,_,hp,h=>by
   simp only[au] at h ⊢
   obtain⟨h0,lY,b,o,sz,x,rfl,hb,hs,h1,hr⟩:=h
   exact⟨h0,lY,b,o,sz,x,rfl,fun hh=>hb (ho b hh),by rw[hw];exact hs,eE hw ho h0 h1,by rw[hw];exact hr⟩
theorem ca (hw:μ'.w=μ.w) (ho: ∀b,Own ⟨X.toTrEnv,B,X.tok⟩ μ' b→Own X μ b): ∀ {xs:List V} {vs:List Value},V.ae xs=true→ak X μ xs vs→ak ⟨X.toTrEnv,B,X.tok⟩ μ' xs vs
 | [],[],_,_=>by simp[ak]
 | [],_::_,_,h=>by simp[ak] at h
 | _::_,[],_,h=>by simp[ak] at h
 | x::xs,v::vs,hp,h=>by
   simp only[ak] at h ⊢
   simp only[V.ae,Bool.and_eq_true] at hp
   exact⟨eE hw ho hp.1 h.1,ca hw ho hp.2 h.2⟩
end
end
section
variable {X:Ctx} {C:bO} {T:Nat→V} {μ:Mu}
theorem ky.HU {a:V} {v:Value} (hp:V.aj a=true) (h:au X μ a v) (rs:List Nat):ky X μ rs a v:=
 fun _ _ hw ho=>eE hw (fun b hb=> (ho b hb).1) hp h
theorem ky.more {rs rs':List Nat} {a:V} {v:Value} (h:ky X μ rs a v) (hs: ∀r ∈ rs,r ∈ rs'):ky X μ rs' a v:=
 fun B μ' hw ho=>h B μ' hw fun b hb=> ⟨(ho b hb).1,fun r hr=> (ho b hb).2 r (hs r hr)⟩
theorem uD.more {rs rs':List Nat} {a:List V} {v:List Value} (h:uD X μ rs a v) (hs: ∀r ∈ rs,r ∈ rs'):uD X μ rs' a v:=
 fun B μ' hw ho=>h B μ' hw fun b hb=> ⟨(ho b hb).1,fun r hr=> (ho b hb).2 r (hs r hr)⟩
theorem mr {f:V→(V→List Nat→Act)→Act}
   (hf: ∀ {v:V} {k:V→List Nat→Act} {val:Value} {p:V×St},au X μ v val→(f v k).run C ⟨T,μ.O⟩=some p→ ∃v' rs,(k v' rs).run C ⟨T,μ.O⟩=some p∧V.aj v'=true∧ky X μ rs v' val∧(v.dX=true→v'.dX=true)∧(v.aV=true→v'.aV=true)):
   ∀ {vs:List V} {k:List V→List Nat→Act} {vals:List Value} {p:V×St},ak X μ vs vals→(rG f vs k).run C ⟨T,μ.O⟩=some p→
     ∃vs' rs,(k vs' rs).run C ⟨T,μ.O⟩=some p∧V.ae vs'=true∧uD X μ rs vs' vals∧vs'.length=vs.length∧(vs.all V.dX=true→vs'.all V.dX=true)∧(vs.all V.aV=true→vs'.all V.aV=true)
 | [],k,[],p,_,ag=> ⟨[],[],ag,rfl,fun _ _ _ _=>by simp[ak],rfl,id,id⟩
 | [],_,_::_,_,h,_=>by simp[ak] at h
 | _::_,_,[],_,h,_=>by simp[ak] at h
 | v::vs,k,val::vals,p,h,ag=>by
   simp only[ak] at h
   obtain⟨v',rs,h1,h2,h3,h4,h5⟩:=hf h.1 ag
   obtain⟨vs',rs',k1,k2,k3,k4,k5,k6⟩:=mr hf h.2 h1
   refine⟨v'::vs',rs++rs',k1,by simp[V.ae,h2,k2],fun B μ' hw ho=> ?_,by simp[k4],?_,?_⟩
   · simp only[ak]
     exact⟨h3.more (fun r hr=>by simp[hr]) B μ' hw ho,k3.more (fun r hr=>by simp[hr]) B μ' hw ho⟩
   · simp only[List.all_cons,Bool.and_eq_true];exact fun hh=> ⟨h4 hh.1,k5 hh.2⟩
   · simp only[List.all_cons,Bool.and_eq_true];exact fun hh=> ⟨h5 hh.1,k6 hh.2⟩
theorem Aq {f:V→(V→List Nat→Act)→Act}
   (hf: ∀ {v:V} {k:V→List Nat→Act} {val:Value} {p:V×St},au X μ v val→(f v k).run C ⟨T,μ.O⟩=some p→ ∃v' rs,(k v' rs).run C ⟨T,μ.O⟩=some p∧V.aj v'=true∧ky X μ rs v' val∧(v.dX=true→v'.dX=true)∧(v.aV=true→v'.aV=true))
   {vs:List V} {k:List V→List Nat→Act} {vals:List Value} {p:V×St} (h:ak X μ vs vals) (ag: (xJ f vs k).run C ⟨T,μ.O⟩=some p):
     ∃vs' rs,(k vs' rs).run C ⟨T,μ.O⟩=some p∧V.ae vs'=true∧uD X μ rs vs' vals∧vs'.length=vs.length∧(vs.all V.dX=true→vs'.all V.dX=true)∧(vs.all V.aV=true→vs'.all V.aV=true):=by
 unfold xJ at ag
 split at ag
 · rename_i hp
   exact⟨vs,[],ag,hp,fun _ _ hw ho=>ca hw (fun b hb=> (ho b hb).1) hp h,rfl,id,id⟩
 · exact mr hf h ag
theorem mu (     ho:bQ X μ): ∀ (d:Nat) {v:V} {k:V→List Nat→Act} {val:Value} {p:V×St},au X μ v val→(gC d v k).run C ⟨T,μ.O⟩=some p→
   ∃v' rs,(k v' rs).run C ⟨T,μ.O⟩=some p∧V.aj v'=true∧ky X μ rs v' val∧(v.dX=true→v'.dX=true)∧(v.aV=true→v'.aV=true)
 | 0,v,k,val,p,h,ag=>by
   simp only[gC] at ag
   split at ag
   · rename_i hp;exact⟨v,[],ag,hp,ky.HU hp h _,id,id⟩
   · exact absurd ag aC
 | d+1,v,k,val,p,h,ag=>by
   have ih:=fun {v:V} {k:V→List Nat→Act} {val:Value} {p:V×St}=>mu ho d (v:=v) (k:=k) (val:=val) (p:=p)
   simp only[gC] at ag
   split at ag
   · rename_i hp;exact⟨v,[],ag,hp,ky.HU hp h _,id,id⟩
   · rename_i Bh
     split at ag
     ·
      simp only[au] at h
      obtain⟨h0,vs,rfl,hv⟩:=h
      obtain⟨dC,rs,k1,k2,k3,k4,k5,k6⟩:=mr ih hv ag
      refine⟨_,rs,k1,by simpa [V.aj] using k2,fun B μ' hw hh=> ?_,fun _=>rfl,fun hc=>by simp[V.aV] at hc⟩
      simp only[au]
      exact⟨k6 h0,vs,rfl,k3 B μ' hw hh⟩
     ·
      simp only[au] at h
      obtain⟨F,cv,rfl,hf,hv⟩:=h
      obtain⟨dC,rs,k1,k2,k3,k4,k5,k6⟩:=mr ih hv ag
      refine⟨_,rs,k1,by simpa [V.aj] using k2,fun B μ' hw hh=> ?_,fun _=>rfl,fun _=>rfl⟩
      simp only[au]
      exact⟨F,cv,rfl,hf,k3 B μ' hw hh⟩
     ·
      simp only[au] at h
      obtain⟨F,y,rfl,hf,hv⟩:=h
      obtain⟨x',rs,k1,k2,k3,k4,k5⟩:=ih hv ag
      refine⟨_,rs,k1,by simpa [V.aj] using k2,fun B μ' hw hh=> ?_,fun _=>rfl,fun _=>rfl⟩
      simp only[au]
      exact⟨F,y,rfl,hf,k3 B μ' hw hh⟩
     ·
      rename_i r g off len
      simp only[Act.run] at ag
      split at ag
      · rename_i es bX
        split at ag
        · rename_i hc
          obtain⟨cW,lM,jh⟩:=hc
          simp only[au] at h
          obtain⟨a,cap,rfl,hle,ve,dm⟩:=h
          obtain⟨a0,a1,a2⟩:=dm cW
          obtain⟨q1,q2,q3,q4⟩:=ho.row r es bX a0
          have sF: (bb es off len).length=len:=by simp[bb];omega
          have np: (bb es off len).all V.dX=true:=by
            simp only[List.all_eq_true] at q3 ⊢
            exact fun x hx=> (cE (q3 x (List.mem_of_mem_drop (List.mem_of_mem_take hx)))).1
          have xQ: ∃vs,ak X μ (bb es off len) vs∧(len=0∨((μ.φ r).cap≠0∧(μ.φ r).dQ<μ.w.heap.size∧a=some ⟨(μ.φ r).dQ,(μ.φ r).base+off*(μ.O r).sz,none⟩∧fb μ.w (μ.φ r).dQ ((μ.φ r).base+off*(μ.O r).sz) (μ.O r).sz vs)):=by
            by_cases Cz:len=0
            · exact⟨[],by simp[bb,Cz,ak],.inl Cz⟩
            · rcases q4 with q4| ⟨cc,TT,vs,p1,p2,p3,p4⟩
              · omega
              · exact⟨(vs.drop off).take len,ak.take _ (ak.drop _ p3),.inr ⟨by omega,(Array.getElem?_eq_some_iff.1 p1).1,a2.resolve_left (by omega),(p4.drop off).take len⟩⟩
          obtain⟨vs,fX,mn⟩:=xQ
          obtain⟨PM,rs,k1,k2,k3,k4,k5,k6⟩:=Aq ih fX ag
          refine⟨_,r::rs,k1,rfl,fun B μ' hw hh=> ?_,fun _=>rfl,fun _=>rfl⟩
          have hx:=k3.more (rs':=r::rs) (fun q hq=>by simp[hq]) B μ' hw hh
          simp only[au]
          refine⟨k2,k5 np,a,cap,vs,by rw[k4,sF],by rw[k4,sF];exact hle,hx,?_⟩
          rcases mn with Cz| ⟨c0,c1,c2,c3⟩
          · left
            have:PM.length=0:=by rw[k4,sF];exact Cz
            simpa using this
          · right
            refine⟨_,_,c2,fun gS=> ?_,by rw[hw];exact c1,by rw[hw];exact c3⟩
            exact(hh _ gS).2 r (by simp) (by simp[bX]) c0 rfl
        · exact absurd ag aC
      · exact absurd ag aC
     ·
      rename_i r g idx off
      simp only[Act.run] at ag
      split at ag
      · rename_i es bX
        split at ag
        · rename_i cW
          split at ag
          · rename_i e he
            simp only[au] at h
            obtain⟨a,rfl,ve,dm⟩:=h
            obtain⟨a0,hae⟩:=dm cW
            obtain⟨q1,q2,q3,q4⟩:=ho.row r es bX a0
            have bY:idx<es.length:=(List.getElem?_eq_some_iff.1 he).1
            rcases q4 with q4| ⟨cc,TT,vs,p1,p2,p3,p4⟩
            · omega
            · obtain⟨x,hx,cK⟩:=p3.get he
              have oL:aZ e (μ.O r).sz=true:=by
               simp only[List.all_eq_true] at q3
               exact q3 e (List.mem_of_getElem? he)
              obtain⟨e',rs,k1,k2,k3,k4,k5⟩:=ih cK ag
              refine⟨_,r::rs,k1,rfl,fun B μ' hw hh=> ?_,fun _=>rfl,fun _=>rfl⟩
              simp only[au]
              have iY:fb μ.w (μ.φ r).dQ ((μ.φ r).base+idx*(μ.O r).sz) (μ.O r).sz [x]:=by
               have:=(p4.drop idx).take 1
               have sq: (vs.drop idx).take 1=[x]:=by
                have JB:idx<vs.length:=(List.getElem?_eq_some_iff.1 hx).1
                rw[List.drop_eq_getElem_cons JB,List.take_succ_cons,List.take_zero]
                rw[List.getElem?_eq_getElem JB] at hx
                injection hx with hx;rw[hx]
               rwa [sq] at this
              refine⟨k2,k4 (cE oL).1,(μ.φ r).dQ,(μ.φ r).base+idx*(μ.O r).sz,(μ.O r).sz,x,by rw[hae],fun gS=> ?_,by rw[hw];exact(Array.getElem?_eq_some_iff.1 p1).1,
               k3.more (rs':=r::rs) (fun q hq=>by simp[hq]) B μ' hw hh,by rw[hw];exact iY⟩
              exact(hh _ gS).2 r (by simp) (by simp[bX]) (by omega) rfl
          · exact absurd ag aC
        · exact absurd ag aC
      · exact absurd ag aC
     · exact absurd ag aC
inductive mg (X:Ctx) (μ:Mu) (r0:Nat):Nat→List V→List Value→List Nat→List fk→Prop
 | nil (i:Nat):mg X μ r0 i [] [] [] []
 | plain {i:Nat} {a:V} {v:Value} {rs rs':List Nat} {as:List V} {vs:List Value} {ws:List fk} (hp:V.aj a=true) (hs:ky X μ rs a v) (h:mg X μ r0 (i+1) as vs rs' ws):
    mg X μ r0 i (a::as) (v::vs) (rs++rs') ws
 | sl {i r g off len:Nat} {es:List V} {v:Value} {rs:List Nat} {as:List V} {vs:List Value} {ws:List fk} (bX: (μ.O r).es=some es) (jn: (μ.O r).fz=false) (cW: (μ.O r).gen=g) (gO:V.ae es=true)
    (jh:off+len≤es.length) (hv:au X μ (.sl r g off len) v) (h:mg X μ r0 (i+1) as vs rs ws):mg X μ r0 i (.msl (μ.O r).sz es off len::as) (v::vs) rs (⟨i,r,none⟩::ws)
 | ptr {i r g idx off:Nat} {es:List V} {v:Value} {rs:List Nat} {as:List V} {vs:List Value} {ws:List fk} (bX: (μ.O r).es=some es) (jn: (μ.O r).fz=false) (cW: (μ.O r).gen=g) (gO:V.ae es=true)
    (hv:au X μ (.ptr r g idx off) v) (h:mg X μ r0 (i+1) as vs rs ws):mg X μ r0 i (.mptr (μ.O r).sz es idx off::as) (v::vs) rs (⟨i,r,none⟩::ws)
 | fresh {i sz:Nat} {v:Value} {rs:List Nat} {as:List V} {vs:List Value} {ws:List fk} (cJ:0 <sz) (hv: ∃a,v= .slice a 0 0) (h:mg X μ r0 (i+1) as vs rs ws):
    mg X μ r0 i (.msl sz [] 0 0::as) (v::vs) rs (⟨i,r0+i,some sz⟩::ws)
theorem fp (ho:bQ X μ) {r0:Nat}: ∀ {vs:List V} {ms:List (Option Nat)} {i:Nat} {k:List V→List Nat→List fk→Act} {vals:List Value} {p:V×St},ak X μ vs vals→
   (eA r0 vs ms i k).run C ⟨T,μ.O⟩=some p→ ∃as rs ws,(k as rs ws).run C ⟨T,μ.O⟩=some p∧mg X μ r0 i as vals rs ws
 | [],ms,i,k,[],p,_,ag=> ⟨[],[],[],by simpa [eA] using ag,.nil i⟩
 | [],_,_,_,_::_,_,h,_=>by simp[ak] at h
 | _::_,_,_,_,[],_,h,_=>by simp[ak] at h
 | v::vs,[],i,k,val::vals,p,h,ag=>by
   simp only[ak] at h
   simp only[eA,snap] at ag
   obtain⟨v',rs,h1,h2,h3,_,_⟩:=mu ho 5 h.1 ag
   obtain⟨as,rs',ws,k1,k2⟩:=fp ho h.2 h1
   exact⟨_,_,_,k1,.plain h2 h3 k2⟩
 | v::vs,m::ms,i,k,val::vals,p,h,ag=>by
   simp only[ak] at h
   simp only[eA] at ag
   split at ag
   · split at ag
     · split at ag
       · rename_i cJ
         obtain⟨as,rs',ws,k1,k2⟩:=fp ho h.2 ag
         have h1:=h.1
         simp only[au] at h1
         exact⟨_,_,_,k1,.fresh cJ h1 k2⟩
       · exact absurd ag aC
     · rename_i r g off len
       simp only[Act.run] at ag
       split at ag
       · rename_i es bX
         split at ag
         · rename_i hc
           obtain⟨c1,c2,c3,c4,c5⟩:=hc
           obtain⟨as,rs',ws,k1,k2⟩:=fp ho h.2 ag
           rw[←c3] at k1
           exact⟨_,_,_,k1,.sl bX c2 c1 c5 c4 h.1 k2⟩
         · exact absurd ag aC
       · exact absurd ag aC
     · rename_i r g idx off
       simp only[Act.run] at ag
       split at ag
       · rename_i es bX
         split at ag
         · rename_i hc
           obtain⟨c1,c2,c3,c4⟩:=hc
           obtain⟨as,rs',ws,k1,k2⟩:=fp ho h.2 ag
           rw[←c3] at k1
           exact⟨_,_,_,k1,.ptr bX c2 c1 c4 h.1 k2⟩
         · exact absurd ag aC
       · exact absurd ag aC
     · exact absurd ag aC
   · simp only[snap] at ag
     obtain⟨v',rs,h1,h2,h3,_,_⟩:=mu ho 5 h.1 ag
     obtain⟨as,rs',ws,k1,k2⟩:=fp ho h.2 h1
     exact⟨_,_,_,k1,.plain h2 h3 k2⟩
end
theorem kz {X:Ctx} {C:bO} {T:Nat→V} {w:World} {φ:Nat→Row}: ∀ (rs:List Nat) {O:Nat→Obj} {k:Act} {p:V×St},bQ X ⟨w,φ,O⟩→(dg rs k).run C ⟨T,O⟩=some p→
   ∃O',k.run C ⟨T,O'⟩=some p∧Le ⟨w,φ,O⟩ ⟨w,φ,O'⟩∧bQ X ⟨w,φ,O'⟩∧(∀r,r ∉ rs→O' r=O r)∧(∀r,r ∈ rs→O' r={O r with fz:=true})
 | [],O,k,p,ho,h=> ⟨O,h,Le.refl _,ho,fun _ _=>rfl,fun r hr=>by simp at hr⟩
 | q::rs,O,k,p,ho,h=>by
   simp only[dg,Act.run] at h
   obtain⟨l1,o1⟩:=sC ho q
   obtain⟨O',h1,h2,h3,h4,h5⟩:=kz rs o1 h
   refine⟨O',h1,l1.trans h2,h3,fun r hr=> ?_,fun r hr=> ?_⟩
   · have vf:r≠q∧r ∉ rs:=by simpa using hr
     rw[h4 r vf.2,bu _ _ vf.1]
   · by_cases hm:r ∈ rs
     · rw[h5 r hm]
       by_cases e:r=q
       · subst e;simp[aL]
       · simp[bu _ _ e]
     · have e:r=q:=by
        rcases List.mem_cons.1 hr with e| hr
        · exact e
        · exact absurd hr hm
       subst e
       rw[h4 r hm,aL]
theorem Ey {X:Ctx} {C:bO} {T:Nat→V} {μ:Mu} (ho:bQ X μ) {v:V} {val:Value} {p:V×St} (hv:au X μ v val) (ag: (snap v fun v' rs=>dg rs (.done v')).run C ⟨T,μ.O⟩=some p):
   ∃c' O',(Act.done c').run C ⟨T,O'⟩=some p∧au X ⟨μ.w,μ.φ,O'⟩ c' val∧Le μ ⟨μ.w,μ.φ,O'⟩∧bQ X ⟨μ.w,μ.φ,O'⟩:=by
 obtain⟨v',rs,h1,_,h3,_,_⟩:=mu ho 5 hv ag
 obtain⟨O',k1,k2,k3,k4,k5⟩:=kz (w:=μ.w) (φ:=μ.φ) rs ho h1
 refine⟨v',O',k1,?_,k2,k3⟩
 refine h3 X.RI ⟨μ.w,μ.φ,O'⟩ rfl fun b hb=> ?_
 rcases hb with⟨r',q1,q2,q3,q4⟩ | hb
 · simp only at q1 q2 q3 q4
   by_cases hm:r' ∈ rs
   · rw[k5 r' hm] at q2;simp at q2
   · rw[k4 r' hm] at q1 q2
     refine⟨.inl ⟨r',q1,q2,q3,q4⟩,fun r hr hs hc e=> ?_⟩
     exact ho.inj r' r (fun e'=>hm (e' ▸ hr)) q1 hs q3 hc (q4.trans e)
 · exact⟨.inr hb,fun r hr hs hc e=>ho.wL r hs hc (e ▸ hb)⟩
end Go.AM
namespace Go.AM
open Go Go.RowKit Go.MapKept
section
variable {X:Ctx} {E:Env} {C:bO} {o:Oper} {a:Go.Act} {T:Nat→V} {μ:Mu} {v:V} {σ':St}
def NH (e:MapEntry):Value:= .tuple #[e.key,e.val]
def jT (q:Option IntKind) (d:TypeDesc):Prop:=match q with
 | some q=>d= .int q
 | none=>d= .string
theorem L7 {q:Option IntKind} {d:TypeDesc} {k:V} {kv:Value} (hd:jT q d) (hk:isKey q k=true) (hv:au X μ k kv):IsKey d kv:=by
 unfold isKey at hk
 unfold jT at hd
 split at hk
 · simp only[au] at hv
   subst hv;subst hd
   simpa [IsKey] using hk
 · simp only[au] at hv
   obtain⟨bs,rfl,_⟩:=hv
   subst hd
   simp[IsKey]
 · simp at hk
theorem qT {q:Option IntKind} {d:TypeDesc} {k k':V} {kv kv':Value} {b:Bool} (hd:jT q d) (hk:isKey q k=true) (h1:au X μ k kv) (h2:au X μ k' kv') (h:DB k k'=some b):
   Instr.sameNow d kv kv'=some b∧(b=true→kv'=kv):=by
 unfold DB at h
 split at h
 · simp only[au] at h1 h2
   subst h1;subst h2
   split at h
   · rename_i e
     subst e
     injection h with h
     subst h
     have: ∃q',d= .int q':=by
       unfold isKey at hk
       unfold jT at hd
       cases q<;>simp_all
     obtain⟨q',rfl⟩:=this
     refine⟨by simp[Instr.sameNow],fun hb=> ?_⟩
     simp only[beq_iff_eq] at hb
     rw[hb]
   · simp at h
 · simp only[au] at h1 h2
   obtain⟨x,rfl,rfl⟩:=h1
   obtain⟨y,rfl,rfl⟩:=h2
   injection h with h
   subst h
   have:d= .string:=by
     unfold isKey at hk
     unfold jT at hd
     cases q<;>simp_all
   subst this
   have hxy: (x==y)=decide (x.data.toList=y.data.toList):=by
     rw[Bool.eq_iff_iff,bytes_beq,decide_eq_true_eq]
     constructor
     · rintro rfl;rfl
     · intro h
       cases x;cases y
       simp only[ByteArray.mk.injEq]
       exact Array.toList_inj.1 h
   refine⟨by simp[Instr.sameNow,hxy],fun hb=> ?_⟩
   rw[←hxy,bytes_beq] at hb
   rw[hb]
 · simp at h
theorem HV {e:V} {me:MapEntry} (h:au X μ e (NH me)) {k v:V} (he:e= .tuple [k,v]):au X μ k me.key∧au X μ v me.val:=by
 subst he
 simp only[NH,au] at h
 obtain⟨vs,h1,h2⟩:=h
 injection h1 with h1
 subst h1
 simpa [ak] using h2
theorem CG {k v:V} {me:MapEntry} (h1:au X μ k me.key) (h2:au X μ v me.val):au X μ (.tuple [k,v]) (NH me):=by
 simp only[NH,au]
 exact⟨_,rfl,by simp[ak,h1,h2]⟩
theorem qa {q:Option IntKind} {d:TypeDesc} {k:V} {kv:Value} (hd:jT q d) (hk:isKey q k=true) (h1:au X μ k kv): ∀ {es:List V} {ents:List MapEntry} {i:Nat} {r:Option V},ak X μ es (ents.map NH)→nQ k es=some r→
   (r=none∧Instr.findNow d kv ents i=some none)∨ ∃v j e,r=some v∧Instr.findNow d kv ents i=some (some (j,e))∧au X μ v e
 | [],[],i,r,_,h=>by simp[nQ] at h;subst h;exact .inl ⟨rfl,rfl⟩
 | [],_::_,_,_,h,_=>by simp[ak] at h
 | _::_,[],_,_,h,_=>by simp[ak] at h
 | e::es,m::ents,i,r,hr,h=>by
   simp only[List.map_cons,ak] at hr
   unfold nQ at h
   split at h
   · rename_i heq;simp at heq
   · rename_i k' v' es' heq
     injection heq with e1 e2
     subst e2
     obtain⟨t1,t2⟩:=HV hr.1 e1
     split at h
     · rename_i hq
       injection h with h
       subst h
       obtain⟨s1,_⟩:=qT hd hk h1 t1 hq
       exact .inr ⟨v',i,m.val,rfl,by simp[Instr.findNow,s1],t2⟩
     · rename_i hq
       obtain⟨s1,_⟩:=qT hd hk h1 t1 hq
       rcases qa hd hk h1 (i:=i+1) hr.2 h with⟨g1,g2⟩ | ⟨v,j,x,g1,g2,g3⟩
       · exact .inl ⟨g1,by simp[Instr.findNow,s1,g2]⟩
       · exact .inr ⟨v,j,x,g1,by simp[Instr.findNow,s1,g2],g3⟩
     · simp at h
   · simp at h
theorem zu {q:Option IntKind} {d:TypeDesc} {k u:V} {kv val:Value} (hd:jT q d) (hk:isKey q k=true) (h1:au X μ k kv) (h2:au X μ u val): ∀ {es es':List V} {ents:List MapEntry} {i:Nat},ak X μ es (ents.map NH)→lC k u es=some es'→
   (Instr.findNow d kv ents i=some none∧ ∀c,ak X μ es' ((ents++[({key:=kv,val:=val,born:=c}:MapEntry)]).map NH))∨
   ∃j e,Instr.findNow d kv ents i=some (some (i+j,e.val))∧ents[j]? =some e∧e.key=kv∧ak X μ es' ((ents.set j ({key:=kv,val:=val,born:=e.born}:MapEntry)).map NH)
 | [],es',[],i,_,h=>by
   simp[lC] at h;subst h
   exact .inl ⟨rfl,fun c=>by simp only[List.nil_append,List.map_cons,List.map_nil,ak];exact⟨CG (me:={key:=kv,val:=val,born:=c}) h1 h2,trivial⟩⟩
 | [],_,_::_,_,h,_=>by simp[ak] at h
 | _::_,_,[],_,h,_=>by simp[ak] at h
 | e::es,es',m::ents,i,hr,h=>by
   simp only[List.map_cons,ak] at hr
   unfold lC at h
   split at h
   · rename_i heq;simp at heq
   · rename_i k' v' es2 heq
     injection heq with e1 e2
     subst e2
     obtain⟨t1,t2⟩:=HV hr.1 e1
     split at h
     · rename_i hq
       injection h with h
       subst h
       obtain⟨s1,s2⟩:=qT hd hk h1 t1 hq
       exact .inr ⟨0,m,by simp[Instr.findNow,s1],rfl,s2 rfl,by simp only[List.set_cons_zero,List.map_cons,ak];exact⟨CG (me:={key:=kv,val:=val,born:=m.born}) h1 h2,hr.2⟩⟩
     · rename_i hq
       obtain⟨s1,_⟩:=qT hd hk h1 t1 hq
       rw[Option.map_eq_some_iff] at h
       obtain⟨es3,g0,rfl⟩:=h
       rcases zu hd hk h1 h2 (i:=i+1) hr.2 g0 with⟨g1,g2⟩ | ⟨j,x,g1,g2,g3,g4⟩
       · exact .inl ⟨by simp[Instr.findNow,s1,g1],fun c=>by simp only[List.cons_append,List.map_cons,ak];exact⟨CG t1 t2,g2 c⟩⟩
       · exact .inr ⟨j+1,x,by simp[Instr.findNow,s1,g1];omega,by simpa using g2,g3,by simp only[List.set_cons_succ,List.map_cons,ak];exact⟨CG t1 t2,g4⟩⟩
     · simp at h
   · simp at h
theorem L8 {t:TypeId} {rs:Option Operand} {r:Nat} (hr:Rel X T a μ) (ho:o.op= .makeMap t rs) (hrs:rs=none) (ag: (aF E (.mkMap r)).run C ⟨T,μ.O⟩=some (v,σ')):σ'.T=T∧de X o a μ σ'.O v:=by
 subst hrs
 simp only[aF,Act.run,Option.some.injEq,Prod.mk.injEq] at ag
 obtain⟨rfl,rfl⟩:=ag
 obtain⟨le,ig⟩:=uv hr.bB r (.map #[] 0) [] (.inl ⟨#[],0,rfl,by simp[ak],by simp[y0]⟩)
 refine⟨rfl,.map (some μ.w.heap.size),_,_,.inl ?_,?_,le,ig⟩
 · simp only[execOp,ho]
   refine cO ?_
   simp[Instr.makeMap,Sem.run_bind]
 · simp only[au,aL]
   exact⟨_,rfl,Nat.le_refl _,fun _=> ⟨trivial,rfl⟩⟩
theorem JF {  t kt et:TypeId} {d:TypeDesc} {x i:Operand} {x' i':bg} {ok:Bool} {q:Option IntKind} {z:V} (hr:Rel X T a μ) (ho:o.op= .lookup t x i ok) (ht:bG X t=some (.map kt et)) (PR:bG X kt=some d) (hd:jT q d)
   (hz:fq X et=some z) (h1:du X x=some x') (h2:du X i=some i') (ag: (aF E (.vA q ok z x' i')).run C ⟨T,μ.O⟩=some (v,σ')):σ'.T=T∧de X o a μ σ'.O v:=by
 simp only[aF,bP] at ag
 have hx:=aX hr h1 μ.O
 have hi:=aX hr h2 μ.O
 have Af:X.P.underlying t=some (.map kt et):=ht
 have vV:X.P.underlying kt=some d:=PR
 obtain⟨zv,vS,Ae⟩:=gG hz μ.w
 obtain⟨xz,NA⟩:=fm (X:=X) (μ:=μ) Ae
 split at ag
 · rename_i JG
   have LQ:=L7 hd JG hi
   have main: ∀ {es:List V} {ents:Array MapEntry} {m:Option Nat},ak X μ es (ents.toList.map NH)→(jR ok z es (bM ⟨T,μ.O⟩ i')).run C ⟨T,μ.O⟩=some (v,σ')→a.eval x= .map m→
       (match m with| none=>ents= #[] | some r=> ∃clock,μ.w.heap[r]? =some (.map ents clock))→σ'.T=T∧de X o a μ σ'.O v:=by
     intro es ents m cK oe hm hb
     have fin: ∀ (u:Value) (b:Bool),(match Instr.findNow d (a.eval i) ents.toList 0 with
         | some (some (_,v))=>u=v∧b=true
         | some none=>u=zv∧b=false
         | none=>False)→(execOp a.eval o).run X.P μ.w= .ok (.value (if ok then .tuple #[u,.bool b] else u)) μ.w:=by
       intro u b hf
       simp only[execOp,ho]
       refine cO ?_
       cases Ag:Instr.findNow d (a.eval i) ents.toList 0 with
       | none=>rw[Ag] at hf;exact hf.elim
       | some r=>
         rw[Ag] at hf
         cases m with
         | none=>
           simp only at hb
           subst hb
           cases r with
           | none=>
             simp only at hf;obtain⟨rfl,rfl⟩:=hf
             cases ok<;>simp[Instr.lookup,Sem.run_bind,run_underlying Af,Result.andThen,hm,Go.MapKept.run_checkKey vV LQ,Go.MapKept.run_findKey (l:=[]) vV (by simpa using Ag),vS]
           | some p=>
             obtain⟨j,y⟩:=p
             simp only at hf;obtain⟨rfl,rfl⟩:=hf
             cases ok<;>simp[Instr.lookup,Sem.run_bind,run_underlying Af,Result.andThen,hm,Go.MapKept.run_checkKey vV LQ,Go.MapKept.run_findKey (l:=[]) vV (by simpa using Ag)]
         | some rr=>
           obtain⟨clock,hb⟩:=hb
           cases r with
           | none=>
             simp only at hf;obtain⟨rfl,rfl⟩:=hf
             cases ok<;>simp[Instr.lookup,Sem.run_bind,run_underlying Af,Result.andThen,hm,Go.MapKept.run_getObj_map hb,Go.MapKept.run_checkKey vV LQ,Go.MapKept.run_findKey vV Ag,vS]
           | some p=>
             obtain⟨j,y⟩:=p
             simp only at hf;obtain⟨rfl,rfl⟩:=hf
             cases ok<;>simp[Instr.lookup,Sem.run_bind,run_underlying Af,Result.andThen,hm,Go.MapKept.run_getObj_map hb,Go.MapKept.run_checkKey vV LQ,Go.MapKept.run_findKey vV Ag]
     unfold jR at oe
     split at oe
     · rename_i y hy
       obtain⟨rfl,rfl⟩:=bo oe
       rcases qa hd JG hi (i:=0) cK hy with⟨g1,_⟩ | ⟨v0,j,e,g1,g2,g3⟩
       · cases g1
       · injection g1 with g1
         subst g1
         refine⟨rfl,aS hr.bB (fin e true (by rw[g2];exact⟨rfl,rfl⟩)) ?_⟩
         cases ok
         · simpa using g3
         · simp only[if_true,au];exact⟨_,rfl,by simp[ak,au,g3]⟩
     · rename_i hy
       obtain⟨rfl,rfl⟩:=bo oe
       rcases qa hd JG hi (i:=0) cK hy with⟨_,g2⟩ | ⟨v0,j,e,g1,g2,g3⟩
       · refine⟨rfl,aS hr.bB (fin zv false (by rw[g2];exact⟨rfl,rfl⟩)) ?_⟩
         cases ok
         · simpa using xz
         · simp only[if_true,au];exact⟨_,rfl,by simp[ak,au,xz]⟩
       · cases g1
     · exact absurd oe aC
   split at ag
   · rename_i r g e
     rw[e] at hx
     simp only[au] at hx
     obtain⟨b,hp,ve,dm⟩:=hx
     simp only[Act.run] at ag
     split at ag
     · rename_i es bX
       split at ag
       · rename_i hc
         obtain⟨k0,rfl⟩:=dm hc.1
         rcases hr.bB.ents r es bX hc.2 with⟨eb,ents,clock,hm,cK,_⟩ | ⟨_,s,pos,_,rfl⟩ | ⟨sW,rfl⟩
         · exact main cK ag hp ⟨clock,hm⟩
         · exact absurd (by simpa [jR,nQ] using ag) aC
         · exact absurd (by simpa [jR,nQ] using ag) aC
       · exact absurd ag aC
     · exact absurd ag aC
   · rename_i es e
     rw[e] at hx
     simp only[au] at hx
     obtain⟨_,⟨rfl,hp⟩ | ⟨b,ents,clock,hp,_,_,⟨hm,_⟩,cK⟩⟩:=hx
     · exact main (ents:= #[]) (by simp[ak]) ag hp rfl
     · exact main cK ag hp ⟨clock,hm⟩
   · exact absurd ag aC
 · exact absurd ag aC
theorem JH {ents:Array MapEntry} {clock:Nat} (h:y0 ents clock) (e:MapEntry) (he:e.born=clock):y0 (ents.push e) (clock+1):=by
 obtain⟨h1,h2⟩:=h
 refine⟨fun x hx=> ?_,?_⟩
 · rw[Array.toList_push,List.mem_append,List.mem_singleton] at hx
   rcases hx with hx| rfl
   · have:=h1 x hx;omega
   · omega
 · rw[Array.toList_push,List.map_append,List.nodup_append]
   refine⟨h2,by simp,fun a ha b hb=> ?_⟩
   simp only[List.map_cons,List.map_nil,List.mem_singleton] at hb
   obtain⟨x,hx,rfl⟩:=List.mem_map.1 ha
   have:=h1 x hx
   omega
theorem Ez {ents:Array MapEntry} {clock:Nat} (h:y0 ents clock) (j:Nat) {f:MapEntry→MapEntry} (hf: ∀e,(f e).born=e.born):y0 (ents.modify j f) clock:=by
 have hm: (ents.modify j f).toList.map (·.born)=ents.toList.map (·.born):=by
  apply List.ext_getElem?
  intro n
  simp only[List.getElem?_map,Array.toList_modify,List.getElem?_modify]
  cases ents.toList[n]? with
  | none=>rfl
  | some x=>
    simp only[Option.map_some]
    split
    · simp[hf]
    · rfl
 refine⟨fun x hx=> ?_,by rw[hm];exact h.2⟩
 have:x.born ∈ (ents.modify j f).toList.map (·.born):=List.mem_map.2 ⟨x,hx,rfl⟩
 rw[hm] at this
 obtain⟨y,hy,e⟩:=List.mem_map.1 this
 rw[←e];exact h.1 y hy
theorem Bi {     t kt et:TypeId} {d:TypeDesc} {x i y:Operand} {x' i' y':bg} {q:Option IntKind} (hr:Rel X T a μ) (ho:o.op= .mapUpdate t x i y∨o.op= .insert t x i y) (ht:bG X t=some (.map kt et)) (PR:bG X kt=some d) (hd:jT q d)
   (h1:du X x=some x') (h2:du X i=some i') (h3:du X y=some y') (ag: (aF E (.pw q x' i' y')).run C ⟨T,μ.O⟩=some (v,σ')):σ'.T=T∧de X o a μ σ'.O v:=by
 simp only[aF,bP] at ag
 have hx:=aX hr h1 μ.O
 have hi:=aX hr h2 μ.O
 have hy:=aX hr h3 μ.O
 have Af:X.P.underlying t=some (.map kt et):=ht
 have vV:X.P.underlying kt=some d:=PR
 split at ag
 · rename_i r g e
   rw[e] at hx
   simp only[bP] at ag
   obtain⟨u,O1,k1,k2,k3,k4⟩:=kX (μ:=μ) hr.bB hy ag
   have hx1:=au.mono k3 hx
   have xr:=au.mono k3 hi
   simp only[Act.run] at k1
   split at k1
   · rename_i es bX
     split at k1
     · rename_i hc
       obtain⟨cW,cJ,jn,JG,np⟩:=hc
       split at k1
       · rename_i es' fE
         simp only[Act.run,Option.some.injEq,Prod.mk.injEq] at k1
         obtain⟨rfl,rfl⟩:=k1
         simp only[au] at hx1
         obtain⟨b,hp,ve,dm⟩:=hx1
         obtain⟨_,rfl⟩:=dm cW
         obtain⟨eb,ents,clock,hm,cK,nn⟩: (μ.φ r).cap≠0∧ ∃ents clock,μ.w.heap[(μ.φ r).dQ]? =some (.map ents clock)∧ak X ⟨μ.w,μ.φ,O1⟩ es (ents.toList.map NH)∧y0 ents clock:=by
           rcases k4.ents r es bX cJ with h| ⟨_,s,pos,_,rfl⟩ | ⟨sW,rfl⟩
           · exact h
           · simp[lC] at fE
           · simp[lC] at fE
         have LQ:=L7 hd JG xr
         have fin: ∀w',(Instr.mapUpdate t (.map (some (μ.φ r).dQ)) (a.eval i) (a.eval y)).run X.P μ.w= .ok () w'→(execOp a.eval o).run X.P μ.w= .ok .skip w':=fun w' hw=>by
           rcases ho with ho| ho
           · simp only[execOp,ho,hp];exact LH hw
           · simp only[execOp,ho,hp];exact LH hw
         rcases zu hd JG xr k2 (i:=0) cK fE with⟨g1,g2⟩ | ⟨j,e,g1,g2,g3,g4⟩
         · obtain⟨le,ig⟩:=sD (μ:=⟨μ.w,μ.φ,O1⟩) k4 r (es':=es') (ob':= .map (ents.push {key:=a.eval i,val:=a.eval y,born:=clock}) (clock+1)) bX jn cJ hm eb (.inl ⟨ents,clock,rfl,cK,nn⟩) (.inl ⟨_,_,rfl,by
            have:=g2 clock
            have e1: (ents.push ({key:=a.eval i,val:=a.eval y,born:=clock}:MapEntry)).toList=ents.toList++[({key:=a.eval i,val:=a.eval y,born:=clock}:MapEntry)]:=by simp
            rw[e1];exact this,JH nn _ rfl⟩)
           refine⟨rfl,undef,_,_,.inr ⟨fin _ ?_,rfl⟩,by simp only[au];exact⟨#[],rfl,by simp[ak]⟩,k3.trans le,ig⟩
           simp[Instr.mapUpdate,run_underlying Af,Go.MapKept.run_getObj_map hm,Go.MapKept.run_checkKey vV LQ,Go.MapKept.run_findKey vV g1,Go.MapKept.run_setObj_map _ hm,Result.andThen,Sem.run_bind]
         · rw[Nat.zero_add] at g1
           have hje:ents[j]? =some e:=by simpa using g2
           obtain⟨le,ig⟩:=sD (μ:=⟨μ.w,μ.φ,O1⟩) k4 r (es':=es') (ob':= .map (ents.modify j fun e=> {e with key:=a.eval i,val:=a.eval y}) (clock)) bX jn cJ hm eb (.inl ⟨ents,clock,rfl,cK,nn⟩) (.inl ⟨_,_,rfl,by
            have hl: (ents.modify j fun e=> {e with key:=a.eval i,val:=a.eval y}).toList=ents.toList.set j {e with key:=a.eval i,val:=a.eval y}:=by
              apply List.ext_getElem?
              intro n
              rw[Array.toList_modify,List.getElem?_modify,List.getElem?_set]
              by_cases hn:j=n
              · subst hn
                have bY:=(List.getElem?_eq_some_iff.1 g2).1
                simp only[if_true,bY,g2,Option.map_some,and_self]
                rfl
              · simp[hn]
            rw[hl];exact g4,Ez nn j fun _=>rfl⟩)
           refine⟨rfl,undef,_,_,.inr ⟨fin _ ?_,rfl⟩,by simp only[au];exact⟨#[],rfl,by simp[ak]⟩,k3.trans le,ig⟩
           simp[Instr.mapUpdate,run_underlying Af,Go.MapKept.run_getObj_map hm,Go.MapKept.run_checkKey vV LQ,Go.MapKept.run_findKey vV g1,hje,g3,Go.MapKept.run_keyThatStays LQ,Go.MapKept.run_setObj_map _ hm,Result.andThen,Sem.run_bind]
       · exact absurd k1 aC
     · exact absurd k1 aC
   · exact absurd k1 aC
 · exact absurd ag aC
theorem oM {P:Program} {w:World} {r:Nat} {s:ByteArray} {pos:Nat} (hb:w.heap[r]? =some (.stringIter s pos)): (getObj r).run P w= .ok (.stringIter s pos) w:=by
 simp[getObj,Sem.run,hb]
theorem oN {P:Program} {w:World} {r:Nat} {s:ByteArray} {pos:Nat} (o:Go.Obj) (hb:w.heap[r]? =some (.stringIter s pos)): (setObj r o).run P w= .ok () {w with heap:=w.heap.setIfInBounds r o}:=by
 simp[setObj,Sem.run,hb]
theorem Gp {t:TypeId} {x:Operand} {y:bg} {r:Nat} (hr:Rel X T a μ) (ho:o.op= .range t x) (ht:bG X t=some .string) (h1:du X x=some y) (ag: (aF E (.qF r y)).run C ⟨T,μ.O⟩=some (v,σ')):σ'.T=T∧de X o a μ σ'.O v:=by
 simp only[aF,bP] at ag
 have hx:=aX hr h1 μ.O
 have Af:X.P.underlying t=some .string:=ht
 split at ag
 · rename_i s e
   rw[e] at hx
   simp only[au] at hx
   obtain⟨bs,hp,rfl⟩:=hx
   simp only[Act.run,Option.some.injEq,Prod.mk.injEq] at ag
   obtain⟨rfl,rfl⟩:=ag
   obtain⟨le,ig⟩:=uv hr.bB r (.stringIter bs 0) [.str bs.data.toList,.int .i64 0] (.inr (.inl ⟨bs,0,rfl,rfl⟩))
   refine⟨rfl,.pointer (some ⟨μ.w.heap.size,0,none⟩),_,_,.inl ?_,?_,le,ig⟩
   · simp only[execOp,ho]
     refine cO ?_
     simp[Instr.range,Sem.run_bind,run_underlying Af,hp,Result.andThen]
   · simp only[au,aL]
     exact⟨_,rfl,Nat.le_refl _,fun _=> ⟨trivial,rfl⟩⟩
 · exact absurd ag aC
theorem Gq {t kt et:TypeId} {x:Operand} {y:bg} {r:Nat} (hr:Rel X T a μ) (ho:o.op= .range t x) (ht:bG X t=some (.map kt et)) (h1:du X x=some y) (ag: (aF E (.mapIter r y)).run C ⟨T,μ.O⟩=some (v,σ')):σ'.T=T∧de X o a μ σ'.O v:=by
 simp only[aF,bP] at ag
 have hx:=aX hr h1 μ.O
 have Af:X.P.underlying t=some (.map kt et):=ht
 split at ag
 · rename_i es e
   rw[e] at hx
   simp only[au] at hx
   simp only[Act.run,Option.some.injEq,Prod.mk.injEq] at ag
   obtain⟨rfl,rfl⟩:=ag
   obtain⟨_,⟨rfl,hp⟩ | ⟨b,ents,clock,hp,eP,bY,⟨hm,nn⟩,cK⟩⟩:=hx
   · obtain⟨le,ig⟩:=uv hr.bB r (.mapIter none 0 #[] 0) [.mlit []] (.inr (.inr ⟨none,0,[],rfl,rfl,.inl ⟨rfl,rfl⟩⟩))
     refine⟨rfl,.pointer (some ⟨μ.w.heap.size,0,none⟩),_,_,.inl ?_,?_,le,ig⟩
     · simp only[execOp,ho]
       refine cO ?_
       simp[Instr.range,Sem.run_bind,run_underlying Af,hp,Result.andThen]
     · simp only[au,aL]
       exact⟨_,rfl,Nat.le_refl _,fun _=> ⟨trivial,rfl⟩⟩
   · obtain⟨le,ig⟩:=uv hr.bB r (.mapIter (some b) clock #[] clock) [.mlit es] (.inr (.inr ⟨some b,clock,es,rfl,rfl,.inr ⟨b,ents,rfl,eP,bY,hm,nn,cK⟩⟩))
     refine⟨rfl,.pointer (some ⟨μ.w.heap.size,0,none⟩),_,_,.inl ?_,?_,le,ig⟩
     · simp only[execOp,ho]
       refine cO ?_
       simp[Instr.range,Sem.run_bind,run_underlying Af,hp,Result.andThen,Go.MapKept.run_getObj_map hm]
     · simp only[au,aL]
       exact⟨_,rfl,Nat.le_refl _,fun _=> ⟨trivial,rfl⟩⟩
 · exact absurd ag aC
theorem Gr {  x:Operand} {y:bg} (hr:Rel X T a μ) (ho:o.op= .next x true) (h1:du X x=some y) (ag: (aF E (.qG y)).run C ⟨T,μ.O⟩=some (v,σ')):σ'.T=T∧de X o a μ σ'.O v:=by
 simp only[aF,bP] at ag
 have hx:=aX hr h1 μ.O
 split at ag
 · rename_i r g e
   rw[e] at hx
   simp only[au] at hx
   obtain⟨b,hp,ve,dm⟩:=hx
   simp only[Act.run] at ag
   split at ag
   · rename_i s p bX
     split at ag
     · rename_i hc
       obtain⟨cW,cJ,jn⟩:=hc
       obtain⟨_,rfl⟩:=dm cW
       rcases hr.bB.ents r _ bX cJ with⟨eb,ents,clock,hm,cK,_⟩ | ⟨eb,bs,pos,hm,hs⟩ | ⟨sW,hs⟩
       · exfalso
         cases he:ents.toList with
         | nil=>simp[he,ak] at cK
         | cons e es=>simp[he,ak,au] at cK
       · simp only[List.cons.injEq,V.str.injEq,V.int.injEq,true_and,and_true] at hs
         obtain⟨rfl,rfl⟩:=hs
         simp only[Int.toNat_natCast] at ag
         have hlen:bs.data.toList.length=bs.size:=by rw[Array.length_toList];rfl
         have Eb: (⟨bs.data.toList.toArray⟩:ByteArray)=bs:=by cases bs;simp
         rw[hlen,Eb] at ag
         split at ag
         · rename_i bY
           simp only[Act.run,Option.some.injEq,Prod.mk.injEq] at ag
           obtain⟨rfl,rfl⟩:=ag
           obtain⟨le,ig⟩:=sD hr.bB r (es':=[.str bs.data.toList,.int .i64 ((pos+(Utf8.decode bs pos).2:Nat):Int)]) (ob':= .stringIter bs (pos+(Utf8.decode bs pos).2)) bX jn cJ hm eb (.inr (.inl ⟨bs,pos,rfl,rfl⟩)) (.inr (.inl ⟨bs,_,rfl,rfl⟩))
           refine⟨rfl,.tuple #[.bool true,goInt pos,.int .i32 ((Utf8.decode bs pos).1:Int)],_,_,.inl ?_,?_,le,ig⟩
           · simp only[execOp,ho]
             refine cO ?_
             simp[Instr.next,Sem.run_bind,hp,Result.andThen,oM hm,oN _ hm,bY,-bind_pure_comp]
           · simp only[au]
             exact⟨_,rfl,by simp[ak,au,goInt]⟩
         · rename_i bY
           obtain⟨rfl,rfl⟩:=bo ag
           refine⟨rfl,aS hr.bB (val:= .tuple #[.bool false]) ?_ ?_⟩
           · simp only[execOp,ho]
             refine cO ?_
             simp[Instr.next,Sem.run_bind,hp,Result.andThen,oM hm,oN _ hm,bY,-bind_pure_comp]
           · simp only[au]
             exact⟨_,rfl,by simp[ak,au]⟩
       · simp at hs
     · exact absurd ag aC
   · exact absurd ag aC
 · exact absurd ag aC
theorem HW {x:Operand} {y:bg} (hr:Rel X T a μ) (ho:o.op= .move x∨o.op= .assign x) (ht:du X x=some y) (ag: (aF E (.FA y)).run C ⟨T,μ.O⟩=some (v,σ')):σ'.T=T∧de X o a μ σ'.O v:=by
 simp only[aF,bP] at ag
 have kG: (execOp a.eval o).run X.P μ.w= .ok (.value (a.eval x)) μ.w:=by rcases ho with ho| ho<;>simp[execOp,ho]
 obtain⟨u,O1,k1,k2,k3,k4⟩: ∃c' O',(Act.done c').run C ⟨T,O'⟩=some (v,σ')∧au X ⟨μ.w,μ.φ,O'⟩ c' (a.eval x)∧Le μ ⟨μ.w,μ.φ,O'⟩∧bQ X ⟨μ.w,μ.φ,O'⟩:=by
  split at ag
  · exact Ey hr.bB (aX hr ht μ.O) ag
  · exact kX (μ:=μ) hr.bB (aX hr ht μ.O) ag
 obtain⟨rfl,rfl⟩:=bo k1
 exact⟨rfl,a.eval x,μ.w,μ.φ,.inl kG,k2,k3,k4⟩
end
end Go.AM
namespace Go.AM
open Go Go.RowKit
section
variable {X:Ctx} {E:Env} {C:bO} {o:Oper} {a:Go.Act} {T:Nat→V} {μ:Mu} {v:V} {σ':St}
theorem Bj {X:TrEnv} {e:TypeId} (h:PB X e=true):bG X e=some (.int .u8):=by
 unfold PB at h
 split at h
 · assumption
 · simp at h
theorem Xp (s:List UInt8):V.ae (s.map fun b=>V.int .u8 b.toNat)=true:=by
 induction s with
 | nil=>rfl
 | cons b s ih=>simp only[List.map_cons,V.ae,V.aj,ih,Bool.and_self]
theorem ach (s:List UInt8): (s.map fun b=>V.int .u8 b.toNat).all V.dX=true:=by
 induction s with
 | nil=>rfl
 | cons b s ih=>simp only[List.map_cons,List.all_cons,ih,Bool.and_true];rfl
theorem uE: ∀ {ys:List V} {s:List UInt8},bytesOf ys=some s→ys=s.map fun b=>V.int .u8 b.toNat
 | [],s,h=>by simp only[bytesOf,Option.some.injEq] at h;subst h;rfl
 | y::ys,s,h=>by
   unfold bytesOf at h
   split at h
   · simp at*
   · rename_i n vs e
     injection e with e1 e2
     subst e1 e2
     split at h
     · rename_i hn
       obtain⟨t,ht,rfl⟩:=Option.map_eq_some_iff.1 h
       rw[List.map_cons,←uE ht]
       congr 2
       have: (UInt8.ofNat n.toNat).toNat=n.toNat:=by
        rw[UInt8.toNat_ofNat'];omega
       rw[this];omega
     · simp at h
   · simp at h
theorem zw: ∀ (l:List UInt8) (s:ByteArray),((l.map fun b=> (b.toNat:Int)).foldl (fun r n=>r.push (UInt8.ofNat n.toNat)) s).data.toList=s.data.toList++l
 | [],s=>by simp
 | b::l,s=>by
   rw[List.map_cons,List.foldl_cons,zw l]
   have:UInt8.ofNat ((b.toNat:Int).toNat)=b:=by simp
   rw[this]
   simp[ByteArray.push]
theorem ak.L9 {ys:List V} {us:List Value} {s:List UInt8} (hy:ys=s.map fun b=>V.int .u8 b.toNat) (h:ak X μ ys us):us=s.map fun b=>Value.int .u8 b.toNat:=by
 subst hy
 induction s generalizing us with
 | nil=>cases us<;>simp_all[ak]
 | cons b s ih=>
   cases us with
   | nil=>simp[ak] at h
   | cons u us=>
     simp only[List.map_cons,ak,au] at h ⊢
     rw[h.1,ih h.2]
theorem EA {s d e:TypeId} {x:Operand} {x':bg} (hr:Rel X T a μ) (ho:o.op= .convert s d x) (hs:bG X s=some (.slice e)) (he:bG X e=some (.int .u8)) (hd:bG X d=some .string)
   (h1:du X x=some x') (ag: (aF E (.kb x')).run C ⟨T,μ.O⟩=some (v,σ')):σ'.T=T∧de X o a μ σ'.O v:=by
 simp only[aF,bP] at ag
 have hx:=aX hr h1 μ.O
 generalize bM ⟨T,μ.O⟩ x'=y at ag hx
 have hy: (content 1 y fun ys=>dF ((bytesOf ys).map .str)).run C ⟨T,μ.O⟩=some (v,σ')∧ ∀t,y≠ .str t:=by
   cases y<;>first| exact absurd ag aC| exact⟨ag,fun t h=>by cases h⟩
 obtain⟨ag,cu⟩:=hy
 have Xq: ∃q len cap,a.eval x= .slice q len cap:=by
   cases y<;>simp only[content] at ag<;>try exact absurd ag aC
   · exact absurd rfl (cu _)
   · simp only[au] at hx;obtain⟨q,h⟩:=hx;exact⟨_,_,_,h⟩
   · simp only[au] at hx;obtain⟨_,_,q,cap,vs,h,_⟩:=hx;exact⟨_,_,_,h⟩
   · simp only[au] at hx;obtain⟨q,cap,h,_⟩:=hx;exact⟨_,_,_,h⟩
 obtain⟨q,len,cap,hq⟩:=Xq
 obtain⟨ys,us,hk,hv,hlen,hfc⟩:=ij hr.bB hx ag
 obtain⟨hb,rfl⟩:=eu hk
 obtain⟨t,ht,rfl⟩:=Option.map_eq_some_iff.1 hb
 have hys:=uE ht
 have Dd:=ak.L9 hys hv
 have hl:len=ys.length:=by
   rw[hq] at hlen
   simpa [Builtin.lenOf] using hlen
 have mL:=hfc μ.w rfl ys.length (Nat.le_refl _)
 rw[Dd,List.take_of_length_le (by rw[hys];simp),zo,hq] at mL
 refine⟨rfl,aS (val:= .string ((t.map fun b=> (b.toNat:Int)).foldl (fun r n=>r.push (UInt8.ofNat n.toNat)) ByteArray.empty)) hr.bB ?_ ?_⟩
 · simp only[execOp,ho]
   refine cO ?_
   rw[hq,run_convert_bytes_string μ.w s d e q len cap hs he hd]
   cases q with
   | none=>
     simp only[Builtin.firstCells,Sem.run_pure] at mL
     have h0:t=[]:=by
      cases t with
      | nil=>rfl
      | cons b t=>simp at mL
     subst h0
     simp[Conv.bytesToString]
   | some ad=>
     simp only[Builtin.firstCells,Nat.mul_one] at mL
     have:=run_bytesToString (P:=X.P) μ.w ad len cap (t.map fun b=> (b.toNat:Int)) (by rw[hl,mL,List.map_map];rfl)
     exact this
 · simp only[au]
   exact⟨_,rfl,by rw[zw];rfl⟩
theorem EB {s d e:TypeId} {x:Operand} {x':bg} (hr:Rel X T a μ) (ho:o.op= .convert s d x) (hs:bG X s=some .string) (hd:bG X d=some (.slice e)) (he:bG X e=some (.int .u8))
   (h1:du X x=some x') (ag: (aF E (.mX x')).run C ⟨T,μ.O⟩=some (v,σ')):σ'.T=T∧de X o a μ σ'.O v:=by
 simp only[aF,bP] at ag
 have hx:=aX hr h1 μ.O
 split at ag
 · rename_i b eq
   obtain⟨rfl,rfl⟩:=bo ag
   rw[eq] at hx;simp only[au] at hx
   obtain⟨bs,Eb,rfl⟩:=hx
   have le:Le μ ⟨Lib.bytesWorld μ.w e bs,μ.φ,μ.O⟩:=by
     refine⟨by show _≤(Lib.bytesWorld μ.w e bs).heap.size;rw[Lib.bytesWorld_size];omega,fun b hb vB=> ⟨Lib.bytesWorld_at_old μ.w e bs b hb,vB⟩,fun _=>Nat.le_refl _,fun _ _=> ⟨rfl,rfl⟩,rfl,rfl,rfl,fun ad ha=> ?_⟩
     simp only[World.frozen?];rw[Lib.bytesWorld_at_old μ.w e bs ad.block ha]
   have Kf:bQ X ⟨Lib.bytesWorld μ.w e bs,μ.φ,μ.O⟩:=hr.bB.y9 le rfl rfl fun b hb=>Lib.bytesWorld_at_old μ.w e bs b hb
   refine⟨rfl,.slice (some ⟨μ.w.heap.size,0,none⟩) bs.size (grownCap μ.w bs.size 0 e),Lib.bytesWorld μ.w e bs,μ.φ,.inl ?_,?_,le,Kf⟩
   · simp only[execOp,ho]
     refine cO ?_
     rw[Eb]
     exact Lib.run_convert_string_bytes μ.w s d e bs hs hd he
   · have cJ: (bs.data.toList.map fun b=>V.int .u8 b.toNat).length=bs.size:=by simp
     have gS: ∀b,(Mu.mk (Lib.bytesWorld μ.w e bs) μ.φ μ.O).own b→b<μ.w.heap.size:=by
       rintro b ⟨r,h1,h2,h3,h4⟩
       have h4: (μ.φ r).dQ=b:=h4
       obtain⟨es,bX⟩:=Option.isSome_iff_exists.1 h1
       rw[←h4]
       exact gF.dQ (hr.bB.ok r es bX) h3
     simp only[au]
     refine⟨AM.Xp _,ach _,some ⟨μ.w.heap.size,0,none⟩,_,_,by rw[cJ],by rw[cJ];exact grownCap_ge _ _ _ _,ak.bytes _,.inr ⟨μ.w.heap.size,0,rfl,?_,by show _< (Lib.bytesWorld μ.w e bs).heap.size;rw[Lib.bytesWorld_size];omega,?_⟩⟩
     · rintro(h| h)
       · have:=gS _ h;omega
       · have:=hr.bB.blt _ h;omega
     · intro i v hv
       rw[List.getElem?_map,Option.map_eq_some_iff] at hv
       obtain⟨b,hb,rfl⟩:=hv
       refine⟨rfl,fun j c hc=> ?_⟩
       have hj:j=0:=by
        rcases Nat.eq_zero_or_pos j with h| h
        · exact h
        · rw[Array.getElem?_eq_none (by show 1≤j;omega)] at hc;simp at hc
       subst hj
       have hi:i<bs.size:=by
        have:=(List.getElem?_eq_some_iff.1 hb).1
        simpa using this
       have h2:=Lib.bytesWorld_cell μ.w e bs i hi
       have h3:bs.data.toList.getD i 0=b:=by simp[List.getD,hb]
       rw[h3] at h2
       have C9:c= .int .u8 b.toNat:=by
        have: (#[Value.int .u8 b.toNat]:Array Value)[0]? =some c:=hc
        simpa using this.symm
       subst C9
       have e0: (0+i*1+0)=i:=by omega
       rw[e0];exact h2
 · exact absurd ag aC
end
end Go.AM
namespace Go.AM
open Go Go.RowKit
def gV (h:Hints) (μ:Mu):Prop:=
 (∀d r g N,(d,r,g,N) ∈ h.AY→g≤(μ.O r).gen∧((μ.O r).gen=g→N≤(μ.φ r).cap))∧
 ∀d m r g N,(d,m,r,g,N) ∈ h.full→g≤(μ.O r).gen∧((μ.O r).gen=g→(μ.φ r).cap=N)
theorem gV.le {h:Hints} {μ μ':Mu} (hk:gV h μ) (le:Le μ μ'):gV h μ':=by
 refine⟨fun d r g N hm=> ?_,fun d m r g N hm=> ?_⟩
 · obtain⟨h1,h2⟩:=hk.1 d r g N hm
   have hg:=le.gen r
   refine⟨by omega,fun e=> ?_⟩
   obtain⟨k1,_⟩:=le.row r (by omega)
   rw[k1];exact h2 (by omega)
 · obtain⟨h1,h2⟩:=hk.2 d m r g N hm
   have hg:=le.gen r
   refine⟨by omega,fun e=> ?_⟩
   obtain⟨k1,_⟩:=le.row r (by omega)
   rw[k1];exact h2 (by omega)
theorem gV.none {h:Hints} {μ:Mu} (h1:h.AY=[]) (h2:h.full=[]):gV h μ:=by
 refine⟨fun d r g N hm=> ?_,fun d m r g N hm=> ?_⟩
 · rw[h1] at hm;exact(List.not_mem_nil hm).elim
 · rw[h2] at hm;exact(List.not_mem_nil hm).elim
section
variable {X:Ctx} {E:Env} {C:bO} {o:Oper} {a:Go.Act} {T:Nat→V} {μ:Mu} {v:V} {σ':St}
theorem zx {c:Call} {s x:Operand} {sT xT e:TypeId} {d:TypeDesc} {s' x':bg} {r g N sz:Nat} (hN: (μ.O r).gen=g→N≤(μ.φ r).cap) (hr:Rel X T a μ) (ho:o.op= .call c) (hc:c.callee= .builtin .append)
  (jw:c.args= #[s,x]) (vU:c.argTypes= #[sT,xT]) (hd:bG X sT=some (.slice e)) (hx:bG X xT=some d) (Ep: ∀k,d≠ .int k) (hn:bT X e=some sz)
  (h1:du X s=some s') (h2:du X x=some x')
  (ag: (aF E (.qI r g N sz s' x')).run C ⟨T,μ.O⟩=some (v,σ')):σ'.T=T∧de X o a μ σ'.O v:=by
 have hs:=aX hr h1 μ.O
 have vd:=aX hr h2 μ.O
 have oV:X.P.underlying sT=some (.slice e):=hd
 have sX:X.P.underlying xT=some d:=hx
 simp only[aF,bP] at ag
 obtain⟨ys,us,k1,g2,k3,k4⟩:=ij hr.bB vd ag
 have Et:us.length=ys.length:=g2.length.symm
 have Eu: (Builtin.firstCells sz ys.length (a.eval x)).run X.P μ.w= .ok (flat us).toArray μ.w:=by
  have:=k4 μ.w rfl ys.length (Nat.le_refl _)
  rwa [qS (by omega)] at this
 have fin: ∀val w',(Builtin.append_ #[sT,xT] o.type #[a.eval s,a.eval x]).run X.P μ.w= .ok val w'→(execOp a.eval o).run X.P μ.w= .ok (.value val) w':=fun val w' hv=>by
  refine eD ho hc ?_
  simp only[builtin,jw,vU]
  refine cO ?_
  simpa using hv
 split at k1
 rotate_left
 · exact absurd k1 aC
 rename_i hb
 simp only[Bool.and_eq_true,decide_eq_true_eq] at hb
 obtain⟨oL,cJ⟩:=hb
 obtain⟨Dd,CC⟩:=g2.nm oL
 have Ao:=fI Dd
 generalize bM ⟨T,μ.O⟩ s'=sv at k1 hs
 split at k1
 rotate_left
 · exact absurd k1 aC
 rename_i r' g' off len
 split at k1
 rotate_left
 · exact absurd k1 aC
 rename_i kQ
 obtain⟨rfl,rfl,rfl,PO,rL⟩:=kQ
 simp only[Act.run] at k1
 split at k1
 rotate_left
 · exact absurd k1 aC
 rename_i es bX
 split at k1
 rotate_left
 · exact absurd k1 aC
 rename_i oZ
 obtain⟨cW,jn,ft,hlen⟩:=oZ
 simp only[Act.run,Option.some.injEq,Prod.mk.injEq] at k1
 obtain⟨rfl,rfl⟩:=k1
 refine⟨rfl,?_⟩
 simp only[au] at hs
 obtain⟨p,cap,hp,hle,ve,dm⟩:=hs
 obtain⟨a0,a1,a2⟩:=dm cW
 have hN':=hN cW
 obtain⟨q1,q2,q3,q4⟩:=hr.bB.row r' es bX a0
 have eb:cap≠0:=by omega
 have kQ: (μ.φ r').cap≠0:=by omega
 rcases q4 with q4| ⟨cc,T0,vs,p1,p2,p3,p4⟩
 · exact absurd q4 kQ
 have vR:=a2.resolve_left eb
 subst vR
 have De:=p3.length
 have se:ek cc.toList (μ.φ r').base sz vs:=by have:=ia p1 p4;rwa [ft] at this
 rw[ft] at p2
 have hmul: (len+ys.length)*sz≤(μ.φ r').cap*sz:=Nat.mul_le_mul_right _ (by omega)
 rw[Nat.add_mul] at hmul
 have hw:=se.write (k:=len) (us:=us) (by omega) Dd (by rw[cB cc,Et];omega)
 have ni:=ib (P:=X.P) (w:=μ.w) (q:=(μ.φ r').base+len*sz) p1 (flat us) (by rw[Ao,Et];omega) CC
 have uC:=iC (X:=X) (sT:=sT) (xT:=xT) (sLen:=len) (sCap:=cap) (ty:=o.type) (base:=some ⟨(μ.φ r').dQ,(μ.φ r').base+0*(μ.O r').sz,none⟩)
  (w':=μ.w.setRow (μ.φ r').dQ (dk cc.toList ((μ.φ r').base+len*sz) (flat us)).toArray) oV sX Ep hn k3 (by omega) Eu (by
    simp only[fZ,ft,Nat.zero_mul,Nat.add_zero]
    exact ni)
 have L5:=nh (X:=X) (μ:=μ) hr.bB r' bX jn p1 kQ (c':=(dk cc.toList ((μ.φ r').base+len*sz) (flat us)).toArray)
  (by
    have: (dk cc.toList ((μ.φ r').base+len*sz) (flat us)).length=cc.toList.length:=fo (by rw[cB cc,Ao,Et];omega)
    simpa using this)
  (μ.O r').gen (μ.φ r').base (μ.φ r').cap (es':=es++ys) (vs':=vs.take len++us++vs.drop (len+us.length)) (.inl ⟨rfl,rfl,rfl⟩) kQ
  (by simp;omega)
  (by
    simp only[ft] at q3 ⊢
    simp only[List.all_append,q3,oL,Bool.and_self])
  (by
    have e1:vs.take len=vs:=List.take_of_length_le (by omega)
    have e2:vs.drop (len+us.length)=[]:=List.drop_eq_nil_of_le (by omega)
    rw[e1,e2,List.append_nil]
    exact p3.append g2)
  (by rw[ft];exact p2)
  (fun j y hy=>by
    obtain⟨m1,m2⟩:=hw j y hy
    refine⟨by rw[ft];exact m1,fun l q hq=> ?_⟩
    have:=m2 l q hq
    simp only[ft]
    simpa using this)
 refine⟨_,_,_,.inl (fin _ _ (by rw[hp];exact uC)),?_,L5.1,L5.2⟩
 simp only[au,aL]
 exact⟨_,cap,rfl,by omega,by omega,fun _=> ⟨a0,a1,.inr rfl⟩⟩
theorem zy {c:Call} {s x:Operand} {sT xT e:TypeId} {d:TypeDesc} {s' x':bg} {m r g N sz:Nat} {i:TypeInfo} {z:V} (hN: (μ.O r).gen=g→(μ.φ r).cap=N) (hr:Rel X T a μ) (ho:o.op= .call c) (hc:c.callee= .builtin .append)
  (jw:c.args= #[s,x]) (vU:c.argTypes= #[sT,xT]) (hd:bG X sT=some (.slice e)) (hx:bG X xT=some d) (Ep: ∀k,d≠ .int k) (hn:bT X e=some sz) (hi:info X e=some i)
  (hz:fq X e=some z) (Eo:aZ z sz=true) (h1:du X s=some s') (h2:du X x=some x')
  (ag: (aF E (.qJ m r g N sz (rK i.bytes) s' x')).run C ⟨T,μ.O⟩=some (v,σ')):σ'.T=T∧de X o a μ σ'.O v:=by
 have hs:=aX hr h1 μ.O
 have vd:=aX hr h2 μ.O
 have oV:X.P.underlying sT=some (.slice e):=hd
 have sX:X.P.underlying xT=some d:=hx
 have gP:X.P.info? e=some i:=hi
 simp only[aF,bP] at ag
 obtain⟨ys,us,k1,g2,k3,k4⟩:=ij hr.bB vd ag
 have Et:us.length=ys.length:=g2.length.symm
 have CF: (Builtin.firstCells sz ys.length (a.eval x)).run X.P μ.w.drew= .ok (flat us).toArray μ.w.drew:=by
  have:=k4 μ.w.drew rfl ys.length (Nat.le_refl _)
  rwa [qS (by omega)] at this
 have fin: ∀val w',(Builtin.append_ #[sT,xT] o.type #[a.eval s,a.eval x]).run X.P μ.w= .ok val w'→(execOp a.eval o).run X.P μ.w= .ok (.value val) w':=fun val w' hv=>by
  refine eD ho hc ?_
  simp only[builtin,jw,vU]
  refine cO ?_
  simpa using hv
 split at k1
 rotate_left
 · exact absurd k1 aC
 rename_i hb
 simp only[Bool.and_eq_true,decide_eq_true_eq] at hb
 obtain⟨oL,cJ⟩:=hb
 obtain⟨zv,vS,Ae⟩:=gG hz μ.w
 have hzw: ∀w,(zeroValue e).run X.P w= .ok zv w:=fun w=>by
  obtain⟨zv',q1,q2⟩:=gG hz w
  have:zv'=zv:=by
    simp only[fq,info,Option.bind_eq_some_iff] at hz
    obtain⟨i0,e1,zq,e2,_⟩:=hz
    simp only[zeroValue,Sem.run_bind,run_typeInfo w e1,run_typeInfo μ.w e1,Result.andThen_ok,e2,Sem.run_pure] at q1 vS
    injection q1 with q1 _;injection vS with vS _
    rw[←q1,←vS]
  rw[←this];exact q1
 obtain⟨xz,NA⟩:=fm (X:=X) (μ:=μ) Ae
 have LU:zv.cells.size=sz:=by rw[xz.ej NA,(cE Eo).2]
 obtain⟨Dd,CC⟩:=g2.nm oL
 have Ao:=fI Dd
 generalize bM ⟨T,μ.O⟩ s'=sv at k1 hs
 split at k1
 rotate_left
 · exact absurd k1 aC
 rename_i r' g' off len
 split at k1
 rotate_left
 · exact absurd k1 aC
 rename_i kQ
 obtain⟨rfl,rfl,rfl,PO,rL,Ap⟩:=kQ
 simp only[Act.run] at k1
 split at k1
 rotate_left
 · exact absurd k1 aC
 rename_i es bX
 split at k1
 rotate_left
 · exact absurd k1 aC
 rename_i oZ
 obtain⟨cW,jn,ft,hlen⟩:=oZ
 simp only[Act.run,Option.some.injEq,Prod.mk.injEq] at k1
 obtain⟨rfl,rfl⟩:=k1
 refine⟨rfl,?_⟩
 simp only[au] at hs
 obtain⟨p,cap,hp,hle,ve,dm⟩:=hs
 obtain⟨a0,a1,a2⟩:=dm cW
 have hN':=hN cW
 obtain⟨q1,q2,q3,q4⟩:=hr.bB.row r' es bX a0
 have hold: ∃ous,ak X μ es ous∧(Builtin.firstCells sz len (.slice p len cap)).run X.P μ.w.drew= .ok (flat ous).toArray μ.w.drew:=by
  by_cases eb:cap=0
  · have Cz:len=0:=by omega
    subst Cz
    have:es=[]:=by simpa using hlen
    subst this
    exact⟨[],by simp[ak],lN⟩
  · rcases q4 with q4| ⟨cc,T0,vs,p1,p2,p3,p4⟩
    · omega
    · have vR:=a2.resolve_left eb
      subst vR
      have De:=p3.length
      refine⟨vs,p3,?_⟩
      rw[ft] at p4 ⊢
      have:=qR (P:=X.P) (p4.dq (w':=μ.w.drew) rfl) (n:=len) (by omega)
      rw[qS (by omega)] at this
      simpa [Builtin.firstCells] using this
 obtain⟨ous,RO,RN⟩:=hold
 obtain⟨newCap,Ew,uC⟩:=kx (X:=X) (sT:=sT) (xT:=xT) (sLen:=len) (sCap:=cap) (base:=p) (ty:=o.type) oV sX Ep hn gP hzw k3 (by omega) Ap RN CF
 obtain⟨NF,ho3⟩:=zp (X:=X) (μ:=μ) (O1:=μ.O) hr.bB (r:=m) (sz:=sz) (newCap:=newCap) (olds:=es) (ous:=ous) (ys:=ys) (us:=us) (zv:=zv) (e:=e)
  (o0:={gen:=(μ.O m).gen+1,sz:=sz,arr:=true,fz:=false,es:=some (es++ys)}) rfl rfl cJ RO g2 (by rw[←ft];exact q3) oL LU (by rw[hlen];exact Ew)
 rw[hlen] at NF ho3
 refine⟨_,_,eI μ.φ m ⟨μ.w.heap.size,0,newCap⟩,.inl (fin _ _ (by rw[hp];exact uC)),?_,NF,ho3⟩
 simp only[au,aL]
 exact⟨_,newCap,rfl,by omega,Nat.le_refl _,fun _=> ⟨cJ,by omega,.inr (by simp)⟩⟩
end
end Go.AM
namespace Go.AM
open Go Go.RowKit
def vb.jG:vb→Bool
 | .call .. =>true
 | _=>false
section
variable {X:Ctx} {E:Env} {C:bO} {o:Oper} {a:Go.Act} {T:Nat→V} {μ:Mu} {v:V} {σ':St}
theorem PS {p:V×St} {σ:St}: (aF E .bad).run C σ≠some p:=by simp[aF,Act.run]
theorem Gs {h:Hints} {dst:Nat} {c:Call} {rq:vb} (hr:Rel X T a μ) (ho:o.op= .call c) (iO:gV h μ) (aY:yY X h dst c=some rq) (Ew:rq.jG=false)
   (ag: (aF E rq).run C ⟨T,μ.O⟩=some (v,σ')):σ'.T=T∧de X o a μ σ'.O v:=by
 unfold yY at aY
 split at aY
 · split at aY
   · injection aY with aY;subst aY;simp[vb.jG] at Ew
   · simp at aY
 · simp at aY
 · rename_i b hc
   have lM: ∀ {α:Type} (l:Array α) (m:List α),l.toList=m→l=m.toArray:=fun l m e=>by rw[←e]
   split at aY
   · rename_i x t h1 h2
     have e1:=lM _ _ h1;have e2:=lM _ _ h2
     split at aY
     · rename_i x' e hx hd
       injection aY with aY;subst aY
       exact Xf hr ho hc e1 e2 hd hx ag
     · rename_i x' hx hd
       injection aY with aY;subst aY
       exact Jy hr ho hc e1 e2 hd hx ag
     · rename_i x' n e hx hd
       injection aY with aY;subst aY
       exact Jz hr ho hc e1 e2 hd ag
     · simp at aY
   · rename_i xs _
     simp only[Option.map_eq_some_iff] at aY
     obtain⟨as,h1,rfl⟩:=aY
     exact Xg hr ho hc h1 ag
   · rename_i xs _
     simp only[Option.map_eq_some_iff] at aY
     obtain⟨as,h1,rfl⟩:=aY
     exact Xh hr ho hc h1 ag
   · rename_i s x t t' h1 h2
     have e1:=lM _ _ h1;have e2:=lM _ _ h2
     split at aY
     · rename_i s' x' e d hs hx hd Da
       split at aY
       · rename_i sz i z e' hn hi hz
         split at aY<;>simp at aY
         rename_i hb
         subst aY
         unfold PC at ag
         split at ag
         · have hq:=(by assumption:List.find? _ h.AY=some _)
           exact zx (fun e=> (iO.1 _ _ _ _ (List.mem_of_find?_eq_some hq)).2 e) hr ho hc e1 e2 hd Da (by simp) hn hs hx ag
         · have hq:=(by assumption:List.find? _ h.full=some _)
           exact zy (fun e=> (iO.2 _ _ _ _ _ (List.mem_of_find?_eq_some hq)).2 e) hr ho hc e1 e2 hd Da (by simp) hn hi hz hb hs hx ag
         split at ag
         · exact zt hr ho hc e1 e2 hd Da (by simp) hn hi hz hb hs hx ag
         · exact Bg hr ho hc e1 e2 hd Da (by simp) hn hi hz hb hs hx ag
       · rename_i sz i z hn hi hz
         split at aY<;>simp at aY
         rename_i hb
         subst aY
         unfold PC at ag
         split at ag
         · have hq:=(by assumption:List.find? _ h.AY=some _)
           exact zx (fun e=> (iO.1 _ _ _ _ (List.mem_of_find?_eq_some hq)).2 e) hr ho hc e1 e2 hd Da (by simp) hn hs hx ag
         · have hq:=(by assumption:List.find? _ h.full=some _)
           exact zy (fun e=> (iO.2 _ _ _ _ _ (List.mem_of_find?_eq_some hq)).2 e) hr ho hc e1 e2 hd Da (by simp) hn hi hz hb hs hx ag
         split at ag
         · exact zt hr ho hc e1 e2 hd Da (by simp) hn hi hz hb hs hx ag
         · exact Bg hr ho hc e1 e2 hd Da (by simp) hn hi hz hb hs hx ag
       · simp at aY
     · simp at aY
   · rename_i d s t t' h1 h2
     have e1:=lM _ _ h1;have e2:=lM _ _ h2
     split at aY
     · rename_i d' s' e hd hs ht
       simp only[Option.map_eq_some_iff] at aY
       obtain⟨sz,hn,rfl⟩:=aY
       exact PQ hr ho hc e1 e2 ht hn hd hs ag
     · simp at aY
   · rename_i x t h1 h2
     have e1:=lM _ _ h1;have e2:=lM _ _ h2
     split at aY
     · rename_i x' e hx hd
       split at aY
       · rename_i sz z hn hz
         injection aY with aY;subst aY
         exact L6 hr ho hc e1 e2 hd hz hx ag
       · simp at aY
     · simp at aY
   · simp at aY
theorem og {kt:TypeId} {q:Option IntKind} (h:uo X kt=some q): ∃d,bG X kt=some d∧jT q d:=by
 unfold uo at h
 split at h
 · rename_i k hk
   injection h with h;subst h
   exact⟨_,hk,rfl⟩
 · rename_i hk
   injection h with h;subst h
   exact⟨_,hk,rfl⟩
 · simp at h
theorem Ma (oW: ∀t1 t2 k,X.ku t1=some k→X.ku t2=some k→t1=t2) {h:Hints} {dst:Nat} {rq:vb} (iO:gV h μ) (hr:Rel X T a μ) (aY:An X h dst o.op=some rq) (Ew:rq.jG=false)
  (ag: (aF E rq).run C ⟨T,μ.O⟩=some (v,σ')):σ'.T=T∧de X o a μ σ'.O v:=by
 cases dN:o.op<;>simp only[An,dN] at aY<;>try (simp at aY;done)
 case move x=>
  split at aY
  · simp only[Option.map_eq_some_iff] at aY
    obtain⟨y,h1,rfl⟩:=aY
    exact HT hr (.inl dN) h1 ag
  · split at aY
    ·  simp only[Option.map_eq_some_iff] at aY
       obtain⟨y,h1,rfl⟩:=aY
       exact HW hr (.inl dN) h1 ag
    · exact RJ hr (.inl dN) aY ag
 case assign x=>
  split at aY
  · simp only[Option.map_eq_some_iff] at aY
    obtain⟨y,h1,rfl⟩:=aY
    exact HT hr (.inr dN) h1 ag
  · split at aY
    ·  simp only[Option.map_eq_some_iff] at aY
       obtain⟨y,h1,rfl⟩:=aY
       exact HW hr (.inr dN) h1 ag
    · exact RJ hr (.inr dN) aY ag
 case pick c p q=>
  split at aY
  · rename_i c' p' q' h1 h2 h3
    injection aY with aY;subst aY
    exact PF hr dN h1 h2 h3 ag
  · simp at aY
 case alloc t=>
  split at aY
  · rename_i sz z h1 h2
    injection aY with aY;subst aY
    exact LS _ hr dN h2 ag
  · simp at aY
 case box t x=>
  split at aY
  · rename_i sz y h1 h2
    injection aY with aY;subst aY
    by_cases hdp:h.deep.contains dst=true
    ·  rw[if_pos hdp] at ag
       exact PK _ hr dN h2 ag
    ·  rw[if_neg hdp] at ag
       exact Xk _ hr dN h2 ag
  · simp at aY
 case build t ps=>
  split at aY
  · rename_i z fs h1 h2
    split at aY
    · simp at aY
    ·  rename_i en
       simp only[Option.map_eq_some_iff] at aY
       obtain⟨as,h3,rfl⟩:=aY
       exact JC _ hr dN h1 h2 (by revert en;cases fs.toList.all (fun f=> (bT X f.type).isSome) <;>simp) h3 ag
  · rename_i z n e h1 h2
    split at aY
    ·  rename_i s hs
       simp only[Option.map_eq_some_iff] at aY
       obtain⟨as,h3,rfl⟩:=aY
       exact JD _ hr dN h1 h2 hs h3 ag
    · simp at aY
  · simp at aY
 case buildSlice t n ps=>
  split at aY
  · rename_i e hd
    split at aY
    ·  rename_i sz z as h1 h2 h3
       injection aY with aY;subst aY
       split at ag
       · exact zn hr dN hd h1 h2 h3 ag
       · split at ag
         · exact zm hr dN hd h1 h2 h3 ag
         · exact rU hr dN hd h1 h2 h3 ag
    · simp at aY
  · simp at aY
 case load t x=>
  split at aY
  · rename_i g sz y h1 h2 h3
    injection aY with aY;subst aY
    split at ag
    · exact HQ hr dN h3 h1 h2 ag
    · exact LN _ hr dN h3 h1 h2 ag
  · simp at aY
 case store t x y=>
  split at aY
  · rename_i g sz x' y' h1 h2 h3 h4
    injection aY with aY;subst aY
    exact LV hr dN h3 h4 h2 ag
  · simp at aY
 case nilCheck x=>
  simp only[Option.map_eq_some_iff] at aY
  obtain⟨y,h1,rfl⟩:=aY
  exact D8 hr dN h1 ag
 case binOp op t x y t2=>
  split at aY
  · rename_i x' y' h1 h2
    unfold HL at aY
    split at aY
    ·  rename_i heq
       have Mb:op= .eql∨op= .neq:=by cases op<;>simp[LC] at heq<;>simp
       split at aY
       · rename_i hd
         injection aY with aY;subst aY
         exact Xa hr dN Mb hd h1 h2 rfl ag
       · injection aY with aY;subst aY
         exact Gi hr dN h1 h2 ag
       · injection aY with aY;subst aY
         exact Gi hr dN h1 h2 ag
       · rename_i ms hd
         injection aY with aY;subst aY
         exact Xb hr dN Mb ⟨_,hd⟩ oW h1 h2 rfl ag
       · rename_i e hd
         split at aY
         · rename_i n cJ
           injection aY with aY;subst aY
           exact Xd hr dN Mb hd cJ h1 h2 rfl ag
         · simp at aY
       · rename_i fs hd
         split at aY
         · rename_i hg
           simp only[Option.map_eq_some_iff] at aY
           obtain⟨ks,h3,rfl⟩:=aY
           exact LM hr dN Mb hg h3 (by simp[je,hd]) h1 h2 rfl ag
         · simp at aY
       · rename_i hd
         split at aY
         · rename_i hg
           simp only[Option.map_eq_some_iff] at aY
           obtain⟨ks,h3,rfl⟩:=aY
           exact LM hr dN Mb hg h3 (by simp[je,hd]) h1 h2 rfl ag
         · simp at aY
       · simp at aY
    ·  injection aY with aY;subst aY
       exact Gi hr dN h1 h2 ag
  · simp at aY
 case unOp op t x=>
  simp only[Option.map_eq_some_iff] at aY
  obtain⟨y,h1,rfl⟩:=aY
  exact ab9 hr dN h1 ag
 case convert s d x=>
  split at aY
  · rename_i k0 k y h1 h2 h3
    injection aY with aY;subst aY
    exact Gk hr dN h1 h2 h3 ag
  · rename_i k0 y h1 h2 h3
    injection aY with aY;subst aY
    exact Jv hr dN h1 h2 h3 ag
  · rename_i k y h1 h2 h3
    injection aY with aY;subst aY
    exact Jw hr dN h1 h2 h3 ag
  · rename_i y h1 h2 h3
    injection aY with aY;subst aY
    exact Gl hr dN h1 h2 h3 ag
  · rename_i e y h1 h2 h3
    split at aY
    ·  rename_i he
       injection aY with aY;subst aY
       exact EB hr dN h1 h2 (Bj he) h3 ag
    · simp at aY
  · rename_i e y h1 h2 h3
    split at aY
    ·  rename_i he
       injection aY with aY;subst aY
       exact EA hr dN h1 (Bj he) h2 h3 ag
    · simp at aY
  · simp at aY
 case makeInterface t x=>
  split at aY
  · simp at aY
  · rename_i n y d cu h1 h2 h3
    injection aY with aY;subst aY
    exact vQ hr dN h1 h2 ⟨_,h3,fun ms e=>cu ms e⟩ ag
  · simp at aY
 case typeAssert x t0 t ok=>
  split at aY
  · simp at aY
  · rename_i n y z d cu h1 h2 h3 h4
    injection aY with aY;subst aY
    exact JE hr dN oW h1 h2 h3 ⟨_,h4,fun ms e=>cu ms e⟩ ag
  · simp at aY
 case makeFunc fn first caps=>
  cases fn<;>simp only at aY<;>try (simp at aY;done)
  split at aY
  · rename_i hf
    split at aY
    ·  rename_i n cs h1 h2
       injection aY with aY;subst aY
       exact D9 hr dN hf h1 h2 ag
    · simp at aY
  · split at aY
    ·  rename_i hf
       split at aY
       · rename_i n cs h1 h2
         injection aY with aY;subst aY
         exact Cx hr dN hf h1 h2 ag
       · simp at aY
    · simp at aY
 case makeSlice t l c=>
  split at aY
  · rename_i e hd
    split at aY
    ·  rename_i sz i z l' c' h1 h2 h3 h4 h5
       injection aY with aY;subst aY
       exact CB hr dN hd h1 h2 h3 h4 h5 ag
    · simp at aY
  · simp at aY
 case slice t x lo hi mx=>
  split at aY
  · rename_i e x' AU gP mx' hd h1 h2 h3 h4
    simp only[Option.map_eq_some_iff] at aY
    obtain⟨sz,hn,rfl⟩:=aY
    exact LO hr dN hd hn h1 h2 h3 h4 ag
  · rename_i x' AU gP hd h1 h2 h3 h4
    injection aY with aY;subst aY
    have RL:mx=none:=by
       cases mx with
       | none=>rfl
       | some m=>simp[vO] at h4
    subst RL
    exact Eg hr dN hd h1 h2 h3 ag
  · simp at aY
 case fieldAddr s x i=>
  split at aY
  · rename_i fs y hd h1
    split at aY
    ·  rename_i f hf
       split at aY
       · rename_i n hn
         injection aY with aY;subst aY
         exact Cw hr dN h1 hd hf hn ag
       · simp at aY
    · simp at aY
  · simp at aY
 case field s x i=>
  split at aY
  · rename_i fs y hd h1
    split at aY
    ·  rename_i f hf
       split at aY
       · rename_i g sz h2 h3
         injection aY with aY;subst aY
         exact LI hr dN h1 hd hf h2 h3 ag
       · simp at aY
    · simp at aY
  · simp at aY
 case indexAddr t x i=>
  split at aY
  · rename_i e x' i' hd h1 h2
    simp only[Option.map_eq_some_iff] at aY
    obtain⟨sz,hn,rfl⟩:=aY
    exact Cy hr dN hd hn h1 h2 ag
  · rename_i n e x' i' hd h1 h2
    simp only[Option.map_eq_some_iff] at aY
    obtain⟨sz,hn,rfl⟩:=aY
    exact Ed hr dN hd hn h1 h2 ag
  · simp at aY
 case index t x i=>
  split at aY
  · rename_i x' i' hd h1 h2
    injection aY with aY;subst aY
    exact Ee hr dN hd h1 h2 ag
  · rename_i n e x' i' hd h1 h2
    split at aY
    ·  rename_i g sz h3 h4
       injection aY with aY;subst aY
       exact Ef hr dN hd h3 h4 h1 h2 ag
    · simp at aY
  · simp at aY
 case extract x i=>
  simp only[Option.map_eq_some_iff] at aY
  obtain⟨y,h1,rfl⟩:=aY
  exact Gh hr dN h1 ag
 case makeMap t rs=>
  cases rs with
  | some _=>simp at aY
  | none=>
    injection aY with aY;subst aY
    exact L8 hr dN rfl ag
 case range t x=>
  split at aY
  · rename_i x' hd h1
    injection aY with aY;subst aY
    exact Gp hr dN hd h1 ag
  · rename_i x' hd h1
    injection aY with aY;subst aY
    exact Gq hr dN hd h1 ag
  · simp at aY
 case next x isS=>
  cases isS with
  | false=>simp at aY
  | true=>
    simp only[Option.map_eq_some_iff] at aY
    obtain⟨y,h1,rfl⟩:=aY
    exact Gr hr dN h1 ag
 case lookup t x i ok=>
  split at aY
  · rename_i kt et x' i' hd h1 h2
    split at aY
    ·  rename_i q z hq hz
       injection aY with aY;subst aY
       obtain⟨d,PR,hk⟩:=og hq
       exact JF hr dN hd PR hk hz h1 h2 ag
    · simp at aY
  · simp at aY
 case mapUpdate t m k v=>
  split at aY
  · rename_i kt et m' k' v' hd h1 h2 h3
    simp only[Option.map_eq_some_iff] at aY
    obtain⟨q,hq,rfl⟩:=aY
    obtain⟨d,PR,hk⟩:=og hq
    exact Bi hr (.inl dN) hd PR hk h1 h2 h3 ag
  · simp at aY
 case insert t m k v=>
  split at aY
  · rename_i kt et m' k' v' hd h1 h2 h3
    simp only[Option.map_eq_some_iff] at aY
    obtain⟨q,hq,rfl⟩:=aY
    obtain⟨d,PR,hk⟩:=og hq
    exact Bi hr (.inr dN) hd PR hk h1 h2 h3 ag
  · simp at aY
 case call c=>exact Gs hr dN iO aY Ew ag
end
end Go.AM
namespace Go.AM
open Go Go.RowKit
def oO (X:Ctx) (E:Env) (C:bO):Prop:= ∀ (h:Hints) (dst:Nat) (o:Oper) (rq:vb) (a:Go.Act) (T:Nat→V) (μ:Mu) (v:V) (σ':St),gV h μ→Rel X T a μ→An X h dst o.op=some rq→
 (aF E rq).run C ⟨T,μ.O⟩=some (v,σ')→σ'.T=T∧ ∀ (next:Go.Act→World→Prop) (Q:Go.Exit→Go.Act→World→Prop),
   (∀val w' φ',au X ⟨w',φ',σ'.O⟩ v val→Le μ ⟨w',φ',σ'.O⟩→bQ X ⟨w',φ',σ'.O⟩→next (a.put o.dst val) w')→o.wp X.P a μ.w next Q
structure Fp where
 tm:Nat
 fl:Nat
 ro:Option Nat
def Marks (n:Fp) (w:World) (ds:List Deferred):Prop:=(n.fl≤w.heap.size∧ ∀l,n.ro=some l→ ∃L,w.heap[l]? =some (.loop L))∧ ∃Ds:List Nat,ds=Ds.map (fun D=> {target:= .collected D,args:= #[]})∧Ds.Nodup∧ ∀D ∈ Ds,n.fl≤D∧w.heap[D]? =some (.deferred (some []))
theorem Marks.nil {n:Fp} {w:World} (h:n.fl≤w.heap.size) (hl: ∀l,n.ro=some l→ ∃L,w.heap[l]? =some (.loop L)):Marks n w []:=⟨⟨h,hl⟩,[],rfl,.nil,by simp⟩
theorem fC {X:Ctx} {μ:Mu} (ho:bQ X μ) {D:Nat} {o:Go.Obj} (hD:μ.w.heap[D]? =some o) (h1:o.isCells=false) (h2:o.isWalk=false): ¬μ.own D:=by
 rintro⟨r,hr,_,hc,hb⟩
 obtain⟨es,bX⟩:=Option.isSome_iff_exists.1 hr
 rcases ho.ok r es bX with⟨_,_,_,h4⟩ | ⟨_,_,ob,h3,h4⟩
 · rcases h4 with h4| ⟨c,T,vs,k1,_⟩
   · exact hc h4
   · rw[hb,hD] at k1;injection k1 with k1;subst k1;simp[Obj.isCells] at h1
 · rw[hb,hD] at h3;injection h3 with h3;subst h3
   rcases h4 with⟨_,_,rfl,_⟩ | ⟨_,_,rfl,_⟩ | ⟨_,_,_,rfl,_⟩ <;>simp[Obj.isWalk] at h2
theorem Marks.le {X:Ctx} {μ μ':Mu} {n:Fp} {ds:List Deferred} (h:Marks n μ.w ds) (ho:bQ X μ) (le:Le μ μ'):Marks n μ'.w ds:=by
 obtain⟨⟨h0,lY⟩,Ds,h1,h2,h3⟩:=h
 refine⟨⟨Nat.le_trans h0 le.size,fun l hl=>by
  obtain⟨L,k⟩:=lY l hl
  exact⟨L,(le.dq l (Array.getElem?_eq_some_iff.1 k).1 (fC ho k rfl rfl)).1.trans k⟩⟩,Ds,h1,h2,fun D hD=> ⟨(h3 D hD).1,?_⟩⟩
 have k:=(h3 D hD).2
 rw[(le.dq D (Array.getElem?_eq_some_iff.1 k).1 (fC ho k rfl rfl)).1]
 exact k
structure jo (X:Ctx) (μ0:Mu) (n:Fp) (σ:St) (a:Go.Act) (w:World):Prop where
 defers:Marks n w a.defers
 size:a.tmps.size=n.1
 rel: ∃φ,Rel X σ.T a ⟨w,φ,σ.O⟩∧Le μ0 ⟨w,φ,σ.O⟩
section
variable {X:Ctx} {E:Env} {C:bO} {μ0:Mu} {n:Fp}
theorem qU {T:Nat→V} {a:Go.Act} {μ μ':Mu} {dst:Option Nat} {v:V} {val:Value} (hr:Rel X T a μ) (le:Le μ μ') (ho:bQ X μ') (hv:au X μ' v val) (hd:dst.all (· <a.tmps.size)=true) (O:Nat→Obj):
   Rel X (St.put ⟨T,O⟩ dst v).T (a.put dst val) μ':=by
 refine⟨fun t=> ?_,ho⟩
 cases dst with
 | none=>exact au.mono le (hr.tmps t)
 | some d=>
   simp at hd
   simp only[St.put,Go.Act.put,eI]
   split
   · rename_i e
     subst e
     have: (a.tmps.setIfInBounds t val).getD t undef=val:=by simp[hd]
     rw[this];exact hv
   · rename_i cu
     have: (a.tmps.setIfInBounds d val).getD t undef=a.tmps.getD t undef:=by
      simp[Array.getElem?_setIfInBounds_ne (fun e=>cu e.symm)]
     rw[this];exact au.mono le (hr.tmps t)
theorem nr (a:Go.Act) (dst:Option Nat) (v:Value): (a.put dst v).tmps.size=a.tmps.size:=by cases dst<;>simp[Go.Act.put]
theorem put_defers (a:Go.Act) (dst:Option Nat) (v:Value): (a.put dst v).defers=a.defers:=by cases dst<;>simp[Go.Act.put]
theorem qV {μ:Mu}:au X μ fj undef:=by simp only[fj,au];exact⟨#[],rfl,by simp[ak]⟩
theorem sH (    H:oO X E C) {h:Hints} (iO:gV h μ0) {ops:Array Oper} {i:Nat} {o:Oper} {ao:cF} {σ σ':St} {a:Go.Act} {w:World} {K:Go.Act→World→Prop} {Q:Go.Exit→Go.Act→World→Prop}
   (ho:ops[i]? =some o) (aY:pQ X h ops o=some ao) (hn:h.n=n.1) (hs:jo X μ0 n σ a w) (ag:fU E C ao σ=some σ') (hK: ∀a' w',jo X μ0 n σ' a' w'→K a' w'):
   wpOpIn (Fr n.ro) 0 X.P ops Q i K a w:=by
 obtain⟨jr,cJ,φ,hr,hle⟩:=hs
 unfold pQ at aY
 simp only at aY
 split at aY
 · rename_i g hg afU
   injection aY with aY
   subst aY
   have hd:o.dst.all (· <a.tmps.size)=true:=by rw[cJ,←hn];exact afU
   simp only[fU] at ag
   split at ag
   · rename_i v σ1 Ar
     injection ag with ag
     subst ag
     have runs: (aF E ((An X h (o.dst.getD 0) o.op).getD .bad)).run C σ=some (v,σ1)→o.wpIn (Fr n.ro) 0 X.P a w K Q:=fun dN=>by
       cases Mc:An X h (o.dst.getD 0) o.op with
       | none=>rw[Mc] at dN;exact absurd dN PS
       | some rq=>
         rw[Mc] at dN
         obtain⟨hT,hwp⟩:=H h _ o rq a σ.T ⟨w,φ,σ.O⟩ v σ1 (iO.le hle) hr Mc dN
         refine CH (fun c e=>by rw[e] at Mc;simp[An] at Mc) (hwp K Q fun val w' φ' hv le ig=>hK _ _ ⟨by rw[put_defers];exact jr.le hr.bB le,by rw[nr];exact cJ,φ',?_,?_⟩)
         · have:=qU hr le ig hv hd σ1.O
           rw[←hT] at this
           have e: (σ1.put o.dst v).O=σ1.O:=by cases o.dst<;>rfl
           rw[e];exact this
         · have e: (σ1.put o.dst v).O=σ1.O:=by cases o.dst<;>rfl
           rw[e];exact hle.trans le
     have RQ:v=fj→σ1=σ→K (a.put o.dst undef) w:=fun hv hσ=>by
       subst hv;subst hσ
       refine hK _ _ ⟨by rw[put_defers];exact jr,by rw[nr];exact cJ,φ,?_,?_⟩
       · have:=qU hr (Le.refl _) hr.bB qV hd σ1.O
         have e: (σ1.put o.dst fj).O=σ1.O:=by cases o.dst<;>rfl
         rw[e];exact this
       · have e: (σ1.put o.dst fj).O=σ1.O:=by cases o.dst<;>rfl
         rw[e];exact hle
     simp only[wpOpIn,ho]
     cases Gj:o.guard with
     | none=>
       rw[Gj] at hg
       injection hg with hg
       subst hg
       rw[if_pos (by simp[Region.wanted,Gj])]
       exact runs (by simpa [eM] using Ar)
     | some gw=>
       obtain⟨j,want⟩:=gw
       rw[Gj] at hg
       simp only at hg
       split at hg
       · rename_i d hdj
         injection hg with hg
         subst hg
         simp only[eM,Act.run] at Ar
         have hv:=hr.tmps d
         split at Ar
         · rename_i b hb
           rw[hb] at hv
           simp only[au] at hv
           have bY:d<a.tmps.size:=by
             rcases Nat.lt_or_ge d a.tmps.size with hl| hl
             · exact hl
             · simp[Array.getElem?_eq_none hl,undef] at hv
           have afV:a.tmps[d]? =some (.bool b):=by
             rw[Array.getElem?_eq_getElem bY]
             simp[Array.getElem?_eq_getElem bY] at hv
             rw[hv]
           have hy:yielded ops a.tmps j=some b:=by simp[yielded,hdj,afV]
           split at Ar
           · rename_i YK
             rw[if_pos (by simp[Region.wanted,Gj,hy,YK])]
             exact runs Ar
           · rename_i YK
             rw[if_neg (by simp[Region.wanted,Gj,hy,YK])]
             obtain⟨e1,e2⟩:=bo Ar
             exact⟨fun _ _=>trivial,RQ e1.symm e2⟩
         · rename_i hb
           rw[hb] at hv
           simp only[au] at hv
           obtain⟨vs,xQ,fB⟩:=hv
           have hy:yielded ops a.tmps j=none:=by
             simp only[yielded,hdj,Option.bind_some]
             cases hq:a.tmps[d]? with
             | none=>rfl
             | some x=>
               have:x= .tuple vs:=by simpa [hq] using xQ
               rw[this]
           rw[if_neg (by simp[Region.wanted,Gj,hy])]
           obtain⟨e1,e2⟩:=bo Ar
           exact⟨fun _ _=>trivial,RQ e1.symm e2⟩
         · exact absurd Ar aC
       · simp at hg
   · simp at ag
 · simp at aY
theorem mv {h:Hints} {ops:Array Oper}: ∀ {l:List Oper} {as:List cF},iA X h ops l=some as→as.length=l.length∧ ∀ (i:Nat) o,l[i]? =some o→ ∃ao,as[i]? =some ao∧pQ X h ops o=some ao
 | [],as,h'=>by simp[iA] at h';subst h';simp
 | o::l,as,h'=>by
   simp only[iA] at h'
   split at h'
   · rename_i ao as' h1 h2
     injection h' with h';subst h'
     obtain⟨k1,k2⟩:=mv h2
     refine⟨by simp[k1],fun i o' hi=> ?_⟩
     cases i with
     | zero=>simp at hi;subst hi;exact⟨ao,by simp,h1⟩
     | succ i=>simpa using k2 i o' (by simpa using hi)
   · simp at h'
theorem JI {ao:cF} {σ:St} {p:List Nat}:fU E C {ao with pre:=p} σ=fU E C ao σ:=rfl
theorem fN (H:oO X E C) {h:Hints} (iO:gV h μ0) {ops:Array Oper} {as:List cF} (hn:h.n=n.1) (aY:iA X h ops ops.toList=some as) {Q:Go.Exit→Go.Act→World→Prop}:
   ∀ (m k:Nat),k+m=ops.size→ ∀ {σ σ':St} {a:Go.Act} {w:World},jo X μ0 n σ a w→ko E C ((as.drop k).map fun o=> {o with pre:=[]}) σ=some σ'→
     (∀a' w',jo X μ0 n σ' a' w'→Q .normal a' w')→wpOpsIn (Fr n.ro) 0 X.P ops Q (List.range' k m) a w
 | 0,k,hk,σ,σ',a,w,hs,ag,hQ=>by
   obtain⟨hl,_⟩:=mv aY
   have:as.drop k=[]:=by simp at hl;simp;omega
   rw[this] at ag
   simp[ko] at ag
   subst ag
   simpa [wpOpsIn] using hQ a w hs
 | m+1,k,hk,σ,σ',a,w,hs,ag,hQ=>by
   obtain⟨hl,oe⟩:=mv aY
   have Nw:k<ops.size:=by omega
   obtain⟨ao,JJ,ns⟩:=oe k ops[k] (by simp[Nw])
   have hka:k<as.length:=by simp at hl;omega
   have hd:as.drop k=ao::as.drop (k+1):=by
     rw[List.drop_eq_getElem_cons hka]
     rw[List.getElem?_eq_getElem hka] at JJ
     injection JJ with JJ;rw[JJ]
   rw[hd] at ag
   simp only[List.map_cons,ko,JI] at ag
   split at ag
   · rename_i σ1 h1
     rw[List.range'_succ,wpOpsIn_cons]
     refine sH H iO (o:=ops[k]) (by simp[Nw]) ns hn hs h1 fun a' w' kl=> ?_
     exact fN H iO hn aY m (k+1) (by omega) kl ag hQ
   · simp at ag
end
end Go.AM
namespace Go.AM
open Go Go.RowKit
inductive Cell where
 | v (x:V)
 | o (x:Obj)
def St.at (σ:St):Loc→Cell
 | .t n=> .v (σ.T n)
 | .o n=> .o (σ.O n)
theorem St.ext' {σ τ:St} (h: ∀l,σ.at l=τ.at l):σ=τ:=by
 cases σ;cases τ
 congr
 · funext n;have:=h (.t n);simpa [St.at] using this
 · funext n;have:=h (.o n);simpa [St.at] using this
theorem nu {C:bO}: ∀ (act:Act) {σ τ σ':St} {v:V},act.run C σ=some (v,σ')→(∀l ∈ (act.fi C σ).reads,σ.at l=τ.at l)→
   ∃τ',act.run C τ=some (v,τ')∧act.fi C τ=act.fi C σ∧ ∀l,(l ∈ (act.fi C σ).writes→τ'.at l=σ'.at l)∧(l ∉ (act.fi C σ).writes→τ'.at l=τ.at l∧σ'.at l=σ.at l)
 | .done u,σ,τ,σ',v,h,_=>by
   simp only[Act.run,Option.some.injEq,Prod.mk.injEq] at h
   obtain⟨rfl,rfl⟩:=h
   exact⟨τ,rfl,rfl,fun l=> ⟨fun hl=>by simp[Act.fi] at hl,fun _=> ⟨rfl,rfl⟩⟩⟩
 | .fail,_,_,_,_,h,_=>by simp[Act.run] at h
 | .oR t k,σ,τ,σ',v,h,hr=>by
   simp only[Act.run] at h
   have e:σ.T t=τ.T t:=by have:=hr (.t t) (by simp[Act.fi]);simpa [St.at] using this
   obtain⟨τ',h1,h2,h3⟩:=nu (k (σ.T t)) h (fun l hl=>hr l (by simp[Act.fi,hl]))
   exact⟨τ',by simp only[Act.run,←e];exact h1,by simp only[Act.fi,←e,h2],by simpa [Act.fi] using h3⟩
 | .cr r k,σ,τ,σ',v,h,hr=>by
   simp only[Act.run] at h
   have e:σ.O r=τ.O r:=by have:=hr (.o r) (by simp[Act.fi]);simpa [St.at] using this
   obtain⟨τ',h1,h2,h3⟩:=nu (k (σ.O r)) h (fun l hl=>hr l (by simp[Act.fi,hl]))
   exact⟨τ',by simp only[Act.run,←e];exact h1,by simp only[Act.fi,←e,h2],by simpa [Act.fi] using h3⟩
 | .bW r o k,σ,τ,σ',v,h,hr=>by
   simp only[Act.run] at h
   obtain⟨τ',h1,h2,h3⟩:=nu k (τ:={τ with O:=eI τ.O r o}) h (fun l hl=>by
     have:=hr l (by simp[Act.fi,hl])
     cases l with
     | t n=>simpa [St.at] using this
     | o n=>
       simp only[St.at,Cell.o.injEq] at this ⊢
       by_cases hn:n=r
       · subst hn;simp[aL]
       · simp[bu _ _ hn,this])
   refine⟨τ',by simp only[Act.run];exact h1,by simp only[Act.fi,h2],fun l=> ⟨fun hl=> ?_,fun hl=> ?_⟩⟩
   · simp only[Act.fi,List.mem_cons] at hl
     by_cases hw:l ∈ (k.fi C {σ with O:=eI σ.O r o}).writes
     · exact(h3 l).1 hw
     · obtain⟨e1,e2⟩:=(h3 l).2 hw
       rcases hl with rfl| hl
       · rw[e1,e2];simp[St.at,aL]
       · exact absurd hl hw
   · simp only[Act.fi,List.mem_cons,not_or] at hl
     obtain⟨e1,e2⟩:=(h3 l).2 hl.2
     rw[e1,e2]
     cases l with
     | t n=>simp[St.at]
     | o n=>
       have hn:n≠r:=fun e=>hl.1 (by rw[e])
       simp[St.at,bu _ _ hn]
 | .call f as k,σ,τ,σ',v,h,hr=>by
   simp only[Act.run] at h
   split at h
   · rename_i res jY
     obtain⟨τ',h1,h2,h3⟩:=nu (k res) h (fun l hl=>hr l (by simp[Act.fi,jY,hl]))
     exact⟨τ',by simp only[Act.run,jY];exact h1,by simp only[Act.fi,jY,h2],by simpa [Act.fi,jY] using h3⟩
   · simp at h
theorem Md (σ:St) (dst:Option Nat) (v:V) (l:Loc): (σ.put dst v).at l=if dst.any (fun d=>l= .t d) then .v v else σ.at l:=by
 cases dst with
 | none=>simp[St.put]
 | some d=>
   cases l with
   | t n=>
     simp only[St.put,St.at,eI,Option.any_some,Loc.t.injEq]
     by_cases h:n=d<;>simp[h]
   | o n=>simp[St.put,St.at]
theorem wU {E:Env} {C:bO} {o:cF} {σ τ σ':St} (h:fU E C o σ=some σ') (hr: ∀l ∈ (dH E C o σ).reads,σ.at l=τ.at l):
   ∃τ',fU E C o τ=some τ'∧ ∀l,(l ∈ (dH E C o σ).writes→τ'.at l=σ'.at l)∧(l ∉ (dH E C o σ).writes→τ'.at l=τ.at l∧σ'.at l=σ.at l):=by
 simp only[fU] at h
 split at h
 · rename_i v σ1 Ar
   injection h with h
   subst h
   obtain⟨τ1,h1,h2,h3⟩:=nu (eM E o) Ar hr
   refine⟨τ1.put o.dst v,by simp only[fU,h1],fun l=> ?_⟩
   rw[Md,Md]
   have hw: (dH E C o σ).writes=(match o.dst with| some d=> [Loc.t d] | none=> [])++((eM E o).fi C σ).writes:=rfl
   rw[hw]
   cases hd:o.dst with
   | none=>simpa using h3 l
   | some d=>
     by_cases hl:l= .t d
     · subst hl;simp
     · refine⟨fun hm=> ?_,fun hm=> ?_⟩
       · simp[hl] at hm
         simp[hl]
         exact(h3 l).1 hm
       · simp[hl] at hm
         simp[hl]
         exact(h3 l).2 hm
 · simp at h
structure Trace (E:Env) (C:bO) (as:List cF) (S:Nat→St) (F:Nat→fK) (W:Nat→List Nat):Prop where
 step: ∀ (i:Nat) ao,as[i]? =some ao→fU E C ao (S i)=some (S (i+1))∧F i=dH E C ao (S i)∧W i=ao.pre++ao.pre.flatMap W∧(∀p ∈ ao.pre,p<i)∧
  ∀j,j<i→j ∈ W i∨(F j).oH (F i)=false
theorem EC {cL:List fK} {wait:List Nat} {f:fK}: ∀ {k:Nat},fits cL wait f k=true→ ∀j,j<k→j ∈ wait∨(cL.getD j ⟨[],[]⟩).oH f=false
 | 0,_,j,hj=>by omega
 | k+1,h,j,hj=>by
   simp only[fits,Bool.and_eq_true,Bool.or_eq_true,Bool.not_eq_true'] at h
   by_cases e:j=k
   · subst e
     rcases h.1 with h1| h1
     · exact .inl (by simpa using h1)
     · exact .inr h1
   · exact EC h.2 j (by omega)
theorem qb {α β:Type} {f g:α→List β}: ∀ {l:List α},(∀x ∈ l,f x=g x)→l.flatMap f=l.flatMap g
 | [],_=>rfl
 | x::l,h=>by
   simp only[List.flatMap_cons]
   rw[h x (by simp),qb fun y hy=>h y (by simp[hy])]
theorem wV {  E:Env} {C:bO}: ∀ (l:List cF) (cL:List fK) (before:List (List Nat)) (σ σ':St),cL.length=before.length→eV E C l cL before σ=some σ'→
   ∃ (S:Nat→St) (F:Nat→fK) (W:Nat→List Nat),S cL.length=σ∧S (cL.length+l.length)=σ'∧(∀k,k<cL.length→F k=cL.getD k ⟨[],[]⟩∧W k=before.getD k [])∧
     ∀ (i:Nat) ao,l[i]? =some ao→fU E C ao (S (cL.length+i))=some (S (cL.length+i+1))∧F (cL.length+i)=dH E C ao (S (cL.length+i))∧
       W (cL.length+i)=ao.pre++ao.pre.flatMap W∧(∀p ∈ ao.pre,p<cL.length+i)∧ ∀j,j<cL.length+i→j ∈ W (cL.length+i)∨(F j).oH (F (cL.length+i))=false
 | [],cL,before,σ,σ',hl,h=>by
   simp only[eV,Option.some.injEq] at h
   subst h
   exact⟨fun _=>σ,fun k=>cL.getD k ⟨[],[]⟩,fun k=>before.getD k [],rfl,rfl,fun k _=> ⟨rfl,rfl⟩,fun i ao hi=>by simp at hi⟩
 | o::l,cL,before,σ,σ',hl,h=>by
   simp only[eV] at h
   split at h
   · rename_i hf
     simp only[Bool.and_eq_true,List.all_eq_true,decide_eq_true_eq] at hf
     split at h
     · rename_i σ1 h1
       obtain⟨S,F,W,s1,s2,s3,s4⟩:=wV l (cL++[dH E C o σ]) (before++[closure before o.pre]) σ1 σ' (by simp[hl]) h
       simp only[List.length_append,List.length_singleton] at s1 s2 s3 s4
       let S':Nat→St:=fun k=>if k=cL.length then σ else S k
       have e1:S' (cL.length+1)=σ1:=by simp[S',s1]
       have e2: ∀k,cL.length<k→S' k=S k:=fun k hk=>by simp[S'];intro e;omega
       have YL:F cL.length=dH E C o σ:=by
         have:=(s3 cL.length (by omega)).1
         simpa using this
       have hWk:W cL.length=closure before o.pre:=by
         have:=(s3 cL.length (by omega)).2
         rw[hl] at this
         simpa [hl] using this
       have aci: ∀k,k<cL.length→W k=before.getD k []:=fun k hk=>by
         have:=(s3 k (by omega)).2
         rw[this]
         simp[List.getElem?_append_left (show k<before.length by omega)]
       have acj: ∀k,k<cL.length→F k=cL.getD k ⟨[],[]⟩:=fun k hk=>by
         have:=(s3 k (by omega)).1
         rw[this]
         simp[List.getElem?_append_left hk]
       refine⟨S',F,W,by simp[S'],?_,fun k hk=> ⟨acj k hk,aci k hk⟩,fun i ao hi=> ?_⟩
       · rw[e2 _ (by simp)]
         rw[←s2];congr 1;simp;omega
       · cases i with
         | zero=>
           simp at hi
           subst hi
           simp only[Nat.add_zero]
           have hS:S' cL.length=σ:=by simp[S']
           rw[hS,e1]
           refine⟨h1,YL,?_,hf.2,fun j hj=> ?_⟩
           · rw[hWk,closure]
             congr 1
             apply qb
             intro p hp
             exact(aci p (hf.2 p hp)).symm
           · rw[YL,hWk,acj j hj]
             exact EC hf.1 j hj
         | succ i=>
           have:=s4 i ao (by simpa using hi)
           have ea:cL.length+1+i=cL.length+(i+1):=by omega
           rw[ea] at this
           rw[e2 _ (by omega),e2 _ (by omega)]
           exact this
     · simp at h
   · simp at h
def oh (S:Nat→St) (F:Nat→fK) (D:Nat→Bool) (l:Loc):Nat→Cell
 | 0=> (S 0).at l
 | i+1=>if D i=true∧l ∈ (F i).writes then(S (i+1)).at l else oh S F D l i
theorem sI {S:Nat→St} {F:Nat→fK} {D D':Nat→Bool} {l:Loc}: ∀ {n:Nat},(∀i,i<n→l ∈ (F i).writes→D i=D' i)→oh S F D l n=oh S F D' l n
 | 0,_=>rfl
 | n+1,h=>by
   simp only[oh]
   rw[sI fun i hi=>h i (by omega)]
   by_cases hl:l ∈ (F n).writes
   · rw[h n (by omega) hl]
   · simp[hl]
theorem qW {  S:Nat→St} {F:Nat→fK} {D:Nat→Bool} {l:Loc} {m:Nat}: ∀ {n:Nat},m≤n→(∀i,m≤i→i<n→l ∈ (F i).writes→D i=false)→oh S F D l n=oh S F D l m
 | 0,h,_=>by have:m=0:=by omega
             subst this;rfl
 | n+1,h,hh=>by
   by_cases e:m=n+1
   · subst e;rfl
   · simp only[oh]
     rw[if_neg (by rintro⟨h1,h2⟩;have:=hh n (by omega) (by omega) h2;simp[this] at h1)]
     exact qW (by omega) fun i h1 h2=>hh i h1 (by omega)
theorem zz {E:Env} {C:bO} {as:List cF} {S:Nat→St} {F:Nat→fK} {W:Nat→List Nat} (tr:Trace E C as S F W) {D:Nat→Bool} {l:Loc}:
   ∀ {n:Nat},n≤as.length→(∀i,i<n→D i=true)→oh S F D l n=(S n).at l
 | 0,_,_=>rfl
 | n+1,hn,hD=>by
   obtain⟨ao,JJ⟩: ∃ao,as[n]? =some ao:=⟨as[n],List.getElem?_eq_getElem (by omega)⟩
   obtain⟨h1,h2,_⟩:=tr.step n ao JJ
   simp only[oh,hD n (by omega),true_and]
   split
   · rfl
   · rename_i hl
     rw[zz tr (by omega) fun i hi=>hD i (by omega)]
     obtain⟨_,_,h3⟩:=wU h1 (τ:=S n) fun _ _=>rfl
     rw[h2] at hl
     exact((h3 l).2 hl).2.symm
theorem zA {a b:fK} {l:Loc} (h: (l ∈ a.writes∧l ∈ b.writes)∨(l ∈ a.writes∧l ∈ b.reads)∨(l ∈ a.reads∧l ∈ b.writes)):a.oH b=true:=by
 simp only[fK.oH,meets,Bool.or_eq_true,List.any_eq_true,List.contains_iff_mem]
 rcases h with⟨h1,h2⟩ | ⟨h1,h2⟩ | ⟨h1,h2⟩
 · exact .inl (.inl ⟨l,h1,h2⟩)
 · exact .inl (.inr ⟨l,h1,h2⟩)
 · exact .inr ⟨l,h1,h2⟩
structure qc (S:Nat→St) (F:Nat→fK) (W:Nat→List Nat) (m:Nat) (D:Nat→Bool) (τ:St):Prop where
 closed: ∀i,D i=true→ ∀p ∈ W i,D p=true
 state: ∀l,τ.at l=oh S F D l m
theorem As {E:Env} {C:bO} {as:List cF} {S:Nat→St} {F:Nat→fK} {W:Nat→List Nat} (tr:Trace E C as S F W) {D:Nat→Bool} {τ:St} (hA:qc S F W as.length D τ)
   {j:Nat} {ao:cF} (hj:as[j]? =some ao) (hD:D j=false) (Al: ∀p ∈ ao.pre,D p=true):
   ∃τ',fU E C ao τ=some τ'∧qc S F W as.length (fun i=>i==j || D i) τ':=by
 obtain⟨h1,h2,h3,h4,h5⟩:=tr.step j ao hj
 have Db:j<as.length:=(List.getElem?_eq_some_iff.1 hj).1
 have hW: ∀p ∈ W j,D p=true:=by
   rw[h3]
   intro p hp
   simp only[List.mem_append,List.mem_flatMap] at hp
   rcases hp with hp| ⟨q,hq,hp⟩
   · exact Al p hp
   · exact hA.closed q (Al q hq) p hp
 have key: ∀i,i≠j→i<as.length→(F i).oH (F j)=true∨(F j).oH (F i)=true→(D i=true↔i<j):=by
   intro i cu hi hc
   rcases Nat.lt_or_ge i j with bY| ve
   · refine⟨fun _=>bY,fun _=> ?_⟩
     rcases h5 i bY with h| h
     · exact hW i h
     · rcases hc with hc| hc
       · rw[h] at hc;cases hc
       · exfalso
         have: (F i).oH (F j)=true:=by
          simp only[fK.oH,Bool.or_eq_true,meets,List.any_eq_true,List.contains_iff_mem] at hc ⊢
          rcases hc with(⟨l,a,b⟩ | ⟨l,a,b⟩) | ⟨l,a,b⟩
          · exact .inl (.inl ⟨l,b,a⟩)
          · exact .inr ⟨l,b,a⟩
          · exact .inl (.inr ⟨l,b,a⟩)
         rw[h] at this;cases this
   · have hgt:j<i:=by omega
     refine⟨fun YM=> ?_,fun h=>by omega⟩
     obtain⟨ao',afW⟩: ∃ao',as[i]? =some ao':=⟨as[i],List.getElem?_eq_getElem hi⟩
     obtain⟨_,_,_,_,g5⟩:=tr.step i ao' afW
     rcases g5 j hgt with h| h
     · have:=hA.closed i YM j h
       rw[hD] at this;cases this
     · exfalso
       rcases hc with hc| hc
       · have: (F j).oH (F i)=true:=by
          simp only[fK.oH,Bool.or_eq_true,meets,List.any_eq_true,List.contains_iff_mem] at hc ⊢
          rcases hc with(⟨l,a,b⟩ | ⟨l,a,b⟩) | ⟨l,a,b⟩
          · exact .inl (.inl ⟨l,b,a⟩)
          · exact .inr ⟨l,b,a⟩
          · exact .inl (.inr ⟨l,b,a⟩)
         rw[h] at this;cases this
       · rw[h] at hc;cases hc
 have tM: ∀l ∈ (F j).reads,(S j).at l=τ.at l:=by
   intro l hl
   rw[hA.state l]
   have e1:oh S F D l as.length=oh S F D l j:=qW (by omega) fun i xr gv hw=>by
     by_cases e:i=j
     · subst e;exact hD
     · have:=key i e gv (.inl (zA (.inr (.inl ⟨hw,hl⟩))))
       cases YM:D i with
       | false=>rfl
       | true=>have:=this.1 YM;omega
   have e2:oh S F D l j=oh S F (fun i=>decide (i<j)) l j:=sI fun i hi hw=>by
     have:=(key i (by omega) (by omega) (.inl (zA (.inr (.inl ⟨hw,hl⟩))))).2 hi
     simp[this,hi]
   rw[e1,e2]
   exact(zz tr (by omega) fun i hi=>by simp[hi]).symm
 rw[h2] at tM
 obtain⟨τ',k1,k2⟩:=wU h1 tM
 rw[←h2] at k2
 refine⟨τ',k1,fun i hi p hp=> ?_,fun l=> ?_⟩
 · simp only[Bool.or_eq_true,beq_iff_eq] at hi ⊢
   rcases hi with rfl| hi
   · exact .inr (hW p hp)
   · exact .inr (hA.closed i hi p hp)
 · by_cases hl:l ∈ (F j).writes
   · rw[(k2 l).1 hl]
     have e1:oh S F (fun i=>i==j || D i) l as.length=oh S F (fun i=>i==j || D i) l (j+1):=qW (by omega) fun i xr gv hw=>by
       have cu:i≠j:=by omega
       have:=key i cu gv (.inl (zA (.inl ⟨hw,hl⟩)))
       cases YM:D i with
       | false=>simp[cu,YM]
       | true=>have:=this.1 YM;omega
     rw[e1]
     simp[oh,hl]
   · rw[((k2 l).2 hl).1,hA.state l]
     exact sI fun i _ hw=>by
       by_cases e:i=j
       · subst e;exact absurd hw hl
       · simp[e]
theorem CI {E:Env} {C:bO} {as:List cF} {S:Nat→St} {F:Nat→fK} {W:Nat→List Nat} (tr:Trace E C as S F W) {D:Nat→Bool} {τ:St} (hA:qc S F W as.length D τ)
  (en: ∀i,i<as.length→D i=true):τ=S as.length:=
 St.ext' fun l=>by rw[hA.state l,zz tr (Nat.le_refl _) en]
section
variable {X:Ctx} {E:Env} {C:bO} {μ0:Mu} {n:Fp}
theorem Me {σ:St} {a:Go.Act} {w:World} (h:jo X μ0 n σ a w):jo X μ0 n σ a {w with drawn:=w.drawn+1}:=by
 obtain⟨h1,h2,φ,hr,hle⟩:=h
 obtain⟨led,hod⟩:=Le.drew (X:=X) (μ:=⟨w,φ,σ.O⟩) hr.bB
 exact⟨h1,h2,φ,⟨fun t=>au.mono led (hr.tmps t),hod⟩,hle.trans led⟩
theorem JK ( H:oO X E C) {h:Hints} (iO:gV h μ0) {ops:Array Oper} {as:List cF} (hn:h.n=n.1) (aY:iA X h ops ops.toList=some as) {S:Nat→St} {F:Nat→fK} {W:Nat→List Nat}
   (tr:Trace E C as S F W) {Q:Go.Exit→Go.Act→World→Prop} (hQ: ∀a w,jo X μ0 n (S as.length) a w→Q .normal a w):
   ∀ (fuel:Nat) (cC:Array Bool) (τ:St) (a:Go.Act) (w:World),cC.size=ops.size→((List.range ops.size).filter fun i=> !cC.getD i true).length≤fuel→
     qc S F W as.length (fun i=>cC.getD i false) τ→jo X μ0 n τ a w→wpAnyIn (Fr n.ro) 0 X.P .any ops Q fuel cC a w:=by
 obtain⟨hlen,oe⟩:=mv aY
 have Be:as.length=ops.size:=by simpa using hlen
 have ready: ∀ (cC:Array Bool) (j:Nat),j ∈ Region.ready .any ops cC→ ∃o ao,ops[j]? =some o∧as[j]? =some ao∧pQ X h ops o=some ao∧cC.getD j true=false∧ ∀p ∈ ao.pre,cC.getD p false=true:=by
   intro cC j hj
   simp only[Region.ready,List.mem_filter,List.mem_range,Bool.and_eq_true,Bool.not_eq_true'] at hj
   obtain⟨bY,hl,hr⟩:=hj
   have ho:ops[j]? =some ops[j]:=by simp[bY]
   obtain⟨ao,JJ,ns⟩:=oe j ops[j] (by simp[bY])
   refine⟨_,ao,ho,JJ,ns,hl,fun p hp=> ?_⟩
   rw[ho] at hr
   simp only[Option.map_some,Option.getD_some] at hr
   have Al:ao.pre=(ops[j].after.toList.filter (Region.binds .any)).map (·.on):=by
     unfold pQ at ns
     simp only at ns
     split at ns
     · injection ns with ns;rw[←ns]
     · simp at ns
   rw[Al] at hp
   simp only[List.mem_map,List.mem_filter] at hp
   obtain⟨e,⟨Xr,W7⟩,rfl⟩:=hp
   rw[Array.all_eq_true'] at hr
   have:=hr e (by simpa using Xr)
   simpa [W7] using this
 have done: ∀ (cC:Array Bool),Region.ready .any ops cC=[]→cC.size=ops.size→ ∀i,i<as.length→cC.getD i false=true:=by
   intro cC Gt cJ i
   induction i using Nat.strongRecOn with
   | _ i ih=>
     intro hi
     cases hl:cC.getD i false with
     | true=>rfl
     | false=>
       exfalso
       have bY:i<ops.size:=by omega
       have Ek:i<cC.size:=by omega
       have hlT:cC.getD i true=false:=by simpa [Ek] using hl
       obtain⟨ao,JJ,ns⟩:=oe i ops[i] (by simp[bY])
       obtain⟨_,_,_,hpl,_⟩:=tr.step i ao JJ
       have Al:ao.pre=(ops[i].after.toList.filter (Region.binds .any)).map (·.on):=by
         unfold pQ at ns
         simp only at ns
         split at ns
         · injection ns with ns;rw[←ns]
         · simp at ns
       have:i ∈ Region.ready .any ops cC:=by
         simp only[Region.ready,List.mem_filter,List.mem_range,Bool.and_eq_true,Bool.not_eq_true']
         refine⟨bY,hlT,?_⟩
         have ho:ops[i]? =some ops[i]:=by simp[bY]
         rw[ho]
         simp only[Option.map_some,Option.getD_some]
         rw[Array.all_eq_true']
         intro e he
         cases hb:Region.binds .any e with
         | false=>simp
         | true=>
           have hm:e.on ∈ ao.pre:=by
            rw[Al];simp only[List.mem_map,List.mem_filter]
            exact⟨e,⟨by simpa using he,hb⟩,rfl⟩
           have h1:=hpl _ hm
           simpa using ih e.on h1 (by omega)
       rw[Gt] at this
       cases this
 have finish: ∀ (cC:Array Bool) (τ:St) (a:Go.Act) (w:World),cC.size=ops.size→qc S F W as.length (fun i=>cC.getD i false) τ→jo X μ0 n τ a w→Region.ready .any ops cC=[]→Q .normal a w:=by
   intro cC τ a w cJ hA hs Gt
   have:=CI tr hA (done cC Gt cJ)
   exact hQ a w (this ▸ hs)
 intro fuel
 induction fuel with
 | zero=>
   intro cC τ a w cJ hf hA hs
   have Gt:Region.ready .any ops cC=[]:=by
     simp only[Nat.le_zero,List.length_eq_zero_iff,List.filter_eq_nil_iff,List.mem_range] at hf
     simp only[Region.ready,List.filter_eq_nil_iff,List.mem_range]
     intro i hi
     have:=hf i hi
     simp at this
     simp[this]
   exact⟨Gt,finish cC τ a w cJ hA hs Gt⟩
 | succ fuel ih=>
   intro cC τ a w cJ hf hA hs
   refine⟨finish cC τ a w cJ hA hs,fun j hj=> ?_⟩
   obtain⟨o,ao,ho,JJ,ns,hl,Al⟩:=ready cC j hj
   have Db:j<ops.size:=by rw[←Be];exact(List.getElem?_eq_some_iff.1 JJ).1
   have hlF:cC.getD j false=false:=by
     have h1:j<cC.size:=by omega
     simpa [h1] using hl
   obtain⟨τ',k1,k2⟩:=As tr hA JJ hlF Al
   refine sH H iO ho ns hn hs k1 fun a' w' kl=>ih _ τ' a' w' (by simpa using cJ) ?_ ?_ kl
   ·
     have W5: ∀ (L:List Nat),L.Nodup→j ∈ L→(L.filter fun i=> !(cC.setIfInBounds j true).getD i true).length+1≤(L.filter fun i=> !cC.getD i true).length:=by
       intro L
       induction L with
       | nil=>intro _ h;cases h
       | cons x L ihL=>
         intro NI hm
         have cu: ∀i,i≠j→(cC.setIfInBounds j true).getD i true=cC.getD i true:=fun i hi=>by
           simp[Array.getElem?_setIfInBounds_ne (fun e=>hi e.symm)]
         have hjt: (cC.setIfInBounds j true).getD j true=true:=by
           have h1:j<cC.size:=by omega
           simp[h1]
         by_cases e:x=j
         · subst e
           have wH: (L.filter fun i=> !(cC.setIfInBounds x true).getD i true)=L.filter fun i=> !cC.getD i true:=by
            apply List.filter_congr
            intro i hi
            have:i≠x:=fun e=>by rw[List.nodup_cons] at NI;exact NI.1 (e ▸ hi)
            rw[cu i this]
           simp only[List.filter_cons,hjt,hl,wH]
           simp
         · have PT:j ∈ L:=by
            rcases List.mem_cons.1 hm with h1| h1
            · exact absurd h1.symm e
            · exact h1
           have:=ihL (List.nodup_cons.1 NI).2 PT
           simp only[List.filter_cons,cu x e]
           split
           · simp only[List.length_cons];omega
           · omega
     have:=W5 (List.range ops.size) List.nodup_range (by simp[Db])
     omega
   · have afX: (fun i=>i==j || cC.getD i false)=fun i=> (cC.setIfInBounds j true).getD i false:=by
       funext i
       have h1:j<cC.size:=by omega
       by_cases e:i=j
       · subst e;simp[h1]
       · simp[e,Array.getElem?_setIfInBounds_ne (fun e'=>e e'.symm)]
     rw[afX] at k2
     exact k2
theorem ED (H:oO X E C) {h:Hints} (iO:gV h μ0) (hm:X.P.follows .mixedOrders=true) {ops:Array Oper} {as:List cF} (hn:h.n=n.1) (aY:iA X h ops ops.toList=some as) {id:Nat}
   {σ σ':St} {a:Go.Act} {w:World} (hs:jo X μ0 n σ a w) (ag:eV E C as [] [] σ=some σ') {Q:Go.Exit→Go.Act→World→Prop} (hQ: ∀a' w',jo X μ0 n σ' a' w'→Q .normal a' w'):
   (Code.region id ops true).wpIn (Fr n.ro) 0 X.P Q a w:=by
 obtain⟨S,F,W,s1,s2,_,s4⟩:=wV as [] [] σ σ' rfl ag
 simp only[List.length_nil,Nat.zero_add] at s1 s2 s4
 have tr:Trace E C as S F W:=⟨fun i ao hi=>s4 i ao hi⟩
 refine wpIn_region_any hm ?_
 refine JK H iO hn aY tr (by rw[s2];exact hQ) ops.size _ σ _ _ (by simp) ?_ ?_ (Me hs)
 · exact Nat.le_trans (List.length_filter_le _ _) (by simp)
 · have Mf: ∀i,(Array.replicate ops.size false).getD i false=false:=fun i=>by
    simp only[Array.getD_eq_getD_getElem?,Array.getElem?_replicate];split<;>rfl
   refine⟨(fun i hi=>by rw[Mf i] at hi;cases hi),fun l=> ?_⟩
   rw[←s1]
   have:oh S F (fun i=> (Array.replicate ops.size false).getD i false) l as.length=oh S F (fun i=> (Array.replicate ops.size false).getD i false) l 0:=qW (Nat.zero_le _) fun i _ _ _=>Mf i
   rw[this];rfl
end
end Go.AM
namespace Go.AM
open Go Go.RowKit
theorem Mg {P:Program} {w:World} {ty:TypeId} {bi bm since:Nat} {seen:Array Nat} {es:Array MapEntry} (hi:w.heap[bi]? =some (.mapIter (some bm) since seen since)) (hb:w.heap[bm]? =some (.map es since)) (hold: ∀x ∈ es.toList,x.born<since):
   ((leftOf es seen).size=0∧(Instr.next (.pointer (some ⟨bi,0,none⟩)) false ty).run P w= .ok (.tuple #[.bool false]) w)∨
   ∃e ∈ (leftOf es seen).toList,∃d,(Instr.next (.pointer (some ⟨bi,0,none⟩)) false ty).run P w= .ok (.tuple #[.bool true,e.key,e.val]) {w with drawn:=w.drawn+d,heap:=w.heap.setIfInBounds bi (.mapIter (some bm) since (seen.push e.born) since)}:=by
 simp only[Instr.next,getObj,Sem.run_bind,Sem.run,hi,hb,Result.andThen,next_test_false seen es since since hold (Nat.le_refl _),Bool.false_eq_true,if_false]
 unfold leftOf
 have gm: ∀x ∈ (Array.filter (fun e=> !seen.contains e.born) es).toList,x.born<since:=fun x hx=>hold x (by simp at hx ⊢;exact hx.1)
 generalize Array.filter (fun e=> !seen.contains e.born) es=L at gm ⊢
 have e1:L.filter (fun x=>decide (x.born<since))=L:=Array.filter_eq_self.2 (fun x hx=>by simpa using gm x (by simpa using hx))
 have e2:L.filter (fun x=>decide (x.born≥since))= #[]:=by
   rw[Array.filter_eq_empty_iff]
   intro x hx
   have:=gm x (by simpa using hx)
   simp
   omega
 simp only[e1,e2,Array.append_empty]
 by_cases h0:L.size=0
 · left
   have:L= #[]:=Array.eq_empty_of_size_eq_zero h0
   subst this
   refine⟨rfl,?_⟩
   simp[choose,Sem.run,Question.forced]
 · right
   have cu:L.isEmpty=false:=by simp[Array.isEmpty,h0]
   simp only[cu,Bool.false_eq_true,if_false,Array.empty_append,Array.size_map]
   have dj: ∃ (j d:Nat),j<L.size∧(choose (Question.mapNext L.size)).run P w= .ok j {w with drawn:=w.drawn+d}:=by
    by_cases hf:L.size≤1
    · exact⟨0,0,by omega,by simp[choose,Sem.run,Question.forced,hf]⟩
    · exact⟨w.tape w.drawn (Question.mapNext L.size) % L.size,1,Nat.mod_lt _ (by omega),by
       simp only[choose,Sem.run,Question.forced,decide_eq_true_eq,hf,if_false,Question.cut]⟩
   obtain⟨j,d,hj,ag⟩:=dj
   refine⟨L[j],by simp,d,?_⟩
   have jd: ∀ (o':Go.Obj),(setObj bi o').run P {w with drawn:=w.drawn+d}= .ok () {w with drawn:=w.drawn+d,heap:=w.heap.setIfInBounds bi o'}:=fun o'=>by
    simp only[setObj,Sem.run,hi]
   simp only[ag,Array.getElem?_map,Array.getElem?_eq_getElem hj,Option.map_some,Sem.run_bind,jd,Result.andThen]
   rfl
theorem Mh {P:Program} {w:World} {ty:TypeId} {bi a b:Nat} {s:Array Nat} (hi:w.heap[bi]? =some (.mapIter none a s b)):
  (Instr.next (.pointer (some ⟨bi,0,none⟩)) false ty).run P w= .ok (.tuple #[.bool false]) w:=by
 simp only[Instr.next,getObj,Sem.run_bind,Sem.run,hi,Result.andThen]
 rfl
structure kA (X:Ctx) (μ:Mu) (w':World):Prop where
 cell: ∀a c,μ.w.cell? a=some c→w'.cell? a=some c
 map: ∀ (a:Nat) ents clock,μ.w.heap[a]? =some (.map ents clock)→w'.heap[a]? =some (.map ents clock)
 size:μ.w.heap.size≤w'.heap.size
section
variable {X:Ctx} {μ:Mu} {w':World}
theorem kA.row (h:kA X μ w') {b off sz:Nat} {vs:List Value} (hr:fb μ.w b off sz vs):fb w' b off sz vs:=
 fun i v hv=> ⟨(hr i v hv).1,fun j c hc=>h.cell _ _ ((hr i v hv).2 j c hc)⟩
mutual
theorem au.dc (h:kA X μ w'): ∀ {x:V} {v:Value},au X μ x v→au X ⟨w',μ.φ,μ.O⟩ x v
 | .bool _,_,k| .int ..,_,k| .float _,_,k| .str _,_,k| .nilp,_,k| .nilfn,_,k| .nili,_,k| .nils,_,k| .sl ..,_,k| .ptr ..,_,k| .mp ..,_,k| .it ..,_,k=>by simpa [au] using k
 | .any,_,_=>by simp[au]
 | .own ..,_,k| .msl ..,_,k| .mptr ..,_,k=>by simp[au] at k
 | .agg cs,_,k=>by
   simp only[au] at k ⊢
   obtain⟨h1,vs,rfl,h2⟩:=k
   exact⟨h1,vs,rfl,ak.dc h h2⟩
 | .tuple cs,_,k=>by
   simp only[au] at k ⊢
   obtain⟨vs,rfl,h2⟩:=k
   exact⟨vs,rfl,ak.dc h h2⟩
 | .bfn f cs,_,k=>by
   simp only[au] at k ⊢
   obtain⟨F,cv,rfl,h1,h2⟩:=k
   exact⟨F,cv,rfl,h1,ak.dc h h2⟩
 | .fn f cs,_,k=>by
   simp only[au] at k ⊢
   obtain⟨F,cv,rfl,h1,h2⟩:=k
   exact⟨F,cv,rfl,h1,ak.dc h h2⟩
 | .iface t x,_,k=>by
   simp only[au] at k ⊢
   obtain⟨F,y,rfl,h1,h2⟩:=k
   exact⟨F,y,rfl,h1,au.dc h h2⟩
 | .lit sz xs,_,k=>by
   simp only[au] at k ⊢
   obtain⟨h0,lY,a,cap,vs,rfl,h1,h2,h3⟩:=k
   refine⟨h0,lY,a,cap,vs,rfl,h1,ak.dc h h2,h3.imp id ?_⟩
   rintro⟨b,o,rfl,hb,hs,hr⟩
   exact⟨b,o,rfl,hb,Nat.lt_of_lt_of_le hs h.size,h.row hr⟩
 | .litk sz xs,_,k=>by
   simp only[au] at k ⊢
   obtain⟨h0,lY,a,cap,vs,rfl,h1,h2,h3⟩:=k
   refine⟨h0,lY,a,cap,vs,rfl,h1,ak.dc h h2,h3.imp id ?_⟩
   rintro⟨rfl,hb,hs,hr⟩
   exact⟨rfl,hb,Nat.lt_of_lt_of_le hs h.size,h.row hr⟩
 | .eptr e off,_,k=>by
   simp only[au] at k ⊢
   obtain⟨h0,lY,b,o,sz,x,rfl,hb,hs,h1,hr⟩:=k
   exact⟨h0,lY,b,o,sz,x,rfl,hb,Nat.lt_of_lt_of_le hs h.size,au.dc h h1,h.row hr⟩
 | .epk i sz e off,_,k=>by
   simp only[au] at k ⊢
   obtain⟨h0,lY,x,rfl,hb,hs,h1,hr⟩:=k
   exact⟨h0,lY,x,rfl,hb,Nat.lt_of_lt_of_le hs h.size,au.dc h h1,h.row hr⟩
 | .mlit es,_,k=>by
   simp only[au] at k ⊢
   obtain⟨h0,k⟩:=k
   refine⟨h0,k.imp id ?_⟩
   rintro⟨a,ents,clock,rfl,hb,hs,h1,h2⟩
   exact⟨a,ents,clock,rfl,hb,Nat.lt_of_lt_of_le hs h.size,⟨h.map _ _ _ h1.1,h1.2⟩,ak.dc h h2⟩
theorem ak.dc (h:kA X μ w'): ∀ {xs:List V} {vs:List Value},ak X μ xs vs→ak X ⟨w',μ.φ,μ.O⟩ xs vs
 | [],[],_=>by simp[ak]
 | [],_::_,k=>by simp[ak] at k
 | _::_,[],k=>by simp[ak] at k
 | x::xs,v::vs,k=>by
   simp only[ak] at k ⊢
   exact⟨au.dc h k.1,ak.dc h k.2⟩
end
theorem bQ.dc (h:kA X μ w') (ho:bQ X μ) (hb: ∀r,(μ.O r).es.isSome=true→(μ.φ r).cap≠0→w'.heap[(μ.φ r).dQ]? =μ.w.heap[(μ.φ r).dQ]?):bQ X ⟨w',μ.φ,μ.O⟩ where
 ok:=fun r es bX=>by
  have Ct: (μ.O r).es.isSome=true:=by rw[bX];rfl
  rcases ho.ok r es bX with⟨h1,h2,h3,h4⟩ | ⟨h1,h2,ob,h3,h4⟩
  · refine .inl ⟨h1,h2,h3,?_⟩
    rcases h4 with h4| ⟨c,T,vs,k1,k2,k3,k4⟩
    · exact .inl h4
    · by_cases hc: (μ.φ r).cap=0
      · exact .inl hc
      · exact .inr ⟨c,T,vs,by show w'.heap[(μ.φ r).dQ]? =_;rw[hb r Ct hc];exact k1,k2,ak.dc h k3,h.row k4⟩
  · refine .inr ⟨h1,h2,ob,by show w'.heap[(μ.φ r).dQ]? =_;rw[hb r Ct h2];exact h3,?_⟩
    rcases h4 with⟨ents,clock,k1,k2,k3⟩ | k| ⟨mo,since,sW,k1,k2,k3⟩
    · exact .inl ⟨ents,clock,k1,ak.dc h k2,k3⟩
    · exact .inr (.inl k)
    · refine .inr (.inr ⟨mo,since,sW,k1,k2,k3.imp id ?_⟩)
      rintro⟨m,ents,l1,l2,l3,l4,l5,l6⟩
      exact⟨m,ents,l1,l2,Nat.lt_of_lt_of_le l3 h.size,h.map _ _ _ l4,l5,ak.dc h l6⟩
 inj:=ho.inj
 wL:=ho.wL
 blt:=fun b wM=>Nat.lt_of_lt_of_le (ho.blt b wM) h.size
end
theorem Bk {X:Ctx} {w:World} {φ:Nat→Row} {O O':Nat→Obj} (ho:bQ X ⟨w,φ,O⟩) (h: ∀r,O' r=O r∨(O' r).es=none∧((O r).gen< (O' r).gen∨(O' r).gen=(O r).gen∧(O' r).sz=(O r).sz)):
   Le ⟨w,φ,O⟩ ⟨w,φ,O'⟩∧bQ X ⟨w,φ,O'⟩:=by
 have RR: ∀r es,(O' r).es=some es→O' r=O r:=fun r es bX=>by
   rcases h r with h| ⟨h,_⟩
   · exact h
   · rw[h] at bX;simp at bX
 have Ct: ∀r,(O' r).es.isSome=true→O' r=O r:=fun r hr=>by
   obtain⟨es,bX⟩:=Option.isSome_iff_exists.1 hr
   exact RR r es bX
 have gS: ∀b,(Mu.mk w φ O').own b→(Mu.mk w φ O).own b:=by
   rintro b ⟨r,h1,h2,h3,h4⟩
   have e:=Ct r h1
   have Dp: (O' r).es.isSome=true:=h1
   have Jt: (O' r).fz=false:=h2
   rw[e] at Dp Jt
   exact⟨r,Dp,Jt,h3,h4⟩
 have le:Le ⟨w,φ,O⟩ ⟨w,φ,O'⟩:=by
   refine⟨Nat.le_refl _,fun b _ hn=> ⟨rfl,fun h'=>hn (gS b h')⟩,fun r=> ?_,fun r e=> ?_,rfl,rfl,rfl,fun _ _=>rfl⟩
   · show (O r).gen≤(O' r).gen
     rcases h r with h| ⟨_,h| ⟨h,_⟩⟩
     · rw[h];exact Nat.le_refl _
     · omega
     · omega
   · have e': (O' r).gen=(O r).gen:=e
     refine⟨rfl,?_⟩
     show (O' r).sz=(O r).sz
     rcases h r with h| ⟨_,h| ⟨_,h⟩⟩
     · rw[h]
     · omega
     · exact h
 refine⟨le,fun r es bX=> ?_,fun r r' cu h1 h2 h3 h4=> ?_,fun r h1 h2=> ?_,ho.blt⟩
 · have e:=RR r es bX
   have gU: (O r).es=some es:=by rw[←e];exact bX
   exact gF.dq (r:=r) (r':=r) le (ho.ok r es gU) (by show (O' r).sz=(O r).sz;rw[e]) rfl fun _=>rfl
 · have Dp: (O' r).es.isSome=true:=h1
   have Jt: (O' r').es.isSome=true:=h2
   rw[Ct r Dp] at Dp
   rw[Ct r' Jt] at Jt
   exact ho.inj r r' cu Dp Jt h3 h4
 · have Dp: (O' r).es.isSome=true:=h1
   rw[Ct r Dp] at Dp
   exact ho.wL r Dp h2
def jx (Z:List (V×MapEntry)) (seen:Array Nat):List (V×MapEntry):=Z.filter fun z=> !seen.contains z.2.born
theorem Bl {Z:List (V×MapEntry)} {ents:Array MapEntry} (h:Z.map (·.2)=ents.toList) (seen:Array Nat): (jx Z seen).map (·.2)=(leftOf ents seen).toList:=by
 unfold jx leftOf
 rw[Array.toList_filter,←h,List.filter_map]
 rfl
theorem wW {α:Type} (f:α→Nat): ∀ {l:List α} {z:α},z ∈ l→(l.map f).Nodup→l.Perm (z::l.filter fun x=> !(f x==f z))
 | a::l,z,hz,hn=>by
   rw[List.map_cons,List.nodup_cons] at hn
   rcases List.mem_cons.1 hz with rfl| hz
   · have:l.filter (fun x=> !(f x==f z))=l:=List.filter_eq_self.2 fun x hx=>by
      have:f x≠f z:=fun e=>hn.1 (e ▸ List.mem_map.2 ⟨x,hx,rfl⟩)
      simpa using this
     simp[this]
   · have cu: ¬ (f a=f z):=fun e=>hn.1 (e ▸ List.mem_map.2 ⟨z,hz,rfl⟩)
     have ih:=wW f hz hn.2
     have: (a::l).filter (fun x=> !(f x==f z))=a::l.filter (fun x=> !(f x==f z)):=by
      rw[List.filter_cons_of_pos (by simpa using cu)]
     rw[this]
     exact(ih.cons a).trans (.swap z a _)
theorem Gu {Z:List (V×MapEntry)} {seen:Array Nat} (hn: (Z.map fun z=>z.2.born).Nodup) {z:V×MapEntry} (hz:z ∈ jx Z seen): (jx Z seen).Perm (z::jx Z (seen.push z.2.born)):=by
 have h1: ((jx Z seen).map fun z=>z.2.born).Nodup:=hn.sublist (List.filter_sublist.map _)
 have h2:=wW (fun z:V×MapEntry=>z.2.born) hz h1
 have h3: (jx Z seen).filter (fun x=> !(x.2.born==z.2.born))=jx Z (seen.push z.2.born):=by
  unfold jx
  rw[List.filter_filter]
  refine List.filter_congr fun x _=> ?_
  rw[contains_push]
  cases seen.contains x.2.born<;>cases (x.2.born==z.2.born) <;>rfl
 rw[h3] at h2
 exact h2
theorem EE {X:Ctx} {μ:Mu}: ∀ {es:List V} {l:List MapEntry},ak X μ es (l.map fun e=>Value.tuple #[e.key,e.val])→ ∃Z:List (V×MapEntry),Z.map (·.1)=es∧Z.map (·.2)=l∧ ∀z ∈ Z,au X μ z.1 (.tuple #[z.2.key,z.2.val])
 | [],[],_=> ⟨[],rfl,rfl,by simp⟩
 | [],_::_,h=>by simp[ak] at h
 | _::_,[],h=>by simp[ak] at h
 | x::es,e::l,h=>by
   simp only[List.map_cons,ak] at h
   obtain⟨Z,h1,h2,h3⟩:=EE h.2
   refine⟨(x,e)::Z,by simp[h1],by simp[h2],fun z hz=> ?_⟩
   rcases List.mem_cons.1 hz with rfl| hz
   · exact h.1
   · exact h3 z hz
section
variable {X:Ctx} {E:Env} {n:Fp}
def CJ (X:Ctx) (n:Fp) (ops:Array Oper) (y:Code) (rec:aB→St→Option (bF×St)) (tb:aB):Prop:=
 ∀ (σ σ':St) (e:bF) (μ0:Mu) (a:Go.Act) (w:World) (Q K:Go.Exit→Go.Act→World→Prop),rec tb σ=some (e,σ')→jo X μ0 n σ a w→(∀a' w',jo X μ0 n σ' a' w'→Q (match e with| .normal=> .normal| .exit id=> .exit id| .ret=> .ret) a' w')→
  (∀a' w',y.wpIn (Fr n.ro) 0 X.P Q a' w'→K .normal a' w')→wpOpsIn (Fr n.ro) 0 X.P ops K (List.range' 1 (ops.size - 1)) a w
def Gv (X:Ctx) (n:Fp) (ops:Array Oper) (z:Code) (b1:Nat) (rec:aB→St→Option (bF×St)) (tm:aB):Prop:=
 ∀ (σ σ':St) (μ0:Mu) (a:Go.Act) (w:World) (Q:Go.Exit→Go.Act→World→Prop),rec tm σ=some (.normal,σ')→jo X μ0 n σ a w→(∀a' w',jo X μ0 n σ' a' w'→Q .normal a' w')→
  wpOpsIn (Fr n.ro) 0 X.P ops (Exit.then (z.wpIn (Fr n.ro) 0 X.P (Exit.inBlock b1 Q)) (Exit.inBlock b1 Q)) (List.range' 1 (ops.size - 1)) a w
abbrev qd (i0:Nat) (ops:Array Oper) (y:Code) (b1 i5:Nat) (jg:Array Oper) (z5:Code):Code:= .seq (.region i0 ops false) (.seq y (.block b1 (.seq (.region i5 jg false) z5)))
theorem JL {P:Program} {w:World} {bi bm since:Nat} {seen:Array Nat} {ents:Array MapEntry} {e:MapEntry} (hi:w.heap[bi]? =some (.mapIter (some bm) since (seen.push e.born) since)) (hb:w.heap[bm]? =some (.map ents since)) (he:e ∈ ents.toList) (hn: (ents.toList.map (·.born)).Nodup):
  (Instr.entry (.pointer (some ⟨bi,0,none⟩))).run P w= .ok (.tuple #[e.key,e.val]) w:=by
 have hf:ents.find? (·.born==e.born)=some e:=by
  rw[←Array.find?_toList]
  generalize ents.toList=l at he hn
  induction l with
  | nil=>simp at he
  | cons x l ih=>
    rw[List.map_cons,List.nodup_cons] at hn
    rw[List.find?_cons]
    rcases List.mem_cons.1 he with rfl| he
    · simp
    · have cu: ¬ (x.born==e.born)=true:=by
       intro h
       exact hn.1 (List.mem_map.2 ⟨e,he,(by simpa using h:x.born=e.born).symm⟩)
      simp only[cu]
      exact ih he hn.2
 simp only[Instr.entry,getObj,Sem.run_bind,Sem.run,hi,hb,Result.andThen,Array.back?_push,bne_self_eq_false,Bool.false_eq_true,if_false,hf]
 rfl
structure CK (X:Ctx) (n:Fp) (μ0:Mu) (rec:aB→St→Option (bF×St)) (tl:aB) (Good:St→Prop) (a:Go.Act) (w:World):Prop where
 h: ∃σe σp,jo X μ0 n σe a w∧rec tl σe=some (.normal,σp)∧Good σp
variable {ops jg:Array Oper} {o1 o5:Oper} {y z5:Code} {it nx ne id b1 r g:Nat} {μ0:Mu} {rec:aB→St→Option (bF×St)} {tb tm tl:aB} {Good:St→Prop} {i0 i5:Nat}
theorem zB (h0:ops[0]? =some o1) (hd: ∀c,o1.op≠ .defer c) (hg:o1.guard=none) {a:Go.Act} {w w1:World} {v:Value} (kG: (execOp a.eval o1).run X.P w= .ok (.value v) w1) {Q:Go.Exit→Go.Act→World→Prop}
  (h:wpOpsIn (Fr n.ro) 0 X.P ops Q (List.range' 1 (ops.size - 1)) (a.put o1.dst v) w1): (Code.region i0 ops false).wpIn (Fr n.ro) 0 X.P Q a w:=by
 refine wpIn_region ?_
 have cJ:0 <ops.size:=(Array.getElem?_eq_some_iff.1 h0).1
 have hr:List.range ops.size=0::List.range' 1 (ops.size - 1):=by
  rw[List.range_eq_range']
  obtain⟨k,hk⟩: ∃k,ops.size=k+1:=⟨ops.size - 1,by omega⟩
  rw[hk,List.range'_succ]
  rfl
 rw[hr,wpOpsIn_cons]
 simp only[wpOpIn,h0]
 rw[if_pos (by simp[Region.wanted,hg])]
 refine CH hd ?_
 unfold Oper.wp
 rw[kG,Oper.upon_value]
 exact h
theorem Bm (dN:o1.op= .next (.tmp it) false) {a:Go.Act} {w w1:World} {v:Value} (ag: (Instr.next (a.eval (.tmp it)) false o1.type).run X.P w= .ok v w1): (execOp a.eval o1).run X.P w= .ok (.value v) w1:=by
 simp only[execOp,dN]
 exact cO ag
theorem Gw (dN:o5.op= .entry (.tmp it)) {a:Go.Act} {w w1:World} {v:Value} (ag: (Instr.entry (a.eval (.tmp it))).run X.P w= .ok v w1): (execOp a.eval o5).run X.P w= .ok (.value v) w1:=by
 simp only[execOp,dN]
 exact cO ag
theorem Bn {Q:Go.Exit→Go.Act→World→Prop} (hQ: ∀a w,CK X n μ0 rec tl Good a w→Q (.exit id) a w) (hB:CJ X n ops y rec tb) (h0:ops[0]? =some o1) (dN:o1.op= .next (.tmp it) false) (hd:o1.dst=some nx) (hg:o1.guard=none) (sJ:nx<n.1)
   {σ σp:St} {a:Go.Act} {w:World} (hs:jo X μ0 n σ a w) (ag: (Instr.next (a.eval (.tmp it)) false o1.type).run X.P w= .ok (.tuple #[.bool false]) w)
   (hk:runK rec it r g nx ne id tb tm tl [] σ=some σp) (tQ:Good σp) (m:Nat):
   Code.roundsIn (Fr n.ro) 0 X.P (qd i0 ops y b1 i5 jg z5) Q (m+1) a w:=by
 rw[roundsIn_succ]
 simp only[runK] at hk
 split at hk
 · split at hk
   · rename_i kj σe kH
     split at hk
     · rename_i hid
       subst hid
       split at hk
       · rename_i σ'' HS
         injection hk with hk;subst hk
         refine wpIn_seq (zB (X:=X) h0 (by rw[dN];simp) hg (Bm dN ag) ?_)
         obtain⟨jr,cJ,φ,hr,hle⟩:=hs
         have ub:jo X μ0 n (σ.put (some nx) (.tuple [.bool false])) (a.put o1.dst (.tuple #[.bool false])) w:=by
          rw[hd]
          exact⟨by rw[put_defers];exact jr,by rw[nr];exact cJ,φ,qU hr (Le.refl _) hr.bB (by simp only[au];exact⟨_,rfl,by simp[ak,au]⟩) (by simp;omega) σ.O,hle⟩
         exact hB _ _ _ _ _ _ (Exit.then (Code.wpIn (Fr n.ro) 0 X.P (.block b1 (.seq (.region i5 jg false) z5)) (Exit.then (Code.roundsIn (Fr n.ro) 0 X.P (qd i0 ops y b1 i5 jg z5) Q m) Q)) (Exit.then (Code.roundsIn (Fr n.ro) 0 X.P (qd i0 ops y b1 i5 jg z5) Q m) Q)) _ kH ub (fun a' w' kl=>hQ _ _ ⟨σe,σ'',kl,HS,tQ⟩) fun a' w' h=>wpIn_seq h
       · simp at hk
     · simp at hk
   · simp at hk
 · simp at hk
theorem zC {σ:St} (h:xp it r g σ=true):σ.T it= .it r g∧(σ.O r).gen=g:=by
 unfold xp at h
 split at h
 · rename_i r' g' e
   simp only[Bool.and_eq_true,Nat.beq_eq] at h
   obtain⟨rfl,rfl,h⟩:=h
   exact⟨e,h⟩
 · simp at h
theorem uF { Q:Go.Exit→Go.Act→World→Prop} (hQ: ∀a w,CK X n μ0 rec tl Good a w→Q (.exit id) a w) (hB:CJ X n ops y rec tb) (hM:Gv X n jg z5 b1 rec tm) (h0:ops[0]? =some o1) (dN:o1.op= .next (.tmp it) false) (hd:o1.dst=some nx) (hg:o1.guard=none) (sJ:nx<n.1)
   (k0:jg[0]? =some o5) (kop:o5.op= .entry (.tmp it)) (kd:o5.dst=some ne) (kg:o5.guard=none) (cu:ne<n.1)
   {bi bm since:Nat} {ents:Array MapEntry} {Z:List (V×MapEntry)} (hZ:Z.map (·.2)=ents.toList) (nn:y0 ents since):
   ∀ (m:Nat) (seen:Array Nat) (σ:St) (a:Go.Act) (w:World) (φ:Nat→Row),(jx Z seen).length=m→Marks n w a.defers→a.tmps.size=n.1→Rel X σ.T a ⟨w,φ,σ.O⟩→Le μ0 ⟨w,φ,σ.O⟩→
    (φ r).dQ=bi→w.heap[bi]? =some (.mapIter (some bm) since seen since)→ ¬ (Mu.mk w φ σ.O).own bi→(bi<μ0.w.heap.size→μ0.own bi)→
    (∀r',(σ.O r').es.isSome=true→(φ r').cap≠0→(φ r').dQ≠bi)→w.heap[bm]? =some (.map ents since)→ ¬Own X ⟨w,φ,σ.O⟩ bm→
    (∀z ∈ Z,au X ⟨w,φ,σ.O⟩ z.1 (.tuple #[z.2.key,z.2.val]))→
    (∀p,p.Perm ((jx Z seen).map (·.1))→ ∃σp,runK rec it r g nx ne id tb tm tl p σ=some σp∧Good σp)→
    Code.roundsIn (Fr n.ro) 0 X.P (qd i0 ops y b1 i5 jg z5) Q (m+1) a w
 | m,seen,σ,a,w,φ,hm,jr,cJ,hr,hle,hφ,RS,eP,sG,ig,YN,NV,cK,zD=>by
   have NU:xp it r g σ=true:=by
    obtain⟨σp,hk,_⟩:=zD _ (.refl _)
    cases hl: (jx Z seen).map (·.1) with
    | nil=>
      rw[hl] at hk
      simp only[runK] at hk
      split at hk
      · rename_i h;exact h
      · simp at hk
    | cons e p=>
      rw[hl] at hk
      simp only[runK] at hk
      split at hk
      · split at hk
        · rename_i h;exact h
        · simp at hk
      · simp at hk
   obtain⟨hT,cW⟩:=zC NU
   have ei:a.eval (.tmp it)= .pointer (some ⟨bi,0,none⟩):=by
    have:=hr.tmps it
    rw[hT] at this
    simp only[au] at this
    obtain⟨a0,h1,_,h2⟩:=this
    obtain⟨_,rfl⟩:=h2 cW
    show a.tmps.getD it undef=_
    rw[h1,hφ]
   have iI:jo X μ0 n σ a w:=⟨jr,cJ,φ,hr,hle⟩
   have bY:bi<w.heap.size:=(Array.getElem?_eq_some_iff.1 RS).1
   rcases Mg (P:=X.P) (ty:=o1.type) RS YN nn.1 with⟨hz,ag⟩ | ⟨e,he,d,ag⟩
   ·
    have hl:jx Z seen=[]:=by
      have:=Bl hZ seen
      rw[Array.eq_empty_of_size_eq_zero hz] at this
      exact List.map_eq_nil_iff.1 this
    obtain⟨σp,hk,tQ⟩:=zD [] (by rw[hl];exact .refl _)
    exact Bn hQ hB h0 dN hd hg sJ iI (by rw[ei];exact ag) hk tQ m
   ·
    rw[←Bl hZ seen] at he
    obtain⟨z,hz,rfl⟩:=List.mem_map.1 he
    have NI: (Z.map fun z=>z.2.born).Nodup:=by
      have:=nn.2
      rw[←hZ,List.map_map] at this
      exact this
    have HX:=Gu NI hz
    obtain⟨m',rfl⟩: ∃m',m=m'+1:=by
      have:=HX.length_eq
      simp only[List.length_cons] at this
      exact⟨_,by rw[←hm];exact this⟩
    have hZm:z ∈ Z:=(List.mem_filter.1 hz).1
    have xz:=cK z hZm
    obtain⟨σp1,Kh,_⟩:=zD (z.1:: (jx Z (seen.push z.2.born)).map (·.1)) (by have:=(HX.map (·.1)).symm;simpa using this)
    obtain⟨ k,v,σm,σ',hzv,Mi,PU,kH⟩: ∃k v σm σ',z.1= .tuple [k,v]∧rec tb (σ.put (some nx) (.tuple [.bool true,k,v]))=some (.normal,σm)∧xp it r g σm=true∧rec tm (σm.put (some ne) (.tuple [k,v]))=some (.normal,σ'):=by
      simp only[runK] at Kh
      split at Kh
      · rename_i k v Ke
        rw[if_pos NU] at Kh
        split at Kh
        · rename_i σm hb
          split at Kh
          · rename_i PU
            split at Kh
            · rename_i σ' wM;exact⟨k,v,σm,σ',Ke,hb,PU,wM⟩
            · simp at Kh
          · simp at Kh
        · simp at Kh
      · simp at Kh
    have Ke:au X ⟨w,φ,σ.O⟩ k z.2.key∧au X ⟨w,φ,σ.O⟩ v z.2.val:=by
      rw[hzv] at xz
      simp only[au] at xz
      obtain⟨vs,h1,h2⟩:=xz
      injection h1 with h1
      subst h1
      simpa [ak] using h2
    rw[roundsIn_succ]
    refine wpIn_seq (zB (X:=X) h0 (by rw[dN];simp) hg (Bm dN (by rw[ei];exact ag)) ?_)
    generalize IS: ({w with drawn:=w.drawn+d,heap:=w.heap.setIfInBounds bi (.mapIter (some bm) since (seen.push z.2.born) since)}:World)=w2
    have ki: ∀b,b≠bi→w2.heap[b]? =w.heap[b]? :=fun b hb=>by
      rw[←IS];exact Array.getElem?_setIfInBounds_ne (fun e=>hb e.symm)
    have Xs:w2.heap[bi]? =some (.mapIter (some bm) since (seen.push z.2.born) since):=by
      rw[←IS];simp[bY]
    have D7:w2.heap.size=w.heap.size:=by rw[←IS];simp
    have st:kA X ⟨w,φ,σ.O⟩ w2:=by
      refine⟨fun ad c hc=> ?_,fun b es cl hb=> ?_,by show w.heap.size≤w2.heap.size;omega⟩
      · have cu:ad.block≠bi:=fun e=>by
          have C9:w.cell? ad=some c:=hc
          simp[World.cell?,e,RS] at C9
        have C9:w.cell? ad=some c:=hc
        simp only[World.cell?,ki _ cu] at C9 ⊢
        exact C9
      · have wM:w.heap[b]? =some (.map es cl):=hb
        rw[ki b (fun e=>by rw[e,RS] at wM;simp at wM)]
        exact wM
    have ack:bQ X ⟨w2,φ,σ.O⟩:=hr.bB.dc st fun r' h1 h2=>ki _ (ig r' h1 h2)
    have Xt:Le μ0 ⟨w2,φ,σ.O⟩:=by
      refine⟨by have:=hle.size;show μ0.w.heap.size≤w2.heap.size;have h2:μ0.w.heap.size≤w.heap.size:=this;omega,fun b hb hn=> ?_,hle.gen,hle.row,?_,?_,?_,fun ad Xu=> ?_⟩
      · have cu:b≠bi:=fun e=>by subst e;exact hn (sG hb)
        obtain⟨k1,k2⟩:=hle.dq b hb hn
        exact⟨(ki b cu).trans k1,k2⟩
      · rw[←hle.os,←IS]
      · rw[←hle.output,←IS]
      · rw[←hle.tape,←IS]
      · have k1:w.frozen? ad=μ0.w.frozen? ad:=hle.frozen ad Xu
        show w2.frozen? ad=_
        rw[←k1]
        by_cases e:ad.block=bi
        · simp only[World.frozen?,e,RS,Xs]
        · simp only[World.frozen?,ki _ e]
    have sY:Rel X σ.T a ⟨w2,φ,σ.O⟩:=⟨fun t=>au.dc st (hr.tmps t),ack⟩
    have Mj:Marks n w2 a.defers:=by
      obtain⟨⟨m0,m0'⟩,Ds,m1,m2,m3⟩:=jr
      exact⟨⟨by omega,fun l hl=>by
        obtain⟨L,k⟩:=m0' l hl
        exact⟨L,(ki l (fun e=>by rw[e,RS] at k;simp at k)).trans k⟩⟩,Ds,m1,m2,fun D hD=> ⟨(m3 D hD).1,(ki D (fun e=>by have:=(m3 D hD).2;rw[e,RS] at this;simp at this)).trans (m3 D hD).2⟩⟩
    have Ck:jo X ⟨w2,φ,σ.O⟩ n (σ.put (some nx) (.tuple [.bool true,k,v])) (a.put o1.dst (.tuple #[.bool true,z.2.key,z.2.val])) w2:=by
      rw[hd]
      refine⟨by rw[put_defers];exact Mj,by rw[nr];exact cJ,φ,qU sY (Le.refl _) ack ?_ (by simp;omega) σ.O,Le.refl _⟩
      simp only[au]
      exact⟨_,rfl,by simp only[ak,au];exact⟨trivial,au.dc st Ke.1,au.dc st Ke.2,trivial⟩⟩
    refine hB _ _ _ _ _ _ (Exit.then (Code.wpIn (Fr n.ro) 0 X.P (.block b1 (.seq (.region i5 jg false) z5)) (Exit.then (Code.roundsIn (Fr n.ro) 0 X.P (qd i0 ops y b1 i5 jg z5) Q (m'+1)) Q)) (Exit.then (Code.roundsIn (Fr n.ro) 0 X.P (qd i0 ops y b1 i5 jg z5) Q (m'+1)) Q)) _ Mi Ck (fun am wm hsm=> ?_) fun a' w' h=>wpIn_seq h
    have Ek:bi<w2.heap.size:=by omega
    have RT:bm<w2.heap.size:=by rw[D7];exact(Array.getElem?_eq_some_iff.1 YN).1
    have RU:bm≠bi:=fun e=>by rw[e,RS] at YN;simp at YN
    obtain⟨hTm,RV⟩:=zC PU
    have agA:=hsm
    obtain⟨acm,afY,φm,Kj,JM⟩:=hsm
    have hφm:φm r=φ r:=(JM.row r (by show (σm.O r).gen=(σ.O r).gen;rw[RV,cW])).1
    have afZ:wm.heap[bi]? =some (.mapIter (some bm) since (seen.push z.2.born) since):=(JM.dq bi Ek eP).1.trans Xs
    have af0:wm.heap[bm]? =some (.map ents since):=(JM.dq bm RT (fun h=>NV (.inl h))).1.trans ((ki bm RU).trans YN)
    have af1:am.eval (.tmp it)= .pointer (some ⟨bi,0,none⟩):=by
      have:=Kj.tmps it
      rw[hTm] at this
      simp only[au] at this
      obtain⟨a0,h1,_,h2⟩:=this
      obtain⟨_,rfl⟩:=h2 RV
      show am.tmps.getD it undef=_
      rw[h1,hφm,hφ]
    have hze:z.2 ∈ ents.toList:=by rw[←hZ];exact List.mem_map.2 ⟨z,hZm,rfl⟩
    refine wpIn_block (wpIn_seq (zB (X:=X) k0 (by rw[kop];simp) kg (Gw kop (by rw[af1];exact JL afZ af0 hze nn.2)) ?_))
    have HY:jo X ⟨w2,φ,σ.O⟩ n (σm.put (some ne) (.tuple [k,v])) (am.put o5.dst (.tuple #[z.2.key,z.2.val])) wm:=by
      rw[kd]
      refine⟨by rw[put_defers];exact acm,by rw[nr];exact afY,φm,qU Kj (Le.refl _) Kj.bB ?_ (by simp;omega) σm.O,JM⟩
      simp only[au]
      exact⟨_,rfl,by simp only[ak];exact⟨au.mono JM (au.dc st Ke.1),au.mono JM (au.dc st Ke.2),trivial⟩⟩
    refine hM _ _ _ _ _ _ kH HY fun a' w' kl=> ?_
    obtain⟨acn,PI,φ',vf,oX⟩:=kl
    have Ml: ∀p,p.Perm ((jx Z (seen.push z.2.born)).map (·.1))→ ∃σp,runK rec it r g nx ne id tb tm tl p σ'=some σp∧Good σp:=fun p hp=>by
      obtain⟨σp,hk,Gj⟩:=zD (z.1::p) ((hp.cons z.1).trans (by have:=(HX.map (·.1)).symm;simpa using this))
      refine⟨σp,?_,Gj⟩
      rw[hzv] at hk
      simp only[runK,NU,PU,if_true,Mi,kH] at hk
      exact hk
    have af2:xp it r g σ'=true:=by
      obtain⟨σp,hk,_⟩:=Ml _ (.refl _)
      cases hl: (jx Z (seen.push z.2.born)).map (·.1) with
      | nil=>
        rw[hl] at hk
        simp only[runK] at hk
        split at hk
        · rename_i h;exact h
        · simp at hk
      | cons e p=>
        rw[hl] at hk
        simp only[runK] at hk
        split at hk
        · split at hk
          · rename_i h;exact h
          · simp at hk
        · simp at hk
    have zE: (σ'.O r).gen=g:=(zC af2).2
    obtain⟨kb1,kb2⟩:=oX.dq bi Ek eP
    obtain⟨km1,km2⟩:=oX.dq bm RT (fun h=>NV (.inl h))
    have Xv:w'.heap[bi]? =some (.mapIter (some bm) since (seen.push z.2.born) since):=kb1.trans Xs
    have hlen: (jx Z (seen.push z.2.born)).length=m':=by
      have:=HX.length_eq
      rw[hm,List.length_cons] at this
      omega
    refine uF hQ hB hM h0 dN hd hg sJ k0 kop kd kg cu hZ nn m' (seen.push z.2.born) σ' a' w' φ' hlen acn PI vf (Xt.trans oX) ?_ Xv kb2 sG ?_ (km1.trans ((ki bm RU).trans YN)) ?_ (fun x hx=>au.mono oX (au.dc st (cK x hx))) Ml
    · have:=(oX.row r (by show (σ'.O r).gen=(σ.O r).gen;rw[zE,cW])).1
      rw[show φ' r=φ r from this];exact hφ
    · intro r' h1 h2 hb
      obtain⟨es,bX⟩:=Option.isSome_iff_exists.1 h1
      rcases vf.bB.ok r' es bX with⟨_,_,_,h4⟩ | ⟨_,_,ob,h3,h4⟩
      · rcases h4 with h4| ⟨c,T,vs,k1,_⟩
        · exact h2 h4
        · have k1':w'.heap[(φ' r').dQ]? =some (.cells c T (0,0)):=k1
          rw[hb,Xv] at k1';simp at k1'
      · have PV:w'.heap[(φ' r').dQ]? =some ob:=h3
        rw[hb,Xv] at PV
        injection PV with PV
        rcases h4 with⟨_,_,k1,_⟩ | ⟨_,_,k1,_⟩ | ⟨_,_,_,k1,_⟩
        · rw[←PV] at k1;simp at k1
        · rw[←PV] at k1;simp at k1
        · rw[←PV] at k1
          injection k1 with _ _ k1 _
          have:=congrArg Array.size k1
          simp at this
    · rintro(h| h)
      · exact km2 h
      · exact NV (.inr h)
termination_by m=>m
theorem zF {      kT kO:List Nat} (hB:CJ X n ops y rec tb) (hM:Gv X n jg z5 b1 rec tm) (h0:ops[0]? =some o1) (dN:o1.op= .next (.tmp it) false) (hd:o1.dst=some nx) (hg:o1.guard=none) (sJ:nx<n.1)
   (l0:jg[0]? =some o5) (lop:o5.op= .entry (.tmp it)) (ld:o5.dst=some ne) (lg:o5.guard=none) (cu:ne<n.1)
   {C:bO} {σ σ2:St} {e:bF} {a:Go.Act} {w:World} (ag:aT E C rec (.keys it nx ne id kT kO tb tm tl) σ=some (e,σ2)) (hs:jo X μ0 n σ a w):
   e= .normal∧(Code.block id (.loop (qd i0 ops y b1 i5 jg z5))).wpIn (Fr n.ro) 0 X.P (fun ex a' w'=>ex= .normal∧ ∃σe σp,jo X μ0 n σe a' w'∧rec tl σe=some (.normal,σp)∧ ∀Df HZ,jo X μ0 n σp Df HZ→jo X μ0 n σ2 Df HZ) a w:=by
 simp only[aT] at ag
 split at ag
 · rename_i r g hT
   split at ag
   · rename_i es hO
     split at ag
     · rename_i hc
       obtain⟨cW,aco,jn⟩:=hc
       split at ag
       · rename_i σ1 σs en
         split at ag
         · rename_i Xw
           simp only[Option.some.injEq,Prod.mk.injEq] at ag
           obtain⟨rfl,rfl⟩:=ag
           refine⟨rfl,?_⟩
           let Good:St→Prop:=fun σp=> ∀Df HZ,jo X μ0 n σp Df HZ→jo X μ0 n (forget kT kO σ1 σs) Df HZ
           have tQ: ∀σp ∈ σ1::σs,Good σp:=by
            rintro σp hp Df HZ ⟨jr,cJ,φ,hr,hle⟩
            have Sp:tM kT kO σ1 σp=true∨σp=σ1:=by
              rcases List.mem_cons.1 hp with h| h
              · exact .inr h
              · exact .inl (List.all_eq_true.1 Xw σp h)
            have hTk: ∀t,t ∈ kT→σp.T t=σ1.T t:=fun t ht=>by
              rcases Sp with h| h
              · simp only[tM,Bool.and_eq_true,List.all_eq_true] at h
                exact V.beq_eq (h.1 t ht)
              · rw[h]
            have hOk: ∀x,x ∈ kO→σp.O x=σ1.O x:=fun x hx=>by
              rcases Sp with h| h
              · simp only[tM,Bool.and_eq_true,List.all_eq_true] at h
                exact Obj.beq_eq (h.2 x hx)
              · rw[h]
            have HP:=Bk (O':=(forget kT kO σ1 σs).O) hr.bB fun x=>by
              simp only[forget]
              by_cases hx:kO.contains x=true
              · rw[if_pos hx]
                exact .inl (hOk x (by simpa using hx)).symm
              · rw[if_neg hx]
                refine .inr ⟨rfl,.inl ?_⟩
                have:=tV (fun σ:St=> (σ.O x).gen) hp
                show (σp.O x).gen<_+1
                omega
            refine⟨jr,cJ,φ,⟨fun t=> ?_,HP.2⟩,hle.trans HP.1⟩
            simp only[forget]
            split
            · rename_i ht
              rw[←hTk t (by simpa using ht)]
              exact au.mono HP.1 (hr.tmps t)
            · simp[au]
           have zD: ∀p,p.Perm es→ ∃σp,runK rec it r g nx ne id tb tm tl p ⟨σ.T,eI σ.O r ⟨g,0,false,false,none⟩⟩=some σp∧Good σp:=fun p hp=>by
            obtain⟨σp,h1,h2⟩:=wB en p (pC hp)
            exact⟨σp,h2,tQ σp h1⟩
           obtain⟨jr,cJ,φ,hr,hle⟩:=hs
           have HP:=Bk (O':=eI σ.O r ⟨g,0,false,false,none⟩) hr.bB fun x=>by
            by_cases hx:x=r
            · subst hx
              rw[aL]
              exact .inr ⟨rfl,.inr ⟨cW.symm,aco.symm⟩⟩
            · rw[bu _ _ hx];exact .inl rfl
           have sY:Rel X σ.T a ⟨w,φ,eI σ.O r ⟨g,0,false,false,none⟩⟩:=⟨fun t=>au.mono HP.1 (hr.tmps t),HP.2⟩
           obtain⟨_,eb,ob,Kf,hh⟩:=hr.bB.map r _ hO aco
           have gS: (Mu.mk w φ σ.O).own (φ r).dQ:=⟨r,by show (σ.O r).es.isSome=true;rw[hO];rfl,jn,eb,rfl⟩
           have eP: ¬ (Mu.mk w φ (eI σ.O r ⟨g,0,false,false,none⟩)).own (φ r).dQ:=by
            rintro⟨r',h1,h2,h3,h4⟩
            by_cases hx:r'=r
            · subst hx;simp[aL] at h1
            · have Dp: (σ.O r').es.isSome=true:=by have:=h1;simp only[bu _ _ hx] at this;exact this
              exact hr.bB.inj r' r hx Dp (by show (σ.O r).es.isSome=true;rw[hO];rfl) h3 eb h4
           have sG: (φ r).dQ<μ0.w.heap.size→μ0.own (φ r).dQ:=fun bY=>Classical.byContradiction fun hn=> (hle.dq _ bY hn).2 gS
           have ig: ∀r',((eI σ.O r ⟨g,0,false,false,none⟩) r').es.isSome=true→(φ r').cap≠0→(φ r').dQ≠(φ r).dQ:=fun r' h1 h2 h4=>by
            by_cases hx:r'=r
            · subst hx;simp[aL] at h1
            · have Dp: (σ.O r').es.isSome=true:=by have:=h1;simp only[bu _ _ hx] at this;exact this
              exact hr.bB.inj r' r hx Dp (by show (σ.O r).es.isSome=true;rw[hO];rfl) h2 eb h4
           have hQ: ∀a' w',CK X n μ0 rec tl Good a' w'→Exit.inBlock id (fun ex a' w'=>ex= .normal∧ ∃σe σp,jo X μ0 n σe a' w'∧rec tl σe=some (.normal,σp)∧ ∀Df HZ,jo X μ0 n σp Df HZ→jo X μ0 n (forget kT kO σ1 σs) Df HZ) (.exit id) a' w':=by
            rintro a' w' ⟨σe,σp,q1,q2,q3⟩
            simp only[Go.Exit.inBlock,if_true]
            exact⟨trivial,σe,σp,q1,q2,q3⟩
           have key: ∃m,Code.roundsIn (Fr n.ro) 0 X.P (qd i0 ops y b1 i5 jg z5) (Exit.inBlock id (fun ex a' w'=>ex= .normal∧ ∃σe σp,jo X μ0 n σe a' w'∧rec tl σe=some (.normal,σp)∧ ∀Df HZ,jo X μ0 n σp Df HZ→jo X μ0 n (forget kT kO σ1 σs) Df HZ)) (m+1) a w:=by
            rcases hh with⟨ents,clock,k1,hh,_⟩ | ⟨s,pos,_,hh⟩ | ⟨mo,since,sW,h1,h2,h3⟩
            · exfalso
              cases he:ents.toList with
              | nil=>rw[he] at hh;simp[ak] at hh
              | cons x xs=>rw[he] at hh;simp[ak,au] at hh
            · simp at hh
            · simp only[List.cons.injEq,V.mlit.injEq,and_true] at h2
              subst h2
              subst h1
              rcases h3 with⟨rfl,rfl⟩ | ⟨bm,ents,rfl,k2,k3,k4,k5,k6⟩
              · obtain⟨σp,hk,Gj⟩:=zD [] (.refl _)
                have NU:a.eval (.tmp it)= .pointer (some ⟨(φ r).dQ,0,none⟩):=by
                  have:=hr.tmps it
                  rw[hT] at this
                  simp only[au] at this
                  obtain⟨a0,e1,_,e2⟩:=this
                  obtain⟨_,rfl⟩:=e2 cW
                  exact e1
                exact⟨0,Bn hQ hB h0 dN hd hg sJ ⟨jr,cJ,φ,sY,hle.trans HP.1⟩ (by rw[NU];exact Mh Kf) hk Gj 0⟩
              · obtain⟨Z,z1,z2,z3⟩:=EE k6
                have zr:jx Z #[]=Z:=List.filter_eq_self.2 fun z _=>by simp
                refine⟨_,uF (r:=r) (g:=g) hQ hB hM h0 dN hd hg sJ l0 lop ld lg cu z2 k5 _ #[] ⟨σ.T,eI σ.O r ⟨g,0,false,false,none⟩⟩ a w φ rfl jr cJ sY (hle.trans HP.1) rfl Kf eP sG ig k4 ?_ (fun z hz=>au.mono HP.1 (z3 z hz)) ?_⟩
                · rintro(⟨r',h1,h2,h3,h4⟩ | h)
                  · refine k2 (.inl ⟨r',?_,?_,h3,h4⟩)
                    · by_cases hx:r'=r
                      · subst hx;simp[aL] at h1
                      · have:=h1;simp only[bu _ _ hx] at this;exact this
                    · by_cases hx:r'=r
                      · subst hx;exact jn
                      · have:=h2;simp only[bu _ _ hx] at this;exact this
                  · exact k2 (.inr h)
                · rw[zr,z1];exact zD
           obtain⟨m,hm⟩:=key
           exact wpIn_block (wpIn_loop_rounds (m+1) hm)
         · simp at ag
       · simp at ag
     · simp at ag
   · simp at ag
 · simp at ag
end
end Go.AM
namespace Go.AM
open Go Go.RowKit
theorem Mm {X:Ctx} {μ:Mu} (ho:bQ X μ) {D:Nat} {o:Go.Obj} (hD:μ.w.heap[D]? =some o) (h1:o.isCells=false) (h2:o.isWalk=false) {r:Nat} (hr: (μ.O r).es.isSome=true) (hc: (μ.φ r).cap≠0): (μ.φ r).dQ≠D:=fun hb=>by
 obtain⟨es,bX⟩:=Option.isSome_iff_exists.1 hr
 rcases ho.ok r es bX with⟨_,_,_,h4⟩ | ⟨_,_,ob,h3,h4⟩
 · rcases h4 with h4| ⟨c,T,vs,k1,_⟩
   · exact hc h4
   · rw[hb,hD] at k1;injection k1 with k1;subst k1;simp[Obj.isCells] at h1
 · rw[hb,hD] at h3;injection h3 with h3;subst h3
   rcases h4 with⟨_,_,rfl,_⟩ | ⟨_,_,rfl,_⟩ | ⟨_,_,_,rfl,_⟩ <;>simp[Obj.isWalk] at h2
theorem jH {X:Ctx} {μ:Mu} {D:Nat} {o o':Go.Obj} (hD:μ.w.heap[D]? =some o) (h1:o.isCells=false) (h2:o.isWalk=false):kA X μ (μ.w.putObj D o'):=by
 refine⟨fun ad c hc=> ?_,fun b es cl hb=> ?_,by simp[World.putObj]⟩
 · have cu:ad.block≠D:=fun e=>by
    simp only[World.cell?,e,hD] at hc
    cases o<;>simp_all[Obj.isCells]
   simp only[World.cell?,World.putObj_heap_other cu] at hc ⊢
   exact hc
 · rw[World.putObj_heap_other (fun e=>by rw[e,hD] at hb;injection hb with hb;subst hb;simp[Obj.isWalk] at h2)]
   exact hb
theorem CL {μ0:Mu} {w:World} {φ:Nat→Row} {O:Nat→Obj} (le:Le μ0 ⟨w,φ,O⟩) {D:Nat} {o':Go.Obj} (hf:μ0.w.heap.size≤D):Le μ0 ⟨w.putObj D o',φ,O⟩:=by
 refine⟨by have:=le.size;simpa [World.putObj] using this,fun b hb hn=> ?_,le.gen,le.row,le.os,le.output,le.tape,fun ad Xu=> ?_⟩
 · have cu:b≠D:=by omega
   exact⟨(World.putObj_heap_other cu).trans (le.dq b hb hn).1,(le.dq b hb hn).2⟩
 · have cu:ad.block≠D:=by omega
   have:=le.frozen ad Xu
   simp only[World.frozen?] at this ⊢
   show (match (w.putObj D o').heap[ad.block]? with| some (.cells _ _ (lo,hi))=>_| _=>false)=_
   rw[World.putObj_heap_other cu]
   exact this
theorem vW {X:Ctx} {w:World} {φ:Nat→Row} {O:Nat→Obj} (ho:bQ X ⟨w,φ,O⟩) {D:Nat} (h2:w.heap[D]? =some (.deferred (some []))):bQ X ⟨w.putObj D (.deferred none),φ,O⟩:=
 ho.dc (jH (μ:=⟨w,φ,O⟩) h2 rfl rfl) fun r h3 h4=>World.putObj_heap_other (Mm ho h2 rfl rfl h3 h4)
def Kept (μ:Mu) (W W':World):Prop:= ∀b,b<μ.w.heap.size→ ¬μ.own b→W'.heap[b]? =W.heap[b]?
def Abides (J:Nat→World→Prop):Prop:= ∀k A B,J k A→A.grownBy B none→J k B
structure PW (J:Nat→(Nat→Prop)→World→Prop):Prop where
 grow: ∀k F A B,J k F A→A.grownBy B none→J k (fun b=>F b∨(A.heap.size≤b∧b<B.heap.size)) B
 less: ∀k F F' A,J k F A→(∀b,F' b→F b)→J k F' A
structure xS (X:Ctx) (μ:Mu) (gf:Nat) (lb:Array Value) (xs:List (List V)):Prop where
 enters: ∀args w,(callFunc gf args).run X.P w= .ok (.enter gf args) w
 ex: ∃YO:List (Array Value),YO.length=xs.length∧(∀ (i:Nat) x v,xs[i]? =some x→YO[i]? =some v→ak X μ x v.toList)∧
  ∀ (l:Nat) (J:Nat→(Nat→Prop)→World→Prop) (Jx:Nat→World→Prop) (W0:World),Below μ.w.heap.size μ.w W0→PW J→Abides Jx→
   (∀ (k:Nat) F W1 v,YO[k]? =some v→J k F W1→YieldAt (Fr none) 0 X.P l v W1 fun e W'=> (e= .returned (.bool true)∧J (k+1) F W'∧Kept μ W1 W'∧ ∀b,F b→W'.heap[b]? =W1.heap[b]?)∨(e= .returned (.bool false)∧Jx (k+1) W'))→
   J 0 (fun _=>False) W0→CallsIn (Fr none) 0 X.P gf (#[.func (.yield l) #[] #[]]++lb) W0 fun e W'=> (∃v,e= .returned v)∧((∃F,J YO.length F W')∨ ∃k,k≤YO.length∧Jx k W')
theorem wX {X:Ctx} {μ:Mu} {W':World} (h:μ.w.grownBy W' none):kA X μ W':=by
 have hb: ∀k,k<μ.w.heap.size→W'.heap[k]? =μ.w.heap[k]? :=fun k hk=>h.block k hk (by simp)
 refine⟨fun ad c hc=> ?_,fun b es cl hc=> ?_,h.size⟩
 · have bY:ad.block<μ.w.heap.size:=by
    rcases Nat.lt_or_ge ad.block μ.w.heap.size with hl| hl
    · exact hl
    · simp[World.cell?,Array.getElem?_eq_none hl] at hc
   simp only[World.cell?,hb _ bY] at hc ⊢
   exact hc
 · rw[hb _ (Array.getElem?_eq_some_iff.1 hc).1];exact hc
theorem Gx {X:Ctx} {μ:Mu} (ho:bQ X μ) {r:Nat} (hr: (μ.O r).es.isSome=true) (hc: (μ.φ r).cap≠0): (μ.φ r).dQ<μ.w.heap.size:=by
 obtain⟨es,bX⟩:=Option.isSome_iff_exists.1 hr
 rcases ho.ok r es bX with⟨_,_,_,h4⟩ | ⟨_,_,ob,h3,h4⟩
 · rcases h4 with h4| ⟨c,T,vs,k1,_⟩
   · exact absurd h4 hc
   · exact(Array.getElem?_eq_some_iff.1 k1).1
 · exact(Array.getElem?_eq_some_iff.1 h3).1
structure gW (X:Ctx) (μb:Mu) (T:Nat→V) (a:Go.Act) (l:Nat) (Dq:Option Nat) (L:Loop) (O:Nat→Obj) (φ:Nat→Row) (W:World):Prop where
 rel:Rel X T a ⟨W,φ,O⟩
 le:Le μb ⟨W,φ,O⟩
 Bo:W.heap[l]? =some (.loop L)
 Xx: ∀D,Dq=some D→W.heap[D]? =some (.deferred (some []))
section
variable {X:Ctx} {μb:Mu} {T:Nat→V} {a:Go.Act} {l:Nat} {Dq:Option Nat} {L L':Loop} {O:Nat→Obj} {φ:Nat→Row} {W W':World}
theorem gW.grow (h:gW X μb T a l Dq L O φ W) (hg:W.grownBy W' none):gW X μb T a l Dq L O φ W':=by
 have st:kA X ⟨W,φ,O⟩ W':=wX (μ:=⟨W,φ,O⟩) hg
 have hb: ∀k,k<W.heap.size→W'.heap[k]? =W.heap[k]? :=fun k hk=>hg.block k hk (by simp)
 refine⟨⟨fun t=>au.dc st (h.rel.tmps t),h.rel.bB.dc st fun r h1 h2=>hb _ (Gx h.rel.bB h1 h2)⟩,?_,(hb _ (Array.getElem?_eq_some_iff.1 h.Bo).1).trans h.Bo,fun D hD=> (hb _ (Array.getElem?_eq_some_iff.1 (h.Xx D hD)).1).trans (h.Xx D hD)⟩
 have le:=h.le
 have cJ:μb.w.heap.size≤W.heap.size:=le.size
 exact⟨Nat.le_trans cJ hg.size,fun b wM hn=> ⟨(hb b (by omega)).trans (le.dq b wM hn).1,(le.dq b wM hn).2⟩,le.gen,le.row,hg.os.trans le.os,hg.output.trans le.output,hg.tape.trans le.tape,fun ad Xu=>by
  have:=le.frozen ad Xu
  rw[←this]
  show W'.frozen? ad=W.frozen? ad
  simp only[World.frozen?,hb ad.block (by omega)]⟩
theorem gW.put (h:gW X μb T a l Dq L O φ W) (hl:μb.w.heap.size≤l) (hD: ∀D,Dq=some D→D≠l):gW X μb T a l Dq L' O φ (W.putObj l (.loop L')):=by
 have st:kA X ⟨W,φ,O⟩ (W.putObj l (.loop L')):=jH (μ:=⟨W,φ,O⟩) h.Bo rfl rfl
 refine⟨⟨fun t=>au.dc st (h.rel.tmps t),h.rel.bB.dc st fun r h3 h4=>World.putObj_heap_other (Mm h.rel.bB h.Bo rfl rfl h3 h4)⟩,CL h.le hl,World.putObj_heap_same (Array.getElem?_eq_some_iff.1 h.Bo).1,fun D hd=> (World.putObj_heap_other (hD D hd)).trans (h.Xx D hd)⟩
end
def bF.conv:bF→Go.Exit
 | .normal=> .normal
 | .exit id=> .exit id
 | .ret=> .ret
def Mn (X:Ctx) (n:Fp) (c:Code) (rec:aB→St→Option (bF×St)) (tc:aB):Prop:=
 ∀ (σ σ':St) (e:bF) (μ0:Mu) (a:Go.Act) (w:World),rec tc σ=some (e,σ')→jo X μ0 n σ a w→c.wpIn (Fr n.ro) 0 X.P (fun ex a' w'=>ex=e.conv∧jo X μ0 n σ' a' w') a w
theorem H0 {X:Ctx} {μ:Mu}: ∀ {ps:List Nat} {x:List V} {vs:List Value} {T:Nat→V} {tmps:Array Value},ak X μ x vs→(∀t,au X μ (T t) (tmps.getD t undef))→(∀p ∈ ps,p<tmps.size)→
   (∀t,au X μ (pB T ps x t) (((ps.zip vs).foldl (fun t p=>t.setIfInBounds p.1 p.2) tmps).getD t undef))∧((ps.zip vs).foldl (fun t p=>t.setIfInBounds p.1 p.2) tmps).size=tmps.size
 | [],x,vs,T,tmps,_,h,_=> ⟨by simpa [pB] using h,rfl⟩
 | p::ps,[],[],T,tmps,_,h,_=> ⟨by simpa [pB] using h,rfl⟩
 | p::ps,[],_::_,T,tmps,hx,_,_=>by simp[ak] at hx
 | p::ps,_::_,[],T,tmps,hx,_,_=>by simp[ak] at hx
 | p::ps,x::xs,v::vs,T,tmps,hx,h,hp=>by
   simp only[ak] at hx
   have bY:=hp p (by simp)
   obtain⟨k1,k2⟩:=H0 (ps:=ps) (T:=eI T p x) (tmps:=tmps.setIfInBounds p v) hx.2 (fun t=>by
    unfold eI
    split
    · rename_i e;subst e
      have: (tmps.setIfInBounds t v).getD t undef=v:=by simp[bY]
      rw[this];exact hx.1
    · rename_i cu
      have: (tmps.setIfInBounds p v).getD t undef=tmps.getD t undef:=by
       simp[Array.getElem?_setIfInBounds_ne (fun e=>cu e.symm)]
      rw[this];exact h t) (fun q hq=>by simpa using hp q (by simp[hq]))
   exact⟨k1,by simpa using k2⟩
theorem JN {P:Program} {w:World} (ro:Option Nat) (h: ∀l,ro=some l→ ∃L,w.heap[l]? =some (.loop L)) (fn:FuncId) (tmps:Array Value) (ps:Array Tmp) (assign body:Code):
   ∃ (l:Nat) (Dq:Option Nat) (dD:Nat) (W1:World),(Instr.enterLoop fn tmps ps assign body ro).run P w= .ok (l,Dq.toList.map fun D=> {target:= .collected D,args:= #[]}) W1∧w.grownBy W1 none∧w.heap.size≤l∧
     W1.heap[l]? =some (.loop {state:= .ready,pending:=none,fn,tmps,params:=ps,assign,body,defers:=dD})∧ ∀D,Dq=some D→w.heap.size≤D∧D≠l∧W1.heap[D]? =some (.deferred (some [])):=by
 cases ro with
 | none=>
   have cJ: (w.alloc (.deferred (some []))).heap.size=w.heap.size+1:=World.size_alloc _ _
   refine⟨w.heap.size+1,some w.heap.size,w.heap.size,_,run_enterLoop_outer fn tmps ps assign body,?_,by omega,?_,?_⟩
   · have b1:Below w.heap.size w ((w.alloc (.deferred (some []))).alloc (.loop {state:= .ready,pending:=none,fn,tmps,params:=ps,assign,body,defers:=w.heap.size})):=((Below.refl _ w).alloc (Nat.le_refl _) _).alloc (by simp) _
     exact⟨b1.os,b1.tape,b1.output,b1.size,fun k hk _=>b1.block k hk⟩
   · have:=World.alloc_heap_new (w.alloc (.deferred (some []))) (.loop {state:= .ready,pending:=none,fn,tmps,params:=ps,assign,body,defers:=w.heap.size})
     rwa [cJ] at this
   · rintro D hD
     injection hD with hD;subst hD
     exact⟨Nat.le_refl _,by omega,(Below.heap_alloc _ _ _ (by rw[cJ];omega)).trans (World.alloc_heap_new w _)⟩
 | some l0=>
   obtain⟨L,hL⟩:=h l0 rfl
   refine⟨w.heap.size,none,L.defers,_,run_enterLoop_inner hL fn tmps ps assign body,?_,Nat.le_refl _,World.alloc_heap_new w _,by simp⟩
   have b1:Below w.heap.size w (w.alloc (.loop {state:= .ready,pending:=none,fn,tmps,params:=ps,assign,body,defers:=L.defers})):=(Below.refl _ w).alloc (Nat.le_refl _) _
   exact⟨b1.os,b1.tape,b1.output,b1.size,fun k hk _=>b1.block k hk⟩
theorem Bp {X:Ctx} {μ0:Mu} {n:Fp} {T:Nat→V} {a:Go.Act} {w W:World} {φ φ':Nat→Row} {O0 O:Nat→Obj} {l:Nat} {Dq:Option Nat} {L:Loop} (jr:Marks n w a.defers) (cJ:a.tmps.size=n.tm) (ho:bQ X ⟨w,φ,O0⟩) (hle:Le μ0 ⟨w,φ,O0⟩)
   (h:gW X ⟨w,φ,O0⟩ T a l Dq L O φ' W) (hD: ∀D,Dq=some D→w.heap.size≤D):jo X μ0 n ⟨T,O⟩ {a with defers:=(Dq.toList.map fun D=> {target:= .collected D,args:= #[]})++a.defers} W:=by
 refine⟨?_,cJ,φ',⟨h.rel.tmps,h.rel.bB⟩,hle.trans h.le⟩
 obtain⟨h0,Ds,h1,h2,h3⟩:=jr.le ho h.le
 refine⟨h0,Dq.toList++Ds,by simp[h1],?_,fun D hd=> ?_⟩
 · cases Dq with
   | none=>simpa using h2
   | some D=>
     simp only[Option.toList_some,List.cons_append,List.nil_append,List.nodup_cons]
     refine⟨fun hm=> ?_,h2⟩
     obtain⟨_,Ds',k1,_,k3⟩:=jr
     have:Ds=Ds':=by
       rw[h1] at k1
       have oW:Function.Injective (fun D:Nat=> ({target:= .collected D,args:= #[]}:Deferred)):=fun x y e=>by injection e with e;injection e
       exact List.map_inj_right (fun x y e=>oW e) |>.1 k1
     subst this
     have:=(Array.getElem?_eq_some_iff.1 (k3 D hm).2).1
     have:=hD D rfl
     omega
 · rcases List.mem_append.1 hd with hd| hd
   · cases Dq with
     | none=>simp at hd
     | some D'=>
       simp at hd;subst hd
       exact⟨Nat.le_trans jr.1.1 (hD _ rfl),h.Xx _ rfl⟩
   · exact h3 D hd
theorem EF {X:Ctx} {n:Fp} {g:Operand} {ps:Array Tmp} {assign body:Code} {rec:aB→St→Option (bF×St)} {ta tb:aB} (hA: ∀l,Mn X ⟨n.tm,0,some l⟩ assign rec ta) (hB: ∀l,Mn X ⟨n.tm,0,some l⟩ body rec tb)
   {μ0:Mu} {σ σ':St} {e:bF} {a:Go.Act} {w:World} (hs:jo X μ0 n σ a w) (NJ: ∀p ∈ ps.toList,p<n.tm) {gf:Nat} {lb:Array Value} {xs:List (List V)} (hg:a.eval g= .func (.func gf) #[] lb)
   (hI: ∀φ,Rel X σ.T a ⟨w,φ,σ.O⟩→xS X ⟨w,φ,σ.O⟩ gf lb xs) (hlen: ∀x ∈ xs,x.length=ps.size) (ag:tL rec ps.toList ta tb σ.T xs σ.O=some (e,σ')):
   (Code.rangeFunc g ps assign body).wpIn (Fr n.ro) 0 X.P (fun ex a' w'=>ex=e.conv∧jo X μ0 n σ' a' w') a w:=by
 obtain⟨jr,cJ,φ,hr,hle⟩:=hs
 obtain⟨enters,YO,De,Fm,acp⟩:=hI φ hr
 refine wpIn_rangeFunc fun fn Ag=> ?_
 obtain⟨l,Dq,dD,W1,af3,nq,hl,af4,hDq⟩:=JN (P:=X.P) n.ro jr.1.2 fn a.tmps ps assign body
 obtain⟨ik,nv⟩: ∃ik:LoopState→Option Code→Loop,ik=fun st pe=> {state:=st,pending:=pe,fn,tmps:=a.tmps,params:=ps,assign,body,defers:=dD}:=⟨_,rfl⟩
 have cu: ∀D,Dq=some D→D≠l:=fun D hD=> (hDq D hD).2.1
 have af5:gW X ⟨w,φ,σ.O⟩ σ.T a l Dq (ik .ready none) σ.O φ W1:=by
   have st:kA X ⟨w,φ,σ.O⟩ W1:=wX (μ:=⟨w,φ,σ.O⟩) nq
   have hb: ∀k,k<w.heap.size→W1.heap[k]? =w.heap[k]? :=fun k hk=>nq.block k hk (by simp)
   refine⟨⟨fun t=>au.dc st (hr.tmps t),hr.bB.dc st fun r h1 h2=>hb _ (Gx hr.bB h1 h2)⟩,?_,by rw[nv];exact af4,fun D hD=> (hDq D hD).2.2⟩
   exact⟨nq.size,fun b wM hn=> ⟨hb b wM,hn⟩,fun _=>Nat.le_refl _,fun _ _=> ⟨rfl,rfl⟩,nq.os,nq.output,nq.tape,fun ad Xu=>by simp only[World.frozen?,hb ad.block Xu]⟩
 refine⟨l,_,W1,{target:= .fn (.func gf) lb,args:= #[.func (.yield l) #[] #[]]},W1,gf,#[.func (.yield l) #[] #[]]++lb,W1,af3,?_,fun _ _=>trivial,?_,fun h=>by simp[Fr,Fence.wide] at h,?_⟩
 · simp only[resolve,hg]
   simp[go_sem]
 · simp[invoke,go_sem,enters]
 have key:=acp l (fun k F W=> ∃O φ',gW X ⟨w,φ,σ.O⟩ σ.T a l Dq (ik .ready none) O φ' W∧tL rec ps.toList ta tb σ.T (xs.drop k) O=some (e,σ')∧ ∀b,F b→b<W.heap.size∧ ¬Mu.own ⟨W,φ',O⟩ b∧b≠l)
   (fun k W=> ∃O φ' c,gW X ⟨w,φ,σ.O⟩ σ.T a l Dq (ik .done (some c)) O φ' W∧σ'=⟨σ.T,O⟩∧(e= .ret∧c= .ret∨ ∃id,e= .exit id∧c= .exit id)) W1
   ⟨nq.os,nq.tape,nq.output,nq.size,fun k hk=>nq.block k hk (by simp)⟩
   ⟨fun k F A B ⟨O,φ',h1,h2,h3⟩ hg=> ⟨O,φ',h1.grow hg,h2,fun b hb=>by
     rcases hb with hb| ⟨LG,PX⟩
     · exact⟨Nat.lt_of_lt_of_le (h3 b hb).1 hg.size,(h3 b hb).2⟩
     · refine⟨PX,?_,fun oL=> ?_⟩
       · rintro⟨r,q1,_,q3,q4⟩
         have:=Gx (μ:=⟨A,φ',O⟩) h1.rel.bB q1 q3
         have hq: (φ' r).dQ=b:=q4
         have: (φ' r).dQ<A.heap.size:=this
         omega
       · subst oL
         have:=(Array.getElem?_eq_some_iff.1 h1.Bo).1
         omega⟩,fun k F F' A ⟨O,φ',h1,h2,h3⟩ hF=> ⟨O,φ',h1,h2,fun b hb=>h3 b (hF b hb)⟩⟩ (fun k A B ⟨O,φ',c,h1,h2⟩ hg=> ⟨O,φ',c,h1.grow hg,h2⟩) ?round ⟨σ.O,φ,af5,by simpa using ag,fun b hb=>hb.elim⟩
 case round=>
   rintro k F W v hv ⟨O,φ',sG,uC,hF⟩
   have hk:k<xs.length:=by rw[←De];exact(List.getElem?_eq_some_iff.1 hv).1
   have hx:xs[k]? =some xs[k]:=List.getElem?_eq_getElem hk
   rw[List.drop_eq_getElem_cons hk] at uC
   generalize xs[k]=x at hx uC
   have gD:=Fm k x v hx hv
   have Xi:=hlen x (List.mem_of_getElem? hx)
   simp only[tL] at uC
   split at uC
   rotate_left
   · simp at uC
   rename_i σ1 h1
   have af6:=sG.le
   have af7:ak X ⟨W,φ',O⟩ x v.toList:=ak.mono af6 gD
   have xQ:v.size=ps.size:=by
     have:=gD.length
     rw[←Xi,this];simp
   have fS:=H0 (ps:=ps.toList) (T:=σ.T) (tmps:=a.tmps) af7 sG.rel.tmps (by rw[cJ];exact NJ)
   have htm: ((ps.zip v).foldl (fun tmps (p:Tmp×Value)=>tmps.setIfInBounds p.1 p.2) a.tmps)=(ps.toList.zip v.toList).foldl (fun t p=>t.setIfInBounds p.1 p.2) a.tmps:=by
     rw[←Array.foldl_toList,Array.toList_zip]
   have hy:=run_yield (P:=X.P) (args:=v) sG.Bo (by rw[nv];exact xQ)
   rw[nv] at hy
   refine⟨fn,_,assign,body,hy,roundIn_of_wpIn Ag ?_⟩
   have iI:jo X ⟨W,φ',O⟩ ⟨n.tm,0,some l⟩ ⟨pB σ.T ps.toList x,O⟩ {tmps:=(ps.zip v).foldl (fun tmps (p:Tmp×Value)=>tmps.setIfInBounds p.1 p.2) a.tmps,defers:=[]} W:=by
     refine⟨Marks.nil (Nat.zero_le _) (fun l' LD=>by injection LD with LD;subst LD;exact⟨_,sG.Bo⟩),by show Array.size _=n.tm;rw[htm,fS.2];exact cJ,φ',⟨fun t=> ?_,sG.rel.bB⟩,Le.refl _⟩
     show au X _ _ (Array.getD _ t undef)
     rw[htm];exact fS.1 t
   refine wpIn_mono (hA l _ _ _ _ _ _ h1 iI) fun ex a1 w1 hq=> ?_
   obtain⟨rfl,sq,vS,φ1,YP,Mo⟩:=hq
   have RX: ∀ {b:Nat} {o:Go.Obj},W.heap[b]? =some o→o.isCells=false→o.isWalk=false→w1.heap[b]? =some o:=fun {b o} hb i1 i2=>
     (Mo.dq b (Array.getElem?_eq_some_iff.1 hb).1 (fC sG.rel.bB hb i1 i2)).1.trans hb
   have PY:gW X ⟨w,φ,σ.O⟩ σ.T a l Dq (ik .ready none) σ1.O φ1 w1:=⟨⟨fun t=>au.mono Mo (sG.rel.tmps t),YP.bB⟩,sG.le.trans Mo,RX sG.Bo rfl rfl,fun D hD=>RX (sG.Xx D hD) rfl rfl⟩
   show ∃w₂,_∧_
   refine⟨_,run_beginRound PY.Bo (by rw[nv]),?_⟩
   have xA:gW X ⟨w,φ,σ.O⟩ σ.T a l Dq (ik .busy none) σ1.O φ1 (w1.putObj l (.loop (ik .busy none))):=PY.put hl cu
   have acq: ({ik .ready none with state:= .busy}:Loop)=ik .busy none:=by rw[nv]
   rw[acq]
   have st2:kA X ⟨w1,φ1,σ1.O⟩ (w1.putObj l (.loop (ik .busy none))):=jH (μ:=⟨w1,φ1,σ1.O⟩) PY.Bo rfl rfl
   have RY:jo X ⟨w1.putObj l (.loop (ik .busy none)),φ1,σ1.O⟩ ⟨n.tm,0,some l⟩ σ1 a1 (w1.putObj l (.loop (ik .busy none))):=by
     refine⟨?_,vS,φ1,⟨fun t=>au.dc st2 (YP.tmps t),xA.rel.bB⟩,Le.refl _⟩
     obtain⟨_,Ds,m1,m2,m3⟩:=sq
     refine⟨⟨Nat.zero_le _,fun l' LD=>by injection LD with LD;subst LD;exact⟨_,xA.Bo⟩⟩,Ds,m1,m2,fun D hD=> ⟨Nat.zero_le _,?_⟩⟩
     rw[World.putObj_heap_other (fun e=>by have:=(m3 D hD).2;rw[e,PY.Bo] at this;simp at this)]
     exact(m3 D hD).2
   split at uC
   ·
     rename_i σ2 h2
     refine wpIn_mono (hB l _ _ _ _ _ _ h2 RY) fun ex a3 w3 hq=> ?_
     obtain⟨rfl,_,_,φ3,hr3,CM⟩:=hq
     have EG: ∀ {b:Nat} {o:Go.Obj},(w1.putObj l (.loop (ik .busy none))).heap[b]? =some o→o.isCells=false→o.isWalk=false→w3.heap[b]? =some o:=fun {b o} hb i1 i2=>
       (CM.dq b (Array.getElem?_eq_some_iff.1 hb).1 (fC xA.rel.bB hb i1 i2)).1.trans hb
     have JO:gW X ⟨w,φ,σ.O⟩ σ.T a l Dq (ik .busy none) σ2.O φ3 w3:=⟨⟨fun t=>au.mono CM (xA.rel.tmps t),hr3.bB⟩,xA.le.trans CM,EG xA.Bo rfl rfl,fun D hD=>EG (xA.Xx D hD) rfl rfl⟩
     have Mp:gW X ⟨w,φ,σ.O⟩ σ.T a l Dq (ik .ready none) σ2.O φ3 (w3.putObj l (.loop (ik .ready none))):=JO.put hl cu
     have e4: ({ik .busy none with state:=if (none:Option Code).isNone then .ready else .done,pending:=none}:Loop)=ik .ready none:=by rw[nv];rfl
     have YL: ∀b,F b→(w3.putObj l (.loop (ik .ready none))).heap[b]? =W.heap[b]? ∧b<w3.heap.size∧ ¬Mu.own ⟨w3,φ3,σ2.O⟩ b:=fun b hb=>by
       obtain⟨f1,f2,f3⟩:=hF b hb
       have g1:=Mo.dq b f1 f2
       have s1:W.heap.size≤w1.heap.size:=Mo.size
       have s2: (w1.putObj l (.loop (ik .busy none))).heap.size≤w3.heap.size:=CM.size
       have s3: (w1.putObj l (.loop (ik .busy none))).heap.size=w1.heap.size:=World.putObj_size ..
       have g2:=CM.dq b (by show b< (w1.putObj l (.loop (ik .busy none))).heap.size;omega) g1.2
       refine⟨?_,by omega,g2.2⟩
       rw[World.putObj_heap_other f3,show w3.heap[b]? =(w1.putObj l (.loop (ik .busy none))).heap[b]? from g2.1,World.putObj_heap_other f3]
       exact g1.1
     refine⟨_,_,run_endRound none JO.Bo,.inl ⟨rfl,⟨σ2.O,φ3,by rw[e4];exact Mp,uC,fun b hb=> ?_⟩,fun b hb hn=> ?_,fun b hb=> ?_⟩⟩
     · rw[e4]
       refine⟨?_,(YL b hb).2.2,(hF b hb).2.2⟩
       rw[show (w3.putObj l (.loop (ik .ready none))).heap.size=w3.heap.size from World.putObj_size ..]
       exact(YL b hb).2.1
     · rw[e4]
       exact(Mp.le.dq b hb hn).1.trans (sG.le.dq b hb hn).1.symm
     · rw[e4];exact(YL b hb).1
   ·
     rename_i e2 σ2 hnn h2
     simp only[Option.some.injEq,Prod.mk.injEq] at uC
     obtain⟨rfl,rfl⟩:=uC
     refine wpIn_mono (hB l _ _ _ _ _ _ h2 RY) fun ex a3 w3 hq=> ?_
     obtain⟨rfl,_,_,φ3,hr3,CM⟩:=hq
     have EG: ∀ {b:Nat} {o:Go.Obj},(w1.putObj l (.loop (ik .busy none))).heap[b]? =some o→o.isCells=false→o.isWalk=false→w3.heap[b]? =some o:=fun {b o} hb i1 i2=>
       (CM.dq b (Array.getElem?_eq_some_iff.1 hb).1 (fC xA.rel.bB hb i1 i2)).1.trans hb
     have JO:gW X ⟨w,φ,σ.O⟩ σ.T a l Dq (ik .busy none) σ2.O φ3 w3:=⟨⟨fun t=>au.mono CM (xA.rel.tmps t),hr3.bB⟩,xA.le.trans CM,EG xA.Bo rfl rfl,fun D hD=>EG (xA.Xx D hD) rfl rfl⟩
     have Mp: ∀c,gW X ⟨w,φ,σ.O⟩ σ.T a l Dq (ik .done (some c)) σ2.O φ3 (w3.putObj l (.loop (ik .done (some c)))):=fun c=>JO.put hl cu
     have e4: ∀c,({ik .busy none with state:=if (some c:Option Code).isNone then .ready else .done,pending:=some c}:Loop)=ik .done (some c):=fun c=>by rw[nv];rfl
     cases e2 with
     | normal=>exact absurd rfl (hnn ·)
     | exit id=>exact⟨_,_,run_endRound (some (.exit id)) JO.Bo,.inr ⟨rfl,σ2.O,φ3,_,by rw[e4];exact Mp _,rfl,.inr ⟨id,rfl,rfl⟩⟩⟩
     | ret=>exact⟨_,_,run_endRound (some .ret) JO.Bo,.inr ⟨rfl,σ2.O,φ3,_,by rw[e4];exact Mp _,rfl,.inl ⟨rfl,rfl⟩⟩⟩
   · simp at uC
 refine CallsIn.mono (show CallsIn (Fr n.ro) (0 - 1) X.P gf _ W1 _ from key) ?_
 rintro ending W' ⟨⟨v,rfl⟩,(⟨_,O,φ',sG,uC,_⟩ | ⟨k,_,O,φ',c,sG,hσ,hc⟩)⟩
 · rw[List.drop_of_length_le (by omega)] at uC
   simp only[tL,Option.some.injEq,Prod.mk.injEq] at uC
   obtain⟨rfl,rfl⟩:=uC
   exact⟨none,_,by have:=run_endLoop (P:=X.P) sG.Bo (by rw[nv];simp);rw[this,nv],rfl,Bp jr cJ hr.bB hle (sG.put hl cu) fun D hD=> (hDq D hD).1⟩
 · subst hσ
   refine⟨some c,_,by have:=run_endLoop (P:=X.P) sG.Bo (by rw[nv];simp);rw[this,nv],?_⟩
   have iI:=Bp jr cJ hr.bB hle (sG.put (L':=ik .exhausted (some c)) hl cu) fun D hD=> (hDq D hD).1
   rcases hc with⟨rfl,rfl⟩ | ⟨id,rfl,rfl⟩
   · refine wpIn_ret ⟨rfl,?_⟩
     rw[nv] at iI;exact iI
   · refine wpIn_exit ⟨rfl,?_⟩
     rw[nv] at iI;exact iI
end Go.AM
namespace Go.AM
open Go Go.RowKit
def Ends (X:Ctx) (μ0:Mu) (n:Fp) (e:bF) (σ:St):Go.Exit→Go.Act→World→Prop:=fun ex a w=>ex=e.conv∧jo X μ0 n σ a w
section
variable {X:Ctx} {E:Env} {μ0:Mu} {n:Fp}
theorem uG {σ:St} {a:Go.Act} {w:World} (hs:jo X μ0 n σ a w) {c:Operand} {c':bg} (hc:du X c=some c') {b:Bool} (hb:bM σ c'= .bool b):a.eval c= .bool b:=by
 obtain⟨_,_,φ,hr,_⟩:=hs
 have:=aX hr hc σ.O
 have e:bM ⟨σ.T,σ.O⟩ c'=bM σ c':=rfl
 rw[e,hb] at this
 simpa [au] using this
theorem mw {h:Hints} {i:Nat} {ops:Array Oper} {d:Bool} {b:Code} {ta tb:aB}:D4 h (.region i ops d) b ta tb= .seq ta tb:=by
 simp[D4,Cu]
theorem JP {h:Hints} {c:Operand} {x y b:Code} {ta tb:aB}:D4 h (.cond c x y) b ta tb= .seq ta tb:=by
 simp[D4,Cu]
theorem jI {    h:Hints} {x y:Code} {ax ay:aB}:D4 h x y ax ay= .seq ax ay∨ ∃iR JQ dR i0 ops cc cx cy b1 i5 jg z5 id iS Mq dS rest it nx ne kT kO o1 o5 kj b1' as tc bs tz tR tS yZ,
   x= .seq (.region iR JQ dR) (.block id (.loop (.seq (.region i0 ops false) (.seq (.cond cc cx cy) (.block b1 (.seq (.region i5 jg false) z5))))))∧y= .seq (.region iS Mq dS) rest∧(ops[0]? =some o1∧o1.op= .next (.tmp it) false∧o1.dst=some nx∧o1.guard=none∧nx<h.n)∧
   (jg[0]? =some o5∧o5.op= .entry (.tmp it)∧o5.dst=some ne∧o5.guard=none∧ne<h.n)∧
   ax= .seq tR (.block kj (.loop (.seq (.region as) (.seq tc (.block b1' (.seq (.region bs) tz))))))∧ay= .seq tS yZ∧D4 h x y ax ay= .seq tR (.seq (.keys it nx ne id kT kO (.seq (.region (as.drop 1)) tc) (.block b1' (.seq (.region (bs.drop 1)) tz)) tS) yZ):=by
 unfold D4
 split
 · rename_i it nx ne id kT kO tR kj as tc b1' bs tz tS yZ hk hr
   right
   unfold Cu at hk
   split at hk
   · rename_i iR JQ dR id2 i0 ops cc cx cy b1 i5 jg z5
     split at hk
     · rename_i o1 o5 ho ho5
       split at hk
       · rename_i it2 nx2 it3 ne2 k1 k2 k3 k4 k5 k6
         split at hk
         · split at hk
           · rename_i hn
             simp only[Option.some.injEq,Prod.mk.injEq] at hk
             obtain⟨rfl,rfl,rfl,rfl,rfl,rfl⟩:=hk
             obtain⟨hn1,hn2,rfl⟩:=hn
             unfold D3 at hr
             split at hr
             · rename_i iS Mq dS rest
               exact⟨iR,JQ,dR,i0,ops,cc,cx,cy,b1,i5,jg,z5,id2,iS,Mq,dS,rest,it3,nx2,ne2,_,_,o1,o5,kj,b1',as,tc,bs,tz,tR,tS,yZ,rfl,rfl,⟨ho,k1,k2,k3,hn1⟩,⟨ho5,k4,k5,k6,hn2⟩,rfl,rfl,rfl⟩
             · simp at hr
           · simp at hk
         · simp at hk
       · simp at hk
     · simp at hk
   · simp at hk
 · exact .inl rfl
def H2 (X:Ctx) (E:Env):Prop:= ∀g F caps xs,E.iter g caps=some xs→X.kh F=some g→ ∀ (μ:Mu) (lb:Array Value),ak X μ caps lb.toList→bQ X μ→xS X μ F lb xs
def cD:Code→Bool
 | .seq x y=>cD x &&cD y
 | .cond _ x y=>cD x &&cD y
 | .block _ b=>cD b
 | .scope b=>cD b
 | .loop _=>false
 | .rangeFunc .. =>false
 | _=>true
def lO (h:Hints) (μ0:Mu) (c:Code):Prop:=(h.AY=[]∧h.full=[])∨(gV h μ0∧cD c=true)
theorem lO.Xy {h:Hints} {μ0:Mu} {c:Code} (k:lO h μ0 c):gV h μ0:=k.elim (fun k=> .none k.1 k.2) fun k=>k.1
theorem lO.sub {h:Hints} {μ0:Mu} {c c':Code} (k:lO h μ0 c) (hs:cD c=true→cD c'=true):lO h μ0 c':=k.imp id fun k=> ⟨k.1,hs k.2⟩
theorem lO.vh {h:Hints} {μ0 μ1:Mu} {c c':Code} (k:lO h μ0 c) (hs:cD c=false):lO h μ1 c':= .inl (k.elim id fun k=>by rw[hs] at k;exact absurd k.2 (by decide))
theorem oi (     hm:X.P.follows .mixedOrders=true) (NU:H2 X E) {h:Hints}: ∀ (fuel:Nat),(∀m,m<fuel→oO X E (eH E (exec E m)))→ ∀ {n:Fp} (hn:h.n=n.1) {μ0:Mu} (c:Code) (iO:lO h μ0 c) (ac:aB) (σ σ':St) (e:bF) (a:Go.Act) (w:World),
   bA X h c=some ac→exec E fuel ac σ=some (e,σ')→jo X μ0 n σ a w→c.wpIn (Fr n.ro) 0 X.P (Ends X μ0 n e σ') a w:=by
 intro fuel
 induction fuel using Nat.strongRecOn with
 | _ EH YQ=>
   intro hH n hn μ0 c iO
   rcases Nat.eq_zero_or_pos EH with h0| Am
   · subst h0;intro ac σ σ' e a w _ ag;simp[exec] at ag
   obtain⟨fuel,rfl⟩: ∃f,EH=f+1:=⟨EH - 1,by omega⟩
   have Kk: ∀m,m<fuel→oO X E (eH E (exec E m)):=fun m PT=>hH m (by omega)
   have ih:=YQ fuel (by omega)
   have H:=hH fuel (by omega)
   cases c with
   | skip=>
     intro ac σ σ' e a w aY ag hs
     simp[bA] at aY;subst aY
     simp[exec,aT] at ag
     obtain⟨rfl,rfl⟩:=ag
     exact wpIn_skip ⟨rfl,hs⟩
   | region id ops d=>
     intro ac σ σ' e a w aY ag hs
     cases d with
     | false=>
       simp only[bA,Option.map_eq_some_iff] at aY
       obtain⟨as,h1,rfl⟩:=aY
       simp only[exec,aT,Option.map_eq_some_iff,Prod.mk.injEq] at ag
       obtain⟨σ1,h2,rfl,rfl⟩:=ag
       refine wpIn_region ?_
       rw[List.range_eq_range']
       exact fN H iO.Xy hn h1 ops.size 0 (by omega) hs (by simpa using h2) fun a' w' kl=> ⟨rfl,kl⟩
     | true=>
       simp only[bA,Option.map_eq_some_iff] at aY
       obtain⟨as,h1,rfl⟩:=aY
       simp only[exec,aT,Option.map_eq_some_iff,Prod.mk.injEq] at ag
       obtain⟨σ1,h2,rfl,rfl⟩:=ag
       exact ED H iO.Xy hm hn h1 hs h2 fun a' w' kl=> ⟨rfl,kl⟩
   | seq x y=>
     intro ac σ σ' e a w aY ag hs
     simp only[bA] at aY
     split at aY
     · rename_i ax ay h1 h2
       injection aY with aY;subst aY
       rcases jI (h:=h) (x:=x) (y:=y) (ax:=ax) (ay:=ay) with hk| hk
       rotate_left
       · obtain⟨iR,JQ,dR,i0,ops,cc,cx,cy,b1,i5,jg,z5,id,iS,Mq,dS,rest,it,nx,ne,kT,kO,o1,o5,kj,b1',as,tc,bs,tz,tR,tS,yZ,rfl,rfl,⟨ho,k1,k2,k3,sJ⟩,⟨ho5,k4,k5,k6,cu⟩,rfl,rfl,hk⟩:=hk
         rw[hk] at ag
         simp only[bA] at h1 h2
         split at h1
         rotate_left
         · simp at h1
         rename_i t1 t2 g1 g2
         rw[mw] at h1
         simp only[Option.some.injEq,aB.seq.injEq] at h1
         obtain⟨rfl,rfl⟩:=h1
         split at h2
         rotate_left
         · simp at h2
         rename_i t3 t4 g3 g4
         rw[mw] at h2
         simp only[Option.some.injEq,aB.seq.injEq] at h2
         obtain⟨rfl,rfl⟩:=h2
         rw[Option.map_eq_some_iff] at g2
         obtain⟨q1,g2,e2⟩:=g2
         rw[Option.map_eq_some_iff] at g2
         obtain⟨q2,g2,e1⟩:=g2
         subst e1
         simp only[aB.block.injEq,aB.loop.injEq] at e2
         obtain⟨rfl,e2⟩:=e2
         subst e2
         split at g2
         rotate_left
         · simp at g2
         rename_i t5 t6 g5 g6
         rw[mw] at g2
         simp only[Option.some.injEq,aB.seq.injEq] at g2
         obtain⟨e3,e4⟩:=g2
         subst e3 e4
         rw[Option.map_eq_some_iff] at g5
         obtain⟨l,g5,e4⟩:=g5
         simp only[aB.region.injEq] at e4
         subst e4
         split at g6
         rotate_left
         · simp at g6
         rename_i t7 t8 g7 g8
         rw[JP] at g6
         simp only[Option.some.injEq,aB.seq.injEq] at g6
         obtain⟨e5,e6⟩:=g6
         subst e5 e6
         rw[Option.map_eq_some_iff] at g8
         obtain⟨q3,g8,e7⟩:=g8
         simp only[aB.block.injEq] at e7
         obtain⟨rfl,e7⟩:=e7
         subst e7
         split at g8
         rotate_left
         · simp at g8
         rename_i t9 t10 g9 g10
         rw[mw] at g8
         simp only[Option.some.injEq,aB.seq.injEq] at g8
         obtain⟨e8,e9⟩:=g8
         subst e8 e9
         rw[Option.map_eq_some_iff] at g9
         obtain⟨l5,g9,e10⟩:=g9
         simp only[aB.region.injEq] at e10
         subst e10
         simp only[exec,aT] at ag
         refine wpIn_seq (wpIn_seq ?_)
         split at ag
         rotate_left
         · rename_i r za
           refine wpIn_mono (ih Kk hn (.region iR JQ dR) (iO.vh (by simp[cD])) _ σ σ' e a w (by simpa only[bA] using g1) ag hs) fun ex a' w' hq=> ?_
           obtain⟨rfl,kl⟩:=hq
           cases e with
           | normal=>exact absurd ag (za σ')
           | exit id=>exact⟨rfl,kl⟩
           | ret=>exact⟨rfl,kl⟩
         rename_i σ1 hx
         refine wpIn_mono (ih Kk hn (.region iR JQ dR) (iO.vh (by simp[cD])) _ σ σ1 .normal a w (by simpa only[bA] using g1) hx hs) fun ex a' w' hq=> ?_
         obtain⟨rfl,ub⟩:=hq
         rcases Nat.eq_zero_or_pos fuel with hf| hf
         · subst hf;simp[exec] at ag
         obtain⟨f1,rfl⟩: ∃f,fuel=f+1:=⟨fuel - 1,by omega⟩
         simp only[exec,aT] at ag
         rcases Nat.eq_zero_or_pos f1 with hf1| hf1
         · subst hf1;simp[exec] at ag
         obtain⟨f2,rfl⟩: ∃f,f1=f+1:=⟨f1 - 1,by omega⟩
         have hB:CJ X n ops (.cond cc cx cy) (exec E f2) (.seq (.region ((l.map fun o=> {o with pre:=[]}).drop 1)) t7):=by
           intro s s' e' μ1 a1 w1 Q K hb iI hQ hK
           rcases Nat.eq_zero_or_pos f2 with Mr| Mr
           · subst Mr;simp[exec] at hb
           obtain⟨f3,rfl⟩: ∃f,f2=f+1:=⟨f2 - 1,by omega⟩
           simp only[exec,aT] at hb
           rcases Nat.eq_zero_or_pos f3 with Xz| Xz
           · subst Xz;simp[exec] at hb
           obtain⟨f4,rfl⟩: ∃f,f3=f+1:=⟨f3 - 1,by omega⟩
           have cJ:0 <ops.size:=(Array.getElem?_eq_some_iff.1 ho).1
           split at hb
           rotate_left
           · rename_i r za
             simp only[exec,aT,Option.map_eq_some_iff,Prod.mk.injEq] at hb
             obtain⟨s1,h3,rfl,rfl⟩:=hb
             exact absurd (by simp only[exec,aT,h3,Option.map_some]) (za s1)
           rename_i s1 Ms
           simp only[exec,aT,Option.map_eq_some_iff,Prod.mk.injEq,true_and] at Ms
           obtain⟨s2,h3,rfl⟩:=Ms
           refine fN (hH f4 (by omega)) (lO.Xy (c:= .skip) (iO.vh (by simp[cD]))) hn g5 (ops.size - 1) 1 (by omega) iI (by rw[List.map_drop];exact h3) fun a2 w2 Ck=>hK _ _ ?_
           refine wpIn_mono (YQ (f4+1) (by omega) (fun m PT=>hH m (by omega)) hn (.cond cc cx cy) (iO.vh (by simp[cD])) t7 s2 s' e' a2 w2 (by simpa only[bA] using g7) hb Ck) fun ex a3 w3 hq=> ?_
           obtain⟨rfl,HY⟩:=hq
           have:=hQ a3 w3 HY
           cases e'<;>exact this
         have hM:Gv X n jg z5 b1 (exec E f2) (.block b1 (.seq (.region ((l5.map fun o=> {o with pre:=[]}).drop 1)) t10)):=by
           intro s s' μ1 a1 w1 Q hb iI hQ
           rcases Nat.eq_zero_or_pos f2 with Mr| Mr
           · subst Mr;simp[exec] at hb
           obtain⟨f3,rfl⟩: ∃f,f2=f+1:=⟨f2 - 1,by omega⟩
           simp only[exec,aT] at hb
           rcases Nat.eq_zero_or_pos f3 with Xz| Xz
           · subst Xz;simp[exec] at hb
           obtain⟨f4,rfl⟩: ∃f,f3=f+1:=⟨f3 - 1,by omega⟩
           have cJ:0 <jg.size:=(Array.getElem?_eq_some_iff.1 ho5).1
           have inner: ∀e' (R:Go.Exit→Go.Act→World→Prop),exec E (f4+1) (.seq (.region ((l5.map fun o=> {o with pre:=[]}).drop 1)) t10) s=some (e',s')→(∀a' w',jo X μ1 n s' a' w'→R e'.conv a' w')→wpOpsIn (Fr n.ro) 0 X.P jg (Exit.then (z5.wpIn (Fr n.ro) 0 X.P R) R) (List.range' 1 (jg.size - 1)) a1 w1:=by
             intro e' R hb hR
             simp only[exec,aT] at hb
             rcases Nat.eq_zero_or_pos f4 with hf4| hf4
             · subst hf4;simp[exec] at hb
             obtain⟨f5,rfl⟩: ∃f,f4=f+1:=⟨f4 - 1,by omega⟩
             split at hb
             rotate_left
             · rename_i r za
               simp only[exec,aT,Option.map_eq_some_iff,Prod.mk.injEq] at hb
               obtain⟨s1,h3,rfl,rfl⟩:=hb
               exact absurd (by simp only[exec,aT,h3,Option.map_some]) (za s1)
             rename_i s1 Ms
             simp only[exec,aT,Option.map_eq_some_iff,Prod.mk.injEq,true_and] at Ms
             obtain⟨s2,h3,rfl⟩:=Ms
             refine fN (hH f5 (by omega)) (lO.Xy (c:= .skip) (iO.vh (by simp[cD]))) hn g9 (jg.size - 1) 1 (by omega) iI (by rw[List.map_drop];exact h3) fun a2 w2 Ck=> ?_
             refine wpIn_mono (YQ (f5+1) (by omega) (fun m PT=>hH m (by omega)) hn z5 (iO.vh (by simp[cD])) t10 s2 s' e' a2 w2 g10 hb Ck) fun ex a3 w3 hq=> ?_
             obtain⟨rfl,HY⟩:=hq
             exact hR a3 w3 HY
           split at hb
           · rename_i kj s1 sG
             split at hb
             · rename_i heq
               simp only[Option.some.injEq,Prod.mk.injEq,true_and] at hb
               subst hb;subst heq
               exact inner _ _ sG fun a' w' kl=>by
                simp only[bF.conv,Go.Exit.inBlock,if_true]
                exact hQ a' w' kl
             · simp at hb
           · exact inner _ _ hb fun a' w' kl=>hQ a' w' kl
         split at ag
         rotate_left
         · rename_i r za
           obtain⟨rfl,_⟩:=zF (μ0:=μ0) (i0:=i0) (i5:=i5) hB hM ho k1 k2 k3 (by rw[←hn];exact sJ) ho5 k4 k5 k6 (by rw[←hn];exact cu) ag ub
           exact absurd ag (za σ')
         rename_i σ2 hkr
         obtain⟨_,hwp⟩:=zF (μ0:=μ0) (i0:=i0) (i5:=i5) hB hM ho k1 k2 k3 (by rw[←hn];exact sJ) ho5 k4 k5 k6 (by rw[←hn];exact cu) hkr ub
         refine wpIn_mono hwp fun ex a2 w2 hq=> ?_
         obtain⟨rfl,σe,σp,q1,q2,q3⟩:=hq
         refine wpIn_seq ?_
         refine wpIn_mono (YQ f2 (by omega) (fun m PT=>hH m (by omega)) hn (.region iS Mq dS) (iO.vh (by simp[cD])) _ σe σp .normal a2 w2 (by simpa only[bA] using g3) q2 q1) fun ex a3 w3 hq=> ?_
         obtain⟨rfl,HY⟩:=hq
         exact YQ (f2+1) (by omega) (fun m PT=>hH m (by omega)) hn rest (iO.vh (by simp[cD])) _ σ2 σ' e a3 w3 g4 ag (q3 a3 w3 HY)
       rw[hk] at ag
       simp only[exec,aT] at ag
       refine wpIn_seq ?_
       split at ag
       · rename_i σ1 hx
         refine wpIn_mono (ih Kk hn x (iO.sub fun k=>by simp only[cD,Bool.and_eq_true] at k;exact k.1) ax σ σ1 .normal a w h1 hx hs) fun ex a' w' hq=> ?_
         obtain⟨rfl,kl⟩:=hq
         exact ih Kk hn y (iO.sub fun k=>by simp only[cD,Bool.and_eq_true] at k;exact k.2) ay σ1 σ' e a' w' h2 ag kl
       · rename_i r cu
         refine wpIn_mono (ih Kk hn x (iO.sub fun k=>by simp only[cD,Bool.and_eq_true] at k;exact k.1) ax σ σ' e a w h1 ag hs) fun ex a' w' hq=> ?_
         obtain⟨rfl,kl⟩:=hq
         cases e with
         | normal=>exact absurd ag (cu σ')
         | exit id=>exact⟨rfl,kl⟩
         | ret=>exact⟨rfl,kl⟩
     · simp at aY
   | cond c x y=>
     intro ac σ σ' e a w aY ag hs
     simp only[bA] at aY
     split at aY
     · rename_i c' ax ay h0 h1 h2
       injection aY with aY;subst aY
       simp only[exec,aT] at ag
       split at ag
       · rename_i hb
         exact wpIn_cond_true (uG hs h0 hb) (ih Kk hn x (iO.sub fun k=>by simp only[cD,Bool.and_eq_true] at k;exact k.1) ax σ σ' e a w h1 ag hs)
       · rename_i hb
         exact wpIn_cond_false (uG hs h0 hb) (ih Kk hn y (iO.sub fun k=>by simp only[cD,Bool.and_eq_true] at k;exact k.2) ay σ σ' e a w h2 ag hs)
       · simp at ag
     · simp at aY
   | block id b=>
     intro ac σ σ' e a w aY ag hs
     simp only[bA,Option.map_eq_some_iff] at aY
     obtain⟨ab,h1,rfl⟩:=aY
     simp only[exec,aT] at ag
     refine wpIn_block ?_
     split at ag
     · rename_i kj σ1 hb
       refine wpIn_mono (ih Kk hn b (iO.sub fun k=>by simpa only[cD] using k) ab σ σ1 (.exit kj) a w h1 hb hs) fun ex a' w' hq=> ?_
       obtain⟨rfl,kl⟩:=hq
       simp only[bF.conv,Go.Exit.inBlock]
       split at ag
       · rename_i heq
         simp only[Option.some.injEq,Prod.mk.injEq] at ag
         obtain⟨rfl,rfl⟩:=ag
         rw[if_pos heq]
         exact⟨rfl,kl⟩
       · rename_i cu
         simp only[Option.some.injEq,Prod.mk.injEq] at ag
         obtain⟨rfl,rfl⟩:=ag
         rw[if_neg cu]
         exact⟨rfl,kl⟩
     · rename_i r cu
       refine wpIn_mono (ih Kk hn b (iO.sub fun k=>by simpa only[cD] using k) ab σ σ' e a w h1 ag hs) fun ex a' w' hq=> ?_
       obtain⟨rfl,kl⟩:=hq
       cases e with
       | normal=>exact⟨rfl,kl⟩
       | exit kj=>exact absurd ag (cu kj σ')
       | ret=>exact⟨rfl,kl⟩
   | loop b=>
     intro ac σ σ' e a w aY ag hs
     simp only[bA,Option.map_eq_some_iff] at aY
     obtain⟨ab,h1,rfl⟩:=aY
     have rounds: ∀ (k:Nat),k≤fuel+1→ ∀ (σ:St),exec E k (.loop ab) σ=some (e,σ')→ ∃m,∀a w,jo X μ0 n σ a w→Code.roundsIn (Fr n.ro) 0 X.P b (Ends X μ0 n e σ') m a w:=by
       intro k
       induction k with
       | zero=>intro _ σ hr;simp[exec] at hr
       | succ k ihk=>
         intro hk σ hr
         simp only[exec,aT] at hr
         have body: ∀ (σ1:St) (e1:bF),exec E k ab σ=some (e1,σ1)→ ∀a w,jo X μ0 n σ a w→b.wpIn (Fr n.ro) 0 X.P (Ends X μ0 n e1 σ1) a w:=fun σ1 e1 hx a w hs=>
           YQ k (by omega) (fun m PT=>hH m (by omega)) hn b (iO.vh rfl) ab σ σ1 e1 a w h1 hx hs
         split at hr
         · rename_i σ1 hx
           obtain⟨m,cm⟩:=ihk (by omega) σ1 hr
           refine⟨m+1,fun a w hs=> ?_⟩
           rw[roundsIn_succ]
           refine wpIn_mono (body σ1 .normal hx a w hs) fun ex a' w' hq=> ?_
           obtain⟨rfl,kl⟩:=hq
           exact cm a' w' kl
         · rename_i r cu
           refine⟨1,fun a w hs=> ?_⟩
           rw[roundsIn_succ]
           refine wpIn_mono (body σ' e hr a w hs) fun ex a' w' hq=> ?_
           obtain⟨rfl,kl⟩:=hq
           cases e with
           | normal=>exact absurd hr (cu σ')
           | exit kj=>exact⟨rfl,kl⟩
           | ret=>exact⟨rfl,kl⟩
     obtain⟨m,PT⟩:=rounds (fuel+1) (Nat.le_refl _) σ ag
     exact wpIn_loop_rounds m (PT a w hs)
   | exit id=>
     intro ac σ σ' e a w aY ag hs
     simp[bA] at aY;subst aY
     simp[exec,aT] at ag
     obtain⟨rfl,rfl⟩:=ag
     exact wpIn_exit ⟨rfl,hs⟩
   | ret=>
     intro ac σ σ' e a w aY ag hs
     simp[bA] at aY;subst aY
     simp[exec,aT] at ag
     obtain⟨rfl,rfl⟩:=ag
     exact wpIn_ret ⟨rfl,hs⟩
   | label l=>
     intro ac σ σ' e a w aY ag hs
     simp[bA] at aY;subst aY
     simp[exec,aT] at ag
     obtain⟨rfl,rfl⟩:=ag
     exact wpIn_label ⟨rfl,hs⟩
   | scope b=>
     intro ac σ σ' e a w aY ag hs
     simp only[bA,Option.map_eq_some_iff] at aY
     obtain⟨ab,h1,rfl⟩:=aY
     simp only[exec,aT] at ag
     refine Gy ?_
     refine wpIn_mono (ih Kk hn b (iO.sub fun k=>by simpa only[cD] using k) ab σ σ' e a w h1 ag hs) fun ex a' w' hq=> ?_
     obtain⟨rfl,kl⟩:=hq
     cases e<;>exact⟨rfl,kl⟩
   | rangeFunc f ps x y=>
     intro ac σ σ' e a w aY ag hs
     simp only[bA] at aY
     split at aY
     rotate_left
     · simp at aY
     rename_i f' ax ay h0 h1 h2
     split at aY
     rotate_left
     · simp at aY
     rename_i NJ
     injection aY with aY;subst aY
     simp only[exec,aT] at ag
     split at ag
     · rename_i g caps Ag
       split at ag
       · rename_i xs GX
         split at ag
         · rename_i hlen
           obtain⟨jr,cJ,φ,hr,hle⟩:=hs
           have hf:=aX hr h0 σ.O
           have hf':bM ⟨σ.T,σ.O⟩ f'= .fn g caps:=Ag
           rw[hf'] at hf
           simp only[au] at hf
           obtain⟨F,cv,hF,yQ,H3⟩:=hf
           refine EF (lb:=cv) (xs:=xs) (rec:=exec E fuel) ?_ ?_ ⟨jr,cJ,φ,hr,hle⟩ ?_ hF ?_ ?_ ag
           · intro l s s' e' m b v hb iI
             exact ih Kk (n:=⟨n.tm,0,some l⟩) hn x (iO.vh rfl) ax s s' e' b v h1 hb iI
           · intro l s s' e' m b v hb iI
             exact ih Kk (n:=⟨n.tm,0,some l⟩) hn y (iO.vh rfl) ay s s' e' b v h2 hb iI
           · intro p hp
             rw[List.all_eq_true] at NJ
             have:=NJ p hp
             rw[Nat.blt_eq] at this
             rw[hn] at this
             exact this
           · intro φ2 sY
             exact NU g F caps xs GX yQ ⟨w,φ2,σ.O⟩ cv (by
               have Mr:=aX sY h0 σ.O
               have af8:bM ⟨σ.T,σ.O⟩ f'= .fn g caps:=Ag
               rw[af8] at Mr
               simp only[au] at Mr
               obtain⟨F2,cv2,hF2,_,XA⟩:=Mr
               rw[hF] at hF2
               injection hF2 with _ _ e3
               rw[e3];exact XA) sY.bB
           · intro x hx
             rw[List.all_eq_true] at hlen
             have:=hlen x hx
             rw[Nat.beq_eq] at this
             simpa using this
         · simp at ag
       · simp at ag
     · simp at ag
   | goto l=>
     intro ac σ σ' e a w aY ag hs
     simp[bA] at aY;subst aY
     simp[exec,aT] at ag
   | refuse y=>
     intro ac σ σ' e a w aY ag hs
     simp[bA] at aY;subst aY
     simp[exec,aT] at ag
end
end Go.AM
