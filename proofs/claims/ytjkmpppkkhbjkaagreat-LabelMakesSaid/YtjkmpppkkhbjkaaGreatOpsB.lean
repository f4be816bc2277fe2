/-
  Texts of the proof: AmOps8, AmOps9, AmCall1, AmMap, AmConv, AmApp, AmDisp, AmExec, AmDraw, AmLoopM, AmRange, AmCode.
-/
import Derived.Test.YtjkmpppkkhbjkaaGreatOpsA
import Derived.Test.YtjkmpppkkhbjkaaGreatTail
import Derived.Test.YtjkmpppkkhbjkaaGreatDefs
import Derived.MapKept
import Derived.Lib.ConvBytes
import Derived.Laws.BytesString
import Derived.Laws.AppendOwn
import Derived.Scope
import Derived.Laws.IdiomRangeMap
set_option linter.unusedSimpArgs false
set_option linter.unusedVariables false
namespace Go.AM
open Go Go.RowKit
section
variable {X:Ctx} {E:Env} {C:a9} {o:Oper} {a:Go.Act} {T:Nat→V} {μ:Mu} {v:V} {σ':St}
theorem uQ (bs:List UInt8):flat (bs.map fun b=>Value.int .u8 b.toNat)=bs.map fun b=>Value.int .u8 b.toNat:=by
 induction bs with
 | nil=>rfl
 | cons b bs ih=>simp only[List.map_cons,flat,List.flatMap_cons] at ih ⊢;rw[ih];rfl
theorem aj.bytes (bs:List UInt8):aj X μ (bs.map fun b=>V.int .u8 b.toNat) (bs.map fun b=>Value.int .u8 b.toNat):=by
 induction bs with
 | nil=>simp[aj]
 | cons b bs ih=>simp only[List.map_cons,aj];exact⟨by simp[ak],ih⟩
theorem fp {sz:Nat} {x:V} {xv:Value} {k:List V→Act} {p:V×St} (ho:bc X μ) (hx:ak X μ x xv) (ag: (content sz x k).run C ⟨T,μ.O⟩=some p):
  ∃ys us,(k ys).run C ⟨T,μ.O⟩=some p∧aj X μ ys us∧(Builtin.lenOf xv).run X.P μ.w= .ok ys.length μ.w∧
    ∀w',w'.heap=μ.w.heap→ ∀n,n≤ys.length→(Builtin.firstCells sz n xv).run X.P w'= .ok (flat (us.take n)).toArray w':=by
 cases x<;>simp only[content] at ag<;>try exact absurd ag av
 ·
  split at ag
  · rename_i s hs
    simp only[ak] at hx
    obtain⟨bs,rfl,rfl⟩:=hx
    refine⟨_,_,ag,aj.bytes _,?_,fun w' iM n hn=> ?_⟩
    · simp only[Builtin.lenOf,Sem.run_pure,List.length_map];rw[bM];rfl
    · have: (bs.extract 0 n).data.map (fun b=>Value.int .u8 b.toNat)=(flat ((bs.data.toList.map fun b=>Value.int .u8 b.toNat).take n)).toArray:=by
        rw[←List.map_take,uQ]
        apply Array.ext'
        simp[ByteArray.data_extract,Array.toList_extract,List.extract_eq_take_drop]
      simp only[Builtin.firstCells,Sem.run_pure,this]
  · exact absurd ag av
 ·
  simp only[ak] at hx
  obtain⟨q,rfl⟩:=hx
  refine⟨[],[],ag,by simp[aj],by simp[Builtin.lenOf],fun w' iM n hn=> ?_⟩
  have:n=0:=by simpa using hn
  subst this
  cases q<;>simp[Builtin.firstCells,loadCells,loadCellsFrom,flat]
 ·
  split at ag
  · rename_i sz' xs hs
    subst hs
    simp only[ak] at hx
    obtain⟨_,_,q,cap,vs,rfl,_,vH,jm⟩:=hx
    refine⟨xs,vs,ag,vH,by simp[Builtin.lenOf],fun w' iM n hn=> ?_⟩
    rcases jm with rfl| ⟨b,q',rfl,_,_,fR⟩
    · have:n=0:=by simpa using hn
      subst this
      cases q<;>simp[Builtin.firstCells,loadCells,loadCellsFrom,flat]
    · simp only[Builtin.firstCells]
      exact nF (fR.bZ (by rw[iM])) (by rw[←vH.length];exact hn)
  · exact absurd ag av
 ·
  rename_i r g off len
  simp only[Act.run] at ag
  split at ag
  · rename_i es bl
    split at ag
    · rename_i hc
      obtain⟨rk,td,KV⟩:=hc
      simp only[ak] at hx
      obtain⟨q,cap,rfl,hle,_,bY⟩:=hx
      obtain⟨k0,k1,k2⟩:=bY rk
      have lV: (aJ es off len).length=len:=by simp[aJ];omega
      obtain⟨q1,q2,q3,q4⟩:=ho.row r es bl k0
      by_cases cE:cap=0
      · have yM:len=0:=by omega
        subst yM
        refine⟨_,[],ag,by simp[aJ,aj],by simp[Builtin.lenOf,aJ],fun w' iM n hn=> ?_⟩
        have:n=0:=by simpa [aJ] using hn
        subst this
        cases q<;>simp[Builtin.firstCells,loadCells,loadCellsFrom,flat]
      · rcases q4 with q4| ⟨cc,TT,vs,p1,p2,p3,p4⟩
        · omega
        · have hqe:=k2.resolve_left cE
          subst hqe
          refine⟨_,(vs.drop off).take len,ag,aj.take _ (aj.drop _ p3),by simp only[Builtin.lenOf,Sem.run_pure,lV],fun w' iM n hn=> ?_⟩
          simp only[Builtin.firstCells]
          have ph:=(p4.drop off).take len
          rw[td] at ph
          rw[td]
          refine nF (ph.bZ (by rw[iM])) ?_
          rw[lV] at hn
          have:=p3.length
          simp;omega
    · exact absurd ag av
  · exact absurd ag av
theorem wP (bD:Nat): ∀ (k c:Nat),c≤bD+(bD+768) / 4→Builtin.growBy bD k c≤bD+(bD+768) / 4
 | 0,c,h=>h
 | k+1,c,h=>by
   simp only[Builtin.growBy]
   split
   · exact h
   · exact wP bD k _ (by omega)
theorem BI {bD old:Nat} (h:old<bD):Builtin.nextslicecap bD old≤2*bD+192:=by
 unfold Builtin.nextslicecap
 split
 · omega
 · split
   · omega
   · have:=wP bD 4 old (by omega)
     omega
theorem GR {bD old bytes:Nat} (h:old<bD) (hl:bD≤nZ bytes): ¬Builtin.nextslicecap bD old*bytes >2 ^ 48∧ ¬ ((bD:Int) >IntKind.i64.max):=by
 unfold nZ at hl
 rw[Nat.mul_comm,Nat.sub_mul_div] at hl
 have h1:=BI h
 have h2:bD+200≤140737488355328 / (bytes+1):=by omega
 have h3: (bD+200)*(bytes+1)≤140737488355328:=(Nat.le_div_iff_mul_le (by omega)).1 h2
 have h4:Builtin.nextslicecap bD old*bytes≤(2*(bD+200))*(bytes+1):=Nat.mul_le_mul (by omega) (by omega)
 have h5: (2*(bD+200))*(bytes+1)=2*((bD+200)*(bytes+1)):=by rw[Nat.mul_assoc]
 have h6: (2:Nat) ^ 48=281474976710656:=by decide
 have h7:bD+200≤(bD+200)*(bytes+1):=Nat.le_mul_of_pos_right _ (by omega)
 have h8:IntKind.i64.max=9223372036854775807:=by decide
 refine⟨by omega,by rw[h8];omega⟩
theorem fB {sT xT e:TypeId} {d:TypeDesc} {sz n sLen sCap:Nat} {base:Option Addr} {xv:Value} {new:Array Value} {w w':World} {ty:TypeId}
  (hd:X.P.underlying sT=some (.slice e)) (hx:X.P.underlying xT=some d) (zV: ∀k,d≠ .int k) (hn:bq X e=some sz) (hl: (Builtin.lenOf xv).run X.P w= .ok n w)
  (gm:sLen+n≤sCap) (oP: (Builtin.firstCells sz n xv).run X.P w= .ok new w)
  (nq:match base with| some p=> (storeCells (p.add (sLen*sz)) new.toList).run X.P w= .ok () w'| none=>w'=w):
  (Builtin.append_ #[sT,xT] ty #[.slice base sLen sCap,xv]).run X.P w= .ok (.slice base (sLen+n) sCap) w':=by
 have hm: (match d with| .int _=>true| _=>false)=false:=by
  cases d<;>first| rfl| exact absurd rfl (zV _)
 have Jj: (#[sT,xT]:Array TypeId)[0]? =some sT:=rfl
 have XC: (#[sT,xT]:Array TypeId)[1]? =some xT:=rfl
 have MA: (#[Value.slice base sLen sCap,xv]:Array Value)[0]? =some (.slice base sLen sCap):=rfl
 have kK: (#[Value.slice base sLen sCap,xv]:Array Value)[1]? =some xv:=rfl
 simp only[Builtin.append_,Jj,XC,MA,kK,Sem.run_bind,run_underlying hd,Result.andThen_ok,cN hn,run_underlying hx,Sem.run_pure,hm,Bool.false_eq_true,if_false,hl]
 rw[if_pos gm]
 simp only[Bool.not_false,if_true,Sem.run_bind,oP,Result.andThen_ok]
 cases base with
 | none=>simp only at nq;subst nq;simp
 | some p=>simp only at nq;simp[Sem.run_bind,nq]
theorem iv {sT xT e:TypeId} {d:TypeDesc} {sz n sLen sCap:Nat} {base:Option Addr} {xv zv:Value} {old new:Array Value} {w:World} {ty:TypeId} {i:TypeInfo}
  (hd:X.P.underlying sT=some (.slice e)) (hx:X.P.underlying xT=some d) (zV: ∀k,d≠ .int k) (hn:bq X e=some sz) (hi:X.P.info? e=some i)
  (hz: ∀w,(zeroValue e).run X.P w= .ok zv w) (hl: (Builtin.lenOf xv).run X.P w= .ok n w) (ky:sCap<sLen+n) (sS:sLen+n≤nZ i.bytes)
  (hold: (Builtin.firstCells sz sLen (.slice base sLen sCap)).run X.P w.drew= .ok old w.drew) (oP: (Builtin.firstCells sz n xv).run X.P w.drew= .ok new w.drew):
  ∃newCap,sLen+n≤newCap∧(Builtin.append_ #[sT,xT] ty #[.slice base sLen sCap,xv]).run X.P w=
   .ok (.slice (some ⟨w.heap.size,0,none⟩) (sLen+n) newCap) (w.drew.alloc (.cells (old++new++Builtin.zeroCells zv.cells (newCap - (sLen+n))) e)):=by
 have hm: (match d with| .int _=>true| _=>false)=false:=by
  cases d<;>first| rfl| exact absurd rfl (zV _)
 have Jj: (#[sT,xT]:Array TypeId)[0]? =some sT:=rfl
 have XC: (#[sT,xT]:Array TypeId)[1]? =some xT:=rfl
 have MA: (#[Value.slice base sLen sCap,xv]:Array Value)[0]? =some (.slice base sLen sCap):=rfl
 have kK: (#[Value.slice base sLen sCap,xv]:Array Value)[1]? =some xv:=rfl
 obtain⟨r1,r2⟩:=GR ky sS
 refine⟨(Question.appendCap (sLen+n) sCap e).cut (w.tape w.drawn (.appendCap (sLen+n) sCap e)),by simp[Question.cut],?_⟩
 simp only[Builtin.append_,Jj,XC,MA,kK,Sem.run_bind,run_underlying hd,Result.andThen_ok,cN hn,run_underlying hx,Sem.run_pure,hm,Bool.false_eq_true,if_false,hl]
 rw[if_neg (by omega)]
 simp only[Sem.run_bind,run_typeInfo w hi,Result.andThen_ok]
 have c2: ¬ (((sLen+n:Nat):Int) >IntKind.i64.max∧(False∨i.bytes=0)):=fun h=>r2 h.1
 rw[if_neg c2]
 simp only[Sem.run_bind,run_typeInfo w hi,Result.andThen_ok]
 rw[if_neg r1]
 have hch: (choose (.appendCap (sLen+n) sCap e)).run X.P w= .ok ((Question.appendCap (sLen+n) sCap e).cut (w.tape w.drawn (.appendCap (sLen+n) sCap e))) w.drew:=by
  rw[run_choose];simp only[Question.forced,Bool.false_eq_true,if_false];rfl
 simp only[Sem.run_bind,hch,Result.andThen_ok,run_typeInfo w.drew hi,run_askRoom,hold,Bool.not_false,if_true,oP,hz,Sem.run_pure,newRow,run_newObj]
 rfl
theorem zW {us rest:List Value} {sz:Nat} (h: ∀u ∈ us,u.cells.size=sz):cW (flat us++rest) 0 sz us:=by
 intro i v hv
 have hm:=h v (List.mem_of_getElem? hv)
 refine⟨hm,fun j x hx=> ?_⟩
 have:=qq h hv hx
 have bp:i*sz+j< (flat us).length:=(List.getElem?_eq_some_iff.1 this).1
 rw[Nat.zero_add,List.getElem?_append_left bp];exact this
theorem zX (us vs:List Value):flat (us++vs)=flat us++flat vs:=by simp[flat]
theorem mI {zv:Value} {sz n:Nat} (h:zv.cells.size=sz): (Builtin.zeroCells zv.cells n).size=n*sz:=by simp[Builtin.zeroCells,h]
theorem nG {α:Type} {n:Nat} {l:List α} (h:l.length≤n):l.take n=l:=List.take_of_length_le h
theorem uR {O1:Nat→Obj} (hO:bc X ⟨μ.w,μ.φ,O1⟩) {r sz newCap:Nat} {olds ys:List V} {ous us:List Value} {zv:Value} {e:TypeId} {o0:Obj}
  (ho0:o0={gen:=o0.gen,sz:=sz,arr:=true,fz:=false,es:=some (olds++ys)}) (Zj:o0.gen=(O1 r).gen+1)
  (ck:0 <sz) (h1:aj X ⟨μ.w,μ.φ,O1⟩ olds ous) (h2:aj X ⟨μ.w,μ.φ,O1⟩ ys us) (b1:olds.all (aO · sz)=true) (b2:ys.all (aO · sz)=true)
  (hz:zv.cells.size=sz) (cE:olds.length+ys.length≤newCap):
  let μ':Mu:=⟨μ.w.drew.alloc (.cells ((flat ous).toArray++(flat us).toArray++Builtin.zeroCells zv.cells (newCap - (olds.length+ys.length))) e),dg μ.φ r ⟨μ.w.heap.size,0,newCap⟩,dg O1 r o0⟩
  Le ⟨μ.w,μ.φ,O1⟩ μ'∧bc X μ':=by
 intro μ'
 obtain⟨XD,hod⟩:=Le.drew (X:=X) (μ:=⟨μ.w,μ.φ,O1⟩) hO
 have bQ:aj X ⟨μ.w.drew,μ.φ,O1⟩ (olds++ys) (ous++us):=aj.mono XD (h1.append h2)
 have hs: ∀u ∈ ous++us,u.cells.size=sz:=((h1.append h2).kr (sz:=sz) (by simp only[List.all_append,b1,b2,Bool.and_self])).1
 have YL:=h1.length
 have Bg:=h2.length
 have vS:=dW hs
 have BE: ((flat ous).toArray++(flat us).toArray++Builtin.zeroCells zv.cells (newCap - (olds.length+ys.length))).toList=flat (ous++us)++(Builtin.zeroCells zv.cells (newCap - (olds.length+ys.length))).toList:=by
  simp[zX]
 have kI:newCap*sz≤((flat ous).toArray++(flat us).toArray++Builtin.zeroCells zv.cells (newCap - (olds.length+ys.length))).size:=by
  rw[←bM,BE,List.length_append,vS,bM (Builtin.zeroCells _ _),mI hz,←Nat.add_mul]
  apply Nat.mul_le_mul_right
  rw[List.length_append];omega
 have:=xW (X:=X) (μ:=⟨μ.w.drew,μ.φ,O1⟩) hod r sz newCap true (es:=olds++ys) (vs:=ous++us) (c:=(flat ous).toArray++(flat us).toArray++Builtin.zeroCells zv.cells (newCap - (olds.length+ys.length))) e ck
  (by simp;omega) (by simp only[List.all_append,b1,b2,Bool.and_self]) bQ kI (fun i u hu=>by
    have sO:=zW (rest:=(Builtin.zeroCells zv.cells (newCap - (olds.length+ys.length))).toList) hs
    rw[←BE] at sO
    obtain⟨m1,m2⟩:=sO i u hu
    refine⟨m1,fun j x hx=> ?_⟩
    have:=m2 j x hx
    rw[Nat.zero_add] at this
    rw[←Array.getElem?_toList];exact this)
 have heq: ({gen:=(O1 r).gen+1,sz:=sz,arr:=true,fz:=false,es:=some (olds++ys)}:Obj)=o0:=by rw[ho0,Zj]
 simp only[heq] at this
 exact⟨XD.trans this.1,this.2⟩
theorem jq {sz:Nat} {p:Option Addr} {n m:Nat} {w:World}: (Builtin.firstCells sz 0 (.slice p n m)).run X.P w= .ok #[] w:=by
 cases p<;>simp[Builtin.firstCells,loadCells,loadCellsFrom]
theorem mJ (       bZ:Bool) {c:Call} {s x:Operand} {sT xT e:TypeId} {d:TypeDesc} {s' x':aQ} {r sz:Nat} {i:TypeInfo} {z:V} (hr:Rel X T a μ) (ho:o.op= .call c) (hc:c.callee= .builtin .append)
   (fq:c.args= #[s,x]) (rB:c.argTypes= #[sT,xT]) (hd:aZ X sT=some (.slice e)) (hx:aZ X xT=some d) (zV: ∀k,d≠ .int k) (hn:bq X e=some sz) (hi:info X e=some i)
   (hz:dH X e=some z) (D4:aO z sz=true) (h1:cr X s=some s') (h2:cr X x=some x')
   (ag: (content sz (a8 ⟨T,μ.O⟩ x') fun ys=>match bZ with| true=>zj r sz (nZ i.bytes) (a8 ⟨T,μ.O⟩ s') ys| false=>iH ys fun ys=>zj r sz (nZ i.bytes) (a8 ⟨T,μ.O⟩ s') ys).run C ⟨T,μ.O⟩=some (v,σ')):σ'.T=T∧ca X o a μ σ'.O v:=by
 have hs:=aL hr h1 μ.O
 have D6:=aL hr h2 μ.O
 have kJ:X.P.underlying sT=some (.slice e):=hd
 have AS:X.P.underlying xT=some d:=hx
 have AT:X.P.info? e=some i:=hi
 obtain⟨ys0,us,k1,k2,k3,k4⟩:=fp hr.aY D6 ag
 have fN: ∃ys O1,(zj r sz (nZ i.bytes) (a8 ⟨T,μ.O⟩ s') ys).run C ⟨T,O1⟩=some (v,σ')∧aj X ⟨μ.w,μ.φ,O1⟩ ys us∧Le μ ⟨μ.w,μ.φ,O1⟩∧bc X ⟨μ.w,μ.φ,O1⟩:=by
   cases bZ with
   | true=>exact⟨ys0,μ.O,k1,k2,Le.refl μ,hr.aY⟩
   | false=>exact uL (μ:=μ) hr.aY k2 k1
 obtain⟨ys,O1,g1,g2,g3,g4⟩:=fN
 unfold zj at g1
 have hyl:ys.length=ys0.length:=by rw[g2.length,k2.length]
 rw[←hyl] at k3 k4
 have yh:us.length=ys.length:=g2.length.symm
 have GS: ∀w',w'.heap=μ.w.heap→(Builtin.firstCells sz ys.length (a.eval x)).run X.P w'= .ok (flat us).toArray w':=fun w' iM=>by
   have:=k4 w' iM ys.length (Nat.le_refl _)
   rwa [nG (by omega)] at this
 have si:=GS μ.w rfl
 have yi:=GS μ.w.drew rfl
 have nO:=ak.mono g3 hs
 have fin: ∀val w',(Builtin.append_ #[sT,xT] o.type #[a.eval s,a.eval x]).run X.P μ.w= .ok val w'→(execOp a.eval o).run X.P μ.w= .ok (.value val) w':=fun val w' hv=>by
   refine da ho hc ?_
   simp only[builtin,fq,rB]
   refine bS ?_
   simpa using hv
 split at g1
 · rename_i hb
   simp only[Bool.and_eq_true,decide_eq_true_eq] at hb
   obtain⟨nS,ck⟩:=hb
   obtain⟨zv,rz,vI⟩:=eT hz μ.w
   have YZ: ∀w,(zeroValue e).run X.P w= .ok zv w:=fun w=>by
    obtain⟨zv',q1,q2⟩:=eT hz w
    have:zv'=zv:=by
      simp only[dH,info,Option.bind_eq_some_iff] at hz
      obtain⟨i0,e1,zq,e2,_⟩:=hz
      simp only[zeroValue,Sem.run_bind,run_typeInfo w e1,run_typeInfo μ.w e1,Result.andThen_ok,e2,Sem.run_pure] at q1 rz
      injection q1 with q1 _;injection rz with rz _
      rw[←q1,←rz]
    rw[←this];exact q1
   obtain⟨sQ,Ig⟩:=dE (X:=X) (μ:=μ) vI
   have GP:zv.cells.size=sz:=by rw[sQ.cV Ig,(bE D4).2]
   obtain⟨yN,yf⟩:=g2.kr nS
   have vS:=dW yN
   have uS:ys.length=0→ ∀ (p:Option Addr) (len cap:Nat),len≤cap→a.eval s= .slice p len cap→(execOp a.eval o).run X.P μ.w= .ok (.value (.slice p len cap)) μ.w:=fun h0 p len cap hle hp=>by
    have Y0:us=[]:=by
      have:us.length=0:=by omega
      simpa using this
    have ns:=fB (X:=X) (sT:=sT) (xT:=xT) (sLen:=len) (sCap:=cap) (base:=p) (ty:=o.type) (w':=μ.w) kJ AS zV hn k3 (by omega) si (by
        cases p with
        | none=>rfl
        | some q=>simp[Y0,flat,storeCells])
    rw[h0,Nat.add_zero] at ns
    exact fin _ _ (by rw[hp];exact ns)
   generalize a8 ⟨T,μ.O⟩ s'=sv at g1 hs nO
   split at g1
   ·
    simp only[ak] at hs
    obtain⟨p,hp⟩:=hs
    split at g1
    · rename_i GU
      obtain⟨rfl,rfl⟩:=aR g1
      have Jk:ys.length=0:=by simpa [List.isEmpty_iff] using GU
      exact⟨rfl,.slice p 0 0,μ.w,μ.φ,.inl (uS Jk p 0 0 (Nat.le_refl _) hp),by simp[ak],g3,g4⟩
    · rename_i GU
      split at g1
      · rename_i sS
        simp only[Act.run,Option.some.injEq,Prod.mk.injEq] at g1
        obtain⟨rfl,rfl⟩:=g1
        have XE:0 <ys.length:=by
          rcases Nat.eq_zero_or_pos ys.length with h0| h0
          · exact absurd (by simpa [List.isEmpty_iff] using h0) GU
          · exact h0
        obtain⟨newCap,zY,ns⟩:=iv (X:=X) (sT:=sT) (xT:=xT) (sLen:=0) (sCap:=0) (base:=p) (ty:=o.type) (old:= #[]) kJ AS zV hn AT YZ k3 (by omega) (by simpa using sS) jq yi
        obtain⟨Ii,KW⟩:=uR (X:=X) (μ:=μ) (O1:=O1) g4 (r:=r) (sz:=sz) (newCap:=newCap) (olds:=[]) (ous:=[]) (ys:=ys) (us:=us) (zv:=zv) (e:=e)
          (o0:={gen:=(O1 r).gen+1,sz:=sz,arr:=true,fz:=false,es:=some ys}) rfl rfl ck (by simp[aj]) g2 rfl nS GP (by simpa using zY)
        have Lr: (flat ([]:List Value)).toArray= #[]:=rfl
        simp only[Lr,List.length_nil] at Ii KW
        refine⟨rfl,.slice (some ⟨μ.w.heap.size,0,none⟩) (0+ys.length) newCap,_,dg μ.φ r ⟨μ.w.heap.size,0,newCap⟩,.inl (fin _ _ (by rw[hp];exact ns)),?_,g3.trans Ii,KW⟩
        simp only[ak,az]
        exact⟨_,newCap,by rw[Nat.zero_add],by omega,Nat.le_refl _,fun _=> ⟨by omega,by simp,by simp⟩⟩
      · exact absurd g1 av
   ·
    rename_i sz' xs
    split at g1
    · rename_i GU
      obtain⟨rfl,rfl⟩:=aR g1
      have Jk:ys.length=0:=by simpa [List.isEmpty_iff] using GU
      have vP:=hs
      simp only[ak] at vP
      obtain⟨_,_,p,cap,_,hp,hle,_⟩:=vP
      exact⟨rfl,a.eval s,μ.w,μ.φ,.inl (by rw[hp];exact uS Jk p _ cap hle hp),nO,g3,g4⟩
    · exact absurd g1 av
   ·
    rename_i r' g off len
    simp only[Act.run] at g1
    split at g1
    · rename_i es bl
      split at g1
      · rename_i hc
        obtain⟨b5,jo,fN,dI,gm,sS⟩:=hc
        simp only[ak] at nO
        obtain⟨p,cap,hp,hle,qK,bY⟩:=nO
        obtain⟨a0,a1,a2⟩:=bY b5
        obtain⟨q1,q2,q3,q4⟩:=g4.row r' es bl a0
        simp only at q1 q2 q3 q4
        have fo:O1 r'={O1 r' with es:=some es}:=by rw[←bl]
        split at g1
        · rename_i rj
          simp only[Act.run,Option.some.injEq,Prod.mk.injEq] at g1
          obtain⟨rfl,rfl⟩:=g1
          refine⟨rfl,?_⟩
          rcases Nat.eq_zero_or_pos ys.length with h0| h0
          ·
            have Jk:ys=[]:=by simpa using h0
            have hov:overwrite es (off+len) ys=es:=by simp[overwrite,Jk]
            have hO:dg O1 r' {O1 r' with es:=some (overwrite es (off+len) ys)}=O1:=by
              funext q
              by_cases hq:q=r'
              · subst hq;rw[az,hov];exact fo.symm
              · rw[aV _ _ hq]
            simp only[hO]
            refine⟨.slice p len cap,μ.w,μ.φ,.inl (uS h0 p len cap hle hp),?_,g3,g4⟩
            rw[h0]
            simp only[ak]
            exact⟨p,cap,rfl,hle,qK,bY⟩
          · have cE:cap≠0:=by omega
            have eB: (μ.φ r').cap≠0:=by omega
            rcases q4 with q4| ⟨cc,T0,vs,p1,p2,p3,p4⟩
            · exact absurd q4 eB
            · have tu:=a2.resolve_left cE
              subst tu
              have CW:=p3.length
              have sO:cW cc.toList (μ.φ r').base sz vs:=by have:=fk p1 p4;rwa [dI] at this
              rw[dI] at p2
              have hmul: (off+len+ys.length)*sz≤(μ.φ r').cap*sz:=Nat.mul_le_mul_right _ (by omega)
              rw[Nat.add_mul] at hmul
              have hw:=sO.write (k:=off+len) (us:=us) (by omega) yN (by rw[bM cc,yh];omega)
              have nq:=fm (P:=X.P) (w:=μ.w) (q:=(μ.φ r').base+(off+len)*sz) p1 (flat us) (by rw[vS,yh];omega) yf
              have ns:=fB (X:=X) (sT:=sT) (xT:=xT) (sLen:=len) (sCap:=cap) (ty:=o.type) (base:=some ⟨(μ.φ r').cK,(μ.φ r').base+off*(O1 r').sz,none⟩)
                (w':=μ.w.setRow (μ.φ r').cK (cf cc.toList ((μ.φ r').base+(off+len)*sz) (flat us)).toArray) kJ AS zV hn k3 (by omega) si (by
                  simp only[ep,dI]
                  have: (μ.φ r').base+off*sz+len*sz=(μ.φ r').base+(off+len)*sz:=by rw[Nat.add_mul];omega
                  rw[this];exact nq)
              have GV:=kn (X:=X) (μ:=⟨μ.w,μ.φ,O1⟩) g4 r' bl fN p1 eB (c':=(cf cc.toList ((μ.φ r').base+(off+len)*sz) (flat us)).toArray)
                (by
                  have: (cf cc.toList ((μ.φ r').base+(off+len)*sz) (flat us)).length=cc.toList.length:=dF (by rw[bM cc,vS,yh];omega)
                  simpa using this)
                (O1 r').gen (μ.φ r').base (μ.φ r').cap (es':=overwrite es (off+len) ys) (vs':=vs.take (off+len)++us++vs.drop (off+len+us.length)) (.inl ⟨rfl,rfl,rfl⟩) eB
                (by simp[overwrite];omega)
                (by
                  simp only[dI] at q3 ⊢
                  have t1:=iU (p:=(aO · sz)) (off+len) q3
                  have t2:=kp (p:=(aO · sz)) (off+len+ys.length) q3
                  simp only[overwrite,List.all_append,t1,nS,t2,Bool.and_self])
                (by
                  have:=((aj.take (off+len) p3).append g2).append (aj.drop (off+len+ys.length) p3)
                  rw[yh];exact this)
                (by rw[dI];exact p2)
                (fun j y hy=>by
                  obtain⟨m1,m2⟩:=hw j y hy
                  refine⟨by rw[dI];exact m1,fun l q hq=> ?_⟩
                  have:=m2 l q hq
                  simp only[dI]
                  simpa using this)
              refine⟨_,_,_,.inl (fin _ _ (by rw[hp];exact ns)),?_,g3.trans GV.1,GV.2⟩
              simp only[ak,az]
              exact⟨_,cap,rfl,by omega,by omega,fun _=> ⟨a0,a1,.inr rfl⟩⟩
        · rename_i rj
          simp only[Act.run,Option.some.injEq,Prod.mk.injEq] at g1
          obtain⟨rfl,rfl⟩:=g1
          refine⟨rfl,?_⟩
          have XE:0 <ys.length:=by omega
          have lV: (aJ es off len).length=len:=by simp[aJ];omega
          have Nx: (aJ es off len).all (aO · sz)=true:=by
            rw[dI] at q3;exact iU _ (kp _ q3)
          by_cases r7:len+ys.length≤cap
          ·
            have cE:cap≠0:=by omega
            have eB: (μ.φ r').cap≠0:=by omega
            rcases q4 with q4| ⟨cc,T0,vs,p1,p2,p3,p4⟩
            · exact absurd q4 eB
            · have tu:=a2.resolve_left cE
              subst tu
              have CW:=p3.length
              have sO:cW cc.toList (μ.φ r').base sz vs:=by have:=fk p1 p4;rwa [dI] at this
              rw[dI] at p2
              have hmul: (off+len+ys.length)*sz≤(μ.φ r').cap*sz:=Nat.mul_le_mul_right _ (by omega)
              rw[Nat.add_mul] at hmul
              have hw:=sO.write (k:=off+len) (us:=us) (by omega) yN (by rw[bM cc,yh];omega)
              have nq:=fm (P:=X.P) (w:=μ.w) (q:=(μ.φ r').base+(off+len)*sz) p1 (flat us) (by rw[vS,yh];omega) yf
              have ns:=fB (X:=X) (sT:=sT) (xT:=xT) (sLen:=len) (sCap:=cap) (ty:=o.type) (base:=some ⟨(μ.φ r').cK,(μ.φ r').base+off*(O1 r').sz,none⟩)
                (w':=μ.w.setRow (μ.φ r').cK (cf cc.toList ((μ.φ r').base+(off+len)*sz) (flat us)).toArray) kJ AS zV hn k3 (by omega) si (by
                  simp only[ep,dI]
                  have: (μ.φ r').base+off*sz+len*sz=(μ.φ r').base+(off+len)*sz:=by rw[Nat.add_mul];omega
                  rw[this];exact nq)
              have AQ:cW (cf cc.toList ((μ.φ r').base+(off+len)*sz) (flat us)) ((μ.φ r').base+off*sz) sz ((vs.drop off).take len++us):=by
                have h3:=(hw.take (off+len+us.length)).drop off
                have e1: (List.take (off+len+us.length) (vs.take (off+len)++us++vs.drop (off+len+us.length))).drop off=(vs.drop off).take len++us:=by
                  have l1: (vs.take (off+len)).length=off+len:=by simp;omega
                  have l2: (vs.take (off+len)++us).length=off+len+us.length:=by rw[List.length_append,l1]
                  rw[←l2,List.take_left,List.drop_append_of_le_length (by omega),List.drop_take]
                  congr 2;omega
                rwa [e1] at h3
              have aaW:off*sz+cap*sz=(μ.φ r').cap*sz:=by rw[←Nat.add_mul];congr 1;omega
              have GV:=kn (X:=X) (μ:=⟨μ.w,μ.φ,O1⟩) g4 r' bl fN p1 eB (c':=(cf cc.toList ((μ.φ r').base+(off+len)*sz) (flat us)).toArray)
                (by
                  have: (cf cc.toList ((μ.φ r').base+(off+len)*sz) (flat us)).length=cc.toList.length:=dF (by rw[bM cc,vS,yh];omega)
                  simpa using this)
                (g+1) ((μ.φ r').base+off*sz) cap (es':=aJ es off len++ys) (vs':=(vs.drop off).take len++us) (.inr (by simp only;omega)) cE
                (by rw[List.length_append,lV];omega)
                (by
                  simp only[dI]
                  simp only[List.all_append,Nx,nS,Bool.and_self])
                ((aj.take len (aj.drop off p3)).append g2)
                (by simp only[dI];omega)
                (fun j y hy=>by
                  obtain⟨m1,m2⟩:=AQ j y hy
                  refine⟨by rw[dI];exact m1,fun l q hq=> ?_⟩
                  have:=m2 l q hq
                  simp only[dI]
                  simpa using this)
              refine⟨_,_,_,.inl (fin _ _ (by rw[hp];exact ns)),?_,g3.trans GV.1,GV.2⟩
              simp only[ak,az]
              exact⟨_,cap,rfl,by omega,Nat.le_refl _,fun _=> ⟨a0,by omega,.inr (by simp[dI])⟩⟩
          ·
            have hold: ∃ous,aj X ⟨μ.w,μ.φ,O1⟩ (aJ es off len) ous∧(Builtin.firstCells sz len (.slice p len cap)).run X.P μ.w.drew= .ok (flat ous).toArray μ.w.drew:=by
              by_cases cE:cap=0
              · have yM:len=0:=by omega
                subst yM
                exact⟨[],by simp[aJ,aj],jq⟩
              · rcases q4 with q4| ⟨cc,T0,vs,p1,p2,p3,p4⟩
                · omega
                · have tu:=a2.resolve_left cE
                  subst tu
                  have CW:=p3.length
                  refine⟨(vs.drop off).take len,aj.take _ (aj.drop _ p3),?_⟩
                  have ph:=(p4.drop off)
                  rw[dI] at ph ⊢
                  have:=nF (P:=X.P) (ph.bZ (w':=μ.w.drew) rfl) (n:=len) (by simp;omega)
                  simpa [Builtin.firstCells] using this
            obtain⟨ous,KX,KW⟩:=hold
            obtain⟨newCap,zY,ns⟩:=iv (X:=X) (sT:=sT) (xT:=xT) (sLen:=len) (sCap:=cap) (base:=p) (ty:=o.type) kJ AS zV hn AT YZ k3 (by omega) sS KW yi
            obtain⟨Ii,XF⟩:=uR (X:=X) (μ:=μ) (O1:=O1) g4 (r:=r') (sz:=sz) (newCap:=newCap) (olds:=aJ es off len) (ous:=ous) (ys:=ys) (us:=us) (zv:=zv) (e:=e)
              (o0:={gen:=g+1,sz:=sz,arr:=true,fz:=false,es:=some (aJ es off len++ys)}) rfl (by simp only;omega) ck KX g2 Nx nS GP (by rw[lV];exact zY)
            have hO:dg O1 r' {O1 r' with gen:=g+1,es:=some (aJ es off len++ys)}=dg O1 r' {gen:=g+1,sz:=sz,arr:=true,fz:=false,es:=some (aJ es off len++ys)}:=by
              have: ({O1 r' with gen:=g+1,es:=some (aJ es off len++ys)}:Obj)={gen:=g+1,sz:=sz,arr:=true,fz:=false,es:=some (aJ es off len++ys)}:=by
                rw[←dI,←jo,←fN]
              rw[this]
            simp only[hO]
            rw[lV] at Ii XF
            refine⟨_,_,dg μ.φ r' ⟨μ.w.heap.size,0,newCap⟩,.inl (fin _ _ (by rw[hp];exact ns)),?_,g3.trans Ii,XF⟩
            simp only[ak,az]
            exact⟨_,newCap,rfl,by omega,Nat.le_refl _,fun _=> ⟨by omega,by simp,by simp⟩⟩
      · exact absurd g1 av
    · exact absurd g1 av
   · exact absurd g1 av
 · exact absurd g1 av
theorem wQ {c:Call} {s x:Operand} {sT xT e:TypeId} {d:TypeDesc} {s' x':aQ} {r sz:Nat} {i:TypeInfo} {z:V} (hr:Rel X T a μ) (ho:o.op= .call c) (hc:c.callee= .builtin .append)
  (fq:c.args= #[s,x]) (rB:c.argTypes= #[sT,xT]) (hd:aZ X sT=some (.slice e)) (hx:aZ X xT=some d) (zV: ∀k,d≠ .int k) (hn:bq X e=some sz) (hi:info X e=some i)
  (hz:dH X e=some z) (D4:aO z sz=true) (h1:cr X s=some s') (h2:cr X x=some x')
  (ag: (aw E (.append r sz (nZ i.bytes) s' x')).run C ⟨T,μ.O⟩=some (v,σ')):σ'.T=T∧ca X o a μ σ'.O v:=by
 refine mJ (C:=C) (v:=v) false (r:=r) hr ho hc fq rB hd hx zV hn hi hz D4 h1 h2 ?_
 simp only[aw,bd] at ag
 exact ag
theorem uT {c:Call} {s x:Operand} {sT xT e:TypeId} {d:TypeDesc} {s' x':aQ} {r sz:Nat} {i:TypeInfo} {z:V} (hr:Rel X T a μ) (ho:o.op= .call c) (hc:c.callee= .builtin .append)
  (fq:c.args= #[s,x]) (rB:c.argTypes= #[sT,xT]) (hd:aZ X sT=some (.slice e)) (hx:aZ X xT=some d) (zV: ∀k,d≠ .int k) (hn:bq X e=some sz) (hi:info X e=some i)
  (hz:dH X e=some z) (D4:aO z sz=true) (h1:cr X s=some s') (h2:cr X x=some x')
  (ag: (aw E (.pN r sz (nZ i.bytes) s' x')).run C ⟨T,μ.O⟩=some (v,σ')):σ'.T=T∧ca X o a μ σ'.O v:=by
 refine mJ (C:=C) (v:=v) true (r:=r) hr ho hc fq rB hd hx zV hn hi hz D4 h1 h2 ?_
 simp only[aw,bd] at ag
 exact ag
end
end Go.AM
namespace Go.AM
open Go Go.RowKit
section
variable {X:Ctx} {E:Env} {C:a9} {o:Oper} {a:Go.Act} {T:Nat→V} {μ:Mu} {v:V} {σ':St}
theorem sj (ho:bc X μ) {r g off len sz:Nat} {es ys:List V} {us:List Value} {p:Option Addr} {cap:Nat} (bl: (μ.O r).es=some es) (fN: (μ.O r).fz=false) (dI: (μ.O r).sz=sz)
   (b5: (μ.O r).gen=g) (hle:len≤cap) (a0:0 < (μ.O r).sz) (a1:cap+off=(μ.φ r).cap) (a2:cap=0∨p=some ⟨(μ.φ r).cK,(μ.φ r).base+off*(μ.O r).sz,none⟩)
   (gm:off+len≤es.length) (hy:ys.length≤len) (bQ:aj X μ ys us) (nS:ys.all (aO · sz)=true):
   ∃w',(match p with| some q=> (storeCells q (flat us)).run X.P μ.w= .ok () w'| none=>w'=μ.w∧flat us=[])∧
     ∃φ',φ' r=μ.φ r∧Le μ ⟨w',φ',dg μ.O r {μ.O r with es:=some (overwrite es off ys)}⟩∧bc X ⟨w',φ',dg μ.O r {μ.O r with es:=some (overwrite es off ys)}⟩:=by
 have yh:us.length=ys.length:=bQ.length.symm
 obtain⟨yN,yf⟩:=bQ.kr nS
 have vS:=dW yN
 have fo:μ.O r={μ.O r with es:=some es}:=by rw[←bl]
 rcases Nat.eq_zero_or_pos ys.length with h0| h0
 · have Jk:ys=[]:=by simpa using h0
   have Y0:us=[]:=List.length_eq_zero_iff.1 (by omega)
   have hov:overwrite es off ys=es:=by simp[overwrite,Jk]
   have hO:dg μ.O r {μ.O r with es:=some (overwrite es off ys)}=μ.O:=by
     funext q
     by_cases hq:q=r
     · subst hq;rw[az,hov];exact fo.symm
     · rw[aV _ _ hq]
   rw[hO]
   refine⟨μ.w,?_,μ.φ,rfl,Le.refl μ,ho⟩
   cases p with
   | none=>simp[Y0,flat]
   | some q=>simp[Y0,flat,storeCells]
 · obtain⟨q1,q2,q3,q4⟩:=ho.row r es bl a0
   have cE:cap≠0:=by omega
   have eB: (μ.φ r).cap≠0:=by omega
   rcases q4 with q4| ⟨cc,T0,vs,p1,p2,p3,p4⟩
   · exact absurd q4 eB
   · have tu:=a2.resolve_left cE
     subst tu
     have CW:=p3.length
     have sO:cW cc.toList (μ.φ r).base sz vs:=by have:=fk p1 p4;rwa [dI] at this
     rw[dI] at p2
     have hmul: (off+ys.length)*sz≤(μ.φ r).cap*sz:=Nat.mul_le_mul_right _ (by omega)
     rw[Nat.add_mul] at hmul
     have hw:=sO.write (k:=off) (us:=us) (by omega) yN (by rw[bM cc,yh];omega)
     have nq:=fm (P:=X.P) (w:=μ.w) (q:=(μ.φ r).base+off*sz) p1 (flat us) (by rw[vS,yh];omega) yf
     have GV:=kn (X:=X) (μ:=μ) ho r bl fN p1 eB (c':=(cf cc.toList ((μ.φ r).base+off*sz) (flat us)).toArray)
      (by
        have: (cf cc.toList ((μ.φ r).base+off*sz) (flat us)).length=cc.toList.length:=dF (by rw[bM cc,vS,yh];omega)
        simpa using this)
      (μ.O r).gen (μ.φ r).base (μ.φ r).cap (es':=overwrite es off ys) (vs':=vs.take off++us++vs.drop (off+us.length)) (.inl ⟨rfl,rfl,rfl⟩) eB
      (by simp[overwrite];omega)
      (by
        simp only[dI] at q3 ⊢
        have t1:=iU (p:=(aO · sz)) off q3
        have t2:=kp (p:=(aO · sz)) (off+ys.length) q3
        simp only[overwrite,List.all_append,t1,nS,t2,Bool.and_self])
      (by
        have:=((aj.take off p3).append bQ).append (aj.drop (off+ys.length) p3)
        rw[yh];exact this)
      (by rw[dI];exact p2)
      (fun j y hy=>by
        obtain⟨m1,m2⟩:=hw j y hy
        refine⟨by rw[dI];exact m1,fun l q hq=> ?_⟩
        have:=m2 l q hq
        simp only[dI]
        simpa using this)
     refine⟨_,?_,_,?_,GV.1,GV.2⟩
     · simp only[dI];exact nq
     · rw[az]
theorem Jl {c:Call} {d s:Operand} {dT sT e:TypeId} {d' s':aQ} {sz:Nat} (hr:Rel X T a μ) (ho:o.op= .call c) (hc:c.callee= .builtin .copy)
   (fq:c.args= #[d,s]) (rB:c.argTypes= #[dT,sT]) (hd:aZ X dT=some (.slice e)) (hn:bq X e=some sz) (h1:cr X d=some d') (h2:cr X s=some s')
   (ag: (aw E (.copy sz d' s')).run C ⟨T,μ.O⟩=some (v,σ')):σ'.T=T∧ca X o a μ σ'.O v:=by
 simp only[aw,bd] at ag
 have CR:=aL hr h1 μ.O
 have hss:=aL hr h2 μ.O
 have kJ:X.P.underlying dT=some (.slice e):=hd
 obtain⟨ys,us,k1,k2,k3,k4⟩:=fp hr.aY hss ag
 have fin: ∀ (p:Option Addr) (len cap:Nat) (w':World),a.eval d= .slice p len cap→
     (match p with| some q=> (storeCells q (flat (us.take (min ys.length len)))).run X.P μ.w= .ok () w'| none=>w'=μ.w∧flat (us.take (min ys.length len))=[])→
     (execOp a.eval o).run X.P μ.w= .ok (.value (goInt ((min ys.length len:Nat):Int))) w':=fun p len cap w' hp nq=>by
   refine da ho hc ?_
   simp only[builtin,fq,rB]
   refine bS ?_
   have Jj: (#[dT,sT]:Array TypeId)[0]? =some dT:=rfl
   have aao:Array.map a.eval #[d,s]= #[a.eval d,a.eval s]:=by simp
   rw[aao,hp]
   have MA: (#[Value.slice p len cap,a.eval s]:Array Value)[0]? =some (Value.slice p len cap):=rfl
   have kK: (#[Value.slice p len cap,a.eval s]:Array Value)[1]? =some (a.eval s):=rfl
   have Y1:=k4 μ.w rfl (min ys.length len) (Nat.min_le_left _ _)
   simp only[Builtin.copy_,Jj,MA,kK,Sem.run_bind,run_underlying kJ,Result.andThen_ok,k3,cN hn,Nat.min_def] at Y1 ⊢
   rw[Y1]
   simp only[Result.andThen_ok]
   simp only[Nat.min_def] at nq
   cases p with
   | none=>simp only at nq;obtain⟨rfl,_⟩:=nq;simp
   | some q=>simp only at nq;simp[Sem.run_bind,nq]
 generalize a8 ⟨T,μ.O⟩ d'=dv at k1 CR
 split at k1
 · obtain⟨rfl,rfl⟩:=aR k1
   simp only[ak] at CR
   obtain⟨p,hp⟩:=CR
   have h0:min ys.length 0=0:=Nat.min_eq_right (Nat.zero_le _)
   have:=fin p 0 0 μ.w hp (by rw[h0];cases p<;>simp[flat,storeCells])
   rw[h0] at this
   exact⟨rfl,aF (val:=goInt 0) hr.aY (by simpa using this) (by simp[ak,goInt])⟩
 · rename_i r g off len
   simp only[Act.run] at k1
   split at k1
   · rename_i es bl
     split at k1
     · rename_i Ns
       obtain⟨b5,jo,fN,dI,gm,nS⟩:=Ns
       simp only[Act.run,Option.some.injEq,Prod.mk.injEq] at k1
       obtain⟨rfl,rfl⟩:=k1
       simp only[ak] at CR
       obtain⟨p,cap,hp,hle,qK,bY⟩:=CR
       obtain⟨a0,a1,a2⟩:=bY b5
       obtain⟨w',nq,φ',hφ,le,fo⟩:=sj (X:=X) hr.aY (us:=us.take len) bl fN dI b5 hle a0 a1 a2 gm (ys:=ys.take len) (by simp;omega) (aj.take _ k2) nS
       have aap:us.take (min ys.length len)=us.take len:=by
        have hl:=k2.length
        rcases Nat.le_total ys.length len with h| h
        · rw[Nat.min_eq_left h,hl,List.take_length,List.take_of_length_le (by omega)]
        · rw[Nat.min_eq_right h]
       refine⟨rfl,goInt ((min ys.length len:Nat):Int),w',φ',.inl (fin p len cap w' hp (by rw[aap];exact nq)),?_,le,fo⟩
       simp only[ak,goInt,List.length_take]
       rw[Nat.min_comm]
     · exact absurd k1 av
   · exact absurd k1 av
 · exact absurd k1 av
theorem mK {zv:Value} {sz n:Nat} (hz:zv.cells.size=sz) (ck:0 <sz): (Builtin.zeroCells zv.cells n).toList=flat (List.replicate n zv):=by
 have hs: ∀u ∈ List.replicate n zv,u.cells.size=sz:=fun u hu=>by rw[(List.mem_replicate.1 hu).2];exact hz
 have vS:=dW hs
 rw[List.length_replicate] at vS
 apply List.ext_getElem?
 intro q
 by_cases hq:q<n*sz
 · have hi:q / sz<n:=Nat.div_lt_of_lt_mul (by rw[Nat.mul_comm];exact hq)
   have tu:q / sz*sz+q % sz=q:=by rw[Nat.mul_comm];exact Nat.div_add_mod q sz
   have hm:q % sz<zv.cells.size:=by rw[hz];exact Nat.mod_lt _ ck
   have hc:zv.cells[q % sz]? =some zv.cells[q % sz]:=Array.getElem?_eq_getElem hm
   have hv: (List.replicate n zv)[q / sz]? =some zv:=by rw[List.getElem?_replicate];simp[hi]
   have g1:=qq hs hv hc
   rw[tu] at g1
   rw[g1,Array.getElem?_toList]
   have hr: (Array.range (n*sz))[q]? =some q:=by simp[hq]
   simp only[Builtin.zeroCells,Array.getElem?_map,hz,hr,Option.map_some]
   rw[getElem!_def,hc]
 · rw[List.getElem?_eq_none (by rw[bM (Builtin.zeroCells _ _),mI hz];omega),List.getElem?_eq_none (by omega)]
theorem GW {c:Call} {x:Operand} {t e:TypeId} {x':aQ} {sz:Nat} {z:V} (hr:Rel X T a μ) (ho:o.op= .call c) (hc:c.callee= .builtin .clear)
   (fq:c.args= #[x]) (rB:c.argTypes= #[t]) (hd:aZ X t=some (.slice e)) (hz:dH X e=some z) (h1:cr X x=some x')
   (ag: (aw E (.clear sz z x')).run C ⟨T,μ.O⟩=some (v,σ')):σ'.T=T∧ca X o a μ σ'.O v:=by
 simp only[aw,bd] at ag
 have hx:=aL hr h1 μ.O
 have kJ:X.P.underlying t=some (.slice e):=hd
 have fin: ∀w',(Builtin.clear_ #[t] o.type #[a.eval x]).run X.P μ.w= .ok (.tuple #[]) w'→(execOp a.eval o).run X.P μ.w= .ok (.value (.tuple #[])) w':=fun w' hv=>by
   refine da ho hc ?_
   simp only[builtin,fq,rB]
   refine bS ?_
   simpa using hv
 have Jj: (#[t]:Array TypeId)[0]? =some t:=rfl
 have MA: ∀y:Value,(#[y]:Array Value)[0]? =some y:=fun _=>rfl
 split at ag
 · rename_i ex
   obtain⟨rfl,rfl⟩:=aR ag
   rw[ex] at hx;simp only[ak] at hx
   obtain⟨p,hp⟩:=hx
   refine⟨rfl,aF (val:= .tuple #[]) hr.aY (fin _ ?_) (by simp only[ak];exact⟨#[],rfl,by simp[aj]⟩)⟩
   cases p<;>simp[Builtin.clear_,Sem.run_bind,run_underlying kJ,hp]
 · rename_i r g off len ex
   rw[ex] at hx
   simp only[Act.run] at ag
   split at ag
   · rename_i es bl
     split at ag
     · rename_i Ns
       obtain⟨b5,jo,fN,dI,gm,D4⟩:=Ns
       simp only[Act.run,Option.some.injEq,Prod.mk.injEq] at ag
       obtain⟨rfl,rfl⟩:=ag
       simp only[ak] at hx
       obtain⟨p,cap,hp,hle,qK,bY⟩:=hx
       obtain⟨a0,a1,a2⟩:=bY b5
       obtain⟨zv,rz,vI⟩:=eT hz μ.w
       obtain⟨sQ,Ig⟩:=dE (X:=X) (μ:=μ) vI
       have GP:zv.cells.size=sz:=by rw[sQ.cV Ig,(bE D4).2]
       have ck:0 <sz:=dI ▸ a0
       obtain⟨w',nq,φ',hφ,le,fo⟩:=sj (X:=X) hr.aY (us:=List.replicate len zv) bl fN dI b5 hle a0 a1 a2 gm (ys:=List.replicate len z) (by simp) (aj.replicate sQ len)
         (by simp only[List.all_eq_true,List.mem_replicate];rintro y ⟨_,rfl⟩;exact D4)
       refine⟨rfl,.tuple #[],w',φ',.inl (fin _ ?_),by simp only[ak];exact⟨#[],rfl,by simp[aj]⟩,le,fo⟩
       rw[←mK GP ck] at nq
       rw[hp]
       simp only[Builtin.clear_,Jj,MA,Sem.run_bind,run_underlying kJ,Result.andThen_ok]
       rcases Nat.eq_zero_or_pos len with h0| h0
       · subst h0
         have Nr: (Builtin.zeroCells zv.cells 0).toList=[]:=by rw[mK GP ck];rfl
         rw[Nr] at nq
         have hw:w'=μ.w:=by
           cases p with
           | none=>exact nq.1
           | some q=>simp[storeCells] at nq;exact nq.symm
         subst hw
         cases p<;>simp
       · cases p with
         | none=>
           have cE:cap≠0:=by omega
           exact absurd (a2.resolve_left cE) (by simp)
         | some q=>
           obtain⟨n,rfl⟩: ∃n,len=n+1:=⟨len - 1,by omega⟩
           simp only at nq
           simp[Sem.run_bind,rz,nq]
     · exact absurd ag av
   · exact absurd ag av
 · exact absurd ag av
theorem CX {x:Operand} {y:aQ} (hr:Rel X T a μ) (ho:o.op= .move x∨o.op= .assign x) (ht:cr X x=some y) (ag: (aw E (.deep y)).run C ⟨T,μ.O⟩=some (v,σ')):
   σ'.T=T∧ca X o a μ σ'.O v:=by
 simp only[aw,bd] at ag
 have bQ:=aL hr ht μ.O
 have iF: (execOp a.eval o).run X.P μ.w= .ok (.value (a.eval x)) μ.w:=by rcases ho with ho| ho<;>simp[execOp,ho]
 unfold xw at ag
 split at ag
 · rename_i r g off len he
   rw[he] at bQ
   simp only[Act.run] at ag
   split at ag
   · rename_i es bl
     split at ag
     rotate_left
     · exact absurd ag av
     rename_i b5
     have KY:=bQ
     simp only[ak] at KY
     obtain⟨_,_,_,_,_,bY⟩:=KY
     obtain⟨q1,q2,q3,q4⟩:=hr.aY.row r es bl (bY b5).1
     obtain⟨vs,vH,jm⟩: ∃vs,aj X μ es vs∧((μ.φ r).cap=0∨ ∃c T,μ.w.heap[(μ.φ r).cK]? =some (.cells c T (0,0))∧(μ.φ r).base+(μ.φ r).cap*(μ.O r).sz≤c.size∧
         dA μ.w (μ.φ r).cK (μ.φ r).base (μ.O r).sz vs):=by
       rcases q4 with q4| ⟨c,T0,vs,p1,p2,p3,p4⟩
       · have:es=[]:=by
          have:es.length=0:=by omega
          simpa using this
         subst this
         exact⟨[],by simp[aj],.inl q4⟩
       · exact⟨vs,p3,.inr ⟨c,T0,p1,p2,p4⟩⟩
     obtain⟨es',O1,g1,g2,g3,g4⟩:=uL (μ:=μ) hr.aY vH ag
     simp only[Act.run] at g1
     split at g1
     · rename_i hc
       obtain⟨rk,td,KV⟩:=hc
       simp only[Act.run,Option.some.injEq,Prod.mk.injEq] at g1
       obtain⟨rfl,rfl⟩:=g1
       have hs: (O1 r).sz=(μ.O r).sz:=(g3.row r rk).2
       have hlen:es'.length=es.length:=by rw[g2.length,vH.length]
       obtain⟨le,rR⟩:=DU (X:=X) (μ:=⟨μ.w,μ.φ,O1⟩) g4 r (es':=es') td (by rw[hs];exact q1) (by rw[hlen];exact q2) (by rw[hs];exact KV) (by
         refine jm.imp id ?_
         rintro⟨c,T0,p1,p2,p4⟩
         exact⟨c,T0,vs,p1,by simp only[hs];exact p2,g2,by simp only[hs];exact p4⟩)
       exact⟨rfl,a.eval x,μ.w,μ.φ,.inl iF,ak.mono (g3.trans le) bQ,g3.trans le,rR⟩
     · exact absurd g1 av
   · exact absurd ag av
 · obtain⟨rfl,rfl⟩:=aR ag
   exact⟨rfl,aF hr.aY iF bQ⟩
end
end Go.AM
namespace Go.AM
open Go Go.RowKit
def iw (X:Ctx) (μ:Mu) (rs:List Nat) (a:V) (v:Value):Prop:= ∀ (B:Nat→Prop) (μ':Mu),μ'.w=μ.w→
 (∀b,Own ⟨X.toTrEnv,B,X.tok⟩ μ' b→Own X μ b∧ ∀r ∈ rs,(μ.O r).es.isSome=true→(μ.φ r).cap≠0→b≠(μ.φ r).cK)→ak ⟨X.toTrEnv,B,X.tok⟩ μ' a v
def qu (X:Ctx) (μ:Mu) (rs:List Nat) (as:List V) (vs:List Value):Prop:= ∀ (B:Nat→Prop) (μ':Mu),μ'.w=μ.w→
 (∀b,Own ⟨X.toTrEnv,B,X.tok⟩ μ' b→Own X μ b∧ ∀r ∈ rs,(μ.O r).es.isSome=true→(μ.φ r).cap≠0→b≠(μ.φ r).cK)→aj ⟨X.toTrEnv,B,X.tok⟩ μ' as vs
section
variable {X:Ctx} {B:Nat→Prop} {μ μ':Mu}
mutual
theorem db (hw:μ'.w=μ.w) (ho: ∀b,Own ⟨X.toTrEnv,B,X.tok⟩ μ' b→Own X μ b): ∀ {x:V} {v:Value},V.aB x=true→ak X μ x v→ak ⟨X.toTrEnv,B,X.tok⟩ μ' x v
 | .bool _,_,_,h| .int ..,_,_,h| .float _,_,_,h| .str _,_,_,h| .nilp,_,_,h| .nilfn,_,_,h| .nili,_,_,h| .nils,_,_,h=>by simpa [ak] using h
 | .any,_,_,_=>by simp[ak]
 | .own ..,_,hp,_| .msl ..,_,hp,_| .mptr ..,_,hp,_| .sl ..,_,hp,_| .ptr ..,_,hp,_| .mp ..,_,hp,_| .it ..,_,hp,_=>by simp[V.aB] at hp
 | .mlit es,_,hp,h=>by
   simp only[ak] at h ⊢
   obtain⟨h0,h⟩:=h
   refine⟨h0,h.imp id ?_⟩
   rintro⟨a,ents,clock,rfl,hb,hs,h1,h2⟩
   exact⟨a,ents,clock,rfl,fun hh=>hb (ho _ hh),by rw[hw];exact hs,by rw[hw];exact h1,bA hw ho h0 h2⟩
 | .agg cs,_,hp,h=>by
   simp only[ak] at h ⊢
   obtain⟨h1,vs,rfl,h2⟩:=h
   exact⟨h1,vs,rfl,bA hw ho (by simpa [V.aB] using hp) h2⟩
 | .tuple cs,_,hp,h=>by
   simp only[ak] at h ⊢
   obtain⟨vs,rfl,h2⟩:=h
   exact⟨vs,rfl,bA hw ho (by simpa [V.aB] using hp) h2⟩
 | .bfn f cs,_,hp,h=>by
   simp only[ak] at h ⊢
   obtain⟨F,cv,rfl,h1,h2⟩:=h
   exact⟨F,cv,rfl,h1,bA hw ho (by simpa [V.aB] using hp) h2⟩
 | .fn f cs,_,hp,h=>by
   simp only[ak] at h ⊢
   obtain⟨F,cv,rfl,h1,h2⟩:=h
   exact⟨F,cv,rfl,h1,bA hw ho (by simpa [V.aB] using hp) h2⟩
 | .iface t x,_,hp,h=>by
   simp only[ak] at h ⊢
   obtain⟨F,y,rfl,h1,h2⟩:=h
   exact⟨F,y,rfl,h1,db hw ho (by simpa [V.aB] using hp) h2⟩
 | .lit sz xs,_,hp,h=>by
   simp only[ak] at h ⊢
   obtain⟨h0,jC,a,cap,vs,rfl,h1,h2,h3⟩:=h
   refine⟨h0,jC,a,cap,vs,rfl,h1,bA hw ho h0 h2,h3.imp id ?_⟩
   rintro⟨b,o,rfl,hb,hs,hr⟩
   exact⟨b,o,rfl,fun hh=>hb (ho b hh),by rw[hw];exact hs,by rw[hw];exact hr⟩
 | .litk sz xs,_,hp,h=>by
   simp only[ak] at h ⊢
   obtain⟨h0,jC,a,cap,vs,rfl,h1,h2,h3⟩:=h
   refine⟨h0,jC,a,cap,vs,rfl,h1,bA hw ho h0 h2,h3.imp id ?_⟩
   rintro⟨rfl,hb,hs,hr⟩
   exact⟨rfl,fun hh=>hb (ho _ hh),by rw[hw];exact hs,by rw[hw];exact hr⟩
 | .epk i sz e off,_,hp,h=>by
   simp only[ak] at h ⊢
   obtain⟨h0,jC,x,rfl,hb,hs,h1,hr⟩:=h
   exact⟨h0,jC,x,rfl,fun hh=>hb (ho _ hh),by rw[hw];exact hs,db hw ho h0 h1,by rw[hw];exact hr⟩
 | .eptr e off,_,hp,h=>by
   simp only[ak] at h ⊢
   obtain⟨h0,jC,b,o,sz,x,rfl,hb,hs,h1,hr⟩:=h
   exact⟨h0,jC,b,o,sz,x,rfl,fun hh=>hb (ho b hh),by rw[hw];exact hs,db hw ho h0 h1,by rw[hw];exact hr⟩
theorem bA (hw:μ'.w=μ.w) (ho: ∀b,Own ⟨X.toTrEnv,B,X.tok⟩ μ' b→Own X μ b): ∀ {xs:List V} {vs:List Value},V.aq xs=true→aj X μ xs vs→aj ⟨X.toTrEnv,B,X.tok⟩ μ' xs vs
 | [],[],_,_=>by simp[aj]
 | [],_::_,_,h=>by simp[aj] at h
 | _::_,[],_,h=>by simp[aj] at h
 | x::xs,v::vs,hp,h=>by
   simp only[aj] at h ⊢
   simp only[V.aq,Bool.and_eq_true] at hp
   exact⟨db hw ho hp.1 h.1,bA hw ho hp.2 h.2⟩
end
end
section
variable {X:Ctx} {C:a9} {T:Nat→V} {μ:Mu}
theorem iw.CY {a:V} {v:Value} (hp:V.aB a=true) (h:ak X μ a v) (rs:List Nat):iw X μ rs a v:=
 fun _ _ hw ho=>db hw (fun b hb=> (ho b hb).1) hp h
theorem iw.more {rs rs':List Nat} {a:V} {v:Value} (h:iw X μ rs a v) (hs: ∀r ∈ rs,r ∈ rs'):iw X μ rs' a v:=
 fun B μ' hw ho=>h B μ' hw fun b hb=> ⟨(ho b hb).1,fun r hr=> (ho b hb).2 r (hs r hr)⟩
theorem qu.more {rs rs':List Nat} {a:List V} {v:List Value} (h:qu X μ rs a v) (hs: ∀r ∈ rs,r ∈ rs'):qu X μ rs' a v:=
 fun B μ' hw ho=>h B μ' hw fun b hb=> ⟨(ho b hb).1,fun r hr=> (ho b hb).2 r (hs r hr)⟩
theorem jO {f:V→(V→List Nat→Act)→Act}
   (hf: ∀ {v:V} {k:V→List Nat→Act} {val:Value} {p:V×St},ak X μ v val→(f v k).run C ⟨T,μ.O⟩=some p→ ∃v' rs,(k v' rs).run C ⟨T,μ.O⟩=some p∧V.aB v'=true∧iw X μ rs v' val∧(v.cJ=true→v'.cJ=true)∧(v.aK=true→v'.aK=true)):
   ∀ {vs:List V} {k:List V→List Nat→Act} {vals:List Value} {p:V×St},aj X μ vs vals→(iE f vs k).run C ⟨T,μ.O⟩=some p→
     ∃vs' rs,(k vs' rs).run C ⟨T,μ.O⟩=some p∧V.aq vs'=true∧qu X μ rs vs' vals∧vs'.length=vs.length∧(vs.all V.cJ=true→vs'.all V.cJ=true)∧(vs.all V.aK=true→vs'.all V.aK=true)
 | [],k,[],p,_,ag=> ⟨[],[],ag,rfl,fun _ _ _ _=>by simp[aj],rfl,id,id⟩
 | [],_,_::_,_,h,_=>by simp[aj] at h
 | _::_,_,[],_,h,_=>by simp[aj] at h
 | v::vs,k,val::vals,p,h,ag=>by
   simp only[aj] at h
   obtain⟨v',rs,h1,h2,h3,h4,h5⟩:=hf h.1 ag
   obtain⟨vs',rs',k1,k2,k3,k4,k5,k6⟩:=jO hf h.2 h1
   refine⟨v'::vs',rs++rs',k1,by simp[V.aq,h2,k2],fun B μ' hw ho=> ?_,by simp[k4],?_,?_⟩
   · simp only[aj]
     exact⟨h3.more (fun r hr=>by simp[hr]) B μ' hw ho,k3.more (fun r hr=>by simp[hr]) B μ' hw ho⟩
   · simp only[List.all_cons,Bool.and_eq_true];exact fun hh=> ⟨h4 hh.1,k5 hh.2⟩
   · simp only[List.all_cons,Bool.and_eq_true];exact fun hh=> ⟨h5 hh.1,k6 hh.2⟩
theorem vT {f:V→(V→List Nat→Act)→Act}
   (hf: ∀ {v:V} {k:V→List Nat→Act} {val:Value} {p:V×St},ak X μ v val→(f v k).run C ⟨T,μ.O⟩=some p→ ∃v' rs,(k v' rs).run C ⟨T,μ.O⟩=some p∧V.aB v'=true∧iw X μ rs v' val∧(v.cJ=true→v'.cJ=true)∧(v.aK=true→v'.aK=true))
   {vs:List V} {k:List V→List Nat→Act} {vals:List Value} {p:V×St} (h:aj X μ vs vals) (ag: (nj f vs k).run C ⟨T,μ.O⟩=some p):
     ∃vs' rs,(k vs' rs).run C ⟨T,μ.O⟩=some p∧V.aq vs'=true∧qu X μ rs vs' vals∧vs'.length=vs.length∧(vs.all V.cJ=true→vs'.all V.cJ=true)∧(vs.all V.aK=true→vs'.all V.aK=true):=by
 unfold nj at ag
 split at ag
 · rename_i hp
   exact⟨vs,[],ag,hp,fun _ _ hw ho=>bA hw (fun b hb=> (ho b hb).1) hp h,rfl,id,id⟩
 · exact jO hf h ag
theorem jP (     ho:bc X μ): ∀ (d:Nat) {v:V} {k:V→List Nat→Act} {val:Value} {p:V×St},ak X μ v val→(dh d v k).run C ⟨T,μ.O⟩=some p→
   ∃v' rs,(k v' rs).run C ⟨T,μ.O⟩=some p∧V.aB v'=true∧iw X μ rs v' val∧(v.cJ=true→v'.cJ=true)∧(v.aK=true→v'.aK=true)
 | 0,v,k,val,p,h,ag=>by
   simp only[dh] at ag
   split at ag
   · rename_i hp;exact⟨v,[],ag,hp,iw.CY hp h _,id,id⟩
   · exact absurd ag av
 | d+1,v,k,val,p,h,ag=>by
   have ih:=fun {v:V} {k:V→List Nat→Act} {val:Value} {p:V×St}=>jP ho d (v:=v) (k:=k) (val:=val) (p:=p)
   simp only[dh] at ag
   split at ag
   · rename_i hp;exact⟨v,[],ag,hp,iw.CY hp h _,id,id⟩
   · rename_i Y2
     split at ag
     ·
      simp only[ak] at h
      obtain⟨h0,vs,rfl,hv⟩:=h
      obtain⟨ct,rs,k1,k2,k3,k4,k5,k6⟩:=jO ih hv ag
      refine⟨_,rs,k1,by simpa [V.aB] using k2,fun B μ' hw hh=> ?_,fun _=>rfl,fun hc=>by simp[V.aK] at hc⟩
      simp only[ak]
      exact⟨k6 h0,vs,rfl,k3 B μ' hw hh⟩
     ·
      simp only[ak] at h
      obtain⟨F,cv,rfl,hf,hv⟩:=h
      obtain⟨ct,rs,k1,k2,k3,k4,k5,k6⟩:=jO ih hv ag
      refine⟨_,rs,k1,by simpa [V.aB] using k2,fun B μ' hw hh=> ?_,fun _=>rfl,fun _=>rfl⟩
      simp only[ak]
      exact⟨F,cv,rfl,hf,k3 B μ' hw hh⟩
     ·
      simp only[ak] at h
      obtain⟨F,y,rfl,hf,hv⟩:=h
      obtain⟨x',rs,k1,k2,k3,k4,k5⟩:=ih hv ag
      refine⟨_,rs,k1,by simpa [V.aB] using k2,fun B μ' hw hh=> ?_,fun _=>rfl,fun _=>rfl⟩
      simp only[ak]
      exact⟨F,y,rfl,hf,k3 B μ' hw hh⟩
     ·
      rename_i r g off len
      simp only[Act.run] at ag
      split at ag
      · rename_i es bl
        split at ag
        · rename_i hc
          obtain⟨b5,jo,gm⟩:=hc
          simp only[ak] at h
          obtain⟨a,cap,rfl,hle,qK,bY⟩:=h
          obtain⟨a0,a1,a2⟩:=bY b5
          obtain⟨q1,q2,q3,q4⟩:=ho.row r es bl a0
          have lV: (aJ es off len).length=len:=by simp[aJ];omega
          have kx: (aJ es off len).all V.cJ=true:=by
            simp only[List.all_eq_true] at q3 ⊢
            exact fun x hx=> (bE (q3 x (List.mem_of_mem_drop (List.mem_of_mem_take hx)))).1
          have vH: ∃vs,aj X μ (aJ es off len) vs∧(len=0∨((μ.φ r).cap≠0∧(μ.φ r).cK<μ.w.heap.size∧a=some ⟨(μ.φ r).cK,(μ.φ r).base+off*(μ.O r).sz,none⟩∧dA μ.w (μ.φ r).cK ((μ.φ r).base+off*(μ.O r).sz) (μ.O r).sz vs)):=by
            by_cases yM:len=0
            · exact⟨[],by simp[aJ,yM,aj],.inl yM⟩
            · rcases q4 with q4| ⟨cc,TT,vs,p1,p2,p3,p4⟩
              · omega
              · exact⟨(vs.drop off).take len,aj.take _ (aj.drop _ p3),.inr ⟨by omega,(Array.getElem?_eq_some_iff.1 p1).1,a2.resolve_left (by omega),(p4.drop off).take len⟩⟩
          obtain⟨vs,hv1,EZ⟩:=vH
          obtain⟨Ji,rs,k1,k2,k3,k4,k5,k6⟩:=vT ih hv1 ag
          refine⟨_,r::rs,k1,rfl,fun B μ' hw hh=> ?_,fun _=>rfl,fun _=>rfl⟩
          have hx:=k3.more (rs':=r::rs) (fun q hq=>by simp[hq]) B μ' hw hh
          simp only[ak]
          refine⟨k2,k5 kx,a,cap,vs,by rw[k4,lV],by rw[k4,lV];exact hle,hx,?_⟩
          rcases EZ with yM| ⟨c0,c1,c2,c3⟩
          · left
            have:Ji.length=0:=by rw[k4,lV];exact yM
            simpa using this
          · right
            refine⟨_,_,c2,fun fF=> ?_,by rw[hw];exact c1,by rw[hw];exact c3⟩
            exact(hh _ fF).2 r (by simp) (by simp[bl]) c0 rfl
        · exact absurd ag av
      · exact absurd ag av
     ·
      rename_i r g idx off
      simp only[Act.run] at ag
      split at ag
      · rename_i es bl
        split at ag
        · rename_i b5
          split at ag
          · rename_i e he
            simp only[ak] at h
            obtain⟨a,rfl,qK,bY⟩:=h
            obtain⟨a0,hae⟩:=bY b5
            obtain⟨q1,q2,q3,q4⟩:=ho.row r es bl a0
            have bp:idx<es.length:=(List.getElem?_eq_some_iff.1 he).1
            rcases q4 with q4| ⟨cc,TT,vs,p1,p2,p3,p4⟩
            · omega
            · obtain⟨x,hx,bQ⟩:=p3.get he
              have nS:aO e (μ.O r).sz=true:=by
               simp only[List.all_eq_true] at q3
               exact q3 e (List.mem_of_getElem? he)
              obtain⟨e',rs,k1,k2,k3,k4,k5⟩:=ih bQ ag
              refine⟨_,r::rs,k1,rfl,fun B μ' hw hh=> ?_,fun _=>rfl,fun _=>rfl⟩
              simp only[ak]
              have fR:dA μ.w (μ.φ r).cK ((μ.φ r).base+idx*(μ.O r).sz) (μ.O r).sz [x]:=by
               have:=(p4.drop idx).take 1
               have EW: (vs.drop idx).take 1=[x]:=by
                have Bg:idx<vs.length:=(List.getElem?_eq_some_iff.1 hx).1
                rw[List.drop_eq_getElem_cons Bg,List.take_succ_cons,List.take_zero]
                rw[List.getElem?_eq_getElem Bg] at hx
                injection hx with hx;rw[hx]
               rwa [EW] at this
              refine⟨k2,k4 (bE nS).1,(μ.φ r).cK,(μ.φ r).base+idx*(μ.O r).sz,(μ.O r).sz,x,by rw[hae],fun fF=> ?_,by rw[hw];exact(Array.getElem?_eq_some_iff.1 p1).1,
               k3.more (rs':=r::rs) (fun q hq=>by simp[hq]) B μ' hw hh,by rw[hw];exact fR⟩
              exact(hh _ fF).2 r (by simp) (by simp[bl]) (by omega) rfl
          · exact absurd ag av
        · exact absurd ag av
      · exact absurd ag av
     · exact absurd ag av
inductive jr (X:Ctx) (μ:Mu) (r0:Nat):Nat→List V→List Value→List Nat→List df→Prop
 | nil (i:Nat):jr X μ r0 i [] [] [] []
 | plain {i:Nat} {a:V} {v:Value} {rs rs':List Nat} {as:List V} {vs:List Value} {ws:List df} (hp:V.aB a=true) (hs:iw X μ rs a v) (h:jr X μ r0 (i+1) as vs rs' ws):
    jr X μ r0 i (a::as) (v::vs) (rs++rs') ws
 | sl {i r g off len:Nat} {es:List V} {v:Value} {rs:List Nat} {as:List V} {vs:List Value} {ws:List df} (bl: (μ.O r).es=some es) (fN: (μ.O r).fz=false) (b5: (μ.O r).gen=g) (kb:V.aq es=true)
    (gm:off+len≤es.length) (hv:ak X μ (.sl r g off len) v) (h:jr X μ r0 (i+1) as vs rs ws):jr X μ r0 i (.msl (μ.O r).sz es off len::as) (v::vs) rs (⟨i,r,none⟩::ws)
 | ptr {i r g idx off:Nat} {es:List V} {v:Value} {rs:List Nat} {as:List V} {vs:List Value} {ws:List df} (bl: (μ.O r).es=some es) (fN: (μ.O r).fz=false) (b5: (μ.O r).gen=g) (kb:V.aq es=true)
    (hv:ak X μ (.ptr r g idx off) v) (h:jr X μ r0 (i+1) as vs rs ws):jr X μ r0 i (.mptr (μ.O r).sz es idx off::as) (v::vs) rs (⟨i,r,none⟩::ws)
 | fresh {i sz:Nat} {v:Value} {rs:List Nat} {as:List V} {vs:List Value} {ws:List df} (ck:0 <sz) (hv: ∃a,v= .slice a 0 0) (h:jr X μ r0 (i+1) as vs rs ws):
    jr X μ r0 i (.msl sz [] 0 0::as) (v::vs) rs (⟨i,r0+i,some sz⟩::ws)
theorem dG (ho:bc X μ) {r0:Nat}: ∀ {vs:List V} {ms:List (Option Nat)} {i:Nat} {k:List V→List Nat→List df→Act} {vals:List Value} {p:V×St},aj X μ vs vals→
   (cS r0 vs ms i k).run C ⟨T,μ.O⟩=some p→ ∃as rs ws,(k as rs ws).run C ⟨T,μ.O⟩=some p∧jr X μ r0 i as vals rs ws
 | [],ms,i,k,[],p,_,ag=> ⟨[],[],[],by simpa [cS] using ag,.nil i⟩
 | [],_,_,_,_::_,_,h,_=>by simp[aj] at h
 | _::_,_,_,_,[],_,h,_=>by simp[aj] at h
 | v::vs,[],i,k,val::vals,p,h,ag=>by
   simp only[aj] at h
   simp only[cS,snap] at ag
   obtain⟨v',rs,h1,h2,h3,_,_⟩:=jP ho 5 h.1 ag
   obtain⟨as,rs',ws,k1,k2⟩:=dG ho h.2 h1
   exact⟨_,_,_,k1,.plain h2 h3 k2⟩
 | v::vs,m::ms,i,k,val::vals,p,h,ag=>by
   simp only[aj] at h
   simp only[cS] at ag
   split at ag
   · split at ag
     · split at ag
       · rename_i ck
         obtain⟨as,rs',ws,k1,k2⟩:=dG ho h.2 ag
         have h1:=h.1
         simp only[ak] at h1
         exact⟨_,_,_,k1,.fresh ck h1 k2⟩
       · exact absurd ag av
     · rename_i r g off len
       simp only[Act.run] at ag
       split at ag
       · rename_i es bl
         split at ag
         · rename_i hc
           obtain⟨c1,c2,c3,c4,c5⟩:=hc
           obtain⟨as,rs',ws,k1,k2⟩:=dG ho h.2 ag
           rw[←c3] at k1
           exact⟨_,_,_,k1,.sl bl c2 c1 c5 c4 h.1 k2⟩
         · exact absurd ag av
       · exact absurd ag av
     · rename_i r g idx off
       simp only[Act.run] at ag
       split at ag
       · rename_i es bl
         split at ag
         · rename_i hc
           obtain⟨c1,c2,c3,c4⟩:=hc
           obtain⟨as,rs',ws,k1,k2⟩:=dG ho h.2 ag
           rw[←c3] at k1
           exact⟨_,_,_,k1,.ptr bl c2 c1 c4 h.1 k2⟩
         · exact absurd ag av
       · exact absurd ag av
     · exact absurd ag av
   · simp only[snap] at ag
     obtain⟨v',rs,h1,h2,h3,_,_⟩:=jP ho 5 h.1 ag
     obtain⟨as,rs',ws,k1,k2⟩:=dG ho h.2 h1
     exact⟨_,_,_,k1,.plain h2 h3 k2⟩
end
theorem iy {X:Ctx} {C:a9} {T:Nat→V} {w:World} {φ:Nat→Row}: ∀ (rs:List Nat) {O:Nat→Obj} {k:Act} {p:V×St},bc X ⟨w,φ,O⟩→(b7 rs k).run C ⟨T,O⟩=some p→
   ∃O',k.run C ⟨T,O'⟩=some p∧Le ⟨w,φ,O⟩ ⟨w,φ,O'⟩∧bc X ⟨w,φ,O'⟩∧(∀r,r ∉ rs→O' r=O r)∧(∀r,r ∈ rs→O' r={O r with fz:=true})
 | [],O,k,p,ho,h=> ⟨O,h,Le.refl _,ho,fun _ _=>rfl,fun r hr=>by simp at hr⟩
 | q::rs,O,k,p,ho,h=>by
   simp only[b7,Act.run] at h
   obtain⟨l1,o1⟩:=lu ho q
   obtain⟨O',h1,h2,h3,h4,h5⟩:=iy rs o1 h
   refine⟨O',h1,l1.trans h2,h3,fun r hr=> ?_,fun r hr=> ?_⟩
   · have qM:r≠q∧r ∉ rs:=by simpa using hr
     rw[h4 r qM.2,aV _ _ qM.1]
   · by_cases hm:r ∈ rs
     · rw[h5 r hm]
       by_cases e:r=q
       · subst e;simp[az]
       · simp[aV _ _ e]
     · have e:r=q:=by
        rcases List.mem_cons.1 hr with e| hr
        · exact e
        · exact absurd hr hm
       subst e
       rw[h4 r hm,az]
theorem zZ {X:Ctx} {C:a9} {T:Nat→V} {μ:Mu} (ho:bc X μ) {v:V} {val:Value} {p:V×St} (hv:ak X μ v val) (ag: (snap v fun v' rs=>b7 rs (.done v')).run C ⟨T,μ.O⟩=some p):
   ∃c' O',(Act.done c').run C ⟨T,O'⟩=some p∧ak X ⟨μ.w,μ.φ,O'⟩ c' val∧Le μ ⟨μ.w,μ.φ,O'⟩∧bc X ⟨μ.w,μ.φ,O'⟩:=by
 obtain⟨v',rs,h1,_,h3,_,_⟩:=jP ho 5 hv ag
 obtain⟨O',k1,k2,k3,k4,k5⟩:=iy (w:=μ.w) (φ:=μ.φ) rs ho h1
 refine⟨v',O',k1,?_,k2,k3⟩
 refine h3 X.KO ⟨μ.w,μ.φ,O'⟩ rfl fun b hb=> ?_
 rcases hb with⟨r',q1,q2,q3,q4⟩ | hb
 · simp only at q1 q2 q3 q4
   by_cases hm:r' ∈ rs
   · rw[k5 r' hm] at q2;simp at q2
   · rw[k4 r' hm] at q1 q2
     refine⟨.inl ⟨r',q1,q2,q3,q4⟩,fun r hr hs hc e=> ?_⟩
     exact ho.inj r' r (fun e'=>hm (e' ▸ hr)) q1 hs q3 hc (q4.trans e)
 · exact⟨.inr hb,fun r hr hs hc e=>ho.qJ r hs hc (e ▸ hb)⟩
end Go.AM
namespace Go.AM
open Go Go.RowKit Go.MapKept
section
variable {X:Ctx} {E:Env} {C:a9} {o:Oper} {a:Go.Act} {T:Nat→V} {μ:Mu} {v:V} {σ':St}
def Ij (e:MapEntry):Value:= .tuple #[e.key,e.val]
def gW (q:Option IntKind) (d:TypeDesc):Prop:=match q with
 | some q=>d= .int q
 | none=>d= .string
theorem GX {q:Option IntKind} {d:TypeDesc} {k:V} {kv:Value} (hd:gW q d) (hk:isKey q k=true) (hv:ak X μ k kv):IsKey d kv:=by
 unfold isKey at hk
 unfold gW at hd
 split at hk
 · simp only[ak] at hv
   subst hv;subst hd
   simpa [IsKey] using hk
 · simp only[ak] at hv
   obtain⟨bs,rfl,_⟩:=hv
   subst hd
   simp[IsKey]
 · simp at hk
theorem nH {q:Option IntKind} {d:TypeDesc} {k k':V} {kv kv':Value} {b:Bool} (hd:gW q d) (hk:isKey q k=true) (h1:ak X μ k kv) (h2:ak X μ k' kv') (h:CB k k'=some b):
   Instr.sameNow d kv kv'=some b∧(b=true→kv'=kv):=by
 unfold CB at h
 split at h
 · simp only[ak] at h1 h2
   subst h1;subst h2
   split at h
   · rename_i e
     subst e
     injection h with h
     subst h
     have: ∃q',d= .int q':=by
       unfold isKey at hk
       unfold gW at hd
       cases q<;>simp_all
     obtain⟨q',rfl⟩:=this
     refine⟨by simp[Instr.sameNow],fun hb=> ?_⟩
     simp only[beq_iff_eq] at hb
     rw[hb]
   · simp at h
 · simp only[ak] at h1 h2
   obtain⟨x,rfl,rfl⟩:=h1
   obtain⟨y,rfl,rfl⟩:=h2
   injection h with h
   subst h
   have:d= .string:=by
     unfold isKey at hk
     unfold gW at hd
     cases q<;>simp_all
   subst this
   have Y3: (x==y)=decide (x.data.toList=y.data.toList):=by
     rw[Bool.eq_iff_iff,bytes_beq,decide_eq_true_eq]
     constructor
     · rintro rfl;rfl
     · intro h
       cases x;cases y
       simp only[ByteArray.mk.injEq]
       exact Array.toList_inj.1 h
   refine⟨by simp[Instr.sameNow,Y3],fun hb=> ?_⟩
   rw[←Y3,bytes_beq] at hb
   rw[hb]
 · simp at h
theorem CZ {e:V} {me:MapEntry} (h:ak X μ e (Ij me)) {k v:V} (he:e= .tuple [k,v]):ak X μ k me.key∧ak X μ v me.val:=by
 subst he
 simp only[Ij,ak] at h
 obtain⟨vs,h1,h2⟩:=h
 injection h1 with h1
 subst h1
 simpa [aj] using h2
theorem yj {k v:V} {me:MapEntry} (h1:ak X μ k me.key) (h2:ak X μ v me.val):ak X μ (.tuple [k,v]) (Ij me):=by
 simp only[Ij,ak]
 exact⟨_,rfl,by simp[aj,h1,h2]⟩
theorem mL {q:Option IntKind} {d:TypeDesc} {k:V} {kv:Value} (hd:gW q d) (hk:isKey q k=true) (h1:ak X μ k kv): ∀ {es:List V} {ents:List MapEntry} {i:Nat} {r:Option V},aj X μ es (ents.map Ij)→ll k es=some r→
   (r=none∧Instr.findNow d kv ents i=some none)∨ ∃v j e,r=some v∧Instr.findNow d kv ents i=some (some (j,e))∧ak X μ v e
 | [],[],i,r,_,h=>by simp[ll] at h;subst h;exact .inl ⟨rfl,rfl⟩
 | [],_::_,_,_,h,_=>by simp[aj] at h
 | _::_,[],_,_,h,_=>by simp[aj] at h
 | e::es,m::ents,i,r,hr,h=>by
   simp only[List.map_cons,aj] at hr
   unfold ll at h
   split at h
   · rename_i heq;simp at heq
   · rename_i k' v' es' heq
     injection heq with e1 e2
     subst e2
     obtain⟨t1,t2⟩:=CZ hr.1 e1
     split at h
     · rename_i hq
       injection h with h
       subst h
       obtain⟨s1,_⟩:=nH hd hk h1 t1 hq
       exact .inr ⟨v',i,m.val,rfl,by simp[Instr.findNow,s1],t2⟩
     · rename_i hq
       obtain⟨s1,_⟩:=nH hd hk h1 t1 hq
       rcases mL hd hk h1 (i:=i+1) hr.2 h with⟨g1,g2⟩ | ⟨v,j,x,g1,g2,g3⟩
       · exact .inl ⟨g1,by simp[Instr.findNow,s1,g2]⟩
       · exact .inr ⟨v,j,x,g1,by simp[Instr.findNow,s1,g2],g3⟩
     · simp at h
   · simp at h
theorem uU {q:Option IntKind} {d:TypeDesc} {k u:V} {kv val:Value} (hd:gW q d) (hk:isKey q k=true) (h1:ak X μ k kv) (h2:ak X μ u val): ∀ {es es':List V} {ents:List MapEntry} {i:Nat},aj X μ es (ents.map Ij)→mh k u es=some es'→
   (Instr.findNow d kv ents i=some none∧ ∀c,aj X μ es' ((ents++[({key:=kv,val:=val,born:=c}:MapEntry)]).map Ij))∨
   ∃j e,Instr.findNow d kv ents i=some (some (i+j,e.val))∧ents[j]? =some e∧e.key=kv∧aj X μ es' ((ents.set j ({key:=kv,val:=val,born:=e.born}:MapEntry)).map Ij)
 | [],es',[],i,_,h=>by
   simp[mh] at h;subst h
   exact .inl ⟨rfl,fun c=>by simp only[List.nil_append,List.map_cons,List.map_nil,aj];exact⟨yj (me:={key:=kv,val:=val,born:=c}) h1 h2,trivial⟩⟩
 | [],_,_::_,_,h,_=>by simp[aj] at h
 | _::_,_,[],_,h,_=>by simp[aj] at h
 | e::es,es',m::ents,i,hr,h=>by
   simp only[List.map_cons,aj] at hr
   unfold mh at h
   split at h
   · rename_i heq;simp at heq
   · rename_i k' v' Xn heq
     injection heq with e1 e2
     subst e2
     obtain⟨t1,t2⟩:=CZ hr.1 e1
     split at h
     · rename_i hq
       injection h with h
       subst h
       obtain⟨s1,s2⟩:=nH hd hk h1 t1 hq
       exact .inr ⟨0,m,by simp[Instr.findNow,s1],rfl,s2 rfl,by simp only[List.set_cons_zero,List.map_cons,aj];exact⟨yj (me:={key:=kv,val:=val,born:=m.born}) h1 h2,hr.2⟩⟩
     · rename_i hq
       obtain⟨s1,_⟩:=nH hd hk h1 t1 hq
       rw[Option.map_eq_some_iff] at h
       obtain⟨es3,g0,rfl⟩:=h
       rcases uU hd hk h1 h2 (i:=i+1) hr.2 g0 with⟨g1,g2⟩ | ⟨j,x,g1,g2,g3,g4⟩
       · exact .inl ⟨by simp[Instr.findNow,s1,g1],fun c=>by simp only[List.cons_append,List.map_cons,aj];exact⟨yj t1 t2,g2 c⟩⟩
       · exact .inr ⟨j+1,x,by simp[Instr.findNow,s1,g1];omega,by simpa using g2,g3,by simp only[List.set_cons_succ,List.map_cons,aj];exact⟨yj t1 t2,g4⟩⟩
     · simp at h
   · simp at h
theorem GY {t:TypeId} {rs:Option Operand} {r:Nat} (hr:Rel X T a μ) (ho:o.op= .makeMap t rs) (XG:rs=none) (ag: (aw E (.mkMap r)).run C ⟨T,μ.O⟩=some (v,σ')):σ'.T=T∧ca X o a μ σ'.O v:=by
 subst XG
 simp only[aw,Act.run,Option.some.injEq,Prod.mk.injEq] at ag
 obtain⟨rfl,rfl⟩:=ag
 obtain⟨le,fo⟩:=ql hr.aY r (.map #[] 0) [] (.inl ⟨#[],0,rfl,by simp[aj],by simp[uA]⟩)
 refine⟨rfl,.map (some μ.w.heap.size),_,_,.inl ?_,?_,le,fo⟩
 · simp only[execOp,ho]
   refine bS ?_
   simp[Instr.makeMap,Sem.run_bind]
 · simp only[ak,az]
   exact⟨_,rfl,Nat.le_refl _,fun _=> ⟨trivial,rfl⟩⟩
theorem D7 {  t kt et:TypeId} {d:TypeDesc} {x i:Operand} {x' i':aQ} {ok:Bool} {q:Option IntKind} {z:V} (hr:Rel X T a μ) (ho:o.op= .lookup t x i ok) (ht:aZ X t=some (.map kt et)) (Jm:aZ X kt=some d) (hd:gW q d)
   (hz:dH X et=some z) (h1:cr X x=some x') (h2:cr X i=some i') (ag: (aw E (.tX q ok z x' i')).run C ⟨T,μ.O⟩=some (v,σ')):σ'.T=T∧ca X o a μ σ'.O v:=by
 simp only[aw,bd] at ag
 have hx:=aL hr h1 μ.O
 have hi:=aL hr h2 μ.O
 have vJ:X.P.underlying t=some (.map kt et):=ht
 have rC:X.P.underlying kt=some d:=Jm
 obtain⟨zv,rz,vI⟩:=eT hz μ.w
 obtain⟨sQ,Ig⟩:=dE (X:=X) (μ:=μ) vI
 split at ag
 · rename_i D8
   have D1:=GX hd D8 hi
   have main: ∀ {es:List V} {ents:Array MapEntry} {m:Option Nat},aj X μ es (ents.toList.map Ij)→(iJ ok z es (a8 ⟨T,μ.O⟩ i')).run C ⟨T,μ.O⟩=some (v,σ')→a.eval x= .map m→
       (match m with| none=>ents= #[] | some r=> ∃clock,μ.w.heap[r]? =some (.map ents clock))→σ'.T=T∧ca X o a μ σ'.O v:=by
     intro es ents m bQ rD hm hb
     have fin: ∀ (u:Value) (b:Bool),(match Instr.findNow d (a.eval i) ents.toList 0 with
         | some (some (_,v))=>u=v∧b=true
         | some none=>u=zv∧b=false
         | none=>False)→(execOp a.eval o).run X.P μ.w= .ok (.value (if ok then .tuple #[u,.bool b] else u)) μ.w:=by
       intro u b hf
       simp only[execOp,ho]
       refine bS ?_
       cases tk:Instr.findNow d (a.eval i) ents.toList 0 with
       | none=>rw[tk] at hf;exact hf.elim
       | some r=>
         rw[tk] at hf
         cases m with
         | none=>
           simp only at hb
           subst hb
           cases r with
           | none=>
             simp only at hf;obtain⟨rfl,rfl⟩:=hf
             cases ok<;>simp[Instr.lookup,Sem.run_bind,run_underlying vJ,Result.andThen,hm,Go.MapKept.run_checkKey rC D1,Go.MapKept.run_findKey (l:=[]) rC (by simpa using tk),rz]
           | some p=>
             obtain⟨j,y⟩:=p
             simp only at hf;obtain⟨rfl,rfl⟩:=hf
             cases ok<;>simp[Instr.lookup,Sem.run_bind,run_underlying vJ,Result.andThen,hm,Go.MapKept.run_checkKey rC D1,Go.MapKept.run_findKey (l:=[]) rC (by simpa using tk)]
         | some rr=>
           obtain⟨clock,hb⟩:=hb
           cases r with
           | none=>
             simp only at hf;obtain⟨rfl,rfl⟩:=hf
             cases ok<;>simp[Instr.lookup,Sem.run_bind,run_underlying vJ,Result.andThen,hm,Go.MapKept.run_getObj_map hb,Go.MapKept.run_checkKey rC D1,Go.MapKept.run_findKey rC tk,rz]
           | some p=>
             obtain⟨j,y⟩:=p
             simp only at hf;obtain⟨rfl,rfl⟩:=hf
             cases ok<;>simp[Instr.lookup,Sem.run_bind,run_underlying vJ,Result.andThen,hm,Go.MapKept.run_getObj_map hb,Go.MapKept.run_checkKey rC D1,Go.MapKept.run_findKey rC tk]
     unfold iJ at rD
     split at rD
     · rename_i y hy
       obtain⟨rfl,rfl⟩:=aR rD
       rcases mL hd D8 hi (i:=0) bQ hy with⟨g1,_⟩ | ⟨v0,j,e,g1,g2,g3⟩
       · cases g1
       · injection g1 with g1
         subst g1
         refine⟨rfl,aF hr.aY (fin e true (by rw[g2];exact⟨rfl,rfl⟩)) ?_⟩
         cases ok
         · simpa using g3
         · simp only[if_true,ak];exact⟨_,rfl,by simp[aj,ak,g3]⟩
     · rename_i hy
       obtain⟨rfl,rfl⟩:=aR rD
       rcases mL hd D8 hi (i:=0) bQ hy with⟨_,g2⟩ | ⟨v0,j,e,g1,g2,g3⟩
       · refine⟨rfl,aF hr.aY (fin zv false (by rw[g2];exact⟨rfl,rfl⟩)) ?_⟩
         cases ok
         · simpa using sQ
         · simp only[if_true,ak];exact⟨_,rfl,by simp[aj,ak,sQ]⟩
       · cases g1
     · exact absurd rD av
   split at ag
   · rename_i r g e
     rw[e] at hx
     simp only[ak] at hx
     obtain⟨b,hp,qK,bY⟩:=hx
     simp only[Act.run] at ag
     split at ag
     · rename_i es bl
       split at ag
       · rename_i hc
         obtain⟨k0,rfl⟩:=bY hc.1
         rcases hr.aY.ents r es bl hc.2 with⟨cE,ents,clock,hm,bQ,_⟩ | ⟨_,s,pos,_,rfl⟩ | ⟨nA,rfl⟩
         · exact main bQ ag hp ⟨clock,hm⟩
         · exact absurd (by simpa [iJ,ll] using ag) av
         · exact absurd (by simpa [iJ,ll] using ag) av
       · exact absurd ag av
     · exact absurd ag av
   · rename_i es e
     rw[e] at hx
     simp only[ak] at hx
     obtain⟨_,⟨rfl,hp⟩ | ⟨b,ents,clock,hp,_,_,⟨hm,_⟩,bQ⟩⟩:=hx
     · exact main (ents:= #[]) (by simp[aj]) ag hp rfl
     · exact main bQ ag hp ⟨clock,hm⟩
   · exact absurd ag av
 · exact absurd ag av
theorem D9 {ents:Array MapEntry} {clock:Nat} (h:uA ents clock) (e:MapEntry) (he:e.born=clock):uA (ents.push e) (clock+1):=by
 obtain⟨h1,h2⟩:=h
 refine⟨fun x hx=> ?_,?_⟩
 · rw[Array.toList_push,List.mem_append,List.mem_singleton] at hx
   rcases hx with hx| rfl
   · have:=h1 x hx;omega
   · omega
 · rw[Array.toList_push,List.map_append,List.nodup_append]
   refine⟨h2,by simp,fun a ha b hb=> ?_⟩
   simp only[List.map_cons,List.map_nil,List.mem_singleton] at hb
   obtain⟨x,hx,rfl⟩:=List.mem_map.1 ha
   have:=h1 x hx
   omega
theorem z0 {ents:Array MapEntry} {clock:Nat} (h:uA ents clock) (j:Nat) {f:MapEntry→MapEntry} (hf: ∀e,(f e).born=e.born):uA (ents.modify j f) clock:=by
 have hm: (ents.modify j f).toList.map (·.born)=ents.toList.map (·.born):=by
  apply List.ext_getElem?
  intro n
  simp only[List.getElem?_map,Array.toList_modify,List.getElem?_modify]
  cases ents.toList[n]? with
  | none=>rfl
  | some x=>
    simp only[Option.map_some]
    split
    · simp[hf]
    · rfl
 refine⟨fun x hx=> ?_,by rw[hm];exact h.2⟩
 have:x.born ∈ (ents.modify j f).toList.map (·.born):=List.mem_map.2 ⟨x,hx,rfl⟩
 rw[hm] at this
 obtain⟨y,hy,e⟩:=List.mem_map.1 this
 rw[←e];exact h.1 y hy
theorem wR {     t kt et:TypeId} {d:TypeDesc} {x i y:Operand} {x' i' y':aQ} {q:Option IntKind} (hr:Rel X T a μ) (ho:o.op= .mapUpdate t x i y∨o.op= .insert t x i y) (ht:aZ X t=some (.map kt et)) (Jm:aZ X kt=some d) (hd:gW q d)
   (h1:cr X x=some x') (h2:cr X i=some i') (h3:cr X y=some y') (ag: (aw E (.qW q x' i' y')).run C ⟨T,μ.O⟩=some (v,σ')):σ'.T=T∧ca X o a μ σ'.O v:=by
 simp only[aw,bd] at ag
 have hx:=aL hr h1 μ.O
 have hi:=aL hr h2 μ.O
 have hy:=aL hr h3 μ.O
 have vJ:X.P.underlying t=some (.map kt et):=ht
 have rC:X.P.underlying kt=some d:=Jm
 split at ag
 · rename_i r g e
   rw[e] at hx
   simp only[bd] at ag
   obtain⟨u,O1,k1,k2,k3,k4⟩:=iV (μ:=μ) hr.aY hy ag
   have YS:=ak.mono k3 hx
   have sP:=ak.mono k3 hi
   simp only[Act.run] at k1
   split at k1
   · rename_i es bl
     split at k1
     · rename_i hc
       obtain⟨b5,ck,fN,D8,kx⟩:=hc
       split at k1
       · rename_i es' sR
         simp only[Act.run,Option.some.injEq,Prod.mk.injEq] at k1
         obtain⟨rfl,rfl⟩:=k1
         simp only[ak] at YS
         obtain⟨b,hp,qK,bY⟩:=YS
         obtain⟨_,rfl⟩:=bY b5
         obtain⟨cE,ents,clock,hm,bQ,ku⟩: (μ.φ r).cap≠0∧ ∃ents clock,μ.w.heap[(μ.φ r).cK]? =some (.map ents clock)∧aj X ⟨μ.w,μ.φ,O1⟩ es (ents.toList.map Ij)∧uA ents clock:=by
           rcases k4.ents r es bl ck with h| ⟨_,s,pos,_,rfl⟩ | ⟨nA,rfl⟩
           · exact h
           · simp[mh] at sR
           · simp[mh] at sR
         have D1:=GX hd D8 sP
         have fin: ∀w',(Instr.mapUpdate t (.map (some (μ.φ r).cK)) (a.eval i) (a.eval y)).run X.P μ.w= .ok () w'→(execOp a.eval o).run X.P μ.w= .ok .skip w':=fun w' hw=>by
           rcases ho with ho| ho
           · simp only[execOp,ho,hp];exact GC hw
           · simp only[execOp,ho,hp];exact GC hw
         rcases uU hd D8 sP k2 (i:=0) bQ sR with⟨g1,g2⟩ | ⟨j,e,g1,g2,g3,g4⟩
         · obtain⟨le,fo⟩:=oS (μ:=⟨μ.w,μ.φ,O1⟩) k4 r (es':=es') (ob':= .map (ents.push {key:=a.eval i,val:=a.eval y,born:=clock}) (clock+1)) bl fN ck hm cE (.inl ⟨ents,clock,rfl,bQ,ku⟩) (.inl ⟨_,_,rfl,by
            have:=g2 clock
            have e1: (ents.push ({key:=a.eval i,val:=a.eval y,born:=clock}:MapEntry)).toList=ents.toList++[({key:=a.eval i,val:=a.eval y,born:=clock}:MapEntry)]:=by simp
            rw[e1];exact this,D9 ku _ rfl⟩)
           refine⟨rfl,undef,_,_,.inr ⟨fin _ ?_,rfl⟩,by simp only[ak];exact⟨#[],rfl,by simp[aj]⟩,k3.trans le,fo⟩
           simp[Instr.mapUpdate,run_underlying vJ,Go.MapKept.run_getObj_map hm,Go.MapKept.run_checkKey rC D1,Go.MapKept.run_findKey rC g1,Go.MapKept.run_setObj_map _ hm,Result.andThen,Sem.run_bind]
         · rw[Nat.zero_add] at g1
           have hje:ents[j]? =some e:=by simpa using g2
           obtain⟨le,fo⟩:=oS (μ:=⟨μ.w,μ.φ,O1⟩) k4 r (es':=es') (ob':= .map (ents.modify j fun e=> {e with key:=a.eval i,val:=a.eval y}) (clock)) bl fN ck hm cE (.inl ⟨ents,clock,rfl,bQ,ku⟩) (.inl ⟨_,_,rfl,by
            have hl: (ents.modify j fun e=> {e with key:=a.eval i,val:=a.eval y}).toList=ents.toList.set j {e with key:=a.eval i,val:=a.eval y}:=by
              apply List.ext_getElem?
              intro n
              rw[Array.toList_modify,List.getElem?_modify,List.getElem?_set]
              by_cases hn:j=n
              · subst hn
                have bp:=(List.getElem?_eq_some_iff.1 g2).1
                simp only[if_true,bp,g2,Option.map_some,and_self]
                rfl
              · simp[hn]
            rw[hl];exact g4,z0 ku j fun _=>rfl⟩)
           refine⟨rfl,undef,_,_,.inr ⟨fin _ ?_,rfl⟩,by simp only[ak];exact⟨#[],rfl,by simp[aj]⟩,k3.trans le,fo⟩
           simp[Instr.mapUpdate,run_underlying vJ,Go.MapKept.run_getObj_map hm,Go.MapKept.run_checkKey rC D1,Go.MapKept.run_findKey rC g1,hje,g3,Go.MapKept.run_keyThatStays D1,Go.MapKept.run_setObj_map _ hm,Result.andThen,Sem.run_bind]
       · exact absurd k1 av
     · exact absurd k1 av
   · exact absurd k1 av
 · exact absurd ag av
theorem lM {P:Program} {w:World} {r:Nat} {s:ByteArray} {pos:Nat} (hb:w.heap[r]? =some (.stringIter s pos)): (getObj r).run P w= .ok (.stringIter s pos) w:=by
 simp[getObj,Sem.run,hb]
theorem lN {P:Program} {w:World} {r:Nat} {s:ByteArray} {pos:Nat} (o:Go.Obj) (hb:w.heap[r]? =some (.stringIter s pos)): (setObj r o).run P w= .ok () {w with heap:=w.heap.setIfInBounds r o}:=by
 simp[setObj,Sem.run,hb]
theorem BJ {t:TypeId} {x:Operand} {y:aQ} {r:Nat} (hr:Rel X T a μ) (ho:o.op= .range t x) (ht:aZ X t=some .string) (h1:cr X x=some y) (ag: (aw E (.pO r y)).run C ⟨T,μ.O⟩=some (v,σ')):σ'.T=T∧ca X o a μ σ'.O v:=by
 simp only[aw,bd] at ag
 have hx:=aL hr h1 μ.O
 have vJ:X.P.underlying t=some .string:=ht
 split at ag
 · rename_i s e
   rw[e] at hx
   simp only[ak] at hx
   obtain⟨bs,hp,rfl⟩:=hx
   simp only[Act.run,Option.some.injEq,Prod.mk.injEq] at ag
   obtain⟨rfl,rfl⟩:=ag
   obtain⟨le,fo⟩:=ql hr.aY r (.stringIter bs 0) [.str bs.data.toList,.int .i64 0] (.inr (.inl ⟨bs,0,rfl,rfl⟩))
   refine⟨rfl,.pointer (some ⟨μ.w.heap.size,0,none⟩),_,_,.inl ?_,?_,le,fo⟩
   · simp only[execOp,ho]
     refine bS ?_
     simp[Instr.range,Sem.run_bind,run_underlying vJ,hp,Result.andThen]
   · simp only[ak,az]
     exact⟨_,rfl,Nat.le_refl _,fun _=> ⟨trivial,rfl⟩⟩
 · exact absurd ag av
theorem BK {t kt et:TypeId} {x:Operand} {y:aQ} {r:Nat} (hr:Rel X T a μ) (ho:o.op= .range t x) (ht:aZ X t=some (.map kt et)) (h1:cr X x=some y) (ag: (aw E (.mapIter r y)).run C ⟨T,μ.O⟩=some (v,σ')):σ'.T=T∧ca X o a μ σ'.O v:=by
 simp only[aw,bd] at ag
 have hx:=aL hr h1 μ.O
 have vJ:X.P.underlying t=some (.map kt et):=ht
 split at ag
 · rename_i es e
   rw[e] at hx
   simp only[ak] at hx
   simp only[Act.run,Option.some.injEq,Prod.mk.injEq] at ag
   obtain⟨rfl,rfl⟩:=ag
   obtain⟨_,⟨rfl,hp⟩ | ⟨b,ents,clock,hp,eh,bp,⟨hm,ku⟩,bQ⟩⟩:=hx
   · obtain⟨le,fo⟩:=ql hr.aY r (.mapIter none 0 #[] 0) [.mlit []] (.inr (.inr ⟨none,0,[],rfl,rfl,.inl ⟨rfl,rfl⟩⟩))
     refine⟨rfl,.pointer (some ⟨μ.w.heap.size,0,none⟩),_,_,.inl ?_,?_,le,fo⟩
     · simp only[execOp,ho]
       refine bS ?_
       simp[Instr.range,Sem.run_bind,run_underlying vJ,hp,Result.andThen]
     · simp only[ak,az]
       exact⟨_,rfl,Nat.le_refl _,fun _=> ⟨trivial,rfl⟩⟩
   · obtain⟨le,fo⟩:=ql hr.aY r (.mapIter (some b) clock #[] clock) [.mlit es] (.inr (.inr ⟨some b,clock,es,rfl,rfl,.inr ⟨b,ents,rfl,eh,bp,hm,ku,bQ⟩⟩))
     refine⟨rfl,.pointer (some ⟨μ.w.heap.size,0,none⟩),_,_,.inl ?_,?_,le,fo⟩
     · simp only[execOp,ho]
       refine bS ?_
       simp[Instr.range,Sem.run_bind,run_underlying vJ,hp,Result.andThen,Go.MapKept.run_getObj_map hm]
     · simp only[ak,az]
       exact⟨_,rfl,Nat.le_refl _,fun _=> ⟨trivial,rfl⟩⟩
 · exact absurd ag av
theorem BL {  x:Operand} {y:aQ} (hr:Rel X T a μ) (ho:o.op= .next x true) (h1:cr X x=some y) (ag: (aw E (.pP y)).run C ⟨T,μ.O⟩=some (v,σ')):σ'.T=T∧ca X o a μ σ'.O v:=by
 simp only[aw,bd] at ag
 have hx:=aL hr h1 μ.O
 split at ag
 · rename_i r g e
   rw[e] at hx
   simp only[ak] at hx
   obtain⟨b,hp,qK,bY⟩:=hx
   simp only[Act.run] at ag
   split at ag
   · rename_i s p bl
     split at ag
     · rename_i hc
       obtain⟨b5,ck,fN⟩:=hc
       obtain⟨_,rfl⟩:=bY b5
       rcases hr.aY.ents r _ bl ck with⟨cE,ents,clock,hm,bQ,_⟩ | ⟨cE,bs,pos,hm,hs⟩ | ⟨nA,hs⟩
       · exfalso
         cases he:ents.toList with
         | nil=>simp[he,aj] at bQ
         | cons e es=>simp[he,aj,ak] at bQ
       · simp only[List.cons.injEq,V.str.injEq,V.int.injEq,true_and,and_true] at hs
         obtain⟨rfl,rfl⟩:=hs
         simp only[Int.toNat_natCast] at ag
         have hlen:bs.data.toList.length=bs.size:=by rw[Array.length_toList];rfl
         have zH: (⟨bs.data.toList.toArray⟩:ByteArray)=bs:=by cases bs;simp
         rw[hlen,zH] at ag
         split at ag
         · rename_i bp
           simp only[Act.run,Option.some.injEq,Prod.mk.injEq] at ag
           obtain⟨rfl,rfl⟩:=ag
           obtain⟨le,fo⟩:=oS hr.aY r (es':=[.str bs.data.toList,.int .i64 ((pos+(Utf8.decode bs pos).2:Nat):Int)]) (ob':= .stringIter bs (pos+(Utf8.decode bs pos).2)) bl fN ck hm cE (.inr (.inl ⟨bs,pos,rfl,rfl⟩)) (.inr (.inl ⟨bs,_,rfl,rfl⟩))
           refine⟨rfl,.tuple #[.bool true,goInt pos,.int .i32 ((Utf8.decode bs pos).1:Int)],_,_,.inl ?_,?_,le,fo⟩
           · simp only[execOp,ho]
             refine bS ?_
             simp[Instr.next,Sem.run_bind,hp,Result.andThen,lM hm,lN _ hm,bp,-bind_pure_comp]
           · simp only[ak]
             exact⟨_,rfl,by simp[aj,ak,goInt]⟩
         · rename_i bp
           obtain⟨rfl,rfl⟩:=aR ag
           refine⟨rfl,aF hr.aY (val:= .tuple #[.bool false]) ?_ ?_⟩
           · simp only[execOp,ho]
             refine bS ?_
             simp[Instr.next,Sem.run_bind,hp,Result.andThen,lM hm,lN _ hm,bp,-bind_pure_comp]
           · simp only[ak]
             exact⟨_,rfl,by simp[aj,ak]⟩
       · simp at hs
     · exact absurd ag av
   · exact absurd ag av
 · exact absurd ag av
theorem C0 {x:Operand} {y:aQ} (hr:Rel X T a μ) (ho:o.op= .move x∨o.op= .assign x) (ht:cr X x=some y) (ag: (aw E (.Fh y)).run C ⟨T,μ.O⟩=some (v,σ')):σ'.T=T∧ca X o a μ σ'.O v:=by
 simp only[aw,bd] at ag
 have iF: (execOp a.eval o).run X.P μ.w= .ok (.value (a.eval x)) μ.w:=by rcases ho with ho| ho<;>simp[execOp,ho]
 obtain⟨u,O1,k1,k2,k3,k4⟩: ∃c' O',(Act.done c').run C ⟨T,O'⟩=some (v,σ')∧ak X ⟨μ.w,μ.φ,O'⟩ c' (a.eval x)∧Le μ ⟨μ.w,μ.φ,O'⟩∧bc X ⟨μ.w,μ.φ,O'⟩:=by
  split at ag
  · exact zZ hr.aY (aL hr ht μ.O) ag
  · exact iV (μ:=μ) hr.aY (aL hr ht μ.O) ag
 obtain⟨rfl,rfl⟩:=aR k1
 exact⟨rfl,a.eval x,μ.w,μ.φ,.inl iF,k2,k3,k4⟩
end
end Go.AM
namespace Go.AM
open Go Go.RowKit
section
variable {X:Ctx} {E:Env} {C:a9} {o:Oper} {a:Go.Act} {T:Nat→V} {μ:Mu} {v:V} {σ':St}
theorem wS {X:TrEnv} {e:TypeId} (h:I7 X e=true):aZ X e=some (.int .u8):=by
 unfold I7 at h
 split at h
 · assumption
 · simp at h
theorem MB (s:List UInt8):V.aq (s.map fun b=>V.int .u8 b.toNat)=true:=by
 induction s with
 | nil=>rfl
 | cons b s ih=>simp only[List.map_cons,V.aq,V.aB,ih,Bool.and_self]
theorem XH (s:List UInt8): (s.map fun b=>V.int .u8 b.toNat).all V.cJ=true:=by
 induction s with
 | nil=>rfl
 | cons b s ih=>simp only[List.map_cons,List.all_cons,ih,Bool.and_true];rfl
theorem qv: ∀ {ys:List V} {s:List UInt8},bytesOf ys=some s→ys=s.map fun b=>V.int .u8 b.toNat
 | [],s,h=>by simp only[bytesOf,Option.some.injEq] at h;subst h;rfl
 | y::ys,s,h=>by
   unfold bytesOf at h
   split at h
   · simp at*
   · rename_i n vs e
     injection e with e1 e2
     subst e1 e2
     split at h
     · rename_i hn
       obtain⟨t,ht,rfl⟩:=Option.map_eq_some_iff.1 h
       rw[List.map_cons,←qv ht]
       congr 2
       have: (UInt8.ofNat n.toNat).toNat=n.toNat:=by
        rw[UInt8.toNat_ofNat'];omega
       rw[this];omega
     · simp at h
   · simp at h
theorem uV: ∀ (l:List UInt8) (s:ByteArray),((l.map fun b=> (b.toNat:Int)).foldl (fun r n=>r.push (UInt8.ofNat n.toNat)) s).data.toList=s.data.toList++l
 | [],s=>by simp
 | b::l,s=>by
   rw[List.map_cons,List.foldl_cons,uV l]
   have:UInt8.ofNat ((b.toNat:Int).toNat)=b:=by simp
   rw[this]
   simp[ByteArray.push]
theorem aj.GZ {ys:List V} {us:List Value} {s:List UInt8} (hy:ys=s.map fun b=>V.int .u8 b.toNat) (h:aj X μ ys us):us=s.map fun b=>Value.int .u8 b.toNat:=by
 subst hy
 induction s generalizing us with
 | nil=>cases us<;>simp_all[aj]
 | cons b s ih=>
   cases us with
   | nil=>simp[aj] at h
   | cons u us=>
     simp only[List.map_cons,aj,ak] at h ⊢
     rw[h.1,ih h.2]
theorem z4 {s d e:TypeId} {x:Operand} {x':aQ} (hr:Rel X T a μ) (ho:o.op= .convert s d x) (hs:aZ X s=some (.slice e)) (he:aZ X e=some (.int .u8)) (hd:aZ X d=some .string)
   (h1:cr X x=some x') (ag: (aw E (.mj x')).run C ⟨T,μ.O⟩=some (v,σ')):σ'.T=T∧ca X o a μ σ'.O v:=by
 simp only[aw,bd] at ag
 have hx:=aL hr h1 μ.O
 generalize a8 ⟨T,μ.O⟩ x'=y at ag hx
 have hy: (content 1 y fun ys=>cz ((bytesOf ys).map .str)).run C ⟨T,μ.O⟩=some (v,σ')∧ ∀t,y≠ .str t:=by
   cases y<;>first| exact absurd ag av| exact⟨ag,fun t h=>by cases h⟩
 obtain⟨ag,cO⟩:=hy
 have XI: ∃q len cap,a.eval x= .slice q len cap:=by
   cases y<;>simp only[content] at ag<;>try exact absurd ag av
   · exact absurd rfl (cO _)
   · simp only[ak] at hx;obtain⟨q,h⟩:=hx;exact⟨_,_,_,h⟩
   · simp only[ak] at hx;obtain⟨_,_,q,cap,vs,h,_⟩:=hx;exact⟨_,_,_,h⟩
   · simp only[ak] at hx;obtain⟨q,cap,h,_⟩:=hx;exact⟨_,_,_,h⟩
 obtain⟨q,len,cap,hq⟩:=XI
 obtain⟨ys,us,hk,hv,hlen,Y1⟩:=fp hr.aY hx ag
 obtain⟨hb,rfl⟩:=cY hk
 obtain⟨t,ht,rfl⟩:=Option.map_eq_some_iff.1 hb
 have YT:=qv ht
 have yN:=aj.GZ YT hv
 have hl:len=ys.length:=by
   rw[hq] at hlen
   simpa [Builtin.lenOf] using hlen
 have j7:=Y1 μ.w rfl ys.length (Nat.le_refl _)
 rw[yN,List.take_of_length_le (by rw[YT];simp),uQ,hq] at j7
 refine⟨rfl,aF (val:= .string ((t.map fun b=> (b.toNat:Int)).foldl (fun r n=>r.push (UInt8.ofNat n.toNat)) ByteArray.empty)) hr.aY ?_ ?_⟩
 · simp only[execOp,ho]
   refine bS ?_
   rw[hq,run_convert_bytes_string μ.w s d e q len cap hs he hd]
   cases q with
   | none=>
     simp only[Builtin.firstCells,Sem.run_pure] at j7
     have h0:t=[]:=by
      cases t with
      | nil=>rfl
      | cons b t=>simp at j7
     subst h0
     simp[Conv.bytesToString]
   | some ad=>
     simp only[Builtin.firstCells,Nat.mul_one] at j7
     have:=run_bytesToString (P:=X.P) μ.w ad len cap (t.map fun b=> (b.toNat:Int)) (by rw[hl,j7,List.map_map];rfl)
     exact this
 · simp only[ak]
   exact⟨_,rfl,by rw[uV];rfl⟩
theorem z6 {s d e:TypeId} {x:Operand} {x':aQ} (hr:Rel X T a μ) (ho:o.op= .convert s d x) (hs:aZ X s=some .string) (hd:aZ X d=some (.slice e)) (he:aZ X e=some (.int .u8))
   (h1:cr X x=some x') (ag: (aw E (.mi x')).run C ⟨T,μ.O⟩=some (v,σ')):σ'.T=T∧ca X o a μ σ'.O v:=by
 simp only[aw,bd] at ag
 have hx:=aL hr h1 μ.O
 split at ag
 · rename_i b eq
   obtain⟨rfl,rfl⟩:=aR ag
   rw[eq] at hx;simp only[ak] at hx
   obtain⟨bs,zH,rfl⟩:=hx
   have le:Le μ ⟨Lib.bytesWorld μ.w e bs,μ.φ,μ.O⟩:=by
     refine⟨by show _≤(Lib.bytesWorld μ.w e bs).heap.size;rw[Lib.bytesWorld_size];omega,fun b hb rR=> ⟨Lib.bytesWorld_at_old μ.w e bs b hb,rR⟩,fun _=>Nat.le_refl _,fun _ _=> ⟨rfl,rfl⟩,rfl,rfl,rfl,fun ad ha=> ?_⟩
     simp only[World.frozen?];rw[Lib.bytesWorld_at_old μ.w e bs ad.block ha]
   have EV:bc X ⟨Lib.bytesWorld μ.w e bs,μ.φ,μ.O⟩:=hr.aY.uC le rfl rfl fun b hb=>Lib.bytesWorld_at_old μ.w e bs b hb
   refine⟨rfl,.slice (some ⟨μ.w.heap.size,0,none⟩) bs.size (grownCap μ.w bs.size 0 e),Lib.bytesWorld μ.w e bs,μ.φ,.inl ?_,?_,le,EV⟩
   · simp only[execOp,ho]
     refine bS ?_
     rw[zH]
     exact Lib.run_convert_string_bytes μ.w s d e bs hs hd he
   · have ck: (bs.data.toList.map fun b=>V.int .u8 b.toNat).length=bs.size:=by simp
     have fF: ∀b,(Mu.mk (Lib.bytesWorld μ.w e bs) μ.φ μ.O).own b→b<μ.w.heap.size:=by
       rintro b ⟨r,h1,h2,h3,h4⟩
       have h4: (μ.φ r).cK=b:=h4
       obtain⟨es,bl⟩:=Option.isSome_iff_exists.1 h1
       rw[←h4]
       exact eJ.cK (hr.aY.ok r es bl) h3
     simp only[ak]
     refine⟨AM.MB _,XH _,some ⟨μ.w.heap.size,0,none⟩,_,_,by rw[ck],by rw[ck];exact grownCap_ge _ _ _ _,aj.bytes _,.inr ⟨μ.w.heap.size,0,rfl,?_,by show _< (Lib.bytesWorld μ.w e bs).heap.size;rw[Lib.bytesWorld_size];omega,?_⟩⟩
     · rintro(h| h)
       · have:=fF _ h;omega
       · have:=hr.aY.blt _ h;omega
     · intro i v hv
       rw[List.getElem?_map,Option.map_eq_some_iff] at hv
       obtain⟨b,hb,rfl⟩:=hv
       refine⟨rfl,fun j c hc=> ?_⟩
       have hj:j=0:=by
        rcases Nat.eq_zero_or_pos j with h| h
        · exact h
        · rw[Array.getElem?_eq_none (by show 1≤j;omega)] at hc;simp at hc
       subst hj
       have hi:i<bs.size:=by
        have:=(List.getElem?_eq_some_iff.1 hb).1
        simpa using this
       have h2:=Lib.bytesWorld_cell μ.w e bs i hi
       have h3:bs.data.toList.getD i 0=b:=by simp[List.getD,hb]
       rw[h3] at h2
       have yK:c= .int .u8 b.toNat:=by
        have: (#[Value.int .u8 b.toNat]:Array Value)[0]? =some c:=hc
        simpa using this.symm
       subst yK
       have e0: (0+i*1+0)=i:=by omega
       rw[e0];exact h2
 · exact absurd ag av
end
end Go.AM
namespace Go.AM
open Go Go.RowKit
def gh (h:Hints) (μ:Mu):Prop:=
 (∀d r g N,(d,r,g,N) ∈ h.KN→g≤(μ.O r).gen∧((μ.O r).gen=g→N≤(μ.φ r).cap))∧
 ∀d m r g N,(d,m,r,g,N) ∈ h.full→g≤(μ.O r).gen∧((μ.O r).gen=g→(μ.φ r).cap=N)
theorem gh.le {h:Hints} {μ μ':Mu} (hk:gh h μ) (le:Le μ μ'):gh h μ':=by
 refine⟨fun d r g N hm=> ?_,fun d m r g N hm=> ?_⟩
 · obtain⟨h1,h2⟩:=hk.1 d r g N hm
   have hg:=le.gen r
   refine⟨by omega,fun e=> ?_⟩
   obtain⟨k1,_⟩:=le.row r (by omega)
   rw[k1];exact h2 (by omega)
 · obtain⟨h1,h2⟩:=hk.2 d m r g N hm
   have hg:=le.gen r
   refine⟨by omega,fun e=> ?_⟩
   obtain⟨k1,_⟩:=le.row r (by omega)
   rw[k1];exact h2 (by omega)
theorem gh.none {h:Hints} {μ:Mu} (h1:h.KN=[]) (h2:h.full=[]):gh h μ:=by
 refine⟨fun d r g N hm=> ?_,fun d m r g N hm=> ?_⟩
 · rw[h1] at hm;exact(List.not_mem_nil hm).elim
 · rw[h2] at hm;exact(List.not_mem_nil hm).elim
section
variable {X:Ctx} {E:Env} {C:a9} {o:Oper} {a:Go.Act} {T:Nat→V} {μ:Mu} {v:V} {σ':St}
theorem uW {c:Call} {s x:Operand} {sT xT e:TypeId} {d:TypeDesc} {s' x':aQ} {r g N sz:Nat} (hN: (μ.O r).gen=g→N≤(μ.φ r).cap) (hr:Rel X T a μ) (ho:o.op= .call c) (hc:c.callee= .builtin .append)
  (fq:c.args= #[s,x]) (rB:c.argTypes= #[sT,xT]) (hd:aZ X sT=some (.slice e)) (hx:aZ X xT=some d) (zV: ∀k,d≠ .int k) (hn:bq X e=some sz)
  (h1:cr X s=some s') (h2:cr X x=some x')
  (ag: (aw E (.pS r g N sz s' x')).run C ⟨T,μ.O⟩=some (v,σ')):σ'.T=T∧ca X o a μ σ'.O v:=by
 have hs:=aL hr h1 μ.O
 have D6:=aL hr h2 μ.O
 have kJ:X.P.underlying sT=some (.slice e):=hd
 have AS:X.P.underlying xT=some d:=hx
 simp only[aw,bd] at ag
 obtain⟨ys,us,k1,g2,k3,k4⟩:=fp hr.aY D6 ag
 have yh:us.length=ys.length:=g2.length.symm
 have si: (Builtin.firstCells sz ys.length (a.eval x)).run X.P μ.w= .ok (flat us).toArray μ.w:=by
  have:=k4 μ.w rfl ys.length (Nat.le_refl _)
  rwa [nG (by omega)] at this
 have fin: ∀val w',(Builtin.append_ #[sT,xT] o.type #[a.eval s,a.eval x]).run X.P μ.w= .ok val w'→(execOp a.eval o).run X.P μ.w= .ok (.value val) w':=fun val w' hv=>by
  refine da ho hc ?_
  simp only[builtin,fq,rB]
  refine bS ?_
  simpa using hv
 split at k1
 rotate_left
 · exact absurd k1 av
 rename_i hb
 simp only[Bool.and_eq_true,decide_eq_true_eq] at hb
 obtain⟨nS,ck⟩:=hb
 obtain⟨yN,yf⟩:=g2.kr nS
 have vS:=dW yN
 generalize a8 ⟨T,μ.O⟩ s'=sv at k1 hs
 split at k1
 rotate_left
 · exact absurd k1 av
 rename_i r' g' off len
 split at k1
 rotate_left
 · exact absurd k1 av
 rename_i eB
 obtain⟨rfl,rfl,rfl,Jk,r7⟩:=eB
 simp only[Act.run] at k1
 split at k1
 rotate_left
 · exact absurd k1 av
 rename_i es bl
 split at k1
 rotate_left
 · exact absurd k1 av
 rename_i rk
 obtain⟨b5,fN,dI,hlen⟩:=rk
 simp only[Act.run,Option.some.injEq,Prod.mk.injEq] at k1
 obtain⟨rfl,rfl⟩:=k1
 refine⟨rfl,?_⟩
 simp only[ak] at hs
 obtain⟨p,cap,hp,hle,qK,bY⟩:=hs
 obtain⟨a0,a1,a2⟩:=bY b5
 have hN':=hN b5
 obtain⟨q1,q2,q3,q4⟩:=hr.aY.row r' es bl a0
 have cE:cap≠0:=by omega
 have eB: (μ.φ r').cap≠0:=by omega
 rcases q4 with q4| ⟨cc,T0,vs,p1,p2,p3,p4⟩
 · exact absurd q4 eB
 have tu:=a2.resolve_left cE
 subst tu
 have CW:=p3.length
 have sO:cW cc.toList (μ.φ r').base sz vs:=by have:=fk p1 p4;rwa [dI] at this
 rw[dI] at p2
 have hmul: (len+ys.length)*sz≤(μ.φ r').cap*sz:=Nat.mul_le_mul_right _ (by omega)
 rw[Nat.add_mul] at hmul
 have hw:=sO.write (k:=len) (us:=us) (by omega) yN (by rw[bM cc,yh];omega)
 have nq:=fm (P:=X.P) (w:=μ.w) (q:=(μ.φ r').base+len*sz) p1 (flat us) (by rw[vS,yh];omega) yf
 have ns:=fB (X:=X) (sT:=sT) (xT:=xT) (sLen:=len) (sCap:=cap) (ty:=o.type) (base:=some ⟨(μ.φ r').cK,(μ.φ r').base+0*(μ.O r').sz,none⟩)
  (w':=μ.w.setRow (μ.φ r').cK (cf cc.toList ((μ.φ r').base+len*sz) (flat us)).toArray) kJ AS zV hn k3 (by omega) si (by
    simp only[ep,dI,Nat.zero_mul,Nat.add_zero]
    exact nq)
 have GV:=kn (X:=X) (μ:=μ) hr.aY r' bl fN p1 eB (c':=(cf cc.toList ((μ.φ r').base+len*sz) (flat us)).toArray)
  (by
    have: (cf cc.toList ((μ.φ r').base+len*sz) (flat us)).length=cc.toList.length:=dF (by rw[bM cc,vS,yh];omega)
    simpa using this)
  (μ.O r').gen (μ.φ r').base (μ.φ r').cap (es':=es++ys) (vs':=vs.take len++us++vs.drop (len+us.length)) (.inl ⟨rfl,rfl,rfl⟩) eB
  (by simp;omega)
  (by
    simp only[dI] at q3 ⊢
    simp only[List.all_append,q3,nS,Bool.and_self])
  (by
    have e1:vs.take len=vs:=List.take_of_length_le (by omega)
    have e2:vs.drop (len+us.length)=[]:=List.drop_eq_nil_of_le (by omega)
    rw[e1,e2,List.append_nil]
    exact p3.append g2)
  (by rw[dI];exact p2)
  (fun j y hy=>by
    obtain⟨m1,m2⟩:=hw j y hy
    refine⟨by rw[dI];exact m1,fun l q hq=> ?_⟩
    have:=m2 l q hq
    simp only[dI]
    simpa using this)
 refine⟨_,_,_,.inl (fin _ _ (by rw[hp];exact ns)),?_,GV.1,GV.2⟩
 simp only[ak,az]
 exact⟨_,cap,rfl,by omega,by omega,fun _=> ⟨a0,a1,.inr rfl⟩⟩
theorem uX {c:Call} {s x:Operand} {sT xT e:TypeId} {d:TypeDesc} {s' x':aQ} {m r g N sz:Nat} {i:TypeInfo} {z:V} (hN: (μ.O r).gen=g→(μ.φ r).cap=N) (hr:Rel X T a μ) (ho:o.op= .call c) (hc:c.callee= .builtin .append)
  (fq:c.args= #[s,x]) (rB:c.argTypes= #[sT,xT]) (hd:aZ X sT=some (.slice e)) (hx:aZ X xT=some d) (zV: ∀k,d≠ .int k) (hn:bq X e=some sz) (hi:info X e=some i)
  (hz:dH X e=some z) (D4:aO z sz=true) (h1:cr X s=some s') (h2:cr X x=some x')
  (ag: (aw E (.pT m r g N sz (nZ i.bytes) s' x')).run C ⟨T,μ.O⟩=some (v,σ')):σ'.T=T∧ca X o a μ σ'.O v:=by
 have hs:=aL hr h1 μ.O
 have D6:=aL hr h2 μ.O
 have kJ:X.P.underlying sT=some (.slice e):=hd
 have AS:X.P.underlying xT=some d:=hx
 have AT:X.P.info? e=some i:=hi
 simp only[aw,bd] at ag
 obtain⟨ys,us,k1,g2,k3,k4⟩:=fp hr.aY D6 ag
 have yh:us.length=ys.length:=g2.length.symm
 have yi: (Builtin.firstCells sz ys.length (a.eval x)).run X.P μ.w.drew= .ok (flat us).toArray μ.w.drew:=by
  have:=k4 μ.w.drew rfl ys.length (Nat.le_refl _)
  rwa [nG (by omega)] at this
 have fin: ∀val w',(Builtin.append_ #[sT,xT] o.type #[a.eval s,a.eval x]).run X.P μ.w= .ok val w'→(execOp a.eval o).run X.P μ.w= .ok (.value val) w':=fun val w' hv=>by
  refine da ho hc ?_
  simp only[builtin,fq,rB]
  refine bS ?_
  simpa using hv
 split at k1
 rotate_left
 · exact absurd k1 av
 rename_i hb
 simp only[Bool.and_eq_true,decide_eq_true_eq] at hb
 obtain⟨nS,ck⟩:=hb
 obtain⟨zv,rz,vI⟩:=eT hz μ.w
 have YZ: ∀w,(zeroValue e).run X.P w= .ok zv w:=fun w=>by
  obtain⟨zv',q1,q2⟩:=eT hz w
  have:zv'=zv:=by
    simp only[dH,info,Option.bind_eq_some_iff] at hz
    obtain⟨i0,e1,zq,e2,_⟩:=hz
    simp only[zeroValue,Sem.run_bind,run_typeInfo w e1,run_typeInfo μ.w e1,Result.andThen_ok,e2,Sem.run_pure] at q1 rz
    injection q1 with q1 _;injection rz with rz _
    rw[←q1,←rz]
  rw[←this];exact q1
 obtain⟨sQ,Ig⟩:=dE (X:=X) (μ:=μ) vI
 have GP:zv.cells.size=sz:=by rw[sQ.cV Ig,(bE D4).2]
 obtain⟨yN,yf⟩:=g2.kr nS
 have vS:=dW yN
 generalize a8 ⟨T,μ.O⟩ s'=sv at k1 hs
 split at k1
 rotate_left
 · exact absurd k1 av
 rename_i r' g' off len
 split at k1
 rotate_left
 · exact absurd k1 av
 rename_i eB
 obtain⟨rfl,rfl,rfl,Jk,r7,sS⟩:=eB
 simp only[Act.run] at k1
 split at k1
 rotate_left
 · exact absurd k1 av
 rename_i es bl
 split at k1
 rotate_left
 · exact absurd k1 av
 rename_i rk
 obtain⟨b5,fN,dI,hlen⟩:=rk
 simp only[Act.run,Option.some.injEq,Prod.mk.injEq] at k1
 obtain⟨rfl,rfl⟩:=k1
 refine⟨rfl,?_⟩
 simp only[ak] at hs
 obtain⟨p,cap,hp,hle,qK,bY⟩:=hs
 obtain⟨a0,a1,a2⟩:=bY b5
 have hN':=hN b5
 obtain⟨q1,q2,q3,q4⟩:=hr.aY.row r' es bl a0
 have hold: ∃ous,aj X μ es ous∧(Builtin.firstCells sz len (.slice p len cap)).run X.P μ.w.drew= .ok (flat ous).toArray μ.w.drew:=by
  by_cases cE:cap=0
  · have yM:len=0:=by omega
    subst yM
    have:es=[]:=by simpa using hlen
    subst this
    exact⟨[],by simp[aj],jq⟩
  · rcases q4 with q4| ⟨cc,T0,vs,p1,p2,p3,p4⟩
    · omega
    · have tu:=a2.resolve_left cE
      subst tu
      have CW:=p3.length
      refine⟨vs,p3,?_⟩
      rw[dI] at p4 ⊢
      have:=nF (P:=X.P) (p4.bZ (w':=μ.w.drew) rfl) (n:=len) (by omega)
      rw[nG (by omega)] at this
      simpa [Builtin.firstCells] using this
 obtain⟨ous,KX,KW⟩:=hold
 obtain⟨newCap,zY,ns⟩:=iv (X:=X) (sT:=sT) (xT:=xT) (sLen:=len) (sCap:=cap) (base:=p) (ty:=o.type) kJ AS zV hn AT YZ k3 (by omega) sS KW yi
 obtain⟨Ii,XF⟩:=uR (X:=X) (μ:=μ) (O1:=μ.O) hr.aY (r:=m) (sz:=sz) (newCap:=newCap) (olds:=es) (ous:=ous) (ys:=ys) (us:=us) (zv:=zv) (e:=e)
  (o0:={gen:=(μ.O m).gen+1,sz:=sz,arr:=true,fz:=false,es:=some (es++ys)}) rfl rfl ck KX g2 (by rw[←dI];exact q3) nS GP (by rw[hlen];exact zY)
 rw[hlen] at Ii XF
 refine⟨_,_,dg μ.φ m ⟨μ.w.heap.size,0,newCap⟩,.inl (fin _ _ (by rw[hp];exact ns)),?_,Ii,XF⟩
 simp only[ak,az]
 exact⟨_,newCap,rfl,by omega,Nat.le_refl _,fun _=> ⟨ck,by omega,.inr (by simp)⟩⟩
end
end Go.AM
namespace Go.AM
open Go Go.RowKit
def rP.gL:rP→Bool
 | .call .. =>true
 | _=>false
section
variable {X:Ctx} {E:Env} {C:a9} {o:Oper} {a:Go.Act} {T:Nat→V} {μ:Mu} {v:V} {σ':St}
theorem Jn {p:V×St} {σ:St}: (aw E .bad).run C σ≠some p:=by simp[aw,Act.run]
theorem BM {h:Hints} {dst:Nat} {c:Call} {nT:rP} (hr:Rel X T a μ) (ho:o.op= .call c) (gv:gh h μ) (aM:uy X h dst c=some nT) (zY:nT.gL=false)
   (ag: (aw E nT).run C ⟨T,μ.O⟩=some (v,σ')):σ'.T=T∧ca X o a μ σ'.O v:=by
 unfold uy at aM
 split at aM
 · split at aM
   · injection aM with aM;subst aM;simp[rP.gL] at zY
   · simp at aM
 · simp at aM
 · rename_i b hc
   have jo: ∀ {α:Type} (l:Array α) (m:List α),l.toList=m→l=m.toArray:=fun l m e=>by rw[←e]
   split at aM
   · rename_i x t h1 h2
     have e1:=jo _ _ h1;have e2:=jo _ _ h2
     split at aM
     · rename_i x' e hx hd
       injection aM with aM;subst aM
       exact Ms hr ho hc e1 e2 hd hx ag
     · rename_i x' hx hd
       injection aM with aM;subst aM
       exact DY hr ho hc e1 e2 hd hx ag
     · rename_i x' n e hx hd
       injection aM with aM;subst aM
       exact DZ hr ho hc e1 e2 hd ag
     · simp at aM
   · rename_i xs _
     simp only[Option.map_eq_some_iff] at aM
     obtain⟨as,h1,rfl⟩:=aM
     exact Mt hr ho hc h1 ag
   · rename_i xs _
     simp only[Option.map_eq_some_iff] at aM
     obtain⟨as,h1,rfl⟩:=aM
     exact Mv hr ho hc h1 ag
   · rename_i s x t t' h1 h2
     have e1:=jo _ _ h1;have e2:=jo _ _ h2
     split at aM
     · rename_i s' x' e d hs hx hd AR
       split at aM
       · rename_i sz i z e' hn hi hz
         split at aM<;>simp at aM
         rename_i hb
         subst aM
         unfold I8 at ag
         split at ag
         · have hq:=(by assumption:List.find? _ h.KN=some _)
           exact uW (fun e=> (gv.1 _ _ _ _ (List.mem_of_find?_eq_some hq)).2 e) hr ho hc e1 e2 hd AR (by simp) hn hs hx ag
         · have hq:=(by assumption:List.find? _ h.full=some _)
           exact uX (fun e=> (gv.2 _ _ _ _ _ (List.mem_of_find?_eq_some hq)).2 e) hr ho hc e1 e2 hd AR (by simp) hn hi hz hb hs hx ag
         split at ag
         · exact uT hr ho hc e1 e2 hd AR (by simp) hn hi hz hb hs hx ag
         · exact wQ hr ho hc e1 e2 hd AR (by simp) hn hi hz hb hs hx ag
       · rename_i sz i z hn hi hz
         split at aM<;>simp at aM
         rename_i hb
         subst aM
         unfold I8 at ag
         split at ag
         · have hq:=(by assumption:List.find? _ h.KN=some _)
           exact uW (fun e=> (gv.1 _ _ _ _ (List.mem_of_find?_eq_some hq)).2 e) hr ho hc e1 e2 hd AR (by simp) hn hs hx ag
         · have hq:=(by assumption:List.find? _ h.full=some _)
           exact uX (fun e=> (gv.2 _ _ _ _ _ (List.mem_of_find?_eq_some hq)).2 e) hr ho hc e1 e2 hd AR (by simp) hn hi hz hb hs hx ag
         split at ag
         · exact uT hr ho hc e1 e2 hd AR (by simp) hn hi hz hb hs hx ag
         · exact wQ hr ho hc e1 e2 hd AR (by simp) hn hi hz hb hs hx ag
       · simp at aM
     · simp at aM
   · rename_i d s t t' h1 h2
     have e1:=jo _ _ h1;have e2:=jo _ _ h2
     split at aM
     · rename_i d' s' e hd hs ht
       simp only[Option.map_eq_some_iff] at aM
       obtain⟨sz,hn,rfl⟩:=aM
       exact Jl hr ho hc e1 e2 ht hn hd hs ag
     · simp at aM
   · rename_i x t h1 h2
     have e1:=jo _ _ h1;have e2:=jo _ _ h2
     split at aM
     · rename_i x' e hx hd
       split at aM
       · rename_i sz z hn hz
         injection aM with aM;subst aM
         exact GW hr ho hc e1 e2 hd hz hx ag
       · simp at aM
     · simp at aM
   · simp at aM
theorem lB {kt:TypeId} {q:Option IntKind} (h:qh X kt=some q): ∃d,aZ X kt=some d∧gW q d:=by
 unfold qh at h
 split at h
 · rename_i k hk
   injection h with h;subst h
   exact⟨_,hk,rfl⟩
 · rename_i hk
   injection h with h;subst h
   exact⟨_,hk,rfl⟩
 · simp at h
theorem G0 (lW: ∀t1 t2 k,X.iu t1=some k→X.iu t2=some k→t1=t2) {h:Hints} {dst:Nat} {nT:rP} (gv:gh h μ) (hr:Rel X T a μ) (aM:vR X h dst o.op=some nT) (zY:nT.gL=false)
  (ag: (aw E nT).run C ⟨T,μ.O⟩=some (v,σ')):σ'.T=T∧ca X o a μ σ'.O v:=by
 cases dj:o.op<;>simp only[vR,dj] at aM<;>try (simp at aM;done)
 case move x=>
  split at aM
  · simp only[Option.map_eq_some_iff] at aM
    obtain⟨y,h1,rfl⟩:=aM
    exact CX hr (.inl dj) h1 ag
  · split at aM
    ·  simp only[Option.map_eq_some_iff] at aM
       obtain⟨y,h1,rfl⟩:=aM
       exact C0 hr (.inl dj) h1 ag
    · exact KP hr (.inl dj) aM ag
 case assign x=>
  split at aM
  · simp only[Option.map_eq_some_iff] at aM
    obtain⟨y,h1,rfl⟩:=aM
    exact CX hr (.inr dj) h1 ag
  · split at aM
    ·  simp only[Option.map_eq_some_iff] at aM
       obtain⟨y,h1,rfl⟩:=aM
       exact C0 hr (.inr dj) h1 ag
    · exact KP hr (.inr dj) aM ag
 case pick c p q=>
  split at aM
  · rename_i c' p' q' h1 h2 h3
    injection aM with aM;subst aM
    exact Jb hr dj h1 h2 h3 ag
  · simp at aM
 case alloc t=>
  split at aM
  · rename_i sz z h1 h2
    injection aM with aM;subst aM
    exact GO _ hr dj h2 ag
  · simp at aM
 case box t x=>
  split at aM
  · rename_i sz y h1 h2
    injection aM with aM;subst aM
    by_cases hdp:h.deep.contains dst=true
    ·  rw[if_pos hdp] at ag
       exact Jg _ hr dj h2 ag
    ·  rw[if_neg hdp] at ag
       exact Mx _ hr dj h2 ag
  · simp at aM
 case build t ps=>
  split at aM
  · rename_i z fs h1 h2
    split at aM
    · simp at aM
    ·  rename_i mm
       simp only[Option.map_eq_some_iff] at aM
       obtain⟨as,h3,rfl⟩:=aM
       exact D2 _ hr dj h1 h2 (by revert mm;cases fs.toList.all (fun f=> (bq X f.type).isSome) <;>simp) h3 ag
  · rename_i z n e h1 h2
    split at aM
    ·  rename_i s hs
       simp only[Option.map_eq_some_iff] at aM
       obtain⟨as,h3,rfl⟩:=aM
       exact D3 _ hr dj h1 h2 hs h3 ag
    · simp at aM
  · simp at aM
 case buildSlice t n ps=>
  split at aM
  · rename_i e hd
    split at aM
    ·  rename_i sz z as h1 h2 h3
       injection aM with aM;subst aM
       split at ag
       · exact uP hr dj hd h1 h2 h3 ag
       · split at ag
         · exact uO hr dj hd h1 h2 h3 ag
         · exact ot hr dj hd h1 h2 h3 ag
    · simp at aM
  · simp at aM
 case load t x=>
  split at aM
  · rename_i g sz y h1 h2 h3
    injection aM with aM;subst aM
    split at ag
    · exact CT hr dj h3 h1 h2 ag
    · exact GK _ hr dj h3 h1 h2 ag
  · simp at aM
 case store t x y=>
  split at aM
  · rename_i g sz x' y' h1 h2 h3 h4
    injection aM with aM;subst aM
    exact GQ hr dj h3 h4 h2 ag
  · simp at aM
 case nilCheck x=>
  simp only[Option.map_eq_some_iff] at aM
  obtain⟨y,h1,rfl⟩:=aM
  exact zD hr dj h1 ag
 case binOp op t x y t2=>
  split at aM
  · rename_i x' y' h1 h2
    unfold CO at aM
    split at aM
    ·  rename_i heq
       have G1:op= .eql∨op= .neq:=by cases op<;>simp[GA] at heq<;>simp
       split at aM
       · rename_i hd
         injection aM with aM;subst aM
         exact Mp hr dj G1 hd h1 h2 rfl ag
       · injection aM with aM;subst aM
         exact BA hr dj h1 h2 ag
       · injection aM with aM;subst aM
         exact BA hr dj h1 h2 ag
       · rename_i ms hd
         injection aM with aM;subst aM
         exact Mq hr dj G1 ⟨_,hd⟩ lW h1 h2 rfl ag
       · rename_i e hd
         split at aM
         · rename_i n ck
           injection aM with aM;subst aM
           exact Mr hr dj G1 hd ck h1 h2 rfl ag
         · simp at aM
       · rename_i fs hd
         split at aM
         · rename_i hg
           simp only[Option.map_eq_some_iff] at aM
           obtain⟨ks,h3,rfl⟩:=aM
           exact GJ hr dj G1 hg h3 (by simp[fY,hd]) h1 h2 rfl ag
         · simp at aM
       · rename_i hd
         split at aM
         · rename_i hg
           simp only[Option.map_eq_some_iff] at aM
           obtain⟨ks,h3,rfl⟩:=aM
           exact GJ hr dj G1 hg h3 (by simp[fY,hd]) h1 h2 rfl ag
         · simp at aM
       · simp at aM
    ·  injection aM with aM;subst aM
       exact BA hr dj h1 h2 ag
  · simp at aM
 case unOp op t x=>
  simp only[Option.map_eq_some_iff] at aM
  obtain⟨y,h1,rfl⟩:=aM
  exact Xt hr dj h1 ag
 case convert s d x=>
  split at aM
  · rename_i k0 k y h1 h2 h3
    injection aM with aM;subst aM
    exact BC hr dj h1 h2 h3 ag
  · rename_i k0 y h1 h2 h3
    injection aM with aM;subst aM
    exact DW hr dj h1 h2 h3 ag
  · rename_i k y h1 h2 h3
    injection aM with aM;subst aM
    exact DX hr dj h1 h2 h3 ag
  · rename_i y h1 h2 h3
    injection aM with aM;subst aM
    exact BD hr dj h1 h2 h3 ag
  · rename_i e y h1 h2 h3
    split at aM
    ·  rename_i he
       injection aM with aM;subst aM
       exact z6 hr dj h1 h2 (wS he) h3 ag
    · simp at aM
  · rename_i e y h1 h2 h3
    split at aM
    ·  rename_i he
       injection aM with aM;subst aM
       exact z4 hr dj h1 (wS he) h2 h3 ag
    · simp at aM
  · simp at aM
 case makeInterface t x=>
  split at aM
  · simp at aM
  · rename_i n y d cO h1 h2 h3
    injection aM with aM;subst aM
    exact rv hr dj h1 h2 ⟨_,h3,fun ms e=>cO ms e⟩ ag
  · simp at aM
 case typeAssert x t0 t ok=>
  split at aM
  · simp at aM
  · rename_i n y z d cO h1 h2 h3 h4
    injection aM with aM;subst aM
    exact D5 hr dj lW h1 h2 h3 ⟨_,h4,fun ms e=>cO ms e⟩ ag
  · simp at aM
 case makeFunc fn first caps=>
  cases fn<;>simp only at aM<;>try (simp at aM;done)
  split at aM
  · rename_i hf
    split at aM
    ·  rename_i n cs h1 h2
       injection aM with aM
       split at aM
       · subst aM;exact ye hr dj hf h1 h2 ag
       · subst aM;exact zE hr dj hf h1 h2 ag
    · simp at aM
  · split at aM
    ·  rename_i hf
       split at aM
       · rename_i n cs h1 h2
         injection aM with aM;subst aM
         exact xY hr dj hf h1 h2 ag
       · simp at aM
    · simp at aM
 case makeSlice t l c=>
  split at aM
  · rename_i e hd
    split at aM
    ·  rename_i sz i z l' c' h1 h2 h3 h4 h5
       injection aM with aM;subst aM
       exact yb hr dj hd h1 h2 h3 h4 h5 ag
    · simp at aM
  · simp at aM
 case slice t x lo hi mx=>
  split at aM
  · rename_i e x' KT AT YW hd h1 h2 h3 h4
    simp only[Option.map_eq_some_iff] at aM
    obtain⟨sz,hn,rfl⟩:=aM
    exact GL hr dj hd hn h1 h2 h3 h4 ag
  · rename_i x' KT AT hd h1 h2 h3 h4
    injection aM with aM;subst aM
    have Xv:mx=none:=by
       cases mx with
       | none=>rfl
       | some m=>simp[rp] at h4
    subst Xv
    exact zN hr dj hd h1 h2 h3 ag
  · simp at aM
 case fieldAddr s x i=>
  split at aM
  · rename_i fs y hd h1
    split at aM
    ·  rename_i f hf
       split at aM
       · rename_i n hn
         injection aM with aM;subst aM
         exact xX hr dj h1 hd hf hn ag
       · simp at aM
    · simp at aM
  · simp at aM
 case field s x i=>
  split at aM
  · rename_i fs y hd h1
    split at aM
    ·  rename_i f hf
       split at aM
       · rename_i g sz h2 h3
         injection aM with aM;subst aM
         exact GF hr dj h1 hd hf h2 h3 ag
       · simp at aM
    · simp at aM
  · simp at aM
 case indexAddr t x i=>
  split at aM
  · rename_i e x' i' hd h1 h2
    simp only[Option.map_eq_some_iff] at aM
    obtain⟨sz,hn,rfl⟩:=aM
    exact xZ hr dj hd hn h1 h2 ag
  · rename_i n e x' i' hd h1 h2
    simp only[Option.map_eq_some_iff] at aM
    obtain⟨sz,hn,rfl⟩:=aM
    exact zJ hr dj hd hn h1 h2 ag
  · simp at aM
 case index t x i=>
  split at aM
  · rename_i x' i' hd h1 h2
    injection aM with aM;subst aM
    exact zL hr dj hd h1 h2 ag
  · rename_i n e x' i' hd h1 h2
    split at aM
    ·  rename_i g sz h3 h4
       injection aM with aM;subst aM
       exact zM hr dj hd h3 h4 h1 h2 ag
    · simp at aM
  · simp at aM
 case extract x i=>
  simp only[Option.map_eq_some_iff] at aM
  obtain⟨y,h1,rfl⟩:=aM
  exact Bz hr dj h1 ag
 case makeMap t rs=>
  cases rs with
  | some _=>simp at aM
  | none=>
    injection aM with aM;subst aM
    exact GY hr dj rfl ag
 case range t x=>
  split at aM
  · rename_i x' hd h1
    injection aM with aM;subst aM
    exact BJ hr dj hd h1 ag
  · rename_i x' hd h1
    injection aM with aM;subst aM
    exact BK hr dj hd h1 ag
  · simp at aM
 case next x isS=>
  cases isS with
  | false=>simp at aM
  | true=>
    simp only[Option.map_eq_some_iff] at aM
    obtain⟨y,h1,rfl⟩:=aM
    exact BL hr dj h1 ag
 case lookup t x i ok=>
  split at aM
  · rename_i kt et x' i' hd h1 h2
    split at aM
    ·  rename_i q z hq hz
       injection aM with aM;subst aM
       obtain⟨d,Jm,hk⟩:=lB hq
       exact D7 hr dj hd Jm hk hz h1 h2 ag
    · simp at aM
  · simp at aM
 case mapUpdate t m k v=>
  split at aM
  · rename_i kt et m' k' v' hd h1 h2 h3
    simp only[Option.map_eq_some_iff] at aM
    obtain⟨q,hq,rfl⟩:=aM
    obtain⟨d,Jm,hk⟩:=lB hq
    exact wR hr (.inl dj) hd Jm hk h1 h2 h3 ag
  · simp at aM
 case insert t m k v=>
  split at aM
  · rename_i kt et m' k' v' hd h1 h2 h3
    simp only[Option.map_eq_some_iff] at aM
    obtain⟨q,hq,rfl⟩:=aM
    obtain⟨d,Jm,hk⟩:=lB hq
    exact wR hr (.inr dj) hd Jm hk h1 h2 h3 ag
  · simp at aM
 case call c=>exact BM hr dj gv aM zY ag
end
end Go.AM
namespace Go.AM
open Go Go.RowKit
def mM (X:Ctx) (E:Env) (C:a9):Prop:= ∀ (h:Hints) (dst:Nat) (o:Oper) (nT:rP) (a:Go.Act) (T:Nat→V) (μ:Mu) (v:V) (σ':St),gh h μ→Rel X T a μ→vR X h dst o.op=some nT→
 (aw E nT).run C ⟨T,μ.O⟩=some (v,σ')→σ'.T=T∧ ∀ (next:Go.Act→World→Prop) (Q:Go.Exit→Go.Act→World→Prop),
   (∀val w' φ',ak X ⟨w',φ',σ'.O⟩ v val→Le μ ⟨w',φ',σ'.O⟩→bc X ⟨w',φ',σ'.O⟩→next (a.put o.dst val) w')→o.wp X.P a μ.w next Q
structure Fp where
 tm:Nat
 fl:Nat
 ro:Option Nat
def Marks (n:Fp) (w:World) (ds:List Deferred):Prop:=(n.fl≤w.heap.size∧ ∀l,n.ro=some l→ ∃L,w.heap[l]? =some (.loop L))∧ ∃Ds:List Nat,ds=Ds.map (fun D=> {target:= .collected D,args:= #[]})∧Ds.Nodup∧ ∀D ∈ Ds,n.fl≤D∧w.heap[D]? =some (.deferred (some []))
theorem Marks.nil {n:Fp} {w:World} (h:n.fl≤w.heap.size) (hl: ∀l,n.ro=some l→ ∃L,w.heap[l]? =some (.loop L)):Marks n w []:=⟨⟨h,hl⟩,[],rfl,.nil,by simp⟩
theorem dP {X:Ctx} {μ:Mu} (ho:bc X μ) {D:Nat} {o:Go.Obj} (hD:μ.w.heap[D]? =some o) (h1:o.isCells=false) (h2:o.isWalk=false): ¬μ.own D:=by
 rintro⟨r,hr,_,hc,hb⟩
 obtain⟨es,bl⟩:=Option.isSome_iff_exists.1 hr
 rcases ho.ok r es bl with⟨_,_,_,h4⟩ | ⟨_,_,ob,h3,h4⟩
 · rcases h4 with h4| ⟨c,T,vs,k1,_⟩
   · exact hc h4
   · rw[hb,hD] at k1;injection k1 with k1;subst k1;simp[Obj.isCells] at h1
 · rw[hb,hD] at h3;injection h3 with h3;subst h3
   rcases h4 with⟨_,_,rfl,_⟩ | ⟨_,_,rfl,_⟩ | ⟨_,_,_,rfl,_⟩ <;>simp[Obj.isWalk] at h2
theorem Marks.le {X:Ctx} {μ μ':Mu} {n:Fp} {ds:List Deferred} (h:Marks n μ.w ds) (ho:bc X μ) (le:Le μ μ'):Marks n μ'.w ds:=by
 obtain⟨⟨h0,jC⟩,Ds,h1,h2,h3⟩:=h
 refine⟨⟨Nat.le_trans h0 le.size,fun l hl=>by
  obtain⟨L,k⟩:=jC l hl
  exact⟨L,(le.bZ l (Array.getElem?_eq_some_iff.1 k).1 (dP ho k rfl rfl)).1.trans k⟩⟩,Ds,h1,h2,fun D hD=> ⟨(h3 D hD).1,?_⟩⟩
 have k:=(h3 D hD).2
 rw[(le.bZ D (Array.getElem?_eq_some_iff.1 k).1 (dP ho k rfl rfl)).1]
 exact k
structure iG (X:Ctx) (μ0:Mu) (n:Fp) (σ:St) (a:Go.Act) (w:World):Prop where
 defers:Marks n w a.defers
 size:a.tmps.size=n.1
 rel: ∃φ,Rel X σ.T a ⟨w,φ,σ.O⟩∧Le μ0 ⟨w,φ,σ.O⟩
section
variable {X:Ctx} {E:Env} {C:a9} {μ0:Mu} {n:Fp}
theorem nI {T:Nat→V} {a:Go.Act} {μ μ':Mu} {dst:Option Nat} {v:V} {val:Value} (hr:Rel X T a μ) (le:Le μ μ') (ho:bc X μ') (hv:ak X μ' v val) (hd:dst.all (· <a.tmps.size)=true) (O:Nat→Obj):
   Rel X (St.put ⟨T,O⟩ dst v).T (a.put dst val) μ':=by
 refine⟨fun t=> ?_,ho⟩
 cases dst with
 | none=>exact ak.mono le (hr.tmps t)
 | some d=>
   simp at hd
   simp only[St.put,Go.Act.put,dg]
   split
   · rename_i e
     subst e
     have: (a.tmps.setIfInBounds t val).getD t undef=val:=by simp[hd]
     rw[this];exact hv
   · rename_i cO
     have: (a.tmps.setIfInBounds d val).getD t undef=a.tmps.getD t undef:=by
      simp[Array.getElem?_setIfInBounds_ne (fun e=>cO e.symm)]
     rw[this];exact ak.mono le (hr.tmps t)
theorem kz (a:Go.Act) (dst:Option Nat) (v:Value): (a.put dst v).tmps.size=a.tmps.size:=by cases dst<;>simp[Go.Act.put]
theorem put_defers (a:Go.Act) (dst:Option Nat) (v:Value): (a.put dst v).defers=a.defers:=by cases dst<;>simp[Go.Act.put]
theorem rE {μ:Mu}:ak X μ dC undef:=by simp only[dC,ak];exact⟨#[],rfl,by simp[aj]⟩
theorem oV (    H:mM X E C) {h:Hints} (gv:gh h μ0) {ops:Array Oper} {i:Nat} {o:Oper} {ao:bJ} {σ σ':St} {a:Go.Act} {w:World} {K:Go.Act→World→Prop} {Q:Go.Exit→Go.Act→World→Prop}
   (ho:ops[i]? =some o) (aM:mC X h ops o=some ao) (hn:h.n=n.1) (hs:iG X μ0 n σ a w) (ag:ei E C ao σ=some σ') (hK: ∀a' w',iG X μ0 n σ' a' w'→K a' w'):
   wpOpIn (Fr n.ro) 0 X.P ops Q i K a w:=by
 obtain⟨iO,ck,φ,hr,hle⟩:=hs
 unfold mC at aM
 simp only at aM
 split at aM
 · rename_i g hg aaq
   injection aM with aM
   subst aM
   have hd:o.dst.all (· <a.tmps.size)=true:=by rw[ck,←hn];exact aaq
   simp only[ei] at ag
   split at ag
   · rename_i v σ1 vU
     injection ag with ag
     subst ag
     have runs: (aw E ((vR X h (o.dst.getD 0) o.op).getD .bad)).run C σ=some (v,σ1)→o.wpIn (Fr n.ro) 0 X.P a w K Q:=fun dj=>by
       cases G2:vR X h (o.dst.getD 0) o.op with
       | none=>rw[G2] at dj;exact absurd dj Jn
       | some nT=>
         rw[G2] at dj
         obtain⟨hT,hwp⟩:=H h _ o nT a σ.T ⟨w,φ,σ.O⟩ v σ1 (gv.le hle) hr G2 dj
         refine yk (fun c e=>by rw[e] at G2;simp[vR] at G2) (hwp K Q fun val w' φ' hv le fo=>hK _ _ ⟨by rw[put_defers];exact iO.le hr.aY le,by rw[kz];exact ck,φ',?_,?_⟩)
         · have:=nI hr le fo hv hd σ1.O
           rw[←hT] at this
           have e: (σ1.put o.dst v).O=σ1.O:=by cases o.dst<;>rfl
           rw[e];exact this
         · have e: (σ1.put o.dst v).O=σ1.O:=by cases o.dst<;>rfl
           rw[e];exact hle.trans le
     have KZ:v=dC→σ1=σ→K (a.put o.dst undef) w:=fun hv hσ=>by
       subst hv;subst hσ
       refine hK _ _ ⟨by rw[put_defers];exact iO,by rw[kz];exact ck,φ,?_,?_⟩
       · have:=nI hr (Le.refl _) hr.aY rE hd σ1.O
         have e: (σ1.put o.dst dC).O=σ1.O:=by cases o.dst<;>rfl
         rw[e];exact this
       · have e: (σ1.put o.dst dC).O=σ1.O:=by cases o.dst<;>rfl
         rw[e];exact hle
     simp only[wpOpIn,ho]
     cases BB:o.guard with
     | none=>
       rw[BB] at hg
       injection hg with hg
       subst hg
       rw[if_pos (by simp[Region.wanted,BB])]
       exact runs (by simpa [dm] using vU)
     | some gw=>
       obtain⟨j,want⟩:=gw
       rw[BB] at hg
       simp only at hg
       split at hg
       · rename_i d hdj
         injection hg with hg
         subst hg
         simp only[dm,Act.run] at vU
         have hv:=hr.tmps d
         split at vU
         · rename_i b hb
           rw[hb] at hv
           simp only[ak] at hv
           have bp:d<a.tmps.size:=by
             rcases Nat.lt_or_ge d a.tmps.size with hl| hl
             · exact hl
             · simp[Array.getElem?_eq_none hl,undef] at hv
           have aar:a.tmps[d]? =some (.bool b):=by
             rw[Array.getElem?_eq_getElem bp]
             simp[Array.getElem?_eq_getElem bp] at hv
             rw[hv]
           have hy:yielded ops a.tmps j=some b:=by simp[yielded,hdj,aar]
           split at vU
           · rename_i Nx
             rw[if_pos (by simp[Region.wanted,BB,hy,Nx])]
             exact runs vU
           · rename_i Nx
             rw[if_neg (by simp[Region.wanted,BB,hy,Nx])]
             obtain⟨e1,e2⟩:=aR vU
             exact⟨fun _ _=>trivial,KZ e1.symm e2⟩
         · rename_i hb
           rw[hb] at hv
           simp only[ak] at hv
           obtain⟨vs,vH,hv0⟩:=hv
           have hy:yielded ops a.tmps j=none:=by
             simp only[yielded,hdj,Option.bind_some]
             cases hq:a.tmps[d]? with
             | none=>rfl
             | some x=>
               have:x= .tuple vs:=by simpa [hq] using vH
               rw[this]
           rw[if_neg (by simp[Region.wanted,BB,hy])]
           obtain⟨e1,e2⟩:=aR vU
           exact⟨fun _ _=>trivial,KZ e1.symm e2⟩
         · exact absurd vU av
       · simp at hg
   · simp at ag
 · simp at aM
theorem jQ {h:Hints} {ops:Array Oper}: ∀ {l:List Oper} {as:List bJ},fy X h ops l=some as→as.length=l.length∧ ∀ (i:Nat) o,l[i]? =some o→ ∃ao,as[i]? =some ao∧mC X h ops o=some ao
 | [],as,h'=>by simp[fy] at h';subst h';simp
 | o::l,as,h'=>by
   simp only[fy] at h'
   split at h'
   · rename_i ao YY h1 h2
     injection h' with h';subst h'
     obtain⟨k1,k2⟩:=jQ h2
     refine⟨by simp[k1],fun i o' hi=> ?_⟩
     cases i with
     | zero=>simp at hi;subst hi;exact⟨ao,by simp,h1⟩
     | succ i=>simpa using k2 i o' (by simpa using hi)
   · simp at h'
theorem Ea {ao:bJ} {σ:St} {p:List Nat}:ei E C {ao with pre:=p} σ=ei E C ao σ:=rfl
theorem ee (H:mM X E C) {h:Hints} (gv:gh h μ0) {ops:Array Oper} {as:List bJ} (hn:h.n=n.1) (aM:fy X h ops ops.toList=some as) {Q:Go.Exit→Go.Act→World→Prop}:
   ∀ (m k:Nat),k+m=ops.size→ ∀ {σ σ':St} {a:Go.Act} {w:World},iG X μ0 n σ a w→ik E C ((as.drop k).map fun o=> {o with pre:=[]}) σ=some σ'→
     (∀a' w',iG X μ0 n σ' a' w'→Q .normal a' w')→wpOpsIn (Fr n.ro) 0 X.P ops Q (List.range' k m) a w
 | 0,k,hk,σ,σ',a,w,hs,ag,hQ=>by
   obtain⟨hl,_⟩:=jQ aM
   have:as.drop k=[]:=by simp at hl;simp;omega
   rw[this] at ag
   simp[ik] at ag
   subst ag
   simpa [wpOpsIn] using hQ a w hs
 | m+1,k,hk,σ,σ',a,w,hs,ag,hQ=>by
   obtain⟨hl,rD⟩:=jQ aM
   have Nn:k<ops.size:=by omega
   obtain⟨ao,Eb,kA⟩:=rD k ops[k] (by simp[Nn])
   have hka:k<as.length:=by simp at hl;omega
   have hd:as.drop k=ao::as.drop (k+1):=by
     rw[List.drop_eq_getElem_cons hka]
     rw[List.getElem?_eq_getElem hka] at Eb
     injection Eb with Eb;rw[Eb]
   rw[hd] at ag
   simp only[List.map_cons,ik,Ea] at ag
   split at ag
   · rename_i σ1 h1
     rw[List.range'_succ,wpOpsIn_cons]
     refine oV H gv (o:=ops[k]) (by simp[Nn]) kA hn hs h1 fun a' w' ic=> ?_
     exact ee H gv hn aM m (k+1) (by omega) ic ag hQ
   · simp at ag
end
end Go.AM
namespace Go.AM
open Go Go.RowKit
inductive Cell where
 | v (x:V)
 | o (x:Obj)
def St.at (σ:St):Loc→Cell
 | .t n=> .v (σ.T n)
 | .o n=> .o (σ.O n)
theorem St.ext' {σ τ:St} (h: ∀l,σ.at l=τ.at l):σ=τ:=by
 cases σ;cases τ
 congr
 · funext n;have:=h (.t n);simpa [St.at] using this
 · funext n;have:=h (.o n);simpa [St.at] using this
theorem kB {C:a9}: ∀ (act:Act) {σ τ σ':St} {v:V},act.run C σ=some (v,σ')→(∀l ∈ (act.dB C σ).reads,σ.at l=τ.at l)→
   ∃τ',act.run C τ=some (v,τ')∧act.dB C τ=act.dB C σ∧ ∀l,(l ∈ (act.dB C σ).writes→τ'.at l=σ'.at l)∧(l ∉ (act.dB C σ).writes→τ'.at l=τ.at l∧σ'.at l=σ.at l)
 | .done u,σ,τ,σ',v,h,_=>by
   simp only[Act.run,Option.some.injEq,Prod.mk.injEq] at h
   obtain⟨rfl,rfl⟩:=h
   exact⟨τ,rfl,rfl,fun l=> ⟨fun hl=>by simp[Act.dB] at hl,fun _=> ⟨rfl,rfl⟩⟩⟩
 | .fail,_,_,_,_,h,_=>by simp[Act.run] at h
 | .lQ t k,σ,τ,σ',v,h,hr=>by
   simp only[Act.run] at h
   have e:σ.T t=τ.T t:=by have:=hr (.t t) (by simp[Act.dB]);simpa [St.at] using this
   obtain⟨τ',h1,h2,h3⟩:=kB (k (σ.T t)) h (fun l hl=>hr l (by simp[Act.dB,hl]))
   exact⟨τ',by simp only[Act.run,←e];exact h1,by simp only[Act.dB,←e,h2],by simpa [Act.dB] using h3⟩
 | .bG r k,σ,τ,σ',v,h,hr=>by
   simp only[Act.run] at h
   have e:σ.O r=τ.O r:=by have:=hr (.o r) (by simp[Act.dB]);simpa [St.at] using this
   obtain⟨τ',h1,h2,h3⟩:=kB (k (σ.O r)) h (fun l hl=>hr l (by simp[Act.dB,hl]))
   exact⟨τ',by simp only[Act.run,←e];exact h1,by simp only[Act.dB,←e,h2],by simpa [Act.dB] using h3⟩
 | .bo r o k,σ,τ,σ',v,h,hr=>by
   simp only[Act.run] at h
   obtain⟨τ',h1,h2,h3⟩:=kB k (τ:={τ with O:=dg τ.O r o}) h (fun l hl=>by
     have:=hr l (by simp[Act.dB,hl])
     cases l with
     | t n=>simpa [St.at] using this
     | o n=>
       simp only[St.at,Cell.o.injEq] at this ⊢
       by_cases hn:n=r
       · subst hn;simp[az]
       · simp[aV _ _ hn,this])
   refine⟨τ',by simp only[Act.run];exact h1,by simp only[Act.dB,h2],fun l=> ⟨fun hl=> ?_,fun hl=> ?_⟩⟩
   · simp only[Act.dB,List.mem_cons] at hl
     by_cases hw:l ∈ (k.dB C {σ with O:=dg σ.O r o}).writes
     · exact(h3 l).1 hw
     · obtain⟨e1,e2⟩:=(h3 l).2 hw
       rcases hl with rfl| hl
       · rw[e1,e2];simp[St.at,az]
       · exact absurd hl hw
   · simp only[Act.dB,List.mem_cons,not_or] at hl
     obtain⟨e1,e2⟩:=(h3 l).2 hl.2
     rw[e1,e2]
     cases l with
     | t n=>simp[St.at]
     | o n=>
       have hn:n≠r:=fun e=>hl.1 (by rw[e])
       simp[St.at,aV _ _ hn]
 | .call f as k,σ,τ,σ',v,h,hr=>by
   simp only[Act.run] at h
   split at h
   · rename_i res kL
     obtain⟨τ',h1,h2,h3⟩:=kB (k res) h (fun l hl=>hr l (by simp[Act.dB,kL,hl]))
     exact⟨τ',by simp only[Act.run,kL];exact h1,by simp only[Act.dB,kL,h2],by simpa [Act.dB,kL] using h3⟩
   · simp at h
theorem G3 (σ:St) (dst:Option Nat) (v:V) (l:Loc): (σ.put dst v).at l=if dst.any (fun d=>l= .t d) then .v v else σ.at l:=by
 cases dst with
 | none=>simp[St.put]
 | some d=>
   cases l with
   | t n=>
     simp only[St.put,St.at,dg,Option.any_some,Loc.t.injEq]
     by_cases h:n=d<;>simp[h]
   | o n=>simp[St.put,St.at]
theorem sk {E:Env} {C:a9} {o:bJ} {σ τ σ':St} (h:ei E C o σ=some σ') (hr: ∀l ∈ (cB E C o σ).reads,σ.at l=τ.at l):
   ∃τ',ei E C o τ=some τ'∧ ∀l,(l ∈ (cB E C o σ).writes→τ'.at l=σ'.at l)∧(l ∉ (cB E C o σ).writes→τ'.at l=τ.at l∧σ'.at l=σ.at l):=by
 simp only[ei] at h
 split at h
 · rename_i v σ1 vU
   injection h with h
   subst h
   obtain⟨τ1,h1,h2,h3⟩:=kB (dm E o) vU hr
   refine⟨τ1.put o.dst v,by simp only[ei,h1],fun l=> ?_⟩
   rw[G3,G3]
   have hw: (cB E C o σ).writes=(match o.dst with| some d=> [Loc.t d] | none=> [])++((dm E o).dB C σ).writes:=rfl
   rw[hw]
   cases hd:o.dst with
   | none=>simpa using h3 l
   | some d=>
     by_cases hl:l= .t d
     · subst hl;simp
     · refine⟨fun hm=> ?_,fun hm=> ?_⟩
       · simp[hl] at hm
         simp[hl]
         exact(h3 l).1 hm
       · simp[hl] at hm
         simp[hl]
         exact(h3 l).2 hm
 · simp at h
structure Trace (E:Env) (C:a9) (as:List bJ) (S:Nat→St) (F:Nat→cI) (W:Nat→List Nat):Prop where
 step: ∀ (i:Nat) ao,as[i]? =some ao→ei E C ao (S i)=some (S (i+1))∧F i=cB E C ao (S i)∧W i=ao.pre++ao.pre.flatMap W∧(∀p ∈ ao.pre,p<i)∧
  ∀j,j<i→j ∈ W i∨(F j).lL (F i)=false
theorem z7 {bF:List cI} {wait:List Nat} {f:cI}: ∀ {k:Nat},fits bF wait f k=true→ ∀j,j<k→j ∈ wait∨(bF.getD j ⟨[],[]⟩).lL f=false
 | 0,_,j,hj=>by omega
 | k+1,h,j,hj=>by
   simp only[fits,Bool.and_eq_true,Bool.or_eq_true,Bool.not_eq_true'] at h
   by_cases e:j=k
   · subst e
     rcases h.1 with h1| h1
     · exact .inl (by simpa using h1)
     · exact .inr h1
   · exact z7 h.2 j (by omega)
theorem mN {α β:Type} {f g:α→List β}: ∀ {l:List α},(∀x ∈ l,f x=g x)→l.flatMap f=l.flatMap g
 | [],_=>rfl
 | x::l,h=>by
   simp only[List.flatMap_cons]
   rw[h x (by simp),mN fun y hy=>h y (by simp[hy])]
theorem sm {  E:Env} {C:a9}: ∀ (l:List bJ) (bF:List cI) (before:List (List Nat)) (σ σ':St),bF.length=before.length→du E C l bF before σ=some σ'→
   ∃ (S:Nat→St) (F:Nat→cI) (W:Nat→List Nat),S bF.length=σ∧S (bF.length+l.length)=σ'∧(∀k,k<bF.length→F k=bF.getD k ⟨[],[]⟩∧W k=before.getD k [])∧
     ∀ (i:Nat) ao,l[i]? =some ao→ei E C ao (S (bF.length+i))=some (S (bF.length+i+1))∧F (bF.length+i)=cB E C ao (S (bF.length+i))∧
       W (bF.length+i)=ao.pre++ao.pre.flatMap W∧(∀p ∈ ao.pre,p<bF.length+i)∧ ∀j,j<bF.length+i→j ∈ W (bF.length+i)∨(F j).lL (F (bF.length+i))=false
 | [],bF,before,σ,σ',hl,h=>by
   simp only[du,Option.some.injEq] at h
   subst h
   exact⟨fun _=>σ,fun k=>bF.getD k ⟨[],[]⟩,fun k=>before.getD k [],rfl,rfl,fun k _=> ⟨rfl,rfl⟩,fun i ao hi=>by simp at hi⟩
 | o::l,bF,before,σ,σ',hl,h=>by
   simp only[du] at h
   split at h
   · rename_i hf
     simp only[Bool.and_eq_true,List.all_eq_true,decide_eq_true_eq] at hf
     split at h
     · rename_i σ1 h1
       obtain⟨S,F,W,s1,s2,s3,s4⟩:=sm l (bF++[cB E C o σ]) (before++[closure before o.pre]) σ1 σ' (by simp[hl]) h
       simp only[List.length_append,List.length_singleton] at s1 s2 s3 s4
       let S':Nat→St:=fun k=>if k=bF.length then σ else S k
       have e1:S' (bF.length+1)=σ1:=by simp[S',s1]
       have e2: ∀k,bF.length<k→S' k=S k:=fun k hk=>by simp[S'];intro e;omega
       have Ny:F bF.length=cB E C o σ:=by
         have:=(s3 bF.length (by omega)).1
         simpa using this
       have hWk:W bF.length=closure before o.pre:=by
         have:=(s3 bF.length (by omega)).2
         rw[hl] at this
         simpa [hl] using this
       have XJ: ∀k,k<bF.length→W k=before.getD k []:=fun k hk=>by
         have:=(s3 k (by omega)).2
         rw[this]
         simp[List.getElem?_append_left (show k<before.length by omega)]
       have XK: ∀k,k<bF.length→F k=bF.getD k ⟨[],[]⟩:=fun k hk=>by
         have:=(s3 k (by omega)).1
         rw[this]
         simp[List.getElem?_append_left hk]
       refine⟨S',F,W,by simp[S'],?_,fun k hk=> ⟨XK k hk,XJ k hk⟩,fun i ao hi=> ?_⟩
       · rw[e2 _ (by simp)]
         rw[←s2];congr 1;simp;omega
       · cases i with
         | zero=>
           simp at hi
           subst hi
           simp only[Nat.add_zero]
           have hS:S' bF.length=σ:=by simp[S']
           rw[hS,e1]
           refine⟨h1,Ny,?_,hf.2,fun j hj=> ?_⟩
           · rw[hWk,closure]
             congr 1
             apply mN
             intro p hp
             exact(XJ p (hf.2 p hp)).symm
           · rw[Ny,hWk,XK j hj]
             exact z7 hf.1 j hj
         | succ i=>
           have:=s4 i ao (by simpa using hi)
           have ea:bF.length+1+i=bF.length+(i+1):=by omega
           rw[ea] at this
           rw[e2 _ (by omega),e2 _ (by omega)]
           exact this
     · simp at h
   · simp at h
def lC (S:Nat→St) (F:Nat→cI) (D:Nat→Bool) (l:Loc):Nat→Cell
 | 0=> (S 0).at l
 | i+1=>if D i=true∧l ∈ (F i).writes then(S (i+1)).at l else lC S F D l i
theorem oW {S:Nat→St} {F:Nat→cI} {D D':Nat→Bool} {l:Loc}: ∀ {n:Nat},(∀i,i<n→l ∈ (F i).writes→D i=D' i)→lC S F D l n=lC S F D' l n
 | 0,_=>rfl
 | n+1,h=>by
   simp only[lC]
   rw[oW fun i hi=>h i (by omega)]
   by_cases hl:l ∈ (F n).writes
   · rw[h n (by omega) hl]
   · simp[hl]
theorem nJ {  S:Nat→St} {F:Nat→cI} {D:Nat→Bool} {l:Loc} {m:Nat}: ∀ {n:Nat},m≤n→(∀i,m≤i→i<n→l ∈ (F i).writes→D i=false)→lC S F D l n=lC S F D l m
 | 0,h,_=>by have:m=0:=by omega
             subst this;rfl
 | n+1,h,hh=>by
   by_cases e:m=n+1
   · subst e;rfl
   · simp only[lC]
     rw[if_neg (by rintro⟨h1,h2⟩;have:=hh n (by omega) (by omega) h2;simp[this] at h1)]
     exact nJ (by omega) fun i h1 h2=>hh i h1 (by omega)
theorem uY {E:Env} {C:a9} {as:List bJ} {S:Nat→St} {F:Nat→cI} {W:Nat→List Nat} (tr:Trace E C as S F W) {D:Nat→Bool} {l:Loc}:
   ∀ {n:Nat},n≤as.length→(∀i,i<n→D i=true)→lC S F D l n=(S n).at l
 | 0,_,_=>rfl
 | n+1,hn,hD=>by
   obtain⟨ao,Eb⟩: ∃ao,as[n]? =some ao:=⟨as[n],List.getElem?_eq_getElem (by omega)⟩
   obtain⟨h1,h2,_⟩:=tr.step n ao Eb
   simp only[lC,hD n (by omega),true_and]
   split
   · rfl
   · rename_i hl
     rw[uY tr (by omega) fun i hi=>hD i (by omega)]
     obtain⟨_,_,h3⟩:=sk h1 (τ:=S n) fun _ _=>rfl
     rw[h2] at hl
     exact((h3 l).2 hl).2.symm
theorem uZ {a b:cI} {l:Loc} (h: (l ∈ a.writes∧l ∈ b.writes)∨(l ∈ a.writes∧l ∈ b.reads)∨(l ∈ a.reads∧l ∈ b.writes)):a.lL b=true:=by
 simp only[cI.lL,meets,Bool.or_eq_true,List.any_eq_true,List.contains_iff_mem]
 rcases h with⟨h1,h2⟩ | ⟨h1,h2⟩ | ⟨h1,h2⟩
 · exact .inl (.inl ⟨l,h1,h2⟩)
 · exact .inl (.inr ⟨l,h1,h2⟩)
 · exact .inr ⟨l,h1,h2⟩
structure mO (S:Nat→St) (F:Nat→cI) (W:Nat→List Nat) (m:Nat) (D:Nat→Bool) (τ:St):Prop where
 closed: ∀i,D i=true→ ∀p ∈ W i,D p=true
 state: ∀l,τ.at l=lC S F D l m
theorem vV {E:Env} {C:a9} {as:List bJ} {S:Nat→St} {F:Nat→cI} {W:Nat→List Nat} (tr:Trace E C as S F W) {D:Nat→Bool} {τ:St} (hA:mO S F W as.length D τ)
   {j:Nat} {ao:bJ} (hj:as[j]? =some ao) (hD:D j=false) (vW: ∀p ∈ ao.pre,D p=true):
   ∃τ',ei E C ao τ=some τ'∧mO S F W as.length (fun i=>i==j || D i) τ':=by
 obtain⟨h1,h2,h3,h4,h5⟩:=tr.step j ao hj
 have hjl:j<as.length:=(List.getElem?_eq_some_iff.1 hj).1
 have hW: ∀p ∈ W j,D p=true:=by
   rw[h3]
   intro p hp
   simp only[List.mem_append,List.mem_flatMap] at hp
   rcases hp with hp| ⟨q,hq,hp⟩
   · exact vW p hp
   · exact hA.closed q (vW q hq) p hp
 have key: ∀i,i≠j→i<as.length→(F i).lL (F j)=true∨(F j).lL (F i)=true→(D i=true↔i<j):=by
   intro i cO hi hc
   rcases Nat.lt_or_ge i j with bp| qK
   · refine⟨fun _=>bp,fun _=> ?_⟩
     rcases h5 i bp with h| h
     · exact hW i h
     · rcases hc with hc| hc
       · rw[h] at hc;cases hc
       · exfalso
         have: (F i).lL (F j)=true:=by
          simp only[cI.lL,Bool.or_eq_true,meets,List.any_eq_true,List.contains_iff_mem] at hc ⊢
          rcases hc with(⟨l,a,b⟩ | ⟨l,a,b⟩) | ⟨l,a,b⟩
          · exact .inl (.inl ⟨l,b,a⟩)
          · exact .inr ⟨l,b,a⟩
          · exact .inl (.inr ⟨l,b,a⟩)
         rw[h] at this;cases this
   · have ZA:j<i:=by omega
     refine⟨fun Nz=> ?_,fun h=>by omega⟩
     obtain⟨ao',aas⟩: ∃ao',as[i]? =some ao':=⟨as[i],List.getElem?_eq_getElem hi⟩
     obtain⟨_,_,_,_,g5⟩:=tr.step i ao' aas
     rcases g5 j ZA with h| h
     · have:=hA.closed i Nz j h
       rw[hD] at this;cases this
     · exfalso
       rcases hc with hc| hc
       · have: (F j).lL (F i)=true:=by
          simp only[cI.lL,Bool.or_eq_true,meets,List.any_eq_true,List.contains_iff_mem] at hc ⊢
          rcases hc with(⟨l,a,b⟩ | ⟨l,a,b⟩) | ⟨l,a,b⟩
          · exact .inl (.inl ⟨l,b,a⟩)
          · exact .inr ⟨l,b,a⟩
          · exact .inl (.inr ⟨l,b,a⟩)
         rw[h] at this;cases this
       · rw[h] at hc;cases hc
 have pV: ∀l ∈ (F j).reads,(S j).at l=τ.at l:=by
   intro l hl
   rw[hA.state l]
   have e1:lC S F D l as.length=lC S F D l j:=nJ (by omega) fun i sP By hw=>by
     by_cases e:i=j
     · subst e;exact hD
     · have:=key i e By (.inl (uZ (.inr (.inl ⟨hw,hl⟩))))
       cases Nz:D i with
       | false=>rfl
       | true=>have:=this.1 Nz;omega
   have e2:lC S F D l j=lC S F (fun i=>decide (i<j)) l j:=oW fun i hi hw=>by
     have:=(key i (by omega) (by omega) (.inl (uZ (.inr (.inl ⟨hw,hl⟩))))).2 hi
     simp[this,hi]
   rw[e1,e2]
   exact(uY tr (by omega) fun i hi=>by simp[hi]).symm
 rw[h2] at pV
 obtain⟨τ',k1,k2⟩:=sk h1 pV
 rw[←h2] at k2
 refine⟨τ',k1,fun i hi p hp=> ?_,fun l=> ?_⟩
 · simp only[Bool.or_eq_true,beq_iff_eq] at hi ⊢
   rcases hi with rfl| hi
   · exact .inr (hW p hp)
   · exact .inr (hA.closed i hi p hp)
 · by_cases hl:l ∈ (F j).writes
   · rw[(k2 l).1 hl]
     have e1:lC S F (fun i=>i==j || D i) l as.length=lC S F (fun i=>i==j || D i) l (j+1):=nJ (by omega) fun i sP By hw=>by
       have cO:i≠j:=by omega
       have:=key i cO By (.inl (uZ (.inl ⟨hw,hl⟩)))
       cases Nz:D i with
       | false=>simp[cO,Nz]
       | true=>have:=this.1 Nz;omega
     rw[e1]
     simp[lC,hl]
   · rw[((k2 l).2 hl).1,hA.state l]
     exact oW fun i _ hw=>by
       by_cases e:i=j
       · subst e;exact absurd hw hl
       · simp[e]
theorem yl {E:Env} {C:a9} {as:List bJ} {S:Nat→St} {F:Nat→cI} {W:Nat→List Nat} (tr:Trace E C as S F W) {D:Nat→Bool} {τ:St} (hA:mO S F W as.length D τ)
  (mm: ∀i,i<as.length→D i=true):τ=S as.length:=
 St.ext' fun l=>by rw[hA.state l,uY tr (Nat.le_refl _) mm]
section
variable {X:Ctx} {E:Env} {C:a9} {μ0:Mu} {n:Fp}
theorem G4 {σ:St} {a:Go.Act} {w:World} (h:iG X μ0 n σ a w):iG X μ0 n σ a {w with drawn:=w.drawn+1}:=by
 obtain⟨h1,h2,φ,hr,hle⟩:=h
 obtain⟨XD,hod⟩:=Le.drew (X:=X) (μ:=⟨w,φ,σ.O⟩) hr.aY
 exact⟨h1,h2,φ,⟨fun t=>ak.mono XD (hr.tmps t),hod⟩,hle.trans XD⟩
theorem Ec ( H:mM X E C) {h:Hints} (gv:gh h μ0) {ops:Array Oper} {as:List bJ} (hn:h.n=n.1) (aM:fy X h ops ops.toList=some as) {S:Nat→St} {F:Nat→cI} {W:Nat→List Nat}
   (tr:Trace E C as S F W) {Q:Go.Exit→Go.Act→World→Prop} (hQ: ∀a w,iG X μ0 n (S as.length) a w→Q .normal a w):
   ∀ (fuel:Nat) (bN:Array Bool) (τ:St) (a:Go.Act) (w:World),bN.size=ops.size→((List.range ops.size).filter fun i=> !bN.getD i true).length≤fuel→
     mO S F W as.length (fun i=>bN.getD i false) τ→iG X μ0 n τ a w→wpAnyIn (Fr n.ro) 0 X.P .any ops Q fuel bN a w:=by
 obtain⟨hlen,rD⟩:=jQ aM
 have wO:as.length=ops.size:=by simpa using hlen
 have ready: ∀ (bN:Array Bool) (j:Nat),j ∈ Region.ready .any ops bN→ ∃o ao,ops[j]? =some o∧as[j]? =some ao∧mC X h ops o=some ao∧bN.getD j true=false∧ ∀p ∈ ao.pre,bN.getD p false=true:=by
   intro bN j hj
   simp only[Region.ready,List.mem_filter,List.mem_range,Bool.and_eq_true,Bool.not_eq_true'] at hj
   obtain⟨bp,hl,hr⟩:=hj
   have ho:ops[j]? =some ops[j]:=by simp[bp]
   obtain⟨ao,Eb,kA⟩:=rD j ops[j] (by simp[bp])
   refine⟨_,ao,ho,Eb,kA,hl,fun p hp=> ?_⟩
   rw[ho] at hr
   simp only[Option.map_some,Option.getD_some] at hr
   have vW:ao.pre=(ops[j].after.toList.filter (Region.binds .any)).map (·.on):=by
     unfold mC at kA
     simp only at kA
     split at kA
     · injection kA with kA;rw[←kA]
     · simp at kA
   rw[vW] at hp
   simp only[List.mem_map,List.mem_filter] at hp
   obtain⟨e,⟨Y4,he2⟩,rfl⟩:=hp
   rw[Array.all_eq_true'] at hr
   have:=hr e (by simpa using Y4)
   simpa [he2] using this
 have done: ∀ (bN:Array Bool),Region.ready .any ops bN=[]→bN.size=ops.size→ ∀i,i<as.length→bN.getD i false=true:=by
   intro bN Ed ck i
   induction i using Nat.strongRecOn with
   | _ i ih=>
     intro hi
     cases hl:bN.getD i false with
     | true=>rfl
     | false=>
       exfalso
       have bp:i<ops.size:=by omega
       have kl:i<bN.size:=by omega
       have hlT:bN.getD i true=false:=by simpa [kl] using hl
       obtain⟨ao,Eb,kA⟩:=rD i ops[i] (by simp[bp])
       obtain⟨_,_,_,EU,_⟩:=tr.step i ao Eb
       have vW:ao.pre=(ops[i].after.toList.filter (Region.binds .any)).map (·.on):=by
         unfold mC at kA
         simp only at kA
         split at kA
         · injection kA with kA;rw[←kA]
         · simp at kA
       have:i ∈ Region.ready .any ops bN:=by
         simp only[Region.ready,List.mem_filter,List.mem_range,Bool.and_eq_true,Bool.not_eq_true']
         refine⟨bp,hlT,?_⟩
         have ho:ops[i]? =some ops[i]:=by simp[bp]
         rw[ho]
         simp only[Option.map_some,Option.getD_some]
         rw[Array.all_eq_true']
         intro e he
         cases hb:Region.binds .any e with
         | false=>simp
         | true=>
           have hm:e.on ∈ ao.pre:=by
            rw[vW];simp only[List.mem_map,List.mem_filter]
            exact⟨e,⟨by simpa using he,hb⟩,rfl⟩
           have h1:=EU _ hm
           simpa using ih e.on h1 (by omega)
       rw[Ed] at this
       cases this
 have finish: ∀ (bN:Array Bool) (τ:St) (a:Go.Act) (w:World),bN.size=ops.size→mO S F W as.length (fun i=>bN.getD i false) τ→iG X μ0 n τ a w→Region.ready .any ops bN=[]→Q .normal a w:=by
   intro bN τ a w ck hA hs Ed
   have:=yl tr hA (done bN Ed ck)
   exact hQ a w (this ▸ hs)
 intro fuel
 induction fuel with
 | zero=>
   intro bN τ a w ck hf hA hs
   have Ed:Region.ready .any ops bN=[]:=by
     simp only[Nat.le_zero,List.length_eq_zero_iff,List.filter_eq_nil_iff,List.mem_range] at hf
     simp only[Region.ready,List.filter_eq_nil_iff,List.mem_range]
     intro i hi
     have:=hf i hi
     simp at this
     simp[this]
   exact⟨Ed,finish bN τ a w ck hA hs Ed⟩
 | succ fuel ih=>
   intro bN τ a w ck hf hA hs
   refine⟨finish bN τ a w ck hA hs,fun j hj=> ?_⟩
   obtain⟨o,ao,ho,Eb,kA,hl,vW⟩:=ready bN j hj
   have hjl:j<ops.size:=by rw[←wO];exact(List.getElem?_eq_some_iff.1 Eb).1
   have hlF:bN.getD j false=false:=by
     have h1:j<bN.size:=by omega
     simpa [h1] using hl
   obtain⟨τ',k1,k2⟩:=vV tr hA Eb hlF vW
   refine oV H gv ho kA hn hs k1 fun a' w' ic=>ih _ τ' a' w' (by simpa using ck) ?_ ?_ ic
   ·
     have Gu: ∀ (L:List Nat),L.Nodup→j ∈ L→(L.filter fun i=> !(bN.setIfInBounds j true).getD i true).length+1≤(L.filter fun i=> !bN.getD i true).length:=by
       intro L
       induction L with
       | nil=>intro _ h;cases h
       | cons x L ihL=>
         intro Ik hm
         have cO: ∀i,i≠j→(bN.setIfInBounds j true).getD i true=bN.getD i true:=fun i hi=>by
           simp[Array.getElem?_setIfInBounds_ne (fun e=>hi e.symm)]
         have hjt: (bN.setIfInBounds j true).getD j true=true:=by
           have h1:j<bN.size:=by omega
           simp[h1]
         by_cases e:x=j
         · subst e
           have eK: (L.filter fun i=> !(bN.setIfInBounds x true).getD i true)=L.filter fun i=> !bN.getD i true:=by
            apply List.filter_congr
            intro i hi
            have:i≠x:=fun e=>by rw[List.nodup_cons] at Ik;exact Ik.1 (e ▸ hi)
            rw[cO i this]
           simp only[List.filter_cons,hjt,hl,eK]
           simp
         · have BN:j ∈ L:=by
            rcases List.mem_cons.1 hm with h1| h1
            · exact absurd h1.symm e
            · exact h1
           have:=ihL (List.nodup_cons.1 Ik).2 BN
           simp only[List.filter_cons,cO x e]
           split
           · simp only[List.length_cons];omega
           · omega
     have:=Gu (List.range ops.size) List.nodup_range (by simp[hjl])
     omega
   · have aat: (fun i=>i==j || bN.getD i false)=fun i=> (bN.setIfInBounds j true).getD i false:=by
       funext i
       have h1:j<bN.size:=by omega
       by_cases e:i=j
       · subst e;simp[h1]
       · simp[e,Array.getElem?_setIfInBounds_ne (fun e'=>e e'.symm)]
     rw[aat] at k2
     exact k2
theorem z8 (H:mM X E C) {h:Hints} (gv:gh h μ0) (hm:X.P.follows .mixedOrders=true) {ops:Array Oper} {as:List bJ} (hn:h.n=n.1) (aM:fy X h ops ops.toList=some as) {id:Nat}
   {σ σ':St} {a:Go.Act} {w:World} (hs:iG X μ0 n σ a w) (ag:du E C as [] [] σ=some σ') {Q:Go.Exit→Go.Act→World→Prop} (hQ: ∀a' w',iG X μ0 n σ' a' w'→Q .normal a' w'):
   (Code.region id ops true).wpIn (Fr n.ro) 0 X.P Q a w:=by
 obtain⟨S,F,W,s1,s2,_,s4⟩:=sm as [] [] σ σ' rfl ag
 simp only[List.length_nil,Nat.zero_add] at s1 s2 s4
 have tr:Trace E C as S F W:=⟨fun i ao hi=>s4 i ao hi⟩
 refine wpIn_region_any hm ?_
 refine Ec H gv hn aM tr (by rw[s2];exact hQ) ops.size _ σ _ _ (by simp) ?_ ?_ (G4 hs)
 · exact Nat.le_trans (List.length_filter_le _ _) (by simp)
 · have G5: ∀i,(Array.replicate ops.size false).getD i false=false:=fun i=>by
    simp only[Array.getD_eq_getD_getElem?,Array.getElem?_replicate];split<;>rfl
   refine⟨(fun i hi=>by rw[G5 i] at hi;cases hi),fun l=> ?_⟩
   rw[←s1]
   have:lC S F (fun i=> (Array.replicate ops.size false).getD i false) l as.length=lC S F (fun i=> (Array.replicate ops.size false).getD i false) l 0:=nJ (Nat.zero_le _) fun i _ _ _=>G5 i
   rw[this];rfl
end
end Go.AM
namespace Go.AM
open Go Go.RowKit
theorem G6 {P:Program} {w:World} {ty:TypeId} {bi bm since:Nat} {seen:Array Nat} {es:Array MapEntry} (hi:w.heap[bi]? =some (.mapIter (some bm) since seen since)) (hb:w.heap[bm]? =some (.map es since)) (hold: ∀x ∈ es.toList,x.born<since):
   ((leftOf es seen).size=0∧(Instr.next (.pointer (some ⟨bi,0,none⟩)) false ty).run P w= .ok (.tuple #[.bool false]) w)∨
   ∃e ∈ (leftOf es seen).toList,∃d,(Instr.next (.pointer (some ⟨bi,0,none⟩)) false ty).run P w= .ok (.tuple #[.bool true,e.key,e.val]) {w with drawn:=w.drawn+d,heap:=w.heap.setIfInBounds bi (.mapIter (some bm) since (seen.push e.born) since)}:=by
 simp only[Instr.next,getObj,Sem.run_bind,Sem.run,hi,hb,Result.andThen,next_test_false seen es since since hold (Nat.le_refl _),Bool.false_eq_true,if_false]
 unfold leftOf
 have jm: ∀x ∈ (Array.filter (fun e=> !seen.contains e.born) es).toList,x.born<since:=fun x hx=>hold x (by simp at hx ⊢;exact hx.1)
 generalize Array.filter (fun e=> !seen.contains e.born) es=L at jm ⊢
 have e1:L.filter (fun x=>decide (x.born<since))=L:=Array.filter_eq_self.2 (fun x hx=>by simpa using jm x (by simpa using hx))
 have e2:L.filter (fun x=>decide (x.born≥since))= #[]:=by
   rw[Array.filter_eq_empty_iff]
   intro x hx
   have:=jm x (by simpa using hx)
   simp
   omega
 simp only[e1,e2,Array.append_empty]
 by_cases h0:L.size=0
 · left
   have:L= #[]:=Array.eq_empty_of_size_eq_zero h0
   subst this
   refine⟨rfl,?_⟩
   simp[choose,Sem.run,Question.forced]
 · right
   have cO:L.isEmpty=false:=by simp[Array.isEmpty,h0]
   simp only[cO,Bool.false_eq_true,if_false,Array.empty_append,Array.size_map]
   have hch: ∃ (j d:Nat),j<L.size∧(choose (Question.mapNext L.size)).run P w= .ok j {w with drawn:=w.drawn+d}:=by
    by_cases hf:L.size≤1
    · exact⟨0,0,by omega,by simp[choose,Sem.run,Question.forced,hf]⟩
    · exact⟨w.tape w.drawn (Question.mapNext L.size) % L.size,1,Nat.mod_lt _ (by omega),by
       simp only[choose,Sem.run,Question.forced,decide_eq_true_eq,hf,if_false,Question.cut]⟩
   obtain⟨j,d,hj,ag⟩:=hch
   refine⟨L[j],by simp,d,?_⟩
   have nR: ∀ (o':Go.Obj),(setObj bi o').run P {w with drawn:=w.drawn+d}= .ok () {w with drawn:=w.drawn+d,heap:=w.heap.setIfInBounds bi o'}:=fun o'=>by
    simp only[setObj,Sem.run,hi]
   simp only[ag,Array.getElem?_map,Array.getElem?_eq_getElem hj,Option.map_some,Sem.run_bind,nR,Result.andThen]
   rfl
theorem G7 {P:Program} {w:World} {ty:TypeId} {bi a b:Nat} {s:Array Nat} (hi:w.heap[bi]? =some (.mapIter none a s b)):
  (Instr.next (.pointer (some ⟨bi,0,none⟩)) false ty).run P w= .ok (.tuple #[.bool false]) w:=by
 simp only[Instr.next,getObj,Sem.run_bind,Sem.run,hi,Result.andThen]
 rfl
structure iz (X:Ctx) (μ:Mu) (w':World):Prop where
 cell: ∀a c,μ.w.cell? a=some c→w'.cell? a=some c
 map: ∀ (a:Nat) ents clock,μ.w.heap[a]? =some (.map ents clock)→w'.heap[a]? =some (.map ents clock)
 size:μ.w.heap.size≤w'.heap.size
section
variable {X:Ctx} {μ:Mu} {w':World}
theorem iz.row (h:iz X μ w') {b off sz:Nat} {vs:List Value} (hr:dA μ.w b off sz vs):dA w' b off sz vs:=
 fun i v hv=> ⟨(hr i v hv).1,fun j c hc=>h.cell _ _ ((hr i v hv).2 j c hc)⟩
mutual
theorem ak.cg (h:iz X μ w'): ∀ {x:V} {v:Value},ak X μ x v→ak X ⟨w',μ.φ,μ.O⟩ x v
 | .bool _,_,k| .int ..,_,k| .float _,_,k| .str _,_,k| .nilp,_,k| .nilfn,_,k| .nili,_,k| .nils,_,k| .sl ..,_,k| .ptr ..,_,k| .mp ..,_,k| .it ..,_,k=>by simpa [ak] using k
 | .any,_,_=>by simp[ak]
 | .own ..,_,k| .msl ..,_,k| .mptr ..,_,k=>by simp[ak] at k
 | .agg cs,_,k=>by
   simp only[ak] at k ⊢
   obtain⟨h1,vs,rfl,h2⟩:=k
   exact⟨h1,vs,rfl,aj.cg h h2⟩
 | .tuple cs,_,k=>by
   simp only[ak] at k ⊢
   obtain⟨vs,rfl,h2⟩:=k
   exact⟨vs,rfl,aj.cg h h2⟩
 | .bfn f cs,_,k=>by
   simp only[ak] at k ⊢
   obtain⟨F,cv,rfl,h1,h2⟩:=k
   exact⟨F,cv,rfl,h1,aj.cg h h2⟩
 | .fn f cs,_,k=>by
   simp only[ak] at k ⊢
   obtain⟨F,cv,rfl,h1,h2⟩:=k
   exact⟨F,cv,rfl,h1,aj.cg h h2⟩
 | .iface t x,_,k=>by
   simp only[ak] at k ⊢
   obtain⟨F,y,rfl,h1,h2⟩:=k
   exact⟨F,y,rfl,h1,ak.cg h h2⟩
 | .lit sz xs,_,k=>by
   simp only[ak] at k ⊢
   obtain⟨h0,jC,a,cap,vs,rfl,h1,h2,h3⟩:=k
   refine⟨h0,jC,a,cap,vs,rfl,h1,aj.cg h h2,h3.imp id ?_⟩
   rintro⟨b,o,rfl,hb,hs,hr⟩
   exact⟨b,o,rfl,hb,Nat.lt_of_lt_of_le hs h.size,h.row hr⟩
 | .litk sz xs,_,k=>by
   simp only[ak] at k ⊢
   obtain⟨h0,jC,a,cap,vs,rfl,h1,h2,h3⟩:=k
   refine⟨h0,jC,a,cap,vs,rfl,h1,aj.cg h h2,h3.imp id ?_⟩
   rintro⟨rfl,hb,hs,hr⟩
   exact⟨rfl,hb,Nat.lt_of_lt_of_le hs h.size,h.row hr⟩
 | .eptr e off,_,k=>by
   simp only[ak] at k ⊢
   obtain⟨h0,jC,b,o,sz,x,rfl,hb,hs,h1,hr⟩:=k
   exact⟨h0,jC,b,o,sz,x,rfl,hb,Nat.lt_of_lt_of_le hs h.size,ak.cg h h1,h.row hr⟩
 | .epk i sz e off,_,k=>by
   simp only[ak] at k ⊢
   obtain⟨h0,jC,x,rfl,hb,hs,h1,hr⟩:=k
   exact⟨h0,jC,x,rfl,hb,Nat.lt_of_lt_of_le hs h.size,ak.cg h h1,h.row hr⟩
 | .mlit es,_,k=>by
   simp only[ak] at k ⊢
   obtain⟨h0,k⟩:=k
   refine⟨h0,k.imp id ?_⟩
   rintro⟨a,ents,clock,rfl,hb,hs,h1,h2⟩
   exact⟨a,ents,clock,rfl,hb,Nat.lt_of_lt_of_le hs h.size,⟨h.map _ _ _ h1.1,h1.2⟩,aj.cg h h2⟩
theorem aj.cg (h:iz X μ w'): ∀ {xs:List V} {vs:List Value},aj X μ xs vs→aj X ⟨w',μ.φ,μ.O⟩ xs vs
 | [],[],_=>by simp[aj]
 | [],_::_,k=>by simp[aj] at k
 | _::_,[],k=>by simp[aj] at k
 | x::xs,v::vs,k=>by
   simp only[aj] at k ⊢
   exact⟨ak.cg h k.1,aj.cg h k.2⟩
end
theorem bc.cg (h:iz X μ w') (ho:bc X μ) (hb: ∀r,(μ.O r).es.isSome=true→(μ.φ r).cap≠0→w'.heap[(μ.φ r).cK]? =μ.w.heap[(μ.φ r).cK]?):bc X ⟨w',μ.φ,μ.O⟩ where
 ok:=fun r es bl=>by
  have MC: (μ.O r).es.isSome=true:=by rw[bl];rfl
  rcases ho.ok r es bl with⟨h1,h2,h3,h4⟩ | ⟨h1,h2,ob,h3,h4⟩
  · refine .inl ⟨h1,h2,h3,?_⟩
    rcases h4 with h4| ⟨c,T,vs,k1,k2,k3,k4⟩
    · exact .inl h4
    · by_cases hc: (μ.φ r).cap=0
      · exact .inl hc
      · exact .inr ⟨c,T,vs,by show w'.heap[(μ.φ r).cK]? =_;rw[hb r MC hc];exact k1,k2,aj.cg h k3,h.row k4⟩
  · refine .inr ⟨h1,h2,ob,by show w'.heap[(μ.φ r).cK]? =_;rw[hb r MC h2];exact h3,?_⟩
    rcases h4 with⟨ents,clock,k1,k2,k3⟩ | k| ⟨mo,since,nA,k1,k2,k3⟩
    · exact .inl ⟨ents,clock,k1,aj.cg h k2,k3⟩
    · exact .inr (.inl k)
    · refine .inr (.inr ⟨mo,since,nA,k1,k2,k3.imp id ?_⟩)
      rintro⟨m,ents,l1,l2,l3,l4,l5,l6⟩
      exact⟨m,ents,l1,l2,Nat.lt_of_lt_of_le l3 h.size,h.map _ _ _ l4,l5,aj.cg h l6⟩
 inj:=ho.inj
 qJ:=ho.qJ
 blt:=fun b ru=>Nat.lt_of_lt_of_le (ho.blt b ru) h.size
end
theorem wT {X:Ctx} {w:World} {φ:Nat→Row} {O O':Nat→Obj} (ho:bc X ⟨w,φ,O⟩) (h: ∀r,O' r=O r∨(O' r).es=none∧((O r).gen< (O' r).gen∨(O' r).gen=(O r).gen∧(O' r).sz=(O r).sz)):
   Le ⟨w,φ,O⟩ ⟨w,φ,O'⟩∧bc X ⟨w,φ,O'⟩:=by
 have K0: ∀r es,(O' r).es=some es→O' r=O r:=fun r es bl=>by
   rcases h r with h| ⟨h,_⟩
   · exact h
   · rw[h] at bl;simp at bl
 have MC: ∀r,(O' r).es.isSome=true→O' r=O r:=fun r hr=>by
   obtain⟨es,bl⟩:=Option.isSome_iff_exists.1 hr
   exact K0 r es bl
 have fF: ∀b,(Mu.mk w φ O').own b→(Mu.mk w φ O).own b:=by
   rintro b ⟨r,h1,h2,h3,h4⟩
   have e:=MC r h1
   have yR: (O' r).es.isSome=true:=h1
   have GD: (O' r).fz=false:=h2
   rw[e] at yR GD
   exact⟨r,yR,GD,h3,h4⟩
 have le:Le ⟨w,φ,O⟩ ⟨w,φ,O'⟩:=by
   refine⟨Nat.le_refl _,fun b _ hn=> ⟨rfl,fun h'=>hn (fF b h')⟩,fun r=> ?_,fun r e=> ?_,rfl,rfl,rfl,fun _ _=>rfl⟩
   · show (O r).gen≤(O' r).gen
     rcases h r with h| ⟨_,h| ⟨h,_⟩⟩
     · rw[h];exact Nat.le_refl _
     · omega
     · omega
   · have e': (O' r).gen=(O r).gen:=e
     refine⟨rfl,?_⟩
     show (O' r).sz=(O r).sz
     rcases h r with h| ⟨_,h| ⟨_,h⟩⟩
     · rw[h]
     · omega
     · exact h
 refine⟨le,fun r es bl=> ?_,fun r r' cO h1 h2 h3 h4=> ?_,fun r h1 h2=> ?_,ho.blt⟩
 · have e:=K0 r es bl
   have eS: (O r).es=some es:=by rw[←e];exact bl
   exact eJ.bZ (r:=r) (r':=r) le (ho.ok r es eS) (by show (O' r).sz=(O r).sz;rw[e]) rfl fun _=>rfl
 · have yR: (O' r).es.isSome=true:=h1
   have GD: (O' r').es.isSome=true:=h2
   rw[MC r yR] at yR
   rw[MC r' GD] at GD
   exact ho.inj r r' cO yR GD h3 h4
 · have yR: (O' r).es.isSome=true:=h1
   rw[MC r yR] at yR
   exact ho.qJ r yR h2
def gz (Z:List (V×MapEntry)) (seen:Array Nat):List (V×MapEntry):=Z.filter fun z=> !seen.contains z.2.born
theorem wU {Z:List (V×MapEntry)} {ents:Array MapEntry} (h:Z.map (·.2)=ents.toList) (seen:Array Nat): (gz Z seen).map (·.2)=(leftOf ents seen).toList:=by
 unfold gz leftOf
 rw[Array.toList_filter,←h,List.filter_map]
 rfl
theorem sn {α:Type} (f:α→Nat): ∀ {l:List α} {z:α},z ∈ l→(l.map f).Nodup→l.Perm (z::l.filter fun x=> !(f x==f z))
 | a::l,z,hz,hn=>by
   rw[List.map_cons,List.nodup_cons] at hn
   rcases List.mem_cons.1 hz with rfl| hz
   · have:l.filter (fun x=> !(f x==f z))=l:=List.filter_eq_self.2 fun x hx=>by
      have:f x≠f z:=fun e=>hn.1 (e ▸ List.mem_map.2 ⟨x,hx,rfl⟩)
      simpa using this
     simp[this]
   · have cO: ¬ (f a=f z):=fun e=>hn.1 (e ▸ List.mem_map.2 ⟨z,hz,rfl⟩)
     have ih:=sn f hz hn.2
     have: (a::l).filter (fun x=> !(f x==f z))=a::l.filter (fun x=> !(f x==f z)):=by
      rw[List.filter_cons_of_pos (by simpa using cO)]
     rw[this]
     exact(ih.cons a).trans (.swap z a _)
theorem BO {Z:List (V×MapEntry)} {seen:Array Nat} (hn: (Z.map fun z=>z.2.born).Nodup) {z:V×MapEntry} (hz:z ∈ gz Z seen): (gz Z seen).Perm (z::gz Z (seen.push z.2.born)):=by
 have h1: ((gz Z seen).map fun z=>z.2.born).Nodup:=hn.sublist (List.filter_sublist.map _)
 have h2:=sn (fun z:V×MapEntry=>z.2.born) hz h1
 have h3: (gz Z seen).filter (fun x=> !(x.2.born==z.2.born))=gz Z (seen.push z.2.born):=by
  unfold gz
  rw[List.filter_filter]
  refine List.filter_congr fun x _=> ?_
  rw[contains_push]
  cases seen.contains x.2.born<;>cases (x.2.born==z.2.born) <;>rfl
 rw[h3] at h2
 exact h2
theorem z9 {X:Ctx} {μ:Mu}: ∀ {es:List V} {l:List MapEntry},aj X μ es (l.map fun e=>Value.tuple #[e.key,e.val])→ ∃Z:List (V×MapEntry),Z.map (·.1)=es∧Z.map (·.2)=l∧ ∀z ∈ Z,ak X μ z.1 (.tuple #[z.2.key,z.2.val])
 | [],[],_=> ⟨[],rfl,rfl,by simp⟩
 | [],_::_,h=>by simp[aj] at h
 | _::_,[],h=>by simp[aj] at h
 | x::es,e::l,h=>by
   simp only[List.map_cons,aj] at h
   obtain⟨Z,h1,h2,h3⟩:=z9 h.2
   refine⟨(x,e)::Z,by simp[h1],by simp[h2],fun z hz=> ?_⟩
   rcases List.mem_cons.1 hz with rfl| hz
   · exact h.1
   · exact h3 z hz
section
variable {X:Ctx} {E:Env} {n:Fp}
def ym (X:Ctx) (n:Fp) (ops:Array Oper) (y:Code) (rec:aW→St→Option (aX×St)) (tb:aW):Prop:=
 ∀ (σ σ':St) (e:aX) (μ0:Mu) (a:Go.Act) (w:World) (Q K:Go.Exit→Go.Act→World→Prop),rec tb σ=some (e,σ')→iG X μ0 n σ a w→(∀a' w',iG X μ0 n σ' a' w'→Q (match e with| .normal=> .normal| .exit id=> .exit id| .ret=> .ret) a' w')→
  (∀a' w',y.wpIn (Fr n.ro) 0 X.P Q a' w'→K .normal a' w')→wpOpsIn (Fr n.ro) 0 X.P ops K (List.range' 1 (ops.size - 1)) a w
def BP (X:Ctx) (n:Fp) (ops:Array Oper) (z:Code) (b1:Nat) (rec:aW→St→Option (aX×St)) (tm:aW):Prop:=
 ∀ (σ σ':St) (μ0:Mu) (a:Go.Act) (w:World) (Q:Go.Exit→Go.Act→World→Prop),rec tm σ=some (.normal,σ')→iG X μ0 n σ a w→(∀a' w',iG X μ0 n σ' a' w'→Q .normal a' w')→
  wpOpsIn (Fr n.ro) 0 X.P ops (Exit.then (z.wpIn (Fr n.ro) 0 X.P (Exit.inBlock b1 Q)) (Exit.inBlock b1 Q)) (List.range' 1 (ops.size - 1)) a w
abbrev mP (i0:Nat) (ops:Array Oper) (y:Code) (b1 i5:Nat) (gg:Array Oper) (z5:Code):Code:= .seq (.region i0 ops false) (.seq y (.block b1 (.seq (.region i5 gg false) z5)))
theorem Ee {P:Program} {w:World} {bi bm since:Nat} {seen:Array Nat} {ents:Array MapEntry} {e:MapEntry} (hi:w.heap[bi]? =some (.mapIter (some bm) since (seen.push e.born) since)) (hb:w.heap[bm]? =some (.map ents since)) (he:e ∈ ents.toList) (hn: (ents.toList.map (·.born)).Nodup):
  (Instr.entry (.pointer (some ⟨bi,0,none⟩))).run P w= .ok (.tuple #[e.key,e.val]) w:=by
 have hf:ents.find? (·.born==e.born)=some e:=by
  rw[←Array.find?_toList]
  generalize ents.toList=l at he hn
  induction l with
  | nil=>simp at he
  | cons x l ih=>
    rw[List.map_cons,List.nodup_cons] at hn
    rw[List.find?_cons]
    rcases List.mem_cons.1 he with rfl| he
    · simp
    · have cO: ¬ (x.born==e.born)=true:=by
       intro h
       exact hn.1 (List.mem_map.2 ⟨e,he,(by simpa using h:x.born=e.born).symm⟩)
      simp only[cO]
      exact ih he hn.2
 simp only[Instr.entry,getObj,Sem.run_bind,Sem.run,hi,hb,Result.andThen,Array.back?_push,bne_self_eq_false,Bool.false_eq_true,if_false,hf]
 rfl
structure yn (X:Ctx) (n:Fp) (μ0:Mu) (rec:aW→St→Option (aX×St)) (tl:aW) (Good:St→Prop) (a:Go.Act) (w:World):Prop where
 h: ∃σe σp,iG X μ0 n σe a w∧rec tl σe=some (.normal,σp)∧Good σp
variable {ops gg:Array Oper} {o1 o5:Oper} {y z5:Code} {it nx ne id b1 r g:Nat} {μ0:Mu} {rec:aW→St→Option (aX×St)} {tb tm tl:aW} {Good:St→Prop} {i0 i5:Nat}
theorem u4 (h0:ops[0]? =some o1) (hd: ∀c,o1.op≠ .defer c) (hg:o1.guard=none) {a:Go.Act} {w w1:World} {v:Value} (iF: (execOp a.eval o1).run X.P w= .ok (.value v) w1) {Q:Go.Exit→Go.Act→World→Prop}
  (h:wpOpsIn (Fr n.ro) 0 X.P ops Q (List.range' 1 (ops.size - 1)) (a.put o1.dst v) w1): (Code.region i0 ops false).wpIn (Fr n.ro) 0 X.P Q a w:=by
 refine wpIn_region ?_
 have ck:0 <ops.size:=(Array.getElem?_eq_some_iff.1 h0).1
 have hr:List.range ops.size=0::List.range' 1 (ops.size - 1):=by
  rw[List.range_eq_range']
  obtain⟨k,hk⟩: ∃k,ops.size=k+1:=⟨ops.size - 1,by omega⟩
  rw[hk,List.range'_succ]
  rfl
 rw[hr,wpOpsIn_cons]
 simp only[wpOpIn,h0]
 rw[if_pos (by simp[Region.wanted,hg])]
 refine yk hd ?_
 unfold Oper.wp
 rw[iF,Oper.upon_value]
 exact h
theorem wV (dj:o1.op= .next (.tmp it) false) {a:Go.Act} {w w1:World} {v:Value} (ag: (Instr.next (a.eval (.tmp it)) false o1.type).run X.P w= .ok v w1): (execOp a.eval o1).run X.P w= .ok (.value v) w1:=by
 simp only[execOp,dj]
 exact bS ag
theorem BQ (dj:o5.op= .entry (.tmp it)) {a:Go.Act} {w w1:World} {v:Value} (ag: (Instr.entry (a.eval (.tmp it))).run X.P w= .ok v w1): (execOp a.eval o5).run X.P w= .ok (.value v) w1:=by
 simp only[execOp,dj]
 exact bS ag
theorem wW {Q:Go.Exit→Go.Act→World→Prop} (hQ: ∀a w,yn X n μ0 rec tl Good a w→Q (.exit id) a w) (hB:ym X n ops y rec tb) (h0:ops[0]? =some o1) (dj:o1.op= .next (.tmp it) false) (hd:o1.dst=some nx) (hg:o1.guard=none) (Jo:nx<n.1)
   {σ σp:St} {a:Go.Act} {w:World} (hs:iG X μ0 n σ a w) (ag: (Instr.next (a.eval (.tmp it)) false o1.type).run X.P w= .ok (.tuple #[.bool false]) w)
   (hk:runK rec it r g nx ne id tb tm tl [] σ=some σp) (Aa:Good σp) (m:Nat):
   Code.roundsIn (Fr n.ro) 0 X.P (mP i0 ops y b1 i5 gg z5) Q (m+1) a w:=by
 rw[roundsIn_succ]
 simp only[runK] at hk
 split at hk
 · split at hk
   · rename_i jB σe kC
     split at hk
     · rename_i LI
       subst LI
       split at hk
       · rename_i σ'' CV
         injection hk with hk;subst hk
         refine wpIn_seq (u4 (X:=X) h0 (by rw[dj];simp) hg (wV dj ag) ?_)
         obtain⟨iO,ck,φ,hr,hle⟩:=hs
         have nO:iG X μ0 n (σ.put (some nx) (.tuple [.bool false])) (a.put o1.dst (.tuple #[.bool false])) w:=by
          rw[hd]
          exact⟨by rw[put_defers];exact iO,by rw[kz];exact ck,φ,nI hr (Le.refl _) hr.aY (by simp only[ak];exact⟨_,rfl,by simp[aj,ak]⟩) (by simp;omega) σ.O,hle⟩
         exact hB _ _ _ _ _ _ (Exit.then (Code.wpIn (Fr n.ro) 0 X.P (.block b1 (.seq (.region i5 gg false) z5)) (Exit.then (Code.roundsIn (Fr n.ro) 0 X.P (mP i0 ops y b1 i5 gg z5) Q m) Q)) (Exit.then (Code.roundsIn (Fr n.ro) 0 X.P (mP i0 ops y b1 i5 gg z5) Q m) Q)) _ kC nO (fun a' w' ic=>hQ _ _ ⟨σe,σ'',ic,CV,Aa⟩) fun a' w' h=>wpIn_seq h
       · simp at hk
     · simp at hk
   · simp at hk
 · simp at hk
theorem u5 {σ:St} (h:sN it r g σ=true):σ.T it= .it r g∧(σ.O r).gen=g:=by
 unfold sN at h
 split at h
 · rename_i r' g' e
   simp only[Bool.and_eq_true,Nat.beq_eq] at h
   obtain⟨rfl,rfl,h⟩:=h
   exact⟨e,h⟩
 · simp at h
theorem qw { Q:Go.Exit→Go.Act→World→Prop} (hQ: ∀a w,yn X n μ0 rec tl Good a w→Q (.exit id) a w) (hB:ym X n ops y rec tb) (hM:BP X n gg z5 b1 rec tm) (h0:ops[0]? =some o1) (dj:o1.op= .next (.tmp it) false) (hd:o1.dst=some nx) (hg:o1.guard=none) (Jo:nx<n.1)
   (k0:gg[0]? =some o5) (kop:o5.op= .entry (.tmp it)) (kd:o5.dst=some ne) (kg:o5.guard=none) (cO:ne<n.1)
   {bi bm since:Nat} {ents:Array MapEntry} {Z:List (V×MapEntry)} (hZ:Z.map (·.2)=ents.toList) (ku:uA ents since):
   ∀ (m:Nat) (seen:Array Nat) (σ:St) (a:Go.Act) (w:World) (φ:Nat→Row),(gz Z seen).length=m→Marks n w a.defers→a.tmps.size=n.1→Rel X σ.T a ⟨w,φ,σ.O⟩→Le μ0 ⟨w,φ,σ.O⟩→
    (φ r).cK=bi→w.heap[bi]? =some (.mapIter (some bm) since seen since)→ ¬ (Mu.mk w φ σ.O).own bi→(bi<μ0.w.heap.size→μ0.own bi)→
    (∀r',(σ.O r').es.isSome=true→(φ r').cap≠0→(φ r').cK≠bi)→w.heap[bm]? =some (.map ents since)→ ¬Own X ⟨w,φ,σ.O⟩ bm→
    (∀z ∈ Z,ak X ⟨w,φ,σ.O⟩ z.1 (.tuple #[z.2.key,z.2.val]))→
    (∀p,p.Perm ((gz Z seen).map (·.1))→ ∃σp,runK rec it r g nx ne id tb tm tl p σ=some σp∧Good σp)→
    Code.roundsIn (Fr n.ro) 0 X.P (mP i0 ops y b1 i5 gg z5) Q (m+1) a w
 | m,seen,σ,a,w,φ,hm,iO,ck,hr,hle,hφ,CA,eh,rj,fo,NA,Is,bQ,u6=>by
   have Ir:sN it r g σ=true:=by
    obtain⟨σp,hk,_⟩:=u6 _ (.refl _)
    cases hl: (gz Z seen).map (·.1) with
    | nil=>
      rw[hl] at hk
      simp only[runK] at hk
      split at hk
      · rename_i h;exact h
      · simp at hk
    | cons e p=>
      rw[hl] at hk
      simp only[runK] at hk
      split at hk
      · split at hk
        · rename_i h;exact h
        · simp at hk
      · simp at hk
   obtain⟨hT,b5⟩:=u5 Ir
   have oU:a.eval (.tmp it)= .pointer (some ⟨bi,0,none⟩):=by
    have:=hr.tmps it
    rw[hT] at this
    simp only[ak] at this
    obtain⟨a0,h1,_,h2⟩:=this
    obtain⟨_,rfl⟩:=h2 b5
    show a.tmps.getD it undef=_
    rw[h1,hφ]
   have kD:iG X μ0 n σ a w:=⟨iO,ck,φ,hr,hle⟩
   have bp:bi<w.heap.size:=(Array.getElem?_eq_some_iff.1 CA).1
   rcases G6 (P:=X.P) (ty:=o1.type) CA NA ku.1 with⟨hz,ag⟩ | ⟨e,he,d,ag⟩
   ·
    have hl:gz Z seen=[]:=by
      have:=wU hZ seen
      rw[Array.eq_empty_of_size_eq_zero hz] at this
      exact List.map_eq_nil_iff.1 this
    obtain⟨σp,hk,Aa⟩:=u6 [] (by rw[hl];exact .refl _)
    exact wW hQ hB h0 dj hd hg Jo kD (by rw[oU];exact ag) hk Aa m
   ·
    rw[←wU hZ seen] at he
    obtain⟨z,hz,rfl⟩:=List.mem_map.1 he
    have Ik: (Z.map fun z=>z.2.born).Nodup:=by
      have:=ku.2
      rw[←hZ,List.map_map] at this
      exact this
    have C1:=BO Ik hz
    obtain⟨m',rfl⟩: ∃m',m=m'+1:=by
      have:=C1.length_eq
      simp only[List.length_cons] at this
      exact⟨_,by rw[←hm];exact this⟩
    have hZm:z ∈ Z:=(List.mem_filter.1 hz).1
    have sQ:=bQ z hZm
    obtain⟨σp1,CM,_⟩:=u6 (z.1:: (gz Z (seen.push z.2.born)).map (·.1)) (by have:=(C1.map (·.1)).symm;simpa using this)
    obtain⟨ k,v,σm,σ',hzv,G8,Jp,kC⟩: ∃k v σm σ',z.1= .tuple [k,v]∧rec tb (σ.put (some nx) (.tuple [.bool true,k,v]))=some (.normal,σm)∧sN it r g σm=true∧rec tm (σm.put (some ne) (.tuple [k,v]))=some (.normal,σ'):=by
      simp only[runK] at CM
      split at CM
      · rename_i k v NB
        rw[if_pos Ir] at CM
        split at CM
        · rename_i σm hb
          split at CM
          · rename_i Jp
            split at CM
            · rename_i σ' ru;exact⟨k,v,σm,σ',NB,hb,Jp,ru⟩
            · simp at CM
          · simp at CM
        · simp at CM
      · simp at CM
    have NB:ak X ⟨w,φ,σ.O⟩ k z.2.key∧ak X ⟨w,φ,σ.O⟩ v z.2.val:=by
      rw[hzv] at sQ
      simp only[ak] at sQ
      obtain⟨vs,h1,h2⟩:=sQ
      injection h1 with h1
      subst h1
      simpa [aj] using h2
    rw[roundsIn_succ]
    refine wpIn_seq (u4 (X:=X) h0 (by rw[dj];simp) hg (wV dj (by rw[oU];exact ag)) ?_)
    generalize AQ: ({w with drawn:=w.drawn+d,heap:=w.heap.setIfInBounds bi (.mapIter (some bm) since (seen.push z.2.born) since)}:World)=w2
    have ie: ∀b,b≠bi→w2.heap[b]? =w.heap[b]? :=fun b hb=>by
      rw[←AQ];exact Array.getElem?_setIfInBounds_ne (fun e=>hb e.symm)
    have MD:w2.heap[bi]? =some (.mapIter (some bm) since (seen.push z.2.born) since):=by
      rw[←AQ];simp[bp]
    have zC:w2.heap.size=w.heap.size:=by rw[←AQ];simp
    have st:iz X ⟨w,φ,σ.O⟩ w2:=by
      refine⟨fun ad c hc=> ?_,fun b es cl hb=> ?_,by show w.heap.size≤w2.heap.size;omega⟩
      · have cO:ad.block≠bi:=fun e=>by
          have yK:w.cell? ad=some c:=hc
          simp[World.cell?,e,CA] at yK
        have yK:w.cell? ad=some c:=hc
        simp only[World.cell?,ie _ cO] at yK ⊢
        exact yK
      · have ru:w.heap[b]? =some (.map es cl):=hb
        rw[ie b (fun e=>by rw[e,CA] at ru;simp at ru)]
        exact ru
    have XL:bc X ⟨w2,φ,σ.O⟩:=hr.aY.cg st fun r' h1 h2=>ie _ (fo r' h1 h2)
    have ME:Le μ0 ⟨w2,φ,σ.O⟩:=by
      refine⟨by have:=hle.size;show μ0.w.heap.size≤w2.heap.size;have h2:μ0.w.heap.size≤w.heap.size:=this;omega,fun b hb hn=> ?_,hle.gen,hle.row,?_,?_,?_,fun ad MF=> ?_⟩
      · have cO:b≠bi:=fun e=>by subst e;exact hn (rj hb)
        obtain⟨k1,k2⟩:=hle.bZ b hb hn
        exact⟨(ie b cO).trans k1,k2⟩
      · rw[←hle.os,←AQ]
      · rw[←hle.output,←AQ]
      · rw[←hle.tape,←AQ]
      · have k1:w.frozen? ad=μ0.w.frozen? ad:=hle.frozen ad MF
        show w2.frozen? ad=_
        rw[←k1]
        by_cases e:ad.block=bi
        · simp only[World.frozen?,e,CA,MD]
        · simp only[World.frozen?,ie _ e]
    have ph:Rel X σ.T a ⟨w2,φ,σ.O⟩:=⟨fun t=>ak.cg st (hr.tmps t),XL⟩
    have G9:Marks n w2 a.defers:=by
      obtain⟨⟨m0,m0'⟩,Ds,m1,m2,m3⟩:=iO
      exact⟨⟨by omega,fun l hl=>by
        obtain⟨L,k⟩:=m0' l hl
        exact⟨L,(ie l (fun e=>by rw[e,CA] at k;simp at k)).trans k⟩⟩,Ds,m1,m2,fun D hD=> ⟨(m3 D hD).1,(ie D (fun e=>by have:=(m3 D hD).2;rw[e,CA] at this;simp at this)).trans (m3 D hD).2⟩⟩
    have vP:iG X ⟨w2,φ,σ.O⟩ n (σ.put (some nx) (.tuple [.bool true,k,v])) (a.put o1.dst (.tuple #[.bool true,z.2.key,z.2.val])) w2:=by
      rw[hd]
      refine⟨by rw[put_defers];exact G9,by rw[kz];exact ck,φ,nI ph (Le.refl _) XL ?_ (by simp;omega) σ.O,Le.refl _⟩
      simp only[ak]
      exact⟨_,rfl,by simp only[aj,ak];exact⟨trivial,ak.cg st NB.1,ak.cg st NB.2,trivial⟩⟩
    refine hB _ _ _ _ _ _ (Exit.then (Code.wpIn (Fr n.ro) 0 X.P (.block b1 (.seq (.region i5 gg false) z5)) (Exit.then (Code.roundsIn (Fr n.ro) 0 X.P (mP i0 ops y b1 i5 gg z5) Q (m'+1)) Q)) (Exit.then (Code.roundsIn (Fr n.ro) 0 X.P (mP i0 ops y b1 i5 gg z5) Q (m'+1)) Q)) _ G8 vP (fun am wm Ie=> ?_) fun a' w' h=>wpIn_seq h
    have kl:bi<w2.heap.size:=by omega
    have K1:bm<w2.heap.size:=by rw[zC];exact(Array.getElem?_eq_some_iff.1 NA).1
    have K2:bm≠bi:=fun e=>by rw[e,CA] at NA;simp at NA
    obtain⟨hTm,K3⟩:=u5 Jp
    have aa0:=Ie
    obtain⟨XM,aau,φm,hrm,Ef⟩:=Ie
    have hφm:φm r=φ r:=(Ef.row r (by show (σm.O r).gen=(σ.O r).gen;rw[K3,b5])).1
    have aav:wm.heap[bi]? =some (.mapIter (some bm) since (seen.push z.2.born) since):=(Ef.bZ bi kl eh).1.trans MD
    have aaw:wm.heap[bm]? =some (.map ents since):=(Ef.bZ bm K1 (fun h=>Is (.inl h))).1.trans ((ie bm K2).trans NA)
    have aax:am.eval (.tmp it)= .pointer (some ⟨bi,0,none⟩):=by
      have:=hrm.tmps it
      rw[hTm] at this
      simp only[ak] at this
      obtain⟨a0,h1,_,h2⟩:=this
      obtain⟨_,rfl⟩:=h2 K3
      show am.tmps.getD it undef=_
      rw[h1,hφm,hφ]
    have hze:z.2 ∈ ents.toList:=by rw[←hZ];exact List.mem_map.2 ⟨z,hZm,rfl⟩
    refine wpIn_block (wpIn_seq (u4 (X:=X) k0 (by rw[kop];simp) kg (BQ kop (by rw[aax];exact Ee aav aaw hze ku.2)) ?_))
    have CN:iG X ⟨w2,φ,σ.O⟩ n (σm.put (some ne) (.tuple [k,v])) (am.put o5.dst (.tuple #[z.2.key,z.2.val])) wm:=by
      rw[kd]
      refine⟨by rw[put_defers];exact XM,by rw[kz];exact aau,φm,nI hrm (Le.refl _) hrm.aY ?_ (by simp;omega) σm.O,Ef⟩
      simp only[ak]
      exact⟨_,rfl,by simp only[aj];exact⟨ak.mono Ef (ak.cg st NB.1),ak.mono Ef (ak.cg st NB.2),trivial⟩⟩
    refine hM _ _ _ _ _ _ kC CN fun a' w' ic=> ?_
    obtain⟨XN,Jf,φ',qM,qx⟩:=ic
    have Ha: ∀p,p.Perm ((gz Z (seen.push z.2.born)).map (·.1))→ ∃σp,runK rec it r g nx ne id tb tm tl p σ'=some σp∧Good σp:=fun p hp=>by
      obtain⟨σp,hk,BB⟩:=u6 (z.1::p) ((hp.cons z.1).trans (by have:=(C1.map (·.1)).symm;simpa using this))
      refine⟨σp,?_,BB⟩
      rw[hzv] at hk
      simp only[runK,Ir,Jp,if_true,G8,kC] at hk
      exact hk
    have aay:sN it r g σ'=true:=by
      obtain⟨σp,hk,_⟩:=Ha _ (.refl _)
      cases hl: (gz Z (seen.push z.2.born)).map (·.1) with
      | nil=>
        rw[hl] at hk
        simp only[runK] at hk
        split at hk
        · rename_i h;exact h
        · simp at hk
      | cons e p=>
        rw[hl] at hk
        simp only[runK] at hk
        split at hk
        · split at hk
          · rename_i h;exact h
          · simp at hk
        · simp at hk
    have u7: (σ'.O r).gen=g:=(u5 aay).2
    obtain⟨kb1,kb2⟩:=qx.bZ bi kl eh
    obtain⟨km1,km2⟩:=qx.bZ bm K1 (fun h=>Is (.inl h))
    have MG:w'.heap[bi]? =some (.mapIter (some bm) since (seen.push z.2.born) since):=kb1.trans MD
    have hlen: (gz Z (seen.push z.2.born)).length=m':=by
      have:=C1.length_eq
      rw[hm,List.length_cons] at this
      omega
    refine qw hQ hB hM h0 dj hd hg Jo k0 kop kd kg cO hZ ku m' (seen.push z.2.born) σ' a' w' φ' hlen XN Jf qM (ME.trans qx) ?_ MG kb2 rj ?_ (km1.trans ((ie bm K2).trans NA)) ?_ (fun x hx=>ak.mono qx (ak.cg st (bQ x hx))) Ha
    · have:=(qx.row r (by show (σ'.O r).gen=(σ.O r).gen;rw[u7,b5])).1
      rw[show φ' r=φ r from this];exact hφ
    · intro r' h1 h2 hb
      obtain⟨es,bl⟩:=Option.isSome_iff_exists.1 h1
      rcases qM.aY.ok r' es bl with⟨_,_,_,h4⟩ | ⟨_,_,ob,h3,h4⟩
      · rcases h4 with h4| ⟨c,T,vs,k1,_⟩
        · exact h2 h4
        · have k1':w'.heap[(φ' r').cK]? =some (.cells c T (0,0)):=k1
          rw[hb,MG] at k1';simp at k1'
      · have J9:w'.heap[(φ' r').cK]? =some ob:=h3
        rw[hb,MG] at J9
        injection J9 with J9
        rcases h4 with⟨_,_,k1,_⟩ | ⟨_,_,k1,_⟩ | ⟨_,_,_,k1,_⟩
        · rw[←J9] at k1;simp at k1
        · rw[←J9] at k1;simp at k1
        · rw[←J9] at k1
          injection k1 with _ _ k1 _
          have:=congrArg Array.size k1
          simp at this
    · rintro(h| h)
      · exact km2 h
      · exact Is (.inr h)
termination_by m=>m
theorem va {      kT kO:List Nat} (hB:ym X n ops y rec tb) (hM:BP X n gg z5 b1 rec tm) (h0:ops[0]? =some o1) (dj:o1.op= .next (.tmp it) false) (hd:o1.dst=some nx) (hg:o1.guard=none) (Jo:nx<n.1)
   (l0:gg[0]? =some o5) (lop:o5.op= .entry (.tmp it)) (ld:o5.dst=some ne) (lg:o5.guard=none) (cO:ne<n.1)
   {C:a9} {σ σ2:St} {e:aX} {a:Go.Act} {w:World} (ag:aG E C rec (.keys it nx ne id kT kO tb tm tl) σ=some (e,σ2)) (hs:iG X μ0 n σ a w):
   e= .normal∧(Code.block id (.loop (mP i0 ops y b1 i5 gg z5))).wpIn (Fr n.ro) 0 X.P (fun ex a' w'=>ex= .normal∧ ∃σe σp,iG X μ0 n σe a' w'∧rec tl σe=some (.normal,σp)∧ ∀E0 C2,iG X μ0 n σp E0 C2→iG X μ0 n σ2 E0 C2) a w:=by
 simp only[aG] at ag
 split at ag
 · rename_i r g hT
   split at ag
   · rename_i es hO
     split at ag
     · rename_i hc
       obtain⟨b5,XO,fN⟩:=hc
       split at ag
       · rename_i σ1 σs mm
         split at ag
         · rename_i MH
           simp only[Option.some.injEq,Prod.mk.injEq] at ag
           obtain⟨rfl,rfl⟩:=ag
           refine⟨rfl,?_⟩
           let Good:St→Prop:=fun σp=> ∀E0 C2,iG X μ0 n σp E0 C2→iG X μ0 n (forget kT kO σ1 σs) E0 C2
           have Aa: ∀σp ∈ σ1::σs,Good σp:=by
            rintro σp hp E0 C2 ⟨iO,ck,φ,hr,hle⟩
            have YJ:pV kT kO σ1 σp=true∨σp=σ1:=by
              rcases List.mem_cons.1 hp with h| h
              · exact .inr h
              · exact .inl (List.all_eq_true.1 MH σp h)
            have hTk: ∀t,t ∈ kT→σp.T t=σ1.T t:=fun t ht=>by
              rcases YJ with h| h
              · simp only[pV,Bool.and_eq_true,List.all_eq_true] at h
                exact V.beq_eq (h.1 t ht)
              · rw[h]
            have hOk: ∀x,x ∈ kO→σp.O x=σ1.O x:=fun x hx=>by
              rcases YJ with h| h
              · simp only[pV,Bool.and_eq_true,List.all_eq_true] at h
                exact Obj.beq_eq (h.2 x hx)
              · rw[h]
            have EX:=wT (O':=(forget kT kO σ1 σs).O) hr.aY fun x=>by
              simp only[forget]
              by_cases hx:kO.contains x=true
              · rw[if_pos hx]
                exact .inl (hOk x (by simpa using hx)).symm
              · rw[if_neg hx]
                refine .inr ⟨rfl,.inl ?_⟩
                have:=qf (fun σ:St=> (σ.O x).gen) hp
                show (σp.O x).gen<_+1
                omega
            refine⟨iO,ck,φ,⟨fun t=> ?_,EX.2⟩,hle.trans EX.1⟩
            simp only[forget]
            split
            · rename_i ht
              rw[←hTk t (by simpa using ht)]
              exact ak.mono EX.1 (hr.tmps t)
            · simp[ak]
           have u6: ∀p,p.Perm es→ ∃σp,runK rec it r g nx ne id tb tm tl p ⟨σ.T,dg σ.O r ⟨g,0,false,false,none⟩⟩=some σp∧Good σp:=fun p hp=>by
            obtain⟨σp,h1,h2⟩:=r4 mm p (mn hp)
            exact⟨σp,h2,Aa σp h1⟩
           obtain⟨iO,ck,φ,hr,hle⟩:=hs
           have EX:=wT (O':=dg σ.O r ⟨g,0,false,false,none⟩) hr.aY fun x=>by
            by_cases hx:x=r
            · subst hx
              rw[az]
              exact .inr ⟨rfl,.inr ⟨b5.symm,XO.symm⟩⟩
            · rw[aV _ _ hx];exact .inl rfl
           have ph:Rel X σ.T a ⟨w,φ,dg σ.O r ⟨g,0,false,false,none⟩⟩:=⟨fun t=>ak.mono EX.1 (hr.tmps t),EX.2⟩
           obtain⟨_,cE,ob,EV,hh⟩:=hr.aY.map r _ hO XO
           have fF: (Mu.mk w φ σ.O).own (φ r).cK:=⟨r,by show (σ.O r).es.isSome=true;rw[hO];rfl,fN,cE,rfl⟩
           have eh: ¬ (Mu.mk w φ (dg σ.O r ⟨g,0,false,false,none⟩)).own (φ r).cK:=by
            rintro⟨r',h1,h2,h3,h4⟩
            by_cases hx:r'=r
            · subst hx;simp[az] at h1
            · have yR: (σ.O r').es.isSome=true:=by have:=h1;simp only[aV _ _ hx] at this;exact this
              exact hr.aY.inj r' r hx yR (by show (σ.O r).es.isSome=true;rw[hO];rfl) h3 cE h4
           have rj: (φ r).cK<μ0.w.heap.size→μ0.own (φ r).cK:=fun bp=>Classical.byContradiction fun hn=> (hle.bZ _ bp hn).2 fF
           have fo: ∀r',((dg σ.O r ⟨g,0,false,false,none⟩) r').es.isSome=true→(φ r').cap≠0→(φ r').cK≠(φ r).cK:=fun r' h1 h2 h4=>by
            by_cases hx:r'=r
            · subst hx;simp[az] at h1
            · have yR: (σ.O r').es.isSome=true:=by have:=h1;simp only[aV _ _ hx] at this;exact this
              exact hr.aY.inj r' r hx yR (by show (σ.O r).es.isSome=true;rw[hO];rfl) h2 cE h4
           have hQ: ∀a' w',yn X n μ0 rec tl Good a' w'→Exit.inBlock id (fun ex a' w'=>ex= .normal∧ ∃σe σp,iG X μ0 n σe a' w'∧rec tl σe=some (.normal,σp)∧ ∀E0 C2,iG X μ0 n σp E0 C2→iG X μ0 n (forget kT kO σ1 σs) E0 C2) (.exit id) a' w':=by
            rintro a' w' ⟨σe,σp,q1,q2,q3⟩
            simp only[Go.Exit.inBlock,if_true]
            exact⟨trivial,σe,σp,q1,q2,q3⟩
           have key: ∃m,Code.roundsIn (Fr n.ro) 0 X.P (mP i0 ops y b1 i5 gg z5) (Exit.inBlock id (fun ex a' w'=>ex= .normal∧ ∃σe σp,iG X μ0 n σe a' w'∧rec tl σe=some (.normal,σp)∧ ∀E0 C2,iG X μ0 n σp E0 C2→iG X μ0 n (forget kT kO σ1 σs) E0 C2)) (m+1) a w:=by
            rcases hh with⟨ents,clock,k1,hh,_⟩ | ⟨s,pos,_,hh⟩ | ⟨mo,since,nA,h1,h2,h3⟩
            · exfalso
              cases he:ents.toList with
              | nil=>rw[he] at hh;simp[aj] at hh
              | cons x xs=>rw[he] at hh;simp[aj,ak] at hh
            · simp at hh
            · simp only[List.cons.injEq,V.mlit.injEq,and_true] at h2
              subst h2
              subst h1
              rcases h3 with⟨rfl,rfl⟩ | ⟨bm,ents,rfl,k2,k3,k4,k5,k6⟩
              · obtain⟨σp,hk,BB⟩:=u6 [] (.refl _)
                have Ir:a.eval (.tmp it)= .pointer (some ⟨(φ r).cK,0,none⟩):=by
                  have:=hr.tmps it
                  rw[hT] at this
                  simp only[ak] at this
                  obtain⟨a0,e1,_,e2⟩:=this
                  obtain⟨_,rfl⟩:=e2 b5
                  exact e1
                exact⟨0,wW hQ hB h0 dj hd hg Jo ⟨iO,ck,φ,ph,hle.trans EX.1⟩ (by rw[Ir];exact G7 EV) hk BB 0⟩
              · obtain⟨Z,z1,z2,z3⟩:=z9 k6
                have uS:gz Z #[]=Z:=List.filter_eq_self.2 fun z _=>by simp
                refine⟨_,qw (r:=r) (g:=g) hQ hB hM h0 dj hd hg Jo l0 lop ld lg cO z2 k5 _ #[] ⟨σ.T,dg σ.O r ⟨g,0,false,false,none⟩⟩ a w φ rfl iO ck ph (hle.trans EX.1) rfl EV eh rj fo k4 ?_ (fun z hz=>ak.mono EX.1 (z3 z hz)) ?_⟩
                · rintro(⟨r',h1,h2,h3,h4⟩ | h)
                  · refine k2 (.inl ⟨r',?_,?_,h3,h4⟩)
                    · by_cases hx:r'=r
                      · subst hx;simp[az] at h1
                      · have:=h1;simp only[aV _ _ hx] at this;exact this
                    · by_cases hx:r'=r
                      · subst hx;exact fN
                      · have:=h2;simp only[aV _ _ hx] at this;exact this
                  · exact k2 (.inr h)
                · rw[uS,z1];exact u6
           obtain⟨m,hm⟩:=key
           exact wpIn_block (wpIn_loop_rounds (m+1) hm)
         · simp at ag
       · simp at ag
     · simp at ag
   · simp at ag
 · simp at ag
end
end Go.AM
namespace Go.AM
open Go Go.RowKit
theorem Hb {X:Ctx} {μ:Mu} (ho:bc X μ) {D:Nat} {o:Go.Obj} (hD:μ.w.heap[D]? =some o) (h1:o.isCells=false) (h2:o.isWalk=false) {r:Nat} (hr: (μ.O r).es.isSome=true) (hc: (μ.φ r).cap≠0): (μ.φ r).cK≠D:=fun hb=>by
 obtain⟨es,bl⟩:=Option.isSome_iff_exists.1 hr
 rcases ho.ok r es bl with⟨_,_,_,h4⟩ | ⟨_,_,ob,h3,h4⟩
 · rcases h4 with h4| ⟨c,T,vs,k1,_⟩
   · exact hc h4
   · rw[hb,hD] at k1;injection k1 with k1;subst k1;simp[Obj.isCells] at h1
 · rw[hb,hD] at h3;injection h3 with h3;subst h3
   rcases h4 with⟨_,_,rfl,_⟩ | ⟨_,_,rfl,_⟩ | ⟨_,_,_,rfl,_⟩ <;>simp[Obj.isWalk] at h2
theorem js {X:Ctx} {μ:Mu} {D:Nat} {o o':Go.Obj} (hD:μ.w.heap[D]? =some o) (h1:o.isCells=false) (h2:o.isWalk=false):iz X μ (μ.w.putObj D o'):=by
 refine⟨fun ad c hc=> ?_,fun b es cl hb=> ?_,by simp[World.putObj]⟩
 · have cO:ad.block≠D:=fun e=>by
    simp only[World.cell?,e,hD] at hc
    cases o<;>simp_all[Obj.isCells]
   simp only[World.cell?,World.putObj_heap_other cO] at hc ⊢
   exact hc
 · rw[World.putObj_heap_other (fun e=>by rw[e,hD] at hb;injection hb with hb;subst hb;simp[Obj.isWalk] at h2)]
   exact hb
theorem BR {μ0:Mu} {w:World} {φ:Nat→Row} {O:Nat→Obj} (le:Le μ0 ⟨w,φ,O⟩) {D:Nat} {o':Go.Obj} (hf:μ0.w.heap.size≤D):Le μ0 ⟨w.putObj D o',φ,O⟩:=by
 refine⟨by have:=le.size;simpa [World.putObj] using this,fun b hb hn=> ?_,le.gen,le.row,le.os,le.output,le.tape,fun ad MF=> ?_⟩
 · have cO:b≠D:=by omega
   exact⟨(World.putObj_heap_other cO).trans (le.bZ b hb hn).1,(le.bZ b hb hn).2⟩
 · have cO:ad.block≠D:=by omega
   have:=le.frozen ad MF
   simp only[World.frozen?] at this ⊢
   show (match (w.putObj D o').heap[ad.block]? with| some (.cells _ _ (lo,hi))=>_| _=>false)=_
   rw[World.putObj_heap_other cO]
   exact this
theorem wX {X:Ctx} {w:World} {φ:Nat→Row} {O:Nat→Obj} (ho:bc X ⟨w,φ,O⟩) {D:Nat} (h2:w.heap[D]? =some (.deferred (some []))):bc X ⟨w.putObj D (.deferred none),φ,O⟩:=
 ho.cg (js (μ:=⟨w,φ,O⟩) h2 rfl rfl) fun r h3 h4=>World.putObj_heap_other (Hb ho h2 rfl rfl h3 h4)
def Kept (μ:Mu) (W W':World):Prop:= ∀b,b<μ.w.heap.size→ ¬μ.own b→W'.heap[b]? =W.heap[b]?
def Abides (J:Nat→World→Prop):Prop:= ∀k A B,J k A→A.grownBy B none→J k B
structure Jq (J:Nat→(Nat→Prop)→World→Prop):Prop where
 grow: ∀k F A B,J k F A→A.grownBy B none→J k (fun b=>F b∨(A.heap.size≤b∧b<B.heap.size)) B
 less: ∀k F F' A,J k F A→(∀b,F' b→F b)→J k F' A
structure tA (X:Ctx) (μ:Mu) (gf:Nat) (lb:Array Value) (xs:List (List V)):Prop where
 enters: ∀args w,(callFunc gf args).run X.P w= .ok (.enter gf args) w
 ex: ∃NC:List (Array Value),NC.length=xs.length∧(∀ (i:Nat) x v,xs[i]? =some x→NC[i]? =some v→aj X μ x v.toList)∧
  ∀ (l:Nat) (J:Nat→(Nat→Prop)→World→Prop) (Jx:Nat→World→Prop) (W0:World),Below μ.w.heap.size μ.w W0→Jq J→Abides Jx→
   (∀ (k:Nat) F W1 v,NC[k]? =some v→J k F W1→YieldAt (Fr none) 0 X.P l v W1 fun e W'=> (e= .returned (.bool true)∧J (k+1) F W'∧Kept μ W1 W'∧ ∀b,F b→W'.heap[b]? =W1.heap[b]?)∨(e= .returned (.bool false)∧Jx (k+1) W'))→
   J 0 (fun _=>False) W0→CallsIn (Fr none) 0 X.P gf (#[.func (.yield l) #[] #[]]++lb) W0 fun e W'=> (∃v,e= .returned v)∧((∃F,J NC.length F W')∨ ∃k,k≤NC.length∧Jx k W')
theorem so {X:Ctx} {μ:Mu} {W':World} (h:μ.w.grownBy W' none):iz X μ W':=by
 have hb: ∀k,k<μ.w.heap.size→W'.heap[k]? =μ.w.heap[k]? :=fun k hk=>h.block k hk (by simp)
 refine⟨fun ad c hc=> ?_,fun b es cl hc=> ?_,h.size⟩
 · have bp:ad.block<μ.w.heap.size:=by
    rcases Nat.lt_or_ge ad.block μ.w.heap.size with hl| hl
    · exact hl
    · simp[World.cell?,Array.getElem?_eq_none hl] at hc
   simp only[World.cell?,hb _ bp] at hc ⊢
   exact hc
 · rw[hb _ (Array.getElem?_eq_some_iff.1 hc).1];exact hc
theorem BS {X:Ctx} {μ:Mu} (ho:bc X μ) {r:Nat} (hr: (μ.O r).es.isSome=true) (hc: (μ.φ r).cap≠0): (μ.φ r).cK<μ.w.heap.size:=by
 obtain⟨es,bl⟩:=Option.isSome_iff_exists.1 hr
 rcases ho.ok r es bl with⟨_,_,_,h4⟩ | ⟨_,_,ob,h3,h4⟩
 · rcases h4 with h4| ⟨c,T,vs,k1,_⟩
   · exact absurd h4 hc
   · exact(Array.getElem?_eq_some_iff.1 k1).1
 · exact(Array.getElem?_eq_some_iff.1 h3).1
structure fb (X:Ctx) (μb:Mu) (T:Nat→V) (a:Go.Act) (l:Nat) (Dq:Option Nat) (L:Loop) (O:Nat→Obj) (φ:Nat→Row) (W:World):Prop where
 rel:Rel X T a ⟨W,φ,O⟩
 le:Le μb ⟨W,φ,O⟩
 wY:W.heap[l]? =some (.loop L)
 MI: ∀D,Dq=some D→W.heap[D]? =some (.deferred (some []))
section
variable {X:Ctx} {μb:Mu} {T:Nat→V} {a:Go.Act} {l:Nat} {Dq:Option Nat} {L L':Loop} {O:Nat→Obj} {φ:Nat→Row} {W W':World}
theorem fb.grow (h:fb X μb T a l Dq L O φ W) (hg:W.grownBy W' none):fb X μb T a l Dq L O φ W':=by
 have st:iz X ⟨W,φ,O⟩ W':=so (μ:=⟨W,φ,O⟩) hg
 have hb: ∀k,k<W.heap.size→W'.heap[k]? =W.heap[k]? :=fun k hk=>hg.block k hk (by simp)
 refine⟨⟨fun t=>ak.cg st (h.rel.tmps t),h.rel.aY.cg st fun r h1 h2=>hb _ (BS h.rel.aY h1 h2)⟩,?_,(hb _ (Array.getElem?_eq_some_iff.1 h.wY).1).trans h.wY,fun D hD=> (hb _ (Array.getElem?_eq_some_iff.1 (h.MI D hD)).1).trans (h.MI D hD)⟩
 have le:=h.le
 have ck:μb.w.heap.size≤W.heap.size:=le.size
 exact⟨Nat.le_trans ck hg.size,fun b ru hn=> ⟨(hb b (by omega)).trans (le.bZ b ru hn).1,(le.bZ b ru hn).2⟩,le.gen,le.row,hg.os.trans le.os,hg.output.trans le.output,hg.tape.trans le.tape,fun ad MF=>by
  have:=le.frozen ad MF
  rw[←this]
  show W'.frozen? ad=W.frozen? ad
  simp only[World.frozen?,hb ad.block (by omega)]⟩
theorem fb.put (h:fb X μb T a l Dq L O φ W) (hl:μb.w.heap.size≤l) (hD: ∀D,Dq=some D→D≠l):fb X μb T a l Dq L' O φ (W.putObj l (.loop L')):=by
 have st:iz X ⟨W,φ,O⟩ (W.putObj l (.loop L')):=js (μ:=⟨W,φ,O⟩) h.wY rfl rfl
 refine⟨⟨fun t=>ak.cg st (h.rel.tmps t),h.rel.aY.cg st fun r h3 h4=>World.putObj_heap_other (Hb h.rel.aY h.wY rfl rfl h3 h4)⟩,BR h.le hl,World.putObj_heap_same (Array.getElem?_eq_some_iff.1 h.wY).1,fun D hd=> (World.putObj_heap_other (hD D hd)).trans (h.MI D hd)⟩
end
def aX.conv:aX→Go.Exit
 | .normal=> .normal
 | .exit id=> .exit id
 | .ret=> .ret
def Hc (X:Ctx) (n:Fp) (c:Code) (rec:aW→St→Option (aX×St)) (tc:aW):Prop:=
 ∀ (σ σ':St) (e:aX) (μ0:Mu) (a:Go.Act) (w:World),rec tc σ=some (e,σ')→iG X μ0 n σ a w→c.wpIn (Fr n.ro) 0 X.P (fun ex a' w'=>ex=e.conv∧iG X μ0 n σ' a' w') a w
theorem C3 {X:Ctx} {μ:Mu}: ∀ {ps:List Nat} {x:List V} {vs:List Value} {T:Nat→V} {tmps:Array Value},aj X μ x vs→(∀t,ak X μ (T t) (tmps.getD t undef))→(∀p ∈ ps,p<tmps.size)→
   (∀t,ak X μ (ml T ps x t) (((ps.zip vs).foldl (fun t p=>t.setIfInBounds p.1 p.2) tmps).getD t undef))∧((ps.zip vs).foldl (fun t p=>t.setIfInBounds p.1 p.2) tmps).size=tmps.size
 | [],x,vs,T,tmps,_,h,_=> ⟨by simpa [ml] using h,rfl⟩
 | p::ps,[],[],T,tmps,_,h,_=> ⟨by simpa [ml] using h,rfl⟩
 | p::ps,[],_::_,T,tmps,hx,_,_=>by simp[aj] at hx
 | p::ps,_::_,[],T,tmps,hx,_,_=>by simp[aj] at hx
 | p::ps,x::xs,v::vs,T,tmps,hx,h,hp=>by
   simp only[aj] at hx
   have bp:=hp p (by simp)
   obtain⟨k1,k2⟩:=C3 (ps:=ps) (T:=dg T p x) (tmps:=tmps.setIfInBounds p v) hx.2 (fun t=>by
    unfold dg
    split
    · rename_i e;subst e
      have: (tmps.setIfInBounds t v).getD t undef=v:=by simp[bp]
      rw[this];exact hx.1
    · rename_i cO
      have: (tmps.setIfInBounds p v).getD t undef=tmps.getD t undef:=by
       simp[Array.getElem?_setIfInBounds_ne (fun e=>cO e.symm)]
      rw[this];exact h t) (fun q hq=>by simpa using hp q (by simp[hq]))
   exact⟨k1,by simpa using k2⟩
theorem Eg {P:Program} {w:World} (ro:Option Nat) (h: ∀l,ro=some l→ ∃L,w.heap[l]? =some (.loop L)) (fn:FuncId) (tmps:Array Value) (ps:Array Tmp) (assign body:Code):
   ∃ (l:Nat) (Dq:Option Nat) (dD:Nat) (W1:World),(Instr.enterLoop fn tmps ps assign body ro).run P w= .ok (l,Dq.toList.map fun D=> {target:= .collected D,args:= #[]}) W1∧w.grownBy W1 none∧w.heap.size≤l∧
     W1.heap[l]? =some (.loop {state:= .ready,pending:=none,fn,tmps,params:=ps,assign,body,defers:=dD})∧ ∀D,Dq=some D→w.heap.size≤D∧D≠l∧W1.heap[D]? =some (.deferred (some [])):=by
 cases ro with
 | none=>
   have ck: (w.alloc (.deferred (some []))).heap.size=w.heap.size+1:=World.size_alloc _ _
   refine⟨w.heap.size+1,some w.heap.size,w.heap.size,_,run_enterLoop_outer fn tmps ps assign body,?_,by omega,?_,?_⟩
   · have b1:Below w.heap.size w ((w.alloc (.deferred (some []))).alloc (.loop {state:= .ready,pending:=none,fn,tmps,params:=ps,assign,body,defers:=w.heap.size})):=((Below.refl _ w).alloc (Nat.le_refl _) _).alloc (by simp) _
     exact⟨b1.os,b1.tape,b1.output,b1.size,fun k hk _=>b1.block k hk⟩
   · have:=World.alloc_heap_new (w.alloc (.deferred (some []))) (.loop {state:= .ready,pending:=none,fn,tmps,params:=ps,assign,body,defers:=w.heap.size})
     rwa [ck] at this
   · rintro D hD
     injection hD with hD;subst hD
     exact⟨Nat.le_refl _,by omega,(Below.heap_alloc _ _ _ (by rw[ck];omega)).trans (World.alloc_heap_new w _)⟩
 | some l0=>
   obtain⟨L,hL⟩:=h l0 rfl
   refine⟨w.heap.size,none,L.defers,_,run_enterLoop_inner hL fn tmps ps assign body,?_,Nat.le_refl _,World.alloc_heap_new w _,by simp⟩
   have b1:Below w.heap.size w (w.alloc (.loop {state:= .ready,pending:=none,fn,tmps,params:=ps,assign,body,defers:=L.defers})):=(Below.refl _ w).alloc (Nat.le_refl _) _
   exact⟨b1.os,b1.tape,b1.output,b1.size,fun k hk _=>b1.block k hk⟩
theorem wZ {X:Ctx} {μ0:Mu} {n:Fp} {T:Nat→V} {a:Go.Act} {w W:World} {φ φ':Nat→Row} {O0 O:Nat→Obj} {l:Nat} {Dq:Option Nat} {L:Loop} (iO:Marks n w a.defers) (ck:a.tmps.size=n.tm) (ho:bc X ⟨w,φ,O0⟩) (hle:Le μ0 ⟨w,φ,O0⟩)
   (h:fb X ⟨w,φ,O0⟩ T a l Dq L O φ' W) (hD: ∀D,Dq=some D→w.heap.size≤D):iG X μ0 n ⟨T,O⟩ {a with defers:=(Dq.toList.map fun D=> {target:= .collected D,args:= #[]})++a.defers} W:=by
 refine⟨?_,ck,φ',⟨h.rel.tmps,h.rel.aY⟩,hle.trans h.le⟩
 obtain⟨h0,Ds,h1,h2,h3⟩:=iO.le ho h.le
 refine⟨h0,Dq.toList++Ds,by simp[h1],?_,fun D hd=> ?_⟩
 · cases Dq with
   | none=>simpa using h2
   | some D=>
     simp only[Option.toList_some,List.cons_append,List.nil_append,List.nodup_cons]
     refine⟨fun hm=> ?_,h2⟩
     obtain⟨_,Ds',k1,_,k3⟩:=iO
     have:Ds=Ds':=by
       rw[h1] at k1
       have lW:Function.Injective (fun D:Nat=> ({target:= .collected D,args:= #[]}:Deferred)):=fun x y e=>by injection e with e;injection e
       exact List.map_inj_right (fun x y e=>lW e) |>.1 k1
     subst this
     have:=(Array.getElem?_eq_some_iff.1 (k3 D hm).2).1
     have:=hD D rfl
     omega
 · rcases List.mem_append.1 hd with hd| hd
   · cases Dq with
     | none=>simp at hd
     | some D'=>
       simp at hd;subst hd
       exact⟨Nat.le_trans iO.1.1 (hD _ rfl),h.MI _ rfl⟩
   · exact h3 D hd
theorem Ab {X:Ctx} {n:Fp} {g:Operand} {ps:Array Tmp} {assign body:Code} {rec:aW→St→Option (aX×St)} {ta tb:aW} (hA: ∀l,Hc X ⟨n.tm,0,some l⟩ assign rec ta) (hB: ∀l,Hc X ⟨n.tm,0,some l⟩ body rec tb)
   {μ0:Mu} {σ σ':St} {e:aX} {a:Go.Act} {w:World} (hs:iG X μ0 n σ a w) (vG: ∀p ∈ ps.toList,p<n.tm) {gf:Nat} {lb:Array Value} {xs:List (List V)} (hg:a.eval g= .func (.func gf) #[] lb)
   (hI: ∀φ,Rel X σ.T a ⟨w,φ,σ.O⟩→tA X ⟨w,φ,σ.O⟩ gf lb xs) (hlen: ∀x ∈ xs,x.length=ps.size) (ag:pU rec ps.toList ta tb σ.T xs σ.O=some (e,σ')):
   (Code.rangeFunc g ps assign body).wpIn (Fr n.ro) 0 X.P (fun ex a' w'=>ex=e.conv∧iG X μ0 n σ' a' w') a w:=by
 obtain⟨iO,ck,φ,hr,hle⟩:=hs
 obtain⟨enters,NC,CW,yO,XP⟩:=hI φ hr
 refine wpIn_rangeFunc fun fn tk=> ?_
 obtain⟨l,Dq,dD,W1,aaz,ky,hl,aaA,Y5⟩:=Eg (P:=X.P) n.ro iO.1.2 fn a.tmps ps assign body
 obtain⟨ft,kE⟩: ∃ft:LoopState→Option Code→Loop,ft=fun st pe=> {state:=st,pending:=pe,fn,tmps:=a.tmps,params:=ps,assign,body,defers:=dD}:=⟨_,rfl⟩
 have cO: ∀D,Dq=some D→D≠l:=fun D hD=> (Y5 D hD).2.1
 have aaB:fb X ⟨w,φ,σ.O⟩ σ.T a l Dq (ft .ready none) σ.O φ W1:=by
   have st:iz X ⟨w,φ,σ.O⟩ W1:=so (μ:=⟨w,φ,σ.O⟩) ky
   have hb: ∀k,k<w.heap.size→W1.heap[k]? =w.heap[k]? :=fun k hk=>ky.block k hk (by simp)
   refine⟨⟨fun t=>ak.cg st (hr.tmps t),hr.aY.cg st fun r h1 h2=>hb _ (BS hr.aY h1 h2)⟩,?_,by rw[kE];exact aaA,fun D hD=> (Y5 D hD).2.2⟩
   exact⟨ky.size,fun b ru hn=> ⟨hb b ru,hn⟩,fun _=>Nat.le_refl _,fun _ _=> ⟨rfl,rfl⟩,ky.os,ky.output,ky.tape,fun ad MF=>by simp only[World.frozen?,hb ad.block MF]⟩
 refine⟨l,_,W1,{target:= .fn (.func gf) lb,args:= #[.func (.yield l) #[] #[]]},W1,gf,#[.func (.yield l) #[] #[]]++lb,W1,aaz,?_,fun _ _=>trivial,?_,fun h=>by simp[Fr,Fence.wide] at h,?_⟩
 · simp only[resolve,hg]
   simp[go_sem]
 · simp[invoke,go_sem,enters]
 have key:=XP l (fun k F W=> ∃O φ',fb X ⟨w,φ,σ.O⟩ σ.T a l Dq (ft .ready none) O φ' W∧pU rec ps.toList ta tb σ.T (xs.drop k) O=some (e,σ')∧ ∀b,F b→b<W.heap.size∧ ¬Mu.own ⟨W,φ',O⟩ b∧b≠l)
   (fun k W=> ∃O φ' c,fb X ⟨w,φ,σ.O⟩ σ.T a l Dq (ft .done (some c)) O φ' W∧σ'=⟨σ.T,O⟩∧(e= .ret∧c= .ret∨ ∃id,e= .exit id∧c= .exit id)) W1
   ⟨ky.os,ky.tape,ky.output,ky.size,fun k hk=>ky.block k hk (by simp)⟩
   ⟨fun k F A B ⟨O,φ',h1,h2,h3⟩ hg=> ⟨O,φ',h1.grow hg,h2,fun b hb=>by
     rcases hb with hb| ⟨tq,Jr⟩
     · exact⟨Nat.lt_of_lt_of_le (h3 b hb).1 hg.size,(h3 b hb).2⟩
     · refine⟨Jr,?_,fun nS=> ?_⟩
       · rintro⟨r,q1,_,q3,q4⟩
         have:=BS (μ:=⟨A,φ',O⟩) h1.rel.aY q1 q3
         have hq: (φ' r).cK=b:=q4
         have: (φ' r).cK<A.heap.size:=this
         omega
       · subst nS
         have:=(Array.getElem?_eq_some_iff.1 h1.wY).1
         omega⟩,fun k F F' A ⟨O,φ',h1,h2,h3⟩ hF=> ⟨O,φ',h1,h2,fun b hb=>h3 b (hF b hb)⟩⟩ (fun k A B ⟨O,φ',c,h1,h2⟩ hg=> ⟨O,φ',c,h1.grow hg,h2⟩) ?round ⟨σ.O,φ,aaB,by simpa using ag,fun b hb=>hb.elim⟩
 case round=>
   rintro k F W v hv ⟨O,φ',rj,ns,hF⟩
   have hk:k<xs.length:=by rw[←CW];exact(List.getElem?_eq_some_iff.1 hv).1
   have hx:xs[k]? =some xs[k]:=List.getElem?_eq_getElem hk
   rw[List.drop_eq_getElem_cons hk] at ns
   generalize xs[k]=x at hx ns
   have qL:=yO k x v hx hv
   have Mw:=hlen x (List.mem_of_getElem? hx)
   simp only[pU] at ns
   split at ns
   rotate_left
   · simp at ns
   rename_i σ1 h1
   have aaC:=rj.le
   have aaD:aj X ⟨W,φ',O⟩ x v.toList:=aj.mono aaC qL
   have vH:v.size=ps.size:=by
     have:=qL.length
     rw[←Mw,this];simp
   have Nm:=C3 (ps:=ps.toList) (T:=σ.T) (tmps:=a.tmps) aaD rj.rel.tmps (by rw[ck];exact vG)
   have htm: ((ps.zip v).foldl (fun tmps (p:Tmp×Value)=>tmps.setIfInBounds p.1 p.2) a.tmps)=(ps.toList.zip v.toList).foldl (fun t p=>t.setIfInBounds p.1 p.2) a.tmps:=by
     rw[←Array.foldl_toList,Array.toList_zip]
   have hy:=run_yield (P:=X.P) (args:=v) rj.wY (by rw[kE];exact vH)
   rw[kE] at hy
   refine⟨fn,_,assign,body,hy,roundIn_of_wpIn tk ?_⟩
   have kD:iG X ⟨W,φ',O⟩ ⟨n.tm,0,some l⟩ ⟨ml σ.T ps.toList x,O⟩ {tmps:=(ps.zip v).foldl (fun tmps (p:Tmp×Value)=>tmps.setIfInBounds p.1 p.2) a.tmps,defers:=[]} W:=by
     refine⟨Marks.nil (Nat.zero_le _) (fun l' xQ=>by injection xQ with xQ;subst xQ;exact⟨_,rj.wY⟩),by show Array.size _=n.tm;rw[htm,Nm.2];exact ck,φ',⟨fun t=> ?_,rj.rel.aY⟩,Le.refl _⟩
     show ak X _ _ (Array.getD _ t undef)
     rw[htm];exact Nm.1 t
   refine wpIn_mono (hA l _ _ _ _ _ _ h1 kD) fun ex a1 w1 hq=> ?_
   obtain⟨rfl,EW,rz,φ1,MJ,Hd⟩:=hq
   have K4: ∀ {b:Nat} {o:Go.Obj},W.heap[b]? =some o→o.isCells=false→o.isWalk=false→w1.heap[b]? =some o:=fun {b o} hb i1 i2=>
     (Hd.bZ b (Array.getElem?_eq_some_iff.1 hb).1 (dP rj.rel.aY hb i1 i2)).1.trans hb
   have Js:fb X ⟨w,φ,σ.O⟩ σ.T a l Dq (ft .ready none) σ1.O φ1 w1:=⟨⟨fun t=>ak.mono Hd (rj.rel.tmps t),MJ.aY⟩,rj.le.trans Hd,K4 rj.wY rfl rfl,fun D hD=>K4 (rj.MI D hD) rfl rfl⟩
   show ∃w₂,_∧_
   refine⟨_,run_beginRound Js.wY (by rw[kE]),?_⟩
   have sU:fb X ⟨w,φ,σ.O⟩ σ.T a l Dq (ft .busy none) σ1.O φ1 (w1.putObj l (.loop (ft .busy none))):=Js.put hl cO
   have XQ: ({ft .ready none with state:= .busy}:Loop)=ft .busy none:=by rw[kE]
   rw[XQ]
   have st2:iz X ⟨w1,φ1,σ1.O⟩ (w1.putObj l (.loop (ft .busy none))):=js (μ:=⟨w1,φ1,σ1.O⟩) Js.wY rfl rfl
   have K5:iG X ⟨w1.putObj l (.loop (ft .busy none)),φ1,σ1.O⟩ ⟨n.tm,0,some l⟩ σ1 a1 (w1.putObj l (.loop (ft .busy none))):=by
     refine⟨?_,rz,φ1,⟨fun t=>ak.cg st2 (MJ.tmps t),sU.rel.aY⟩,Le.refl _⟩
     obtain⟨_,Ds,m1,m2,m3⟩:=EW
     refine⟨⟨Nat.zero_le _,fun l' xQ=>by injection xQ with xQ;subst xQ;exact⟨_,sU.wY⟩⟩,Ds,m1,m2,fun D hD=> ⟨Nat.zero_le _,?_⟩⟩
     rw[World.putObj_heap_other (fun e=>by have:=(m3 D hD).2;rw[e,Js.wY] at this;simp at this)]
     exact(m3 D hD).2
   split at ns
   ·
     rename_i σ2 h2
     refine wpIn_mono (hB l _ _ _ _ _ _ h2 K5) fun ex a3 w3 hq=> ?_
     obtain⟨rfl,_,_,φ3,XR,yo⟩:=hq
     have Ac: ∀ {b:Nat} {o:Go.Obj},(w1.putObj l (.loop (ft .busy none))).heap[b]? =some o→o.isCells=false→o.isWalk=false→w3.heap[b]? =some o:=fun {b o} hb i1 i2=>
       (yo.bZ b (Array.getElem?_eq_some_iff.1 hb).1 (dP sU.rel.aY hb i1 i2)).1.trans hb
     have Eh:fb X ⟨w,φ,σ.O⟩ σ.T a l Dq (ft .busy none) σ2.O φ3 w3:=⟨⟨fun t=>ak.mono yo (sU.rel.tmps t),XR.aY⟩,sU.le.trans yo,Ac sU.wY rfl rfl,fun D hD=>Ac (sU.MI D hD) rfl rfl⟩
     have He:fb X ⟨w,φ,σ.O⟩ σ.T a l Dq (ft .ready none) σ2.O φ3 (w3.putObj l (.loop (ft .ready none))):=Eh.put hl cO
     have e4: ({ft .busy none with state:=if (none:Option Code).isNone then .ready else .done,pending:=none}:Loop)=ft .ready none:=by rw[kE];rfl
     have Ny: ∀b,F b→(w3.putObj l (.loop (ft .ready none))).heap[b]? =W.heap[b]? ∧b<w3.heap.size∧ ¬Mu.own ⟨w3,φ3,σ2.O⟩ b:=fun b hb=>by
       obtain⟨f1,f2,f3⟩:=hF b hb
       have g1:=Hd.bZ b f1 f2
       have s1:W.heap.size≤w1.heap.size:=Hd.size
       have s2: (w1.putObj l (.loop (ft .busy none))).heap.size≤w3.heap.size:=yo.size
       have s3: (w1.putObj l (.loop (ft .busy none))).heap.size=w1.heap.size:=World.putObj_size ..
       have g2:=yo.bZ b (by show b< (w1.putObj l (.loop (ft .busy none))).heap.size;omega) g1.2
       refine⟨?_,by omega,g2.2⟩
       rw[World.putObj_heap_other f3,show w3.heap[b]? =(w1.putObj l (.loop (ft .busy none))).heap[b]? from g2.1,World.putObj_heap_other f3]
       exact g1.1
     refine⟨_,_,run_endRound none Eh.wY,.inl ⟨rfl,⟨σ2.O,φ3,by rw[e4];exact He,ns,fun b hb=> ?_⟩,fun b hb hn=> ?_,fun b hb=> ?_⟩⟩
     · rw[e4]
       refine⟨?_,(Ny b hb).2.2,(hF b hb).2.2⟩
       rw[show (w3.putObj l (.loop (ft .ready none))).heap.size=w3.heap.size from World.putObj_size ..]
       exact(Ny b hb).2.1
     · rw[e4]
       exact(He.le.bZ b hb hn).1.trans (rj.le.bZ b hb hn).1.symm
     · rw[e4];exact(Ny b hb).1
   ·
     rename_i e2 σ2 hnn h2
     simp only[Option.some.injEq,Prod.mk.injEq] at ns
     obtain⟨rfl,rfl⟩:=ns
     refine wpIn_mono (hB l _ _ _ _ _ _ h2 K5) fun ex a3 w3 hq=> ?_
     obtain⟨rfl,_,_,φ3,XR,yo⟩:=hq
     have Ac: ∀ {b:Nat} {o:Go.Obj},(w1.putObj l (.loop (ft .busy none))).heap[b]? =some o→o.isCells=false→o.isWalk=false→w3.heap[b]? =some o:=fun {b o} hb i1 i2=>
       (yo.bZ b (Array.getElem?_eq_some_iff.1 hb).1 (dP sU.rel.aY hb i1 i2)).1.trans hb
     have Eh:fb X ⟨w,φ,σ.O⟩ σ.T a l Dq (ft .busy none) σ2.O φ3 w3:=⟨⟨fun t=>ak.mono yo (sU.rel.tmps t),XR.aY⟩,sU.le.trans yo,Ac sU.wY rfl rfl,fun D hD=>Ac (sU.MI D hD) rfl rfl⟩
     have He: ∀c,fb X ⟨w,φ,σ.O⟩ σ.T a l Dq (ft .done (some c)) σ2.O φ3 (w3.putObj l (.loop (ft .done (some c)))):=fun c=>Eh.put hl cO
     have e4: ∀c,({ft .busy none with state:=if (some c:Option Code).isNone then .ready else .done,pending:=some c}:Loop)=ft .done (some c):=fun c=>by rw[kE];rfl
     cases e2 with
     | normal=>exact absurd rfl (hnn ·)
     | exit id=>exact⟨_,_,run_endRound (some (.exit id)) Eh.wY,.inr ⟨rfl,σ2.O,φ3,_,by rw[e4];exact He _,rfl,.inr ⟨id,rfl,rfl⟩⟩⟩
     | ret=>exact⟨_,_,run_endRound (some .ret) Eh.wY,.inr ⟨rfl,σ2.O,φ3,_,by rw[e4];exact He _,rfl,.inl ⟨rfl,rfl⟩⟩⟩
   · simp at ns
 refine CallsIn.mono (show CallsIn (Fr n.ro) (0 - 1) X.P gf _ W1 _ from key) ?_
 rintro ending W' ⟨⟨v,rfl⟩,(⟨_,O,φ',rj,ns,_⟩ | ⟨k,_,O,φ',c,rj,hσ,hc⟩)⟩
 · rw[List.drop_of_length_le (by omega)] at ns
   simp only[pU,Option.some.injEq,Prod.mk.injEq] at ns
   obtain⟨rfl,rfl⟩:=ns
   exact⟨none,_,by have:=run_endLoop (P:=X.P) rj.wY (by rw[kE];simp);rw[this,kE],rfl,wZ iO ck hr.aY hle (rj.put hl cO) fun D hD=> (Y5 D hD).1⟩
 · subst hσ
   refine⟨some c,_,by have:=run_endLoop (P:=X.P) rj.wY (by rw[kE];simp);rw[this,kE],?_⟩
   have kD:=wZ iO ck hr.aY hle (rj.put (L':=ft .exhausted (some c)) hl cO) fun D hD=> (Y5 D hD).1
   rcases hc with⟨rfl,rfl⟩ | ⟨id,rfl,rfl⟩
   · refine wpIn_ret ⟨rfl,?_⟩
     rw[kE] at kD;exact kD
   · refine wpIn_exit ⟨rfl,?_⟩
     rw[kE] at kD;exact kD
end Go.AM
namespace Go.AM
open Go Go.RowKit
def Ends (X:Ctx) (μ0:Mu) (n:Fp) (e:aX) (σ:St):Go.Exit→Go.Act→World→Prop:=fun ex a w=>ex=e.conv∧iG X μ0 n σ a w
section
variable {X:Ctx} {E:Env} {μ0:Mu} {n:Fp}
theorem vb {σ:St} {a:Go.Act} {w:World} (hs:iG X μ0 n σ a w) {c:Operand} {c':aQ} (hc:cr X c=some c') {b:Bool} (hb:a8 σ c'= .bool b):a.eval c= .bool b:=by
 obtain⟨_,_,φ,hr,_⟩:=hs
 have:=aL hr hc σ.O
 have e:a8 ⟨σ.T,σ.O⟩ c'=a8 σ c':=rfl
 rw[e,hb] at this
 simpa [ak] using this
theorem jR {h:Hints} {i:Nat} {ops:Array Oper} {d:Bool} {b:Code} {ta tb:aW}:zz h (.region i ops d) b ta tb= .seq ta tb:=by
 simp[zz,xV]
theorem Ei {h:Hints} {c:Operand} {x y b:Code} {ta tb:aW}:zz h (.cond c x y) b ta tb= .seq ta tb:=by
 simp[zz,xV]
theorem BT {    h:Hints} {x y:Code} {ax ay:aW}:zz h x y ax ay= .seq ax ay∨ ∃iR Ej dR i0 ops cc cx cy b1 i5 gg z5 id iS Hf dS rest it nx ne kT kO o1 o5 jB XS as tc bs tz tR tS uz,
   x= .seq (.region iR Ej dR) (.block id (.loop (.seq (.region i0 ops false) (.seq (.cond cc cx cy) (.block b1 (.seq (.region i5 gg false) z5))))))∧y= .seq (.region iS Hf dS) rest∧(ops[0]? =some o1∧o1.op= .next (.tmp it) false∧o1.dst=some nx∧o1.guard=none∧nx<h.n)∧
   (gg[0]? =some o5∧o5.op= .entry (.tmp it)∧o5.dst=some ne∧o5.guard=none∧ne<h.n)∧
   ax= .seq tR (.block jB (.loop (.seq (.region as) (.seq tc (.block XS (.seq (.region bs) tz))))))∧ay= .seq tS uz∧zz h x y ax ay= .seq tR (.seq (.keys it nx ne id kT kO (.seq (.region (as.drop 1)) tc) (.block XS (.seq (.region (bs.drop 1)) tz)) tS) uz):=by
 unfold zz
 split
 · rename_i it nx ne id kT kO tR jB as tc XS bs tz tS uz hk hr
   right
   unfold xV at hk
   split at hk
   · rename_i iR Ej dR id2 i0 ops cc cx cy b1 i5 gg z5
     split at hk
     · rename_i o1 o5 ho XT
       split at hk
       · rename_i it2 nx2 it3 Xm k1 k2 k3 k4 k5 k6
         split at hk
         · split at hk
           · rename_i hn
             simp only[Option.some.injEq,Prod.mk.injEq] at hk
             obtain⟨rfl,rfl,rfl,rfl,rfl,rfl⟩:=hk
             obtain⟨Jd,hn2,rfl⟩:=hn
             unfold zy at hr
             split at hr
             · rename_i iS Hf dS rest
               exact⟨iR,Ej,dR,i0,ops,cc,cx,cy,b1,i5,gg,z5,id2,iS,Hf,dS,rest,it3,nx2,Xm,_,_,o1,o5,jB,XS,as,tc,bs,tz,tR,tS,uz,rfl,rfl,⟨ho,k1,k2,k3,Jd⟩,⟨XT,k4,k5,k6,hn2⟩,rfl,rfl,rfl⟩
             · simp at hr
           · simp at hk
         · simp at hk
       · simp at hk
     · simp at hk
   · simp at hk
 · exact .inl rfl
def Jt (X:Ctx) (E:Env):Prop:= ∀g F caps xs,E.iter g caps=some xs→X.gq F=some g→ ∀ (μ:Mu) (lb:Array Value),aj X μ caps lb.toList→bc X μ→tA X μ F lb xs
def cQ:Code→Bool
 | .seq x y=>cQ x &&cQ y
 | .cond _ x y=>cQ x &&cQ y
 | .block _ b=>cQ b
 | .scope b=>cQ b
 | .loop _=>false
 | .rangeFunc .. =>false
 | _=>true
def jt (h:Hints) (μ0:Mu) (c:Code):Prop:=(h.KN=[]∧h.full=[])∨(gh h μ0∧cQ c=true)
theorem jt.Y6 {h:Hints} {μ0:Mu} {c:Code} (k:jt h μ0 c):gh h μ0:=k.elim (fun k=> .none k.1 k.2) fun k=>k.1
theorem jt.sub {h:Hints} {μ0:Mu} {c c':Code} (k:jt h μ0 c) (hs:cQ c=true→cQ c'=true):jt h μ0 c':=k.imp id fun k=> ⟨k.1,hs k.2⟩
theorem jt.qy {h:Hints} {μ0 μ1:Mu} {c c':Code} (k:jt h μ0 c) (hs:cQ c=false):jt h μ1 c':= .inl (k.elim id fun k=>by rw[hs] at k;exact absurd k.2 (by decide))
theorem BU (     hm:X.P.follows .mixedOrders=true) (Ir:Jt X E) {h:Hints}: ∀ (fuel:Nat),(∀m,m<fuel→mM X E (dw E (exec E m)))→ ∀ {n:Fp} (hn:h.n=n.1) {μ0:Mu} (c:Code) (gv:jt h μ0 c) (ac:aW) (σ σ':St) (e:aX) (a:Go.Act) (w:World),
   cA X h c=some ac→exec E fuel ac σ=some (e,σ')→iG X μ0 n σ a w→c.wpIn (Fr n.ro) 0 X.P (Ends X μ0 n e σ') a w:=by
 intro fuel
 induction fuel using Nat.strongRecOn with
 | _ Ad ND=>
   intro hH n hn μ0 c gv
   rcases Nat.eq_zero_or_pos Ad with h0| xz
   · subst h0;intro ac σ σ' e a w _ ag;simp[exec] at ag
   obtain⟨fuel,rfl⟩: ∃f,Ad=f+1:=⟨Ad - 1,by omega⟩
   have E1: ∀m,m<fuel→mM X E (dw E (exec E m)):=fun m BN=>hH m (by omega)
   have ih:=ND fuel (by omega)
   have H:=hH fuel (by omega)
   cases c with
   | skip=>
     intro ac σ σ' e a w aM ag hs
     simp[cA] at aM;subst aM
     simp[exec,aG] at ag
     obtain⟨rfl,rfl⟩:=ag
     exact wpIn_skip ⟨rfl,hs⟩
   | region id ops d=>
     intro ac σ σ' e a w aM ag hs
     cases d with
     | false=>
       simp only[cA,Option.map_eq_some_iff] at aM
       obtain⟨as,h1,rfl⟩:=aM
       simp only[exec,aG,Option.map_eq_some_iff,Prod.mk.injEq] at ag
       obtain⟨σ1,h2,rfl,rfl⟩:=ag
       refine wpIn_region ?_
       rw[List.range_eq_range']
       exact ee H gv.Y6 hn h1 ops.size 0 (by omega) hs (by simpa using h2) fun a' w' ic=> ⟨rfl,ic⟩
     | true=>
       simp only[cA,Option.map_eq_some_iff] at aM
       obtain⟨as,h1,rfl⟩:=aM
       simp only[exec,aG,Option.map_eq_some_iff,Prod.mk.injEq] at ag
       obtain⟨σ1,h2,rfl,rfl⟩:=ag
       exact z8 H gv.Y6 hm hn h1 hs h2 fun a' w' ic=> ⟨rfl,ic⟩
   | seq x y=>
     intro ac σ σ' e a w aM ag hs
     simp only[cA] at aM
     split at aM
     · rename_i ax ay h1 h2
       injection aM with aM;subst aM
       rcases BT (h:=h) (x:=x) (y:=y) (ax:=ax) (ay:=ay) with hk| hk
       rotate_left
       · obtain⟨iR,Ej,dR,i0,ops,cc,cx,cy,b1,i5,gg,z5,id,iS,Hf,dS,rest,it,nx,ne,kT,kO,o1,o5,jB,XS,as,tc,bs,tz,tR,tS,uz,rfl,rfl,⟨ho,k1,k2,k3,Jo⟩,⟨XT,k4,k5,k6,cO⟩,rfl,rfl,hk⟩:=hk
         rw[hk] at ag
         simp only[cA] at h1 h2
         split at h1
         rotate_left
         · simp at h1
         rename_i t1 t2 g1 g2
         rw[jR] at h1
         simp only[Option.some.injEq,aW.seq.injEq] at h1
         obtain⟨rfl,rfl⟩:=h1
         split at h2
         rotate_left
         · simp at h2
         rename_i t3 t4 g3 g4
         rw[jR] at h2
         simp only[Option.some.injEq,aW.seq.injEq] at h2
         obtain⟨rfl,rfl⟩:=h2
         rw[Option.map_eq_some_iff] at g2
         obtain⟨q1,g2,e2⟩:=g2
         rw[Option.map_eq_some_iff] at g2
         obtain⟨q2,g2,e1⟩:=g2
         subst e1
         simp only[aW.block.injEq,aW.loop.injEq] at e2
         obtain⟨rfl,e2⟩:=e2
         subst e2
         split at g2
         rotate_left
         · simp at g2
         rename_i t5 t6 g5 g6
         rw[jR] at g2
         simp only[Option.some.injEq,aW.seq.injEq] at g2
         obtain⟨e3,e4⟩:=g2
         subst e3 e4
         rw[Option.map_eq_some_iff] at g5
         obtain⟨l,g5,e4⟩:=g5
         simp only[aW.region.injEq] at e4
         subst e4
         split at g6
         rotate_left
         · simp at g6
         rename_i t7 t8 g7 g8
         rw[Ei] at g6
         simp only[Option.some.injEq,aW.seq.injEq] at g6
         obtain⟨e5,e6⟩:=g6
         subst e5 e6
         rw[Option.map_eq_some_iff] at g8
         obtain⟨q3,g8,e7⟩:=g8
         simp only[aW.block.injEq] at e7
         obtain⟨rfl,e7⟩:=e7
         subst e7
         split at g8
         rotate_left
         · simp at g8
         rename_i t9 t10 g9 g10
         rw[jR] at g8
         simp only[Option.some.injEq,aW.seq.injEq] at g8
         obtain⟨e8,e9⟩:=g8
         subst e8 e9
         rw[Option.map_eq_some_iff] at g9
         obtain⟨l5,g9,e10⟩:=g9
         simp only[aW.region.injEq] at e10
         subst e10
         simp only[exec,aG] at ag
         refine wpIn_seq (wpIn_seq ?_)
         split at ag
         rotate_left
         · rename_i r uD
           refine wpIn_mono (ih E1 hn (.region iR Ej dR) (gv.qy (by simp[cQ])) _ σ σ' e a w (by simpa only[cA] using g1) ag hs) fun ex a' w' hq=> ?_
           obtain⟨rfl,ic⟩:=hq
           cases e with
           | normal=>exact absurd ag (uD σ')
           | exit id=>exact⟨rfl,ic⟩
           | ret=>exact⟨rfl,ic⟩
         rename_i σ1 hx
         refine wpIn_mono (ih E1 hn (.region iR Ej dR) (gv.qy (by simp[cQ])) _ σ σ1 .normal a w (by simpa only[cA] using g1) hx hs) fun ex a' w' hq=> ?_
         obtain⟨rfl,nO⟩:=hq
         rcases Nat.eq_zero_or_pos fuel with hf| hf
         · subst hf;simp[exec] at ag
         obtain⟨f1,rfl⟩: ∃f,fuel=f+1:=⟨fuel - 1,by omega⟩
         simp only[exec,aG] at ag
         rcases Nat.eq_zero_or_pos f1 with Ju| Ju
         · subst Ju;simp[exec] at ag
         obtain⟨f2,rfl⟩: ∃f,f1=f+1:=⟨f1 - 1,by omega⟩
         have hB:ym X n ops (.cond cc cx cy) (exec E f2) (.seq (.region ((l.map fun o=> {o with pre:=[]}).drop 1)) t7):=by
           intro s s' e' μ1 a1 w1 Q K hb kD hQ hK
           rcases Nat.eq_zero_or_pos f2 with Hg| Hg
           · subst Hg;simp[exec] at hb
           obtain⟨f3,rfl⟩: ∃f,f2=f+1:=⟨f2 - 1,by omega⟩
           simp only[exec,aG] at hb
           rcases Nat.eq_zero_or_pos f3 with XU| XU
           · subst XU;simp[exec] at hb
           obtain⟨f4,rfl⟩: ∃f,f3=f+1:=⟨f3 - 1,by omega⟩
           have ck:0 <ops.size:=(Array.getElem?_eq_some_iff.1 ho).1
           split at hb
           rotate_left
           · rename_i r uD
             simp only[exec,aG,Option.map_eq_some_iff,Prod.mk.injEq] at hb
             obtain⟨s1,h3,rfl,rfl⟩:=hb
             exact absurd (by simp only[exec,aG,h3,Option.map_some]) (uD s1)
           rename_i s1 Hh
           simp only[exec,aG,Option.map_eq_some_iff,Prod.mk.injEq,true_and] at Hh
           obtain⟨s2,h3,rfl⟩:=Hh
           refine ee (hH f4 (by omega)) (jt.Y6 (c:= .skip) (gv.qy (by simp[cQ]))) hn g5 (ops.size - 1) 1 (by omega) kD (by rw[List.map_drop];exact h3) fun a2 w2 vP=>hK _ _ ?_
           refine wpIn_mono (ND (f4+1) (by omega) (fun m BN=>hH m (by omega)) hn (.cond cc cx cy) (gv.qy (by simp[cQ])) t7 s2 s' e' a2 w2 (by simpa only[cA] using g7) hb vP) fun ex a3 w3 hq=> ?_
           obtain⟨rfl,CN⟩:=hq
           have:=hQ a3 w3 CN
           cases e'<;>exact this
         have hM:BP X n gg z5 b1 (exec E f2) (.block b1 (.seq (.region ((l5.map fun o=> {o with pre:=[]}).drop 1)) t10)):=by
           intro s s' μ1 a1 w1 Q hb kD hQ
           rcases Nat.eq_zero_or_pos f2 with Hg| Hg
           · subst Hg;simp[exec] at hb
           obtain⟨f3,rfl⟩: ∃f,f2=f+1:=⟨f2 - 1,by omega⟩
           simp only[exec,aG] at hb
           rcases Nat.eq_zero_or_pos f3 with XU| XU
           · subst XU;simp[exec] at hb
           obtain⟨f4,rfl⟩: ∃f,f3=f+1:=⟨f3 - 1,by omega⟩
           have ck:0 <gg.size:=(Array.getElem?_eq_some_iff.1 XT).1
           have inner: ∀e' (R:Go.Exit→Go.Act→World→Prop),exec E (f4+1) (.seq (.region ((l5.map fun o=> {o with pre:=[]}).drop 1)) t10) s=some (e',s')→(∀a' w',iG X μ1 n s' a' w'→R e'.conv a' w')→wpOpsIn (Fr n.ro) 0 X.P gg (Exit.then (z5.wpIn (Fr n.ro) 0 X.P R) R) (List.range' 1 (gg.size - 1)) a1 w1:=by
             intro e' R hb hR
             simp only[exec,aG] at hb
             rcases Nat.eq_zero_or_pos f4 with hf4| hf4
             · subst hf4;simp[exec] at hb
             obtain⟨f5,rfl⟩: ∃f,f4=f+1:=⟨f4 - 1,by omega⟩
             split at hb
             rotate_left
             · rename_i r uD
               simp only[exec,aG,Option.map_eq_some_iff,Prod.mk.injEq] at hb
               obtain⟨s1,h3,rfl,rfl⟩:=hb
               exact absurd (by simp only[exec,aG,h3,Option.map_some]) (uD s1)
             rename_i s1 Hh
             simp only[exec,aG,Option.map_eq_some_iff,Prod.mk.injEq,true_and] at Hh
             obtain⟨s2,h3,rfl⟩:=Hh
             refine ee (hH f5 (by omega)) (jt.Y6 (c:= .skip) (gv.qy (by simp[cQ]))) hn g9 (gg.size - 1) 1 (by omega) kD (by rw[List.map_drop];exact h3) fun a2 w2 vP=> ?_
             refine wpIn_mono (ND (f5+1) (by omega) (fun m BN=>hH m (by omega)) hn z5 (gv.qy (by simp[cQ])) t10 s2 s' e' a2 w2 g10 hb vP) fun ex a3 w3 hq=> ?_
             obtain⟨rfl,CN⟩:=hq
             exact hR a3 w3 CN
           split at hb
           · rename_i jB s1 rj
             split at hb
             · rename_i heq
               simp only[Option.some.injEq,Prod.mk.injEq,true_and] at hb
               subst hb;subst heq
               exact inner _ _ rj fun a' w' ic=>by
                simp only[aX.conv,Go.Exit.inBlock,if_true]
                exact hQ a' w' ic
             · simp at hb
           · exact inner _ _ hb fun a' w' ic=>hQ a' w' ic
         split at ag
         rotate_left
         · rename_i r uD
           obtain⟨rfl,_⟩:=va (μ0:=μ0) (i0:=i0) (i5:=i5) hB hM ho k1 k2 k3 (by rw[←hn];exact Jo) XT k4 k5 k6 (by rw[←hn];exact cO) ag nO
           exact absurd ag (uD σ')
         rename_i σ2 hkr
         obtain⟨_,hwp⟩:=va (μ0:=μ0) (i0:=i0) (i5:=i5) hB hM ho k1 k2 k3 (by rw[←hn];exact Jo) XT k4 k5 k6 (by rw[←hn];exact cO) hkr nO
         refine wpIn_mono hwp fun ex a2 w2 hq=> ?_
         obtain⟨rfl,σe,σp,q1,q2,q3⟩:=hq
         refine wpIn_seq ?_
         refine wpIn_mono (ND f2 (by omega) (fun m BN=>hH m (by omega)) hn (.region iS Hf dS) (gv.qy (by simp[cQ])) _ σe σp .normal a2 w2 (by simpa only[cA] using g3) q2 q1) fun ex a3 w3 hq=> ?_
         obtain⟨rfl,CN⟩:=hq
         exact ND (f2+1) (by omega) (fun m BN=>hH m (by omega)) hn rest (gv.qy (by simp[cQ])) _ σ2 σ' e a3 w3 g4 ag (q3 a3 w3 CN)
       rw[hk] at ag
       simp only[exec,aG] at ag
       refine wpIn_seq ?_
       split at ag
       · rename_i σ1 hx
         refine wpIn_mono (ih E1 hn x (gv.sub fun k=>by simp only[cQ,Bool.and_eq_true] at k;exact k.1) ax σ σ1 .normal a w h1 hx hs) fun ex a' w' hq=> ?_
         obtain⟨rfl,ic⟩:=hq
         exact ih E1 hn y (gv.sub fun k=>by simp only[cQ,Bool.and_eq_true] at k;exact k.2) ay σ1 σ' e a' w' h2 ag ic
       · rename_i r cO
         refine wpIn_mono (ih E1 hn x (gv.sub fun k=>by simp only[cQ,Bool.and_eq_true] at k;exact k.1) ax σ σ' e a w h1 ag hs) fun ex a' w' hq=> ?_
         obtain⟨rfl,ic⟩:=hq
         cases e with
         | normal=>exact absurd ag (cO σ')
         | exit id=>exact⟨rfl,ic⟩
         | ret=>exact⟨rfl,ic⟩
     · simp at aM
   | cond c x y=>
     intro ac σ σ' e a w aM ag hs
     simp only[cA] at aM
     split at aM
     · rename_i c' ax ay h0 h1 h2
       injection aM with aM;subst aM
       simp only[exec,aG] at ag
       split at ag
       · rename_i hb
         exact wpIn_cond_true (vb hs h0 hb) (ih E1 hn x (gv.sub fun k=>by simp only[cQ,Bool.and_eq_true] at k;exact k.1) ax σ σ' e a w h1 ag hs)
       · rename_i hb
         exact wpIn_cond_false (vb hs h0 hb) (ih E1 hn y (gv.sub fun k=>by simp only[cQ,Bool.and_eq_true] at k;exact k.2) ay σ σ' e a w h2 ag hs)
       · simp at ag
     · simp at aM
   | block id b=>
     intro ac σ σ' e a w aM ag hs
     simp only[cA,Option.map_eq_some_iff] at aM
     obtain⟨ab,h1,rfl⟩:=aM
     simp only[exec,aG] at ag
     refine wpIn_block ?_
     split at ag
     · rename_i jB σ1 hb
       refine wpIn_mono (ih E1 hn b (gv.sub fun k=>by simpa only[cQ] using k) ab σ σ1 (.exit jB) a w h1 hb hs) fun ex a' w' hq=> ?_
       obtain⟨rfl,ic⟩:=hq
       simp only[aX.conv,Go.Exit.inBlock]
       split at ag
       · rename_i heq
         simp only[Option.some.injEq,Prod.mk.injEq] at ag
         obtain⟨rfl,rfl⟩:=ag
         rw[if_pos heq]
         exact⟨rfl,ic⟩
       · rename_i cO
         simp only[Option.some.injEq,Prod.mk.injEq] at ag
         obtain⟨rfl,rfl⟩:=ag
         rw[if_neg cO]
         exact⟨rfl,ic⟩
     · rename_i r cO
       refine wpIn_mono (ih E1 hn b (gv.sub fun k=>by simpa only[cQ] using k) ab σ σ' e a w h1 ag hs) fun ex a' w' hq=> ?_
       obtain⟨rfl,ic⟩:=hq
       cases e with
       | normal=>exact⟨rfl,ic⟩
       | exit jB=>exact absurd ag (cO jB σ')
       | ret=>exact⟨rfl,ic⟩
   | loop b=>
     intro ac σ σ' e a w aM ag hs
     simp only[cA,Option.map_eq_some_iff] at aM
     obtain⟨ab,h1,rfl⟩:=aM
     have rounds: ∀ (k:Nat),k≤fuel+1→ ∀ (σ:St),exec E k (.loop ab) σ=some (e,σ')→ ∃m,∀a w,iG X μ0 n σ a w→Code.roundsIn (Fr n.ro) 0 X.P b (Ends X μ0 n e σ') m a w:=by
       intro k
       induction k with
       | zero=>intro _ σ hr;simp[exec] at hr
       | succ k ihk=>
         intro hk σ hr
         simp only[exec,aG] at hr
         have body: ∀ (σ1:St) (e1:aX),exec E k ab σ=some (e1,σ1)→ ∀a w,iG X μ0 n σ a w→b.wpIn (Fr n.ro) 0 X.P (Ends X μ0 n e1 σ1) a w:=fun σ1 e1 hx a w hs=>
           ND k (by omega) (fun m BN=>hH m (by omega)) hn b (gv.qy rfl) ab σ σ1 e1 a w h1 hx hs
         split at hr
         · rename_i σ1 hx
           obtain⟨m,MK⟩:=ihk (by omega) σ1 hr
           refine⟨m+1,fun a w hs=> ?_⟩
           rw[roundsIn_succ]
           refine wpIn_mono (body σ1 .normal hx a w hs) fun ex a' w' hq=> ?_
           obtain⟨rfl,ic⟩:=hq
           exact MK a' w' ic
         · rename_i r cO
           refine⟨1,fun a w hs=> ?_⟩
           rw[roundsIn_succ]
           refine wpIn_mono (body σ' e hr a w hs) fun ex a' w' hq=> ?_
           obtain⟨rfl,ic⟩:=hq
           cases e with
           | normal=>exact absurd hr (cO σ')
           | exit jB=>exact⟨rfl,ic⟩
           | ret=>exact⟨rfl,ic⟩
     obtain⟨m,BN⟩:=rounds (fuel+1) (Nat.le_refl _) σ ag
     exact wpIn_loop_rounds m (BN a w hs)
   | exit id=>
     intro ac σ σ' e a w aM ag hs
     simp[cA] at aM;subst aM
     simp[exec,aG] at ag
     obtain⟨rfl,rfl⟩:=ag
     exact wpIn_exit ⟨rfl,hs⟩
   | ret=>
     intro ac σ σ' e a w aM ag hs
     simp[cA] at aM;subst aM
     simp[exec,aG] at ag
     obtain⟨rfl,rfl⟩:=ag
     exact wpIn_ret ⟨rfl,hs⟩
   | label l=>
     intro ac σ σ' e a w aM ag hs
     simp[cA] at aM;subst aM
     simp[exec,aG] at ag
     obtain⟨rfl,rfl⟩:=ag
     exact wpIn_label ⟨rfl,hs⟩
   | scope b=>
     intro ac σ σ' e a w aM ag hs
     simp only[cA,Option.map_eq_some_iff] at aM
     obtain⟨ab,h1,rfl⟩:=aM
     simp only[exec,aG] at ag
     refine BV ?_
     refine wpIn_mono (ih E1 hn b (gv.sub fun k=>by simpa only[cQ] using k) ab σ σ' e a w h1 ag hs) fun ex a' w' hq=> ?_
     obtain⟨rfl,ic⟩:=hq
     cases e<;>exact⟨rfl,ic⟩
   | rangeFunc f ps x y=>
     intro ac σ σ' e a w aM ag hs
     simp only[cA] at aM
     split at aM
     rotate_left
     · simp at aM
     rename_i f' ax ay h0 h1 h2
     split at aM
     rotate_left
     · simp at aM
     rename_i vG
     injection aM with aM;subst aM
     simp only[exec,aG] at ag
     split at ag
     · rename_i g caps tk
       split at ag
       · rename_i xs Cm
         split at ag
         · rename_i hlen
           obtain⟨iO,ck,φ,hr,hle⟩:=hs
           have hf:=aL hr h0 σ.O
           have hf':a8 ⟨σ.T,σ.O⟩ f'= .fn g caps:=tk
           rw[hf'] at hf
           simp only[ak] at hf
           obtain⟨F,cv,hF,Hi,C4⟩:=hf
           refine Ab (lb:=cv) (xs:=xs) (rec:=exec E fuel) ?_ ?_ ⟨iO,ck,φ,hr,hle⟩ ?_ hF ?_ ?_ ag
           · intro l s s' e' m b v hb kD
             exact ih E1 (n:=⟨n.tm,0,some l⟩) hn x (gv.qy rfl) ax s s' e' b v h1 hb kD
           · intro l s s' e' m b v hb kD
             exact ih E1 (n:=⟨n.tm,0,some l⟩) hn y (gv.qy rfl) ay s s' e' b v h2 hb kD
           · intro p hp
             rw[List.all_eq_true] at vG
             have:=vG p hp
             rw[Nat.blt_eq] at this
             rw[hn] at this
             exact this
           · intro φ2 ph
             exact Ir g F caps xs Cm Hi ⟨w,φ2,σ.O⟩ cv (by
               have Hg:=aL ph h0 σ.O
               have aaE:a8 ⟨σ.T,σ.O⟩ f'= .fn g caps:=tk
               rw[aaE] at Hg
               simp only[ak] at Hg
               obtain⟨F2,cv2,hF2,_,ML⟩:=Hg
               rw[hF] at hF2
               injection hF2 with _ _ e3
               rw[e3];exact ML) ph.aY
           · intro x hx
             rw[List.all_eq_true] at hlen
             have:=hlen x hx
             rw[Nat.beq_eq] at this
             simpa using this
         · simp at ag
       · simp at ag
     · simp at ag
   | goto l=>
     intro ac σ σ' e a w aM ag hs
     simp[cA] at aM;subst aM
     simp[exec,aG] at ag
   | refuse y=>
     intro ac σ σ' e a w aM ag hs
     simp[cA] at aM;subst aM
     simp[exec,aG] at ag
end
end Go.AM
