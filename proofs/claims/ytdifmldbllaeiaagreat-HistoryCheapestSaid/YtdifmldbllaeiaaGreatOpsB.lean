/- Texts of the proof. -/
import Derived.Test.YtdifmldbllaeiaaGreatOpsA
import Derived.Test.YtdifmldbllaeiaaGreatTail
import Derived.MapKept
import Derived.WideKeyRuns
import Derived.Scope
import Derived.Laws.IdiomRangeMap
set_option linter.unusedSimpArgs false
set_option linter.unusedVariables false
namespace Go.AM
open Go Go.RowKit
section
variable {X:Ctx} {E:Env} {C:bn} {o:Oper} {a:Go.Act} {T:Nat→V} {μ:Mu} {v:V} {σ':St}
theorem Iv (bs:List UInt8):flat (bs.map fun b=>Value.int .u8 b.toNat)=bs.map fun b=>Value.int .u8 b.toNat:=by
 induction bs with
 | nil=>rfl
 | cons b bs ih=>simp only[List.map_cons,flat,List.flatMap_cons] at ih ⊢;rw[ih];rfl
theorem ag.bytes (bs:List UInt8):ag X μ (bs.map fun b=>V.int .u8 b.toNat) (bs.map fun b=>Value.int .u8 b.toNat):=by
 induction bs with
 | nil=>simp[ag]
 | cons b bs ih=>simp only[List.map_cons,ag];exact⟨by simp[aj],ih⟩
theorem AN {sz:Nat} {x:V} {xv:Value} {k:List V→Act} {p:V×St} (ho:ba X μ) (hx:aj X μ x xv) (ah: (content sz x k).run C ⟨T,μ.O⟩=some p):
  ∃ys us,(k ys).run C ⟨T,μ.O⟩=some p∧ag X μ ys us∧(Builtin.lenOf xv).run X.P μ.w= .ok ys.length μ.w∧
   ∀w',w'.heap=μ.w.heap→ ∀n,n≤ys.length→(Builtin.firstCells sz n xv).run X.P w'= .ok (flat (us.take n)).toArray w':=by
 cases x<;>simp only[content] at ah<;>try exact absurd ah aq
 ·
  split at ah
  ·rename_i s hs
   simp only[aj] at hx
   obtain⟨bs,rfl,rfl⟩:=hx
   refine⟨_,_,ah,ag.bytes _,?_,fun w' kK n hn=> ?_⟩
   ·simp only[Builtin.lenOf,Sem.run_pure,List.length_map];rw[cn];rfl
   ·have: (bs.extract 0 n).data.map (fun b=>Value.int .u8 b.toNat)=(flat ((bs.data.toList.map fun b=>Value.int .u8 b.toNat).take n)).toArray:=by
     rw[←ahM,Iv]
     apply Array.ext'
     simp[ByteArray.data_extract,aho,ag5]
    simp only[Builtin.firstCells,Sem.run_pure,this]
  ·exact absurd ah aq
 ·
  simp only[aj] at hx
  obtain⟨q,rfl⟩:=hx
  refine⟨[],[],ah,by simp[ag],by simp[Builtin.lenOf],fun w' kK n hn=> ?_⟩
  have:n=0:=by simpa using hn
  subst this
  cases q<;>simp[Builtin.firstCells,loadCells,loadCellsFrom,flat]
 ·
  split at ah
  ·rename_i sz' xs hs
   subst hs
   simp only[aj] at hx
   obtain⟨_,_,q,cap,vs,rfl,_,lE,jZ⟩:=hx
   refine⟨xs,vs,ah,lE,by simp[Builtin.lenOf],fun w' kK n hn=> ?_⟩
   rcases jZ with rfl| ⟨b,q',rfl,_,_,dg⟩
   ·have:n=0:=by simpa using hn
    subst this
    cases q<;>simp[Builtin.firstCells,loadCells,loadCellsFrom,flat]
   ·simp only[Builtin.firstCells]
    exact vC (dg.bS (by rw[kK])) (by rw[←lE.length];exact hn)
  ·exact absurd ah aq
 ·
  rename_i r g off len
  simp only[Act.run] at ah
  split at ah
  ·rename_i es bo
   split at ah
   ·rename_i hc
    obtain⟨np,tF,Wu⟩:=hc
    simp only[aj] at hx
    obtain⟨q,cap,rfl,hle,_,bT⟩:=hx
    obtain⟨k0,k1,k2⟩:=bT np
    have oa: (aF es off len).length=len:=by simp[aF];omega
    obtain⟨q1,q2,q3,q4⟩:=ho.row r es bo k0
    by_cases cM:cap=0
    ·have GW:len=0:=ae0
     subst GW
     refine⟨_,[],ah,by simp[aF,ag],by simp[Builtin.lenOf,aF],fun w' kK n hn=> ?_⟩
     have:n=0:=by simpa [aF] using hn
     subst this
     cases q<;>simp[Builtin.firstCells,loadCells,loadCellsFrom,flat]
    ·rcases q4 with q4| ⟨cc,TT,vs,p1,p2,p3,p4⟩
     ·omega
     ·have hqe:=k2.resolve_left cM
      subst hqe
      refine⟨_,(vs.drop off).take len,ah,ag.take _ (ag.drop _ p3),by simp only[Builtin.lenOf,Sem.run_pure,oa],fun w' kK n hn=> ?_⟩
      simp only[Builtin.firstCells]
      have oV:=(p4.drop off).take len
      rw[tF] at oV
      rw[tF]
      refine vC (oV.bS (by rw[kK])) ?_
      rw[oa] at hn
      have:=p3.length
      simp;omega
   ·exact absurd ah aq
  ·exact absurd ah aq
theorem B4 (bU:Nat): ∀ (k c:Nat),c≤bU+(bU+768) / 4→Builtin.growBy bU k c≤bU+(bU+768) / 4
 | 0,c,h=>h
 | k+1,c,h=>by
   simp only[Builtin.growBy]
   split
   ·exact h
   ·exact B4 bU k _ ae0
theorem Iw {bU old:Nat} (h:old<bU):Builtin.nextslicecap bU old≤2*bU+192:=by
 unfold Builtin.nextslicecap
 split
 ·omega
 ·split
  ·omega
  ·have:=B4 bU 4 old ae0
   omega
theorem P9 {bU old bytes:Nat} (h:old<bU) (hl:bU≤uj bytes): ¬Builtin.nextslicecap bU old*bytes >2 ^ 48∧ ¬ ((bU:Int) >IntKind.i64.max):=by
 unfold uj at hl
 rw[ahj,Nat.sub_mul_div] at hl
 have h1:=Iw h
 have h2:bU+200≤140737488355328 / (bytes+1):=ae0
 have h3: (bU+200)*(bytes+1)≤140737488355328:=(Nat.le_div_iff_mul_le ae0).1 h2
 have h4:Builtin.nextslicecap bU old*bytes≤(2*(bU+200))*(bytes+1):=Nat.mul_le_mul ae0 ae0
 have h5: (2*(bU+200))*(bytes+1)=2*((bU+200)*(bytes+1)):=by rw[Nat.mul_assoc]
 have h6: (2:Nat) ^ 48=281474976710656:=afV
 have h7:bU+200≤(bU+200)*(bytes+1):=Nat.le_mul_of_pos_right _ ae0
 have h8:IntKind.i64.max=9223372036854775807:=afV
 refine⟨ae0,by rw[h8];omega⟩
theorem kc {sT xT e:TypeId} {d:TypeDesc} {sz n sLen sCap:Nat} {base:Option Addr} {xv:Value} {new:Array Value} {w w':World} {ty:TypeId}
  (hd:X.P.underlying sT=some (.slice e)) (hx:X.P.underlying xT=some d) (L3: ∀k,d≠ .int k) (hn:bO X e=some sz) (hl: (Builtin.lenOf xv).run X.P w= .ok n w)
  (iM:sLen+n≤sCap) (pS: (Builtin.firstCells sz n xv).run X.P w= .ok new w)
  (eJ:match base with| some p=> (storeCells (p.add (sLen*sz)) new.toList).run X.P w= .ok () w'| none=>w'=w):
  (Builtin.append_ #[sT,xT] ty #[.slice base sLen sCap,xv]).run X.P w= .ok (.slice base (sLen+n) sCap) w':=by
 have hm: (match d with| .int _=>true| _=>false)=false:=by
  cases d<;>first| rfl| exact absurd rfl (L3 _)
 have Ak: (#[sT,xT]:Array TypeId)[0]? =some sT:=rfl
 have MG: (#[sT,xT]:Array TypeId)[1]? =some xT:=rfl
 have PB: (#[Value.slice base sLen sCap,xv]:Array Value)[0]? =some (.slice base sLen sCap):=rfl
 have Lj: (#[Value.slice base sLen sCap,xv]:Array Value)[1]? =some xv:=rfl
 simp only[Builtin.append_,Ak,MG,PB,Lj,Sem.run_bind,run_underlying hd,Result.andThen_ok,eT hn,run_underlying hx,Sem.run_pure,hm,aga,if_false,hl]
 rw[if_pos iM]
 simp only[Bool.not_false,if_true,Sem.run_bind,pS,Result.andThen_ok]
 cases base with
 | none=>simp only at eJ;subst eJ;simp
 | some p=>simp only at eJ;simp[Sem.run_bind,eJ]
theorem oP {sT xT e:TypeId} {d:TypeDesc} {sz n sLen sCap:Nat} {base:Option Addr} {xv zv:Value} {old new:Array Value} {w:World} {ty:TypeId} {i:TypeInfo}
  (hd:X.P.underlying sT=some (.slice e)) (hx:X.P.underlying xT=some d) (L3: ∀k,d≠ .int k) (hn:bO X e=some sz) (hi:X.P.info? e=some i)
  (hz: ∀w,(zeroValue e).run X.P w= .ok zv w) (hl: (Builtin.lenOf xv).run X.P w= .ok n w) (eK:sCap<sLen+n) (Gg:sLen+n≤uj i.bytes)
  (hold: (Builtin.firstCells sz sLen (.slice base sLen sCap)).run X.P w.drew= .ok old w.drew) (pS: (Builtin.firstCells sz n xv).run X.P w.drew= .ok new w.drew):
  ∃newCap,sLen+n≤newCap∧(Builtin.append_ #[sT,xT] ty #[.slice base sLen sCap,xv]).run X.P w=
   .ok (.slice (some ⟨w.heap.size,0,none⟩) (sLen+n) newCap) (w.drew.alloc (.cells (old++new++Builtin.zeroCells zv.cells (newCap - (sLen+n))) e)):=by
 have hm: (match d with| .int _=>true| _=>false)=false:=by
  cases d<;>first| rfl| exact absurd rfl (L3 _)
 have Ak: (#[sT,xT]:Array TypeId)[0]? =some sT:=rfl
 have MG: (#[sT,xT]:Array TypeId)[1]? =some xT:=rfl
 have PB: (#[Value.slice base sLen sCap,xv]:Array Value)[0]? =some (.slice base sLen sCap):=rfl
 have Lj: (#[Value.slice base sLen sCap,xv]:Array Value)[1]? =some xv:=rfl
 obtain⟨r1,r2⟩:=P9 eK Gg
 refine⟨(Question.appendCap (sLen+n) sCap e).cut (w.tape w.drawn (.appendCap (sLen+n) sCap e)),by simp[Question.cut],?_⟩
 simp only[Builtin.append_,Ak,MG,PB,Lj,Sem.run_bind,run_underlying hd,Result.andThen_ok,eT hn,run_underlying hx,Sem.run_pure,hm,aga,if_false,hl]
 rw[if_neg ae0]
 simp only[Sem.run_bind,run_typeInfo w hi,Result.andThen_ok]
 have c2: ¬ (((sLen+n:Nat):Int) >IntKind.i64.max∧(False∨i.bytes=0)):=fun h=>r2 h.1
 rw[if_neg c2]
 simp only[Sem.run_bind,run_typeInfo w hi,Result.andThen_ok]
 rw[if_neg r1]
 have hch: (choose (.appendCap (sLen+n) sCap e)).run X.P w= .ok ((Question.appendCap (sLen+n) sCap e).cut (w.tape w.drawn (.appendCap (sLen+n) sCap e))) w.drew:=by
  rw[run_choose];simp only[Question.forced,aga,if_false];rfl
 simp only[Sem.run_bind,hch,Result.andThen_ok,run_typeInfo w.drew hi,run_askRoom,hold,Bool.not_false,if_true,pS,hz,Sem.run_pure,newRow,run_newObj]
 rfl
theorem Gh {us rest:List Value} {sz:Nat} (h: ∀u ∈ us,u.cells.size=sz):dI (flat us++rest) 0 sz us:=by
 intro i v hv
 have hm:=h v (List.mem_of_getElem? hv)
 refine⟨hm,fun j x hx=> ?_⟩
 have:=ux h hv hx
 have bk:i*sz+j< (flat us).length:=(af0.1 this).1
 rw[agK,agM bk];exact this
theorem Gi (us vs:List Value):flat (us++vs)=flat us++flat vs:=by simp[flat]
theorem pY {zv:Value} {sz n:Nat} (h:zv.cells.size=sz): (Builtin.zeroCells zv.cells n).size=n*sz:=by simp[Builtin.zeroCells,h]
theorem L4 {α:Type} {n:Nat} {l:List α} (h:l.length≤n):l.take n=l:=List.take_of_length_le h
theorem Gj {O1:Nat→Obj} (hO:ba X ⟨μ.w,μ.φ,O1⟩) {r sz newCap:Nat} {olds ys:List V} {ous us:List Value} {zv:Value} {e:TypeId} {o0:Obj}
  (ho0:o0={gen:=o0.gen,sz:=sz,arr:=true,fz:=false,es:=some (olds++ys)}) (Xi:o0.gen=(O1 r).gen+1)
  (bF:0 <sz) (h1:ag X ⟨μ.w,μ.φ,O1⟩ olds ous) (h2:ag X ⟨μ.w,μ.φ,O1⟩ ys us) (b1:olds.all (aU · sz)=true) (b2:ys.all (aU · sz)=true)
  (hz:zv.cells.size=sz) (cM:olds.length+ys.length≤newCap):
  let μ':Mu:=⟨μ.w.drew.alloc (.cells ((flat ous).toArray++(flat us).toArray++Builtin.zeroCells zv.cells (newCap - (olds.length+ys.length))) e),cU μ.φ r ⟨μ.w.heap.size,0,newCap⟩,cU O1 r o0⟩
  Le ⟨μ.w,μ.φ,O1⟩ μ'∧ba X μ':=by
 intro μ'
 obtain⟨led,hod⟩:=Le.drew (X:=X) (μ:=⟨μ.w,μ.φ,O1⟩) hO
 have bl:ag X ⟨μ.w.drew,μ.φ,O1⟩ (olds++ys) (ous++us):=ag.mono led (h1.append h2)
 have hs: ∀u ∈ ous++us,u.cells.size=sz:=((h1.append h2).cells_one (sz:=sz) (by simp only[ag6,b1,b2,agE])).1
 have T9:=h1.length
 have GP:=h2.length
 have CX:=iH hs
 have ig: ((flat ous).toArray++(flat us).toArray++Builtin.zeroCells zv.cells (newCap - (olds.length+ys.length))).toList=flat (ous++us)++(Builtin.zeroCells zv.cells (newCap - (olds.length+ys.length))).toList:=by
  simp[Gi]
 have nM:newCap*sz≤((flat ous).toArray++(flat us).toArray++Builtin.zeroCells zv.cells (newCap - (olds.length+ys.length))).size:=by
  rw[←cn,ig,List.length_append,CX,cn (Builtin.zeroCells _ _),pY hz,←agv]
  apply agC
  rw[List.length_append];omega
 have:=Dp (X:=X) (μ:=⟨μ.w.drew,μ.φ,O1⟩) hod r sz newCap true (es:=olds++ys) (vs:=ous++us) (c:=(flat ous).toArray++(flat us).toArray++Builtin.zeroCells zv.cells (newCap - (olds.length+ys.length))) e bF
  (by simp;omega) (by simp only[ag6,b1,b2,agE]) bl nM (fun i u hu=>by
    have C5:=Gh (rest:=(Builtin.zeroCells zv.cells (newCap - (olds.length+ys.length))).toList) hs
    rw[←ig] at C5
    obtain⟨m1,m2⟩:=C5 i u hu
    refine⟨m1,fun j x hx=> ?_⟩
    have:=m2 j x hx
    rw[agK] at this
    rw[←ahG];exact this)
 have heq: ({gen:=(O1 r).gen+1,sz:=sz,arr:=true,fz:=false,es:=some (olds++ys)}:Obj)=o0:=by rw[ho0,Xi]
 simp only[heq] at this
 exact⟨led.trans this.1,this.2⟩
theorem pZ {sz:Nat} {p:Option Addr} {n m:Nat} {w:World}: (Builtin.firstCells sz 0 (.slice p n m)).run X.P w= .ok #[] w:=by
 cases p<;>simp[Builtin.firstCells,loadCells,loadCellsFrom]
theorem zI (bS:Bool) {c:Call} {s x:Operand} {sT xT e:TypeId} {d:TypeDesc} {s' x':aT} {r sz:Nat} {i:TypeInfo} {z:V} (hr:Rel X T a μ) (ho:o.op= .call c) (hc:c.callee= .builtin .append)
  (j6:c.args= #[s,x]) (Ix:c.argTypes= #[sT,xT]) (hd:bJ X sT=some (.slice e)) (hx:bJ X xT=some d) (L3: ∀k,d≠ .int k) (hn:bO X e=some sz) (hi:info X e=some i)
  (hz:eY X e=some z) (P7:aU z sz=true) (h1:dc X s=some s') (h2:dc X x=some x')
  (ah: (content sz (bu ⟨T,μ.O⟩ x') fun ys=>match bS with| true=>Em r sz (uj i.bytes) (bu ⟨T,μ.O⟩ s') ys| false=>mM ys fun ys=>Em r sz (uj i.bytes) (bu ⟨T,μ.O⟩ s') ys).run C ⟨T,μ.O⟩=some (v,σ')):σ'.T=T∧cT X o a μ σ'.O v:=by
 have hs:=aQ hr h1 μ.O
 have Xu:=aQ hr h2 μ.O
 have oX:X.P.underlying sT=some (.slice e):=hd
 have wh:X.P.underlying xT=some d:=hx
 have LF:X.P.info? e=some i:=hi
 obtain⟨ys0,us,k1,k2,k3,k4⟩:=AN hr.a8 Xu ah
 have gu: ∃ys O1,(Em r sz (uj i.bytes) (bu ⟨T,μ.O⟩ s') ys).run C ⟨T,O1⟩=some (v,σ')∧ag X ⟨μ.w,μ.φ,O1⟩ ys us∧Le μ ⟨μ.w,μ.φ,O1⟩∧ba X ⟨μ.w,μ.φ,O1⟩:=by
  cases bS with
  | true=>exact⟨ys0,μ.O,k1,k2,Le.refl μ,hr.a8⟩
  | false=>exact zD (μ:=μ) hr.a8 k2 k1
 obtain⟨ys,O1,g1,g2,g3,g4⟩:=gu
 unfold Em at g1
 have hyl:ys.length=ys0.length:=by rw[g2.length,k2.length]
 rw[←hyl] at k3 k4
 have MP:us.length=ys.length:=g2.length.symm
 have Qa: ∀w',w'.heap=μ.w.heap→(Builtin.firstCells sz ys.length (a.eval x)).run X.P w'= .ok (flat us).toArray w':=fun w' kK=>by
  have:=k4 w' kK ys.length (af6 _)
  rwa [L4 ae0] at this
 have Qb:=Qa μ.w rfl
 have Qc:=Qa μ.w.drew rfl
 have iY:=aj.mono g3 hs
 have fin: ∀val w',(Builtin.append_ #[sT,xT] o.type #[a.eval s,a.eval x]).run X.P μ.w= .ok val w'→(execOp a.eval o).run X.P μ.w= .ok (.value val) w':=fun val w' hv=>by
  refine gz ho hc ?_
  simp only[builtin,j6,Ix]
  refine du ?_
  simpa using hv
 split at g1
 ·rename_i hb
  simp only[af2,decide_eq_true_eq] at hb
  obtain⟨jM,bF⟩:=hb
  obtain⟨zv,xp,Am⟩:=ij hz μ.w
  have hzw: ∀w,(zeroValue e).run X.P w= .ok zv w:=fun w=>by
   obtain⟨zv',q1,q2⟩:=ij hz w
   have:zv'=zv:=by
    simp only[eY,info,Option.bind_eq_some_iff] at hz
    obtain⟨i0,e1,zq,e2,_⟩:=hz
    simp only[zeroValue,Sem.run_bind,run_typeInfo w e1,run_typeInfo μ.w e1,Result.andThen_ok,e2,Sem.run_pure] at q1 xp
    injection q1 with q1 _;injection xp with xp _
    rw[←q1,←xp]
   rw[←this];exact q1
  obtain⟨zH,It⟩:=eG (X:=X) (μ:=μ) Am
  have P8:zv.cells.size=sz:=by rw[zH.fp It,(cm P7).2]
  obtain⟨P0,DA⟩:=g2.cells_one jM
  have CX:=iH P0
  have uz:ys.length=0→ ∀ (p:Option Addr) (len cap:Nat),len≤cap→a.eval s= .slice p len cap→(execOp a.eval o).run X.P μ.w= .ok (.value (.slice p len cap)) μ.w:=fun h0 p len cap hle hp=>by
   have hu0:us=[]:=by
    have:us.length=0:=ae0
    simpa using this
   have xq:=kc (X:=X) (sT:=sT) (xT:=xT) (sLen:=len) (sCap:=cap) (base:=p) (ty:=o.type) (w':=μ.w) oX wh L3 hn k3 ae0 Qb (by
     cases p with
     | none=>rfl
     | some q=>simp[hu0,flat,storeCells])
   rw[h0,ahk] at xq
   exact fin _ _ (by rw[hp];exact xq)
  generalize bu ⟨T,μ.O⟩ s'=sv at g1 hs iY
  split at g1
  ·
   simp only[aj] at hs
   obtain⟨p,hp⟩:=hs
   split at g1
   ·rename_i Qd
    obtain⟨rfl,rfl⟩:=aY g1
    have Wz:ys.length=0:=by simpa [List.isEmpty_iff] using Qd
    exact⟨rfl,.slice p 0 0,μ.w,μ.φ,.inl (uz Wz p 0 0 (af6 _) hp),by simp[aj],g3,g4⟩
   ·rename_i Qd
    split at g1
    ·rename_i Gg
     simp only[Act.run,afY,af4] at g1
     obtain⟨rfl,rfl⟩:=g1
     have aa6:0 <ys.length:=by
      rcases agr ys.length with h0| h0
      ·exact absurd (by simpa [List.isEmpty_iff] using h0) Qd
      ·exact h0
     obtain⟨newCap,Iy,xq⟩:=oP (X:=X) (sT:=sT) (xT:=xT) (sLen:=0) (sCap:=0) (base:=p) (ty:=o.type) (old:= #[]) oX wh L3 hn LF hzw k3 ae0 (by simpa using Gg) pZ Qc
     obtain⟨Iu,Ux⟩:=Gj (X:=X) (μ:=μ) (O1:=O1) g4 (r:=r) (sz:=sz) (newCap:=newCap) (olds:=[]) (ous:=[]) (ys:=ys) (us:=us) (zv:=zv) (e:=e)
      (o0:={gen:=(O1 r).gen+1,sz:=sz,arr:=true,fz:=false,es:=some ys}) rfl rfl bF (by simp[ag]) g2 rfl jM P8 (by simpa using Iy)
     have RC: (flat ([]:List Value)).toArray= #[]:=rfl
     simp only[RC,agi] at Iu Ux
     refine⟨rfl,.slice (some ⟨μ.w.heap.size,0,none⟩) (0+ys.length) newCap,_,cU μ.φ r ⟨μ.w.heap.size,0,newCap⟩,.inl (fin _ _ (by rw[hp];exact xq)),?_,g3.trans Iu,Ux⟩
     simp only[aj,aw]
     exact⟨_,newCap,by rw[agK],ae0,af6 _,fun _=> ⟨ae0,afU,afU⟩⟩
    ·exact absurd g1 aq
  ·
   rename_i sz' xs
   split at g1
   ·rename_i Qd
    obtain⟨rfl,rfl⟩:=aY g1
    have Wz:ys.length=0:=by simpa [List.isEmpty_iff] using Qd
    have nZ:=hs
    simp only[aj] at nZ
    obtain⟨_,_,p,cap,_,hp,hle,_⟩:=nZ
    exact⟨rfl,a.eval s,μ.w,μ.φ,.inl (by rw[hp];exact uz Wz p _ cap hle hp),iY,g3,g4⟩
   ·exact absurd g1 aq
  ·
   rename_i r' g off len
   simp only[Act.run] at g1
   split at g1
   ·rename_i es bo
    split at g1
    ·rename_i hc
     obtain⟨cE,kN,gu,je,iM,Gg⟩:=hc
     simp only[aj] at iY
     obtain⟨p,cap,hp,hle,oO,bT⟩:=iY
     obtain⟨a0,a1,a2⟩:=bT cE
     obtain⟨q1,q2,q3,q4⟩:=g4.row r' es bo a0
     simp only at q1 q2 q3 q4
     have eS:O1 r'={O1 r' with es:=some es}:=by rw[←bo]
     split at g1
     ·rename_i j8
      simp only[Act.run,afY,af4] at g1
      obtain⟨rfl,rfl⟩:=g1
      refine⟨rfl,?_⟩
      rcases agr ys.length with h0| h0
      ·
       have Wz:ys=[]:=by simpa using h0
       have Xq:overwrite es (off+len) ys=es:=by simp[overwrite,Wz]
       have hO:cU O1 r' {O1 r' with es:=some (overwrite es (off+len) ys)}=O1:=by
        funext q
        by_cases hq:q=r'
        ·subst hq;rw[aw,Xq];exact eS.symm
        ·rw[aW _ _ hq]
       simp only[hO]
       refine⟨.slice p len cap,μ.w,μ.φ,.inl (uz h0 p len cap hle hp),?_,g3,g4⟩
       rw[h0]
       simp only[aj]
       exact⟨p,cap,rfl,hle,oO,bT⟩
      ·have cM:cap≠0:=ae0
       have il: (μ.φ r').cap≠0:=ae0
       rcases q4 with q4| ⟨cc,T0,vs,p1,p2,p3,p4⟩
       ·exact absurd q4 il
       ·have B1:=a2.resolve_left cM
        subst B1
        have BN:=p3.length
        have C5:dI cc.toList (μ.φ r').base sz vs:=by have:=jN p1 p4;rwa [je] at this
        rw[je] at p2
        have hmul: (off+len+ys.length)*sz≤(μ.φ r').cap*sz:=agC _ ae0
        rw[agv] at hmul
        have hw:=C5.write (k:=off+len) (us:=us) ae0 P0 (by rw[cn cc,MP];omega)
        have eJ:=jO (P:=X.P) (w:=μ.w) (q:=(μ.φ r').base+(off+len)*sz) p1 (flat us) (by rw[CX,MP];omega) DA
        have xq:=kc (X:=X) (sT:=sT) (xT:=xT) (sLen:=len) (sCap:=cap) (ty:=o.type) (base:=some ⟨(μ.φ r').bV,(μ.φ r').base+off*(O1 r').sz,none⟩)
         (w':=μ.w.setRow (μ.φ r').bV (cN cc.toList ((μ.φ r').base+(off+len)*sz) (flat us)).toArray) oX wh L3 hn k3 ae0 Qb (by
           simp only[gA,je]
           have: (μ.φ r').base+off*sz+len*sz=(μ.φ r').base+(off+len)*sz:=by rw[agv];omega
           rw[this];exact eJ)
        have Qe:=kU (X:=X) (μ:=⟨μ.w,μ.φ,O1⟩) g4 r' bo gu p1 il (c':=(cN cc.toList ((μ.φ r').base+(off+len)*sz) (flat us)).toArray)
         (by
           have: (cN cc.toList ((μ.φ r').base+(off+len)*sz) (flat us)).length=cc.toList.length:=fI (by rw[cn cc,CX,MP];omega)
           simpa using this)
         (O1 r').gen (μ.φ r').base (μ.φ r').cap (es':=overwrite es (off+len) ys) (vs':=vs.take (off+len)++us++vs.drop (off+len+us.length)) (.inl ⟨rfl,rfl,rfl⟩) il
         (by simp[overwrite];omega)
         (by
           simp only[je] at q3 ⊢
           have t1:=kV (p:=(aU · sz)) (off+len) q3
           have t2:=nF (p:=(aU · sz)) (off+len+ys.length) q3
           simp only[overwrite,ag6,t1,jM,t2,agE])
         (by
           have:=((ag.take (off+len) p3).append g2).append (ag.drop (off+len+ys.length) p3)
           rw[MP];exact this)
         (by rw[je];exact p2)
         (fun j y hy=>by
           obtain⟨m1,m2⟩:=hw j y hy
           refine⟨by rw[je];exact m1,fun l q hq=> ?_⟩
           have:=m2 l q hq
           simp only[je]
           simpa using this)
        refine⟨_,_,_,.inl (fin _ _ (by rw[hp];exact xq)),?_,g3.trans Qe.1,Qe.2⟩
        simp only[aj,aw]
        exact⟨_,cap,rfl,ae0,ae0,fun _=> ⟨a0,a1,.inr rfl⟩⟩
     ·rename_i j8
      simp only[Act.run,afY,af4] at g1
      obtain⟨rfl,rfl⟩:=g1
      refine⟨rfl,?_⟩
      have aa6:0 <ys.length:=ae0
      have oa: (aF es off len).length=len:=by simp[aF];omega
      have XM: (aF es off len).all (aU · sz)=true:=by
       rw[je] at q3;exact kV _ (nF _ q3)
      by_cases lM:len+ys.length≤cap
      ·
       have cM:cap≠0:=ae0
       have il: (μ.φ r').cap≠0:=ae0
       rcases q4 with q4| ⟨cc,T0,vs,p1,p2,p3,p4⟩
       ·exact absurd q4 il
       ·have B1:=a2.resolve_left cM
        subst B1
        have BN:=p3.length
        have C5:dI cc.toList (μ.φ r').base sz vs:=by have:=jN p1 p4;rwa [je] at this
        rw[je] at p2
        have hmul: (off+len+ys.length)*sz≤(μ.φ r').cap*sz:=agC _ ae0
        rw[agv] at hmul
        have hw:=C5.write (k:=off+len) (us:=us) ae0 P0 (by rw[cn cc,MP];omega)
        have eJ:=jO (P:=X.P) (w:=μ.w) (q:=(μ.φ r').base+(off+len)*sz) p1 (flat us) (by rw[CX,MP];omega) DA
        have xq:=kc (X:=X) (sT:=sT) (xT:=xT) (sLen:=len) (sCap:=cap) (ty:=o.type) (base:=some ⟨(μ.φ r').bV,(μ.φ r').base+off*(O1 r').sz,none⟩)
         (w':=μ.w.setRow (μ.φ r').bV (cN cc.toList ((μ.φ r').base+(off+len)*sz) (flat us)).toArray) oX wh L3 hn k3 ae0 Qb (by
           simp only[gA,je]
           have: (μ.φ r').base+off*sz+len*sz=(μ.φ r').base+(off+len)*sz:=by rw[agv];omega
           rw[this];exact eJ)
        have GR:dI (cN cc.toList ((μ.φ r').base+(off+len)*sz) (flat us)) ((μ.φ r').base+off*sz) sz ((vs.drop off).take len++us):=by
         have h3:=(hw.take (off+len+us.length)).drop off
         have e1: (List.take (off+len+us.length) (vs.take (off+len)++us++vs.drop (off+len+us.length))).drop off=(vs.drop off).take len++us:=by
           have l1: (vs.take (off+len)).length=off+len:=by simp;omega
           have l2: (vs.take (off+len)++us).length=off+len+us.length:=by rw[List.length_append,l1]
           rw[←l2,List.take_left,List.drop_append_of_le_length ae0,List.drop_take]
           congr 2;omega
         rwa [e1] at h3
        have afw:off*sz+cap*sz=(μ.φ r').cap*sz:=by rw[←agv];congr 1;omega
        have Qe:=kU (X:=X) (μ:=⟨μ.w,μ.φ,O1⟩) g4 r' bo gu p1 il (c':=(cN cc.toList ((μ.φ r').base+(off+len)*sz) (flat us)).toArray)
         (by
           have: (cN cc.toList ((μ.φ r').base+(off+len)*sz) (flat us)).length=cc.toList.length:=fI (by rw[cn cc,CX,MP];omega)
           simpa using this)
         (g+1) ((μ.φ r').base+off*sz) cap (es':=aF es off len++ys) (vs':=(vs.drop off).take len++us) (.inr (by simp only;omega)) cM
         (by rw[List.length_append,oa];omega)
         (by
           simp only[je]
           simp only[ag6,XM,jM,agE])
         ((ag.take len (ag.drop off p3)).append g2)
         (by simp only[je];omega)
         (fun j y hy=>by
           obtain⟨m1,m2⟩:=GR j y hy
           refine⟨by rw[je];exact m1,fun l q hq=> ?_⟩
           have:=m2 l q hq
           simp only[je]
           simpa using this)
        refine⟨_,_,_,.inl (fin _ _ (by rw[hp];exact xq)),?_,g3.trans Qe.1,Qe.2⟩
        simp only[aj,aw]
        exact⟨_,cap,rfl,ae0,af6 _,fun _=> ⟨a0,ae0,.inr (by simp[je])⟩⟩
      ·
       have hold: ∃ous,ag X ⟨μ.w,μ.φ,O1⟩ (aF es off len) ous∧(Builtin.firstCells sz len (.slice p len cap)).run X.P μ.w.drew= .ok (flat ous).toArray μ.w.drew:=by
        by_cases cM:cap=0
        ·have GW:len=0:=ae0
         subst GW
         exact⟨[],by simp[aF,ag],pZ⟩
        ·rcases q4 with q4| ⟨cc,T0,vs,p1,p2,p3,p4⟩
         ·omega
         · have B1:=a2.resolve_left cM
           subst B1
           have BN:=p3.length
           refine⟨(vs.drop off).take len,ag.take _ (ag.drop _ p3),?_⟩
           have oV:=(p4.drop off)
           rw[je] at oV ⊢
           have:=vC (P:=X.P) (oV.bS (w':=μ.w.drew) rfl) (n:=len) (by simp;omega)
           simpa [Builtin.firstCells] using this
       obtain⟨ous,Uy,Ux⟩:=hold
       obtain⟨newCap,Iy,xq⟩:=oP (X:=X) (sT:=sT) (xT:=xT) (sLen:=len) (sCap:=cap) (base:=p) (ty:=o.type) oX wh L3 hn LF hzw k3 ae0 Gg Ux Qc
       obtain⟨Iu,ho3⟩:=Gj (X:=X) (μ:=μ) (O1:=O1) g4 (r:=r') (sz:=sz) (newCap:=newCap) (olds:=aF es off len) (ous:=ous) (ys:=ys) (us:=us) (zv:=zv) (e:=e)
        (o0:={gen:=g+1,sz:=sz,arr:=true,fz:=false,es:=some (aF es off len++ys)}) rfl (by simp only;omega) bF Uy g2 XM jM P8 (by rw[oa];exact Iy)
       have hO:cU O1 r' {O1 r' with gen:=g+1,es:=some (aF es off len++ys)}=cU O1 r' {gen:=g+1,sz:=sz,arr:=true,fz:=false,es:=some (aF es off len++ys)}:=by
        have: ({O1 r' with gen:=g+1,es:=some (aF es off len++ys)}:Obj)={gen:=g+1,sz:=sz,arr:=true,fz:=false,es:=some (aF es off len++ys)}:=by
         rw[←je,←kN,←gu]
        rw[this]
       simp only[hO]
       rw[oa] at Iu ho3
       refine⟨_,_,cU μ.φ r' ⟨μ.w.heap.size,0,newCap⟩,.inl (fin _ _ (by rw[hp];exact xq)),?_,g3.trans Iu,ho3⟩
       simp only[aj,aw]
       exact⟨_,newCap,rfl,ae0,af6 _,fun _=> ⟨ae0,afU,afU⟩⟩
    ·exact absurd g1 aq
   ·exact absurd g1 aq
  ·exact absurd g1 aq
 ·exact absurd g1 aq
theorem vE {c:Call} {s x:Operand} {sT xT e:TypeId} {d:TypeDesc} {s' x':aT} {r sz:Nat} {i:TypeInfo} {z:V} (hr:Rel X T a μ) (ho:o.op= .call c) (hc:c.callee= .builtin .append)
  (j6:c.args= #[s,x]) (Ix:c.argTypes= #[sT,xT]) (hd:bJ X sT=some (.slice e)) (hx:bJ X xT=some d) (L3: ∀k,d≠ .int k) (hn:bO X e=some sz) (hi:info X e=some i)
  (hz:eY X e=some z) (P7:aU z sz=true) (h1:dc X s=some s') (h2:dc X x=some x')
  (ah: (aH E (.append r sz (uj i.bytes) s' x')).run C ⟨T,μ.O⟩=some (v,σ')):σ'.T=T∧cT X o a μ σ'.O v:=by
 refine zI (C:=C) (v:=v) false (r:=r) hr ho hc j6 Ix hd hx L3 hn hi hz P7 h1 h2 ?_
 simp only[aH,bz] at ah
 exact ah
end
end Go.AM
namespace Go.AM
open Go Go.RowKit
section
variable {X:Ctx} {E:Env} {C:bn} {o:Oper} {a:Go.Act} {T:Nat→V} {μ:Mu} {v:V} {σ':St}
theorem Gk (ho:ba X μ) {r g off len sz:Nat} {es ys:List V} {us:List Value} {p:Option Addr} {cap:Nat} (bo: (μ.O r).es=some es) (gu: (μ.O r).fz=false) (je: (μ.O r).sz=sz)
  (cE: (μ.O r).gen=g) (hle:len≤cap) (a0:0 < (μ.O r).sz) (a1:cap+off=(μ.φ r).cap) (a2:cap=0∨p=some ⟨(μ.φ r).bV,(μ.φ r).base+off*(μ.O r).sz,none⟩)
  (iM:off+len≤es.length) (hy:ys.length≤len) (bl:ag X μ ys us) (jM:ys.all (aU · sz)=true):
  ∃w',(match p with| some q=> (storeCells q (flat us)).run X.P μ.w= .ok () w'| none=>w'=μ.w∧flat us=[])∧
   ∃φ',φ' r=μ.φ r∧Le μ ⟨w',φ',cU μ.O r {μ.O r with es:=some (overwrite es off ys)}⟩∧ba X ⟨w',φ',cU μ.O r {μ.O r with es:=some (overwrite es off ys)}⟩:=by
 have MP:us.length=ys.length:=bl.length.symm
 obtain⟨P0,DA⟩:=bl.cells_one jM
 have CX:=iH P0
 have eS:μ.O r={μ.O r with es:=some es}:=by rw[←bo]
 rcases agr ys.length with h0| h0
 ·have Wz:ys=[]:=by simpa using h0
  have hu0:us=[]:=agR.1 ae0
  have Xq:overwrite es off ys=es:=by simp[overwrite,Wz]
  have hO:cU μ.O r {μ.O r with es:=some (overwrite es off ys)}=μ.O:=by
   funext q
   by_cases hq:q=r
   ·subst hq;rw[aw,Xq];exact eS.symm
   ·rw[aW _ _ hq]
  rw[hO]
  refine⟨μ.w,?_,μ.φ,rfl,Le.refl μ,ho⟩
  cases p with
  | none=>simp[hu0,flat]
  | some q=>simp[hu0,flat,storeCells]
 ·obtain⟨q1,q2,q3,q4⟩:=ho.row r es bo a0
  have cM:cap≠0:=ae0
  have il: (μ.φ r).cap≠0:=ae0
  rcases q4 with q4| ⟨cc,T0,vs,p1,p2,p3,p4⟩
  ·exact absurd q4 il
  ·have B1:=a2.resolve_left cM
   subst B1
   have BN:=p3.length
   have C5:dI cc.toList (μ.φ r).base sz vs:=by have:=jN p1 p4;rwa [je] at this
   rw[je] at p2
   have hmul: (off+ys.length)*sz≤(μ.φ r).cap*sz:=agC _ ae0
   rw[agv] at hmul
   have hw:=C5.write (k:=off) (us:=us) ae0 P0 (by rw[cn cc,MP];omega)
   have eJ:=jO (P:=X.P) (w:=μ.w) (q:=(μ.φ r).base+off*sz) p1 (flat us) (by rw[CX,MP];omega) DA
   have Qe:=kU (X:=X) (μ:=μ) ho r bo gu p1 il (c':=(cN cc.toList ((μ.φ r).base+off*sz) (flat us)).toArray)
    (by
      have: (cN cc.toList ((μ.φ r).base+off*sz) (flat us)).length=cc.toList.length:=fI (by rw[cn cc,CX,MP];omega)
      simpa using this)
    (μ.O r).gen (μ.φ r).base (μ.φ r).cap (es':=overwrite es off ys) (vs':=vs.take off++us++vs.drop (off+us.length)) (.inl ⟨rfl,rfl,rfl⟩) il
    (by simp[overwrite];omega)
    (by
      simp only[je] at q3 ⊢
      have t1:=kV (p:=(aU · sz)) off q3
      have t2:=nF (p:=(aU · sz)) (off+ys.length) q3
      simp only[overwrite,ag6,t1,jM,t2,agE])
    (by
      have:=((ag.take off p3).append bl).append (ag.drop (off+ys.length) p3)
      rw[MP];exact this)
    (by rw[je];exact p2)
    (fun j y hy=>by
      obtain⟨m1,m2⟩:=hw j y hy
      refine⟨by rw[je];exact m1,fun l q hq=> ?_⟩
      have:=m2 l q hq
      simp only[je]
      simpa using this)
   refine⟨_,?_,_,?_,Qe.1,Qe.2⟩
   ·simp only[je];exact eJ
   ·rw[aw]
theorem p8 {zv:Value} {sz n:Nat} (hz:zv.cells.size=sz) (bF:0 <sz): (Builtin.zeroCells zv.cells n).toList=flat (List.replicate n zv):=by
 have hs: ∀u ∈ List.replicate n zv,u.cells.size=sz:=fun u hu=>by rw[(List.mem_replicate.1 hu).2];exact hz
 have CX:=iH hs
 rw[ahi] at CX
 apply agQ
 intro q
 by_cases hq:q<n*sz
 ·have hi:q / sz<n:=Nat.div_lt_of_lt_mul (by rw[ahj];exact hq)
  have B1:q / sz*sz+q % sz=q:=by rw[ahj];exact Nat.div_add_mod q sz
  have hm:q % sz<zv.cells.size:=by rw[hz];exact Nat.mod_lt _ bF
  have hc:zv.cells[q % sz]? =some zv.cells[q % sz]:=agl hm
  have hv: (List.replicate n zv)[q / sz]? =some zv:=by rw[List.getElem?_replicate];simp[hi]
  have g1:=ux hs hv hc
  rw[B1] at g1
  rw[g1,ahG]
  have hr: (Array.range (n*sz))[q]? =some q:=by simp[hq]
  simp only[Builtin.zeroCells,Array.getElem?_map,hz,hr,agc]
  rw[getElem!_def,hc]
 ·rw[agZ (by rw[cn (Builtin.zeroCells _ _),pY hz];omega),agZ ae0]
theorem Qf {c:Call} {x:Operand} {t e:TypeId} {x':aT} {sz:Nat} {z:V} (hr:Rel X T a μ) (ho:o.op= .call c) (hc:c.callee= .builtin .clear)
  (j6:c.args= #[x]) (Ix:c.argTypes= #[t]) (hd:bJ X t=some (.slice e)) (hz:eY X e=some z) (h1:dc X x=some x')
  (ah: (aH E (.clear sz z x')).run C ⟨T,μ.O⟩=some (v,σ')):σ'.T=T∧cT X o a μ σ'.O v:=by
 simp only[aH,bz] at ah
 have hx:=aQ hr h1 μ.O
 have oX:X.P.underlying t=some (.slice e):=hd
 have fin: ∀w',(Builtin.clear_ #[t] o.type #[a.eval x]).run X.P μ.w= .ok (.tuple #[]) w'→(execOp a.eval o).run X.P μ.w= .ok (.value (.tuple #[])) w':=fun w' hv=>by
  refine gz ho hc ?_
  simp only[builtin,j6,Ix]
  refine du ?_
  simpa using hv
 have Ak: (#[t]:Array TypeId)[0]? =some t:=rfl
 have PB: ∀y:Value,(#[y]:Array Value)[0]? =some y:=fun _=>rfl
 split at ah
 ·rename_i ex
  obtain⟨rfl,rfl⟩:=aY ah
  rw[ex] at hx;simp only[aj] at hx
  obtain⟨p,hp⟩:=hx
  refine⟨rfl,aN (val:= .tuple #[]) hr.a8 (fin _ ?_) (by simp only[aj];exact⟨#[],rfl,by simp[ag]⟩)⟩
  cases p<;>simp[Builtin.clear_,Sem.run_bind,run_underlying oX,hp]
 ·rename_i r g off len ex
  rw[ex] at hx
  simp only[Act.run] at ah
  split at ah
  ·rename_i es bo
   split at ah
   ·rename_i WA
    obtain⟨cE,kN,gu,je,iM,P7⟩:=WA
    simp only[Act.run,afY,af4] at ah
    obtain⟨rfl,rfl⟩:=ah
    simp only[aj] at hx
    obtain⟨p,cap,hp,hle,oO,bT⟩:=hx
    obtain⟨a0,a1,a2⟩:=bT cE
    obtain⟨zv,xp,Am⟩:=ij hz μ.w
    obtain⟨zH,It⟩:=eG (X:=X) (μ:=μ) Am
    have P8:zv.cells.size=sz:=by rw[zH.fp It,(cm P7).2]
    have bF:0 <sz:=je ▸ a0
    obtain⟨w',eJ,φ',hφ,le,eS⟩:=Gk (X:=X) hr.a8 (us:=List.replicate len zv) bo gu je cE hle a0 a1 a2 iM (ys:=List.replicate len z) afU (ag.replicate zH len)
     (by simp only[af5,List.mem_replicate];rintro y ⟨_,rfl⟩;exact P7)
    refine⟨rfl,.tuple #[],w',φ',.inl (fin _ ?_),by simp only[aj];exact⟨#[],rfl,by simp[ag]⟩,le,eS⟩
    rw[←p8 P8 bF] at eJ
    rw[hp]
    simp only[Builtin.clear_,Ak,PB,Sem.run_bind,run_underlying oX,Result.andThen_ok]
    rcases agr len with h0| h0
    ·subst h0
     have Tn: (Builtin.zeroCells zv.cells 0).toList=[]:=by rw[p8 P8 bF];rfl
     rw[Tn] at eJ
     have hw:w'=μ.w:=by
       cases p with
       | none=>exact eJ.1
       | some q=>simp[storeCells] at eJ;exact eJ.symm
     subst hw
     cases p<;>simp
    ·cases p with
     | none=>
       have cM:cap≠0:=ae0
       exact absurd (a2.resolve_left cM) afU
     | some q=>
       obtain⟨n,rfl⟩: ∃n,len=n+1:=⟨len - 1,ae0⟩
       simp only at eJ
       simp[Sem.run_bind,xp,eJ]
   ·exact absurd ah aq
  ·exact absurd ah aq
 ·exact absurd ah aq
theorem J5 {x:Operand} {y:aT} (hr:Rel X T a μ) (ho:o.op= .move x∨o.op= .assign x) (ht:dc X x=some y) (ah: (aH E (.deep y)).run C ⟨T,μ.O⟩=some (v,σ')):
  σ'.T=T∧cT X o a μ σ'.O v:=by
 simp only[aH,bz] at ah
 have bl:=aQ hr ht μ.O
 have jl: (execOp a.eval o).run X.P μ.w= .ok (.value (a.eval x)) μ.w:=by rcases ho with ho| ho<;>simp[execOp,ho]
 unfold tf at ah
 split at ah
 ·rename_i r g off len he
  rw[he] at bl
  simp only[Act.run] at ah
  split at ah
  ·rename_i es bo
   split at ah
   rotate_left
   ·exact absurd ah aq
   rename_i cE
   have J6:=bl
   simp only[aj] at J6
   obtain⟨_,_,_,_,_,bT⟩:=J6
   obtain⟨q1,q2,q3,q4⟩:=hr.a8.row r es bo (bT cE).1
   obtain⟨vs,lE,jZ⟩: ∃vs,ag X μ es vs∧((μ.φ r).cap=0∨ ∃c T,μ.w.heap[(μ.φ r).bV]? =some (.cells c T (0,0))∧(μ.φ r).base+(μ.φ r).cap*(μ.O r).sz≤c.size∧
     di μ.w (μ.φ r).bV (μ.φ r).base (μ.O r).sz vs):=by
    rcases q4 with q4| ⟨c,T0,vs,p1,p2,p3,p4⟩
    ·have:es=[]:=by
      have:es.length=0:=ae0
      simpa using this
     subst this
     exact⟨[],by simp[ag],.inl q4⟩
    ·exact⟨vs,p3,.inr ⟨c,T0,p1,p2,p4⟩⟩
   obtain⟨es',O1,g1,g2,g3,g4⟩:=zD (μ:=μ) hr.a8 lE ah
   simp only[Act.run] at g1
   split at g1
   ·rename_i hc
    obtain⟨np,tF,Wu⟩:=hc
    simp only[Act.run,afY,af4] at g1
    obtain⟨rfl,rfl⟩:=g1
    have hs: (O1 r).sz=(μ.O r).sz:=(g3.row r np).2
    have hlen:es'.length=es.length:=by rw[g2.length,lE.length]
    obtain⟨le,uR⟩:=LQ (X:=X) (μ:=⟨μ.w,μ.φ,O1⟩) g4 r (es':=es') tF (by rw[hs];exact q1) (by rw[hlen];exact q2) (by rw[hs];exact Wu) (by
     refine jZ.imp id ?_
     rintro⟨c,T0,p1,p2,p4⟩
     exact⟨c,T0,vs,p1,by simp only[hs];exact p2,g2,by simp only[hs];exact p4⟩)
    exact⟨rfl,a.eval x,μ.w,μ.φ,.inl jl,aj.mono (g3.trans le) bl,g3.trans le,uR⟩
   ·exact absurd g1 aq
  ·exact absurd ah aq
 ·obtain⟨rfl,rfl⟩:=aY ah
  exact⟨rfl,aN hr.a8 jl bl⟩
end
end Go.AM
namespace Go.AM
open Go Go.RowKit
def ke (X:Ctx) (μ:Mu) (rs:List Nat) (a:V) (v:Value):Prop:= ∀ (B:Nat→Prop) (μ':Mu),μ'.w=μ.w→
 (∀b,Own ⟨X.toTrEnv,B,X.tok⟩ μ' b→Own X μ b∧ ∀r ∈ rs,(μ.O r).es.isSome=true→(μ.φ r).cap≠0→b≠(μ.φ r).bV)→aj ⟨X.toTrEnv,B,X.tok⟩ μ' a v
def uA (X:Ctx) (μ:Mu) (rs:List Nat) (aD:List V) (vs:List Value):Prop:= ∀ (B:Nat→Prop) (μ':Mu),μ'.w=μ.w→
 (∀b,Own ⟨X.toTrEnv,B,X.tok⟩ μ' b→Own X μ b∧ ∀r ∈ rs,(μ.O r).es.isSome=true→(μ.φ r).cap≠0→b≠(μ.φ r).bV)→ag ⟨X.toTrEnv,B,X.tok⟩ μ' aD vs
section
variable {X:Ctx} {B:Nat→Prop} {μ μ':Mu}
mutual
theorem dM (hw:μ'.w=μ.w) (ho: ∀b,Own ⟨X.toTrEnv,B,X.tok⟩ μ' b→Own X μ b): ∀ {x:V} {v:Value},V.au x=true→aj X μ x v→aj ⟨X.toTrEnv,B,X.tok⟩ μ' x v
 | .bool _,_,_,h| .int ..,_,_,h| .float _,_,_,h| .str _,_,_,h| .nilp,_,_,h| .nilfn,_,_,h| .nili,_,_,h| .nils,_,_,h=>by simpa [aj] using h
 | .any,_,_,_=>by simp[aj]
 | .own ..,_,hp,_| .msl ..,_,hp,_| .mptr ..,_,hp,_| .sl ..,_,hp,_| .ptr ..,_,hp,_| .mp ..,_,hp,_| .it ..,_,hp,_=>by simp[V.au] at hp
 | .mlit es,_,hp,h=>by
   simp only[aj] at h ⊢
   obtain⟨h0,h⟩:=h
   refine⟨h0,h.imp id ?_⟩
   rintro⟨a,ents,clock,rfl,hb,hs,h1,h2⟩
   exact⟨a,ents,clock,rfl,fun hh=>hb (ho _ hh),by rw[hw];exact hs,by rw[hw];exact h1,bN hw ho h0 h2⟩
 | .agg cs,_,hp,h=>by
   simp only[aj] at h ⊢
   obtain⟨h1,vs,rfl,h2⟩:=h
   exact⟨h1,vs,rfl,bN hw ho (by simpa [V.au] using hp) h2⟩
 | .tuple cs,_,hp,h=>by
   simp only[aj] at h ⊢
   obtain⟨vs,rfl,h2⟩:=h
   exact⟨vs,rfl,bN hw ho (by simpa [V.au] using hp) h2⟩
 | .bfn f cs,_,hp,h=>by
   simp only[aj] at h ⊢
   obtain⟨F,cv,rfl,h1,h2⟩:=h
   exact⟨F,cv,rfl,h1,bN hw ho (by simpa [V.au] using hp) h2⟩
 | .fn f cs,_,hp,h=>by
   simp only[aj] at h ⊢
   obtain⟨F,cv,rfl,h1,h2⟩:=h
   exact⟨F,cv,rfl,h1,bN hw ho (by simpa [V.au] using hp) h2⟩
 | .iface t x,_,hp,h=>by
   simp only[aj] at h ⊢
   obtain⟨F,y,rfl,h1,h2⟩:=h
   exact⟨F,y,rfl,h1,dM hw ho (by simpa [V.au] using hp) h2⟩
 | .lit sz xs,_,hp,h=>by
   simp only[aj] at h ⊢
   obtain⟨h0,jx,a,cap,vs,rfl,h1,h2,h3⟩:=h
   refine⟨h0,jx,a,cap,vs,rfl,h1,bN hw ho h0 h2,h3.imp id ?_⟩
   rintro⟨b,o,rfl,hb,hs,hr⟩
   exact⟨b,o,rfl,fun hh=>hb (ho b hh),by rw[hw];exact hs,by rw[hw];exact hr⟩
 | .litk sz xs,_,hp,h=>by
   simp only[aj] at h ⊢
   obtain⟨h0,jx,a,cap,vs,rfl,h1,h2,h3⟩:=h
   refine⟨h0,jx,a,cap,vs,rfl,h1,bN hw ho h0 h2,h3.imp id ?_⟩
   rintro⟨rfl,hb,hs,hr⟩
   exact⟨rfl,fun hh=>hb (ho _ hh),by rw[hw];exact hs,by rw[hw];exact hr⟩
 | .epk i sz e off,_,hp,h=>by
   simp only[aj] at h ⊢
   obtain⟨h0,jx,x,rfl,hb,hs,h1,hr⟩:=h
   exact⟨h0,jx,x,rfl,fun hh=>hb (ho _ hh),by rw[hw];exact hs,dM hw ho h0 h1,by rw[hw];exact hr⟩
 | .eptr e off,_,hp,h=>by
   simp only[aj] at h ⊢
   obtain⟨h0,jx,b,o,sz,x,rfl,hb,hs,h1,hr⟩:=h
   exact⟨h0,jx,b,o,sz,x,rfl,fun hh=>hb (ho b hh),by rw[hw];exact hs,dM hw ho h0 h1,by rw[hw];exact hr⟩
theorem bN (hw:μ'.w=μ.w) (ho: ∀b,Own ⟨X.toTrEnv,B,X.tok⟩ μ' b→Own X μ b): ∀ {xs:List V} {vs:List Value},V.ak xs=true→ag X μ xs vs→ag ⟨X.toTrEnv,B,X.tok⟩ μ' xs vs
 | [],[],_,_=>by simp[ag]
 | [],_::_,_,h=>by simp[ag] at h
 | _::_,[],_,h=>by simp[ag] at h
 | x::xs,v::vs,hp,h=>by
   simp only[ag] at h ⊢
   simp only[V.ak,af2] at hp
   exact⟨dM hw ho hp.1 h.1,bN hw ho hp.2 h.2⟩
end
end
section
variable {X:Ctx} {C:bn} {T:Nat→V} {μ:Mu}
theorem ke.J7 {a:V} {v:Value} (hp:V.au a=true) (h:aj X μ a v) (rs:List Nat):ke X μ rs a v:=
 fun _ _ hw ho=>dM hw (fun b hb=> (ho b hb).1) hp h
theorem ke.more {rs rs':List Nat} {a:V} {v:Value} (h:ke X μ rs a v) (hs: ∀r ∈ rs,r ∈ rs'):ke X μ rs' a v:=
 fun B μ' hw ho=>h B μ' hw fun b hb=> ⟨(ho b hb).1,fun r hr=> (ho b hb).2 r (hs r hr)⟩
theorem uA.more {rs rs':List Nat} {a:List V} {v:List Value} (h:uA X μ rs a v) (hs: ∀r ∈ rs,r ∈ rs'):uA X μ rs' a v:=
 fun B μ' hw ho=>h B μ' hw fun b hb=> ⟨(ho b hb).1,fun r hr=> (ho b hb).2 r (hs r hr)⟩
theorem mD {f:V→(V→List Nat→Act)→Act}
   (hf: ∀ {v:V} {k:V→List Nat→Act} {val:Value} {p:V×St},aj X μ v val→(f v k).run C ⟨T,μ.O⟩=some p→ ∃v' rs,(k v' rs).run C ⟨T,μ.O⟩=some p∧V.au v'=true∧ke X μ rs v' val∧(v.da=true→v'.da=true)∧(v.aR=true→v'.aR=true)):
   ∀ {vs:List V} {k:List V→List Nat→Act} {vals:List Value} {p:V×St},ag X μ vs vals→(rq f vs k).run C ⟨T,μ.O⟩=some p→
    ∃vs' rs,(k vs' rs).run C ⟨T,μ.O⟩=some p∧V.ak vs'=true∧uA X μ rs vs' vals∧vs'.length=vs.length∧(vs.all V.da=true→vs'.all V.da=true)∧(vs.all V.aR=true→vs'.all V.aR=true)
 | [],k,[],p,_,ah=> ⟨[],[],ah,rfl,fun _ _ _ _=>by simp[ag],rfl,id,id⟩
 | [],_,_::_,_,h,_=>by simp[ag] at h
 | _::_,_,[],_,h,_=>by simp[ag] at h
 | v::vs,k,val::vals,p,h,ah=>by
   simp only[ag] at h
   obtain⟨v',rs,h1,h2,h3,h4,h5⟩:=hf h.1 ah
   obtain⟨vs',rs',k1,k2,k3,k4,k5,k6⟩:=mD hf h.2 h1
   refine⟨v'::vs',rs++rs',k1,by simp[V.ak,h2,k2],fun B μ' hw ho=> ?_,by simp[k4],?_,?_⟩
   ·simp only[ag]
    exact⟨h3.more (fun r hr=>by simp[hr]) B μ' hw ho,k3.more (fun r hr=>by simp[hr]) B μ' hw ho⟩
   ·simp only[agj,af2];exact fun hh=> ⟨h4 hh.1,k5 hh.2⟩
   ·simp only[agj,af2];exact fun hh=> ⟨h5 hh.1,k6 hh.2⟩
theorem AO {f:V→(V→List Nat→Act)→Act}
  (hf: ∀ {v:V} {k:V→List Nat→Act} {val:Value} {p:V×St},aj X μ v val→(f v k).run C ⟨T,μ.O⟩=some p→ ∃v' rs,(k v' rs).run C ⟨T,μ.O⟩=some p∧V.au v'=true∧ke X μ rs v' val∧(v.da=true→v'.da=true)∧(v.aR=true→v'.aR=true))
  {vs:List V} {k:List V→List Nat→Act} {vals:List Value} {p:V×St} (h:ag X μ vs vals) (ah: (xA f vs k).run C ⟨T,μ.O⟩=some p):
    ∃vs' rs,(k vs' rs).run C ⟨T,μ.O⟩=some p∧V.ak vs'=true∧uA X μ rs vs' vals∧vs'.length=vs.length∧(vs.all V.da=true→vs'.all V.da=true)∧(vs.all V.aR=true→vs'.all V.aR=true):=by
 unfold xA at ah
 split at ah
 ·rename_i hp
  exact⟨vs,[],ah,hp,fun _ _ hw ho=>bN hw (fun b hb=> (ho b hb).1) hp h,rfl,id,id⟩
 ·exact mD hf h ah
theorem mE (ho:ba X μ): ∀ (d:Nat) {v:V} {k:V→List Nat→Act} {val:Value} {p:V×St},aj X μ v val→(fY d v k).run C ⟨T,μ.O⟩=some p→
   ∃v' rs,(k v' rs).run C ⟨T,μ.O⟩=some p∧V.au v'=true∧ke X μ rs v' val∧(v.da=true→v'.da=true)∧(v.aR=true→v'.aR=true)
 | 0,v,k,val,p,h,ah=>by
   simp only[fY] at ah
   split at ah
   ·rename_i hp;exact⟨v,[],ah,hp,ke.J7 hp h _,id,id⟩
   ·exact absurd ah aq
 | d+1,v,k,val,p,h,ah=>by
   have ih:=fun {v:V} {k:V→List Nat→Act} {val:Value} {p:V×St}=>mE ho d (v:=v) (k:=k) (val:=val) (p:=p)
   simp only[fY] at ah
   split at ah
   ·rename_i hp;exact⟨v,[],ah,hp,ke.J7 hp h _,id,id⟩
   ·rename_i hnp
    split at ah
    ·
     simp only[aj] at h
     obtain⟨h0,vs,rfl,hv⟩:=h
     obtain⟨cP,rs,k1,k2,k3,k4,k5,k6⟩:=mD ih hv ah
     refine⟨_,rs,k1,by simpa [V.au] using k2,fun B μ' hw hh=> ?_,fun _=>rfl,fun hc=>by simp[V.aR] at hc⟩
     simp only[aj]
     exact⟨k6 h0,vs,rfl,k3 B μ' hw hh⟩
    ·
     simp only[aj] at h
     obtain⟨F,cv,rfl,hf,hv⟩:=h
     obtain⟨cP,rs,k1,k2,k3,k4,k5,k6⟩:=mD ih hv ah
     refine⟨_,rs,k1,by simpa [V.au] using k2,fun B μ' hw hh=> ?_,fun _=>rfl,fun _=>rfl⟩
     simp only[aj]
     exact⟨F,cv,rfl,hf,k3 B μ' hw hh⟩
    ·
     simp only[aj] at h
     obtain⟨F,y,rfl,hf,hv⟩:=h
     obtain⟨x',rs,k1,k2,k3,k4,k5⟩:=ih hv ah
     refine⟨_,rs,k1,by simpa [V.au] using k2,fun B μ' hw hh=> ?_,fun _=>rfl,fun _=>rfl⟩
     simp only[aj]
     exact⟨F,y,rfl,hf,k3 B μ' hw hh⟩
    ·
     rename_i r g off len
     simp only[Act.run] at ah
     split at ah
     ·rename_i es bo
      split at ah
      ·rename_i hc
       obtain⟨cE,kN,iM⟩:=hc
       simp only[aj] at h
       obtain⟨a,cap,rfl,hle,oO,bT⟩:=h
       obtain⟨a0,a1,a2⟩:=bT cE
       obtain⟨q1,q2,q3,q4⟩:=ho.row r es bo a0
       have oa: (aF es off len).length=len:=by simp[aF];omega
       have kq: (aF es off len).all V.da=true:=by
        simp only[af5] at q3 ⊢
        exact fun x hx=> (cm (q3 x (agF (agp hx)))).1
       have lE: ∃vs,ag X μ (aF es off len) vs∧(len=0∨((μ.φ r).cap≠0∧(μ.φ r).bV<μ.w.heap.size∧a=some ⟨(μ.φ r).bV,(μ.φ r).base+off*(μ.O r).sz,none⟩∧di μ.w (μ.φ r).bV ((μ.φ r).base+off*(μ.O r).sz) (μ.O r).sz vs)):=by
        by_cases GW:len=0
        ·exact⟨[],by simp[aF,GW,ag],.inl GW⟩
        ·rcases q4 with q4| ⟨cc,TT,vs,p1,p2,p3,p4⟩
         ·omega
         ·exact⟨(vs.drop off).take len,ag.take _ (ag.drop _ p3),.inr ⟨ae0,(af1.1 p1).1,a2.resolve_left ae0,(p4.drop off).take len⟩⟩
       obtain⟨vs,XG,JM⟩:=lE
       obtain⟨PE,rs,k1,k2,k3,k4,k5,k6⟩:=AO ih XG ah
       refine⟨_,r::rs,k1,rfl,fun B μ' hw hh=> ?_,fun _=>rfl,fun _=>rfl⟩
       have hx:=k3.more (rs':=r::rs) (fun q hq=>by simp[hq]) B μ' hw hh
       simp only[aj]
       refine⟨k2,k5 kq,a,cap,vs,by rw[k4,oa],by rw[k4,oa];exact hle,hx,?_⟩
       rcases JM with GW| ⟨c0,c1,c2,c3⟩
       ·left
        have:PE.length=0:=by rw[k4,oa];exact GW
        simpa using this
       ·right
        refine⟨_,_,c2,fun jd=> ?_,by rw[hw];exact c1,by rw[hw];exact c3⟩
        exact(hh _ jd).2 r afU (by simp[bo]) c0 rfl
      ·exact absurd ah aq
     ·exact absurd ah aq
    ·
     rename_i r g idx off
     simp only[Act.run] at ah
     split at ah
     ·rename_i es bo
      split at ah
      ·rename_i cE
       split at ah
       ·rename_i e he
        simp only[aj] at h
        obtain⟨a,rfl,oO,bT⟩:=h
        obtain⟨a0,hae⟩:=bT cE
        obtain⟨q1,q2,q3,q4⟩:=ho.row r es bo a0
        have bk:idx<es.length:=(af0.1 he).1
        rcases q4 with q4| ⟨cc,TT,vs,p1,p2,p3,p4⟩
        ·omega
        ·obtain⟨x,hx,bl⟩:=p3.get he
         have jM:aU e (μ.O r).sz=true:=by
          simp only[af5] at q3
          exact q3 e (List.mem_of_getElem? he)
         obtain⟨e',rs,k1,k2,k3,k4,k5⟩:=ih bl ah
         refine⟨_,r::rs,k1,rfl,fun B μ' hw hh=> ?_,fun _=>rfl,fun _=>rfl⟩
         simp only[aj]
         have dg:di μ.w (μ.φ r).bV ((μ.φ r).base+idx*(μ.O r).sz) (μ.O r).sz [x]:=by
          have:=(p4.drop idx).take 1
          have Fb: (vs.drop idx).take 1=[x]:=by
           have GP:idx<vs.length:=(af0.1 hx).1
           rw[agq GP,agO,ahn]
           rw[af3 GP] at hx
           injection hx with hx;rw[hx]
          rwa [Fb] at this
         refine⟨k2,k4 (cm jM).1,(μ.φ r).bV,(μ.φ r).base+idx*(μ.O r).sz,(μ.O r).sz,x,by rw[hae],fun jd=> ?_,by rw[hw];exact(af1.1 p1).1,
          k3.more (rs':=r::rs) (fun q hq=>by simp[hq]) B μ' hw hh,by rw[hw];exact dg⟩
         exact(hh _ jd).2 r afU (by simp[bo]) ae0 rfl
       ·exact absurd ah aq
      ·exact absurd ah aq
     ·exact absurd ah aq
    ·exact absurd ah aq
inductive lO (X:Ctx) (μ:Mu) (r0:Nat):Nat→List V→List Value→List Nat→List eh→Prop
 | nil (i:Nat):lO X μ r0 i [] [] [] []
 | plain {i:Nat} {a:V} {v:Value} {rs rs':List Nat} {aD:List V} {vs:List Value} {ws:List eh} (hp:V.au a=true) (hs:ke X μ rs a v) (h:lO X μ r0 (i+1) aD vs rs' ws):
    lO X μ r0 i (a::aD) (v::vs) (rs++rs') ws
 | sl {i r g off len:Nat} {es:List V} {v:Value} {rs:List Nat} {aD:List V} {vs:List Value} {ws:List eh} (bo: (μ.O r).es=some es) (gu: (μ.O r).fz=false) (cE: (μ.O r).gen=g) (mr:V.ak es=true)
    (iM:off+len≤es.length) (hv:aj X μ (.sl r g off len) v) (h:lO X μ r0 (i+1) aD vs rs ws):lO X μ r0 i (.msl (μ.O r).sz es off len::aD) (v::vs) rs (⟨i,r,none⟩::ws)
 | ptr {i r g idx off:Nat} {es:List V} {v:Value} {rs:List Nat} {aD:List V} {vs:List Value} {ws:List eh} (bo: (μ.O r).es=some es) (gu: (μ.O r).fz=false) (cE: (μ.O r).gen=g) (mr:V.ak es=true)
    (hv:aj X μ (.ptr r g idx off) v) (h:lO X μ r0 (i+1) aD vs rs ws):lO X μ r0 i (.mptr (μ.O r).sz es idx off::aD) (v::vs) rs (⟨i,r,none⟩::ws)
 | fresh {i sz:Nat} {v:Value} {rs:List Nat} {aD:List V} {vs:List Value} {ws:List eh} (bF:0 <sz) (hv: ∃a,v= .slice a 0 0) (h:lO X μ r0 (i+1) aD vs rs ws):
    lO X μ r0 i (.msl sz [] 0 0::aD) (v::vs) rs (⟨i,r0+i,some sz⟩::ws)
theorem eH (ho:ba X μ) {r0:Nat}: ∀ {vs:List V} {ms:List (Option Nat)} {i:Nat} {k:List V→List Nat→List eh→Act} {vals:List Value} {p:V×St},ag X μ vs vals→
   (dG r0 vs ms i k).run C ⟨T,μ.O⟩=some p→ ∃aD rs ws,(k aD rs ws).run C ⟨T,μ.O⟩=some p∧lO X μ r0 i aD vals rs ws
 | [],ms,i,k,[],p,_,ah=> ⟨[],[],[],by simpa [dG] using ah,.nil i⟩
 | [],_,_,_,_::_,_,h,_=>by simp[ag] at h
 | _::_,_,_,_,[],_,h,_=>by simp[ag] at h
 | v::vs,[],i,k,val::vals,p,h,ah=>by
   simp only[ag] at h
   simp only[dG,snap] at ah
   obtain⟨v',rs,h1,h2,h3,_,_⟩:=mE ho 5 h.1 ah
   obtain⟨aD,rs',ws,k1,k2⟩:=eH ho h.2 h1
   exact⟨_,_,_,k1,.plain h2 h3 k2⟩
 | v::vs,m::ms,i,k,val::vals,p,h,ah=>by
   simp only[ag] at h
   simp only[dG] at ah
   split at ah
   ·split at ah
    ·split at ah
     ·rename_i bF
      obtain⟨aD,rs',ws,k1,k2⟩:=eH ho h.2 ah
      have h1:=h.1
      simp only[aj] at h1
      exact⟨_,_,_,k1,.fresh bF h1 k2⟩
     ·exact absurd ah aq
    ·rename_i r g off len
     simp only[Act.run] at ah
     split at ah
     ·rename_i es bo
      split at ah
      ·rename_i hc
       obtain⟨c1,c2,c3,c4,c5⟩:=hc
       obtain⟨aD,rs',ws,k1,k2⟩:=eH ho h.2 ah
       rw[←c3] at k1
       exact⟨_,_,_,k1,.sl bo c2 c1 c5 c4 h.1 k2⟩
      ·exact absurd ah aq
     ·exact absurd ah aq
    ·rename_i r g idx off
     simp only[Act.run] at ah
     split at ah
     ·rename_i es bo
      split at ah
      ·rename_i hc
       obtain⟨c1,c2,c3,c4⟩:=hc
       obtain⟨aD,rs',ws,k1,k2⟩:=eH ho h.2 ah
       rw[←c3] at k1
       exact⟨_,_,_,k1,.ptr bo c2 c1 c4 h.1 k2⟩
      ·exact absurd ah aq
     ·exact absurd ah aq
    ·exact absurd ah aq
   ·simp only[snap] at ah
    obtain⟨v',rs,h1,h2,h3,_,_⟩:=mE ho 5 h.1 ah
    obtain⟨aD,rs',ws,k1,k2⟩:=eH ho h.2 h1
    exact⟨_,_,_,k1,.plain h2 h3 k2⟩
end
theorem kf {X:Ctx} {C:bn} {T:Nat→V} {w:World} {φ:Nat→Row}: ∀ (rs:List Nat) {O:Nat→Obj} {k:Act} {p:V×St},ba X ⟨w,φ,O⟩→(dP rs k).run C ⟨T,O⟩=some p→
   ∃O',k.run C ⟨T,O'⟩=some p∧Le ⟨w,φ,O⟩ ⟨w,φ,O'⟩∧ba X ⟨w,φ,O'⟩∧(∀r,r ∉ rs→O' r=O r)∧(∀r,r ∈ rs→O' r={O r with fz:=true})
 | [],O,k,p,ho,h=> ⟨O,h,Le.refl _,ho,fun _ _=>rfl,fun r hr=>by simp at hr⟩
 | q::rs,O,k,p,ho,h=>by
   simp only[dP,Act.run] at h
   obtain⟨l1,o1⟩:=oB ho q
   obtain⟨O',h1,h2,h3,h4,h5⟩:=kf rs o1 h
   refine⟨O',h1,l1.trans h2,h3,fun r hr=> ?_,fun r hr=> ?_⟩
   ·have vn:r≠q∧r ∉ rs:=by simpa using hr
    rw[h4 r vn.2,aW _ _ vn.1]
   ·by_cases hm:r ∈ rs
    ·rw[h5 r hm]
     by_cases e:r=q
     ·subst e;simp[aw]
     ·simp[aW _ _ e]
    ·have e:r=q:=by
      rcases af7.1 hr with e| hr
      ·exact e
      ·exact absurd hr hm
     subst e
     rw[h4 r hm,aw]
theorem Gl {X:Ctx} {C:bn} {T:Nat→V} {μ:Mu} (ho:ba X μ) {v:V} {val:Value} {p:V×St} (hv:aj X μ v val) (ah: (snap v fun v' rs=>dP rs (.done v')).run C ⟨T,μ.O⟩=some p):
  ∃c' O',(Act.done c').run C ⟨T,O'⟩=some p∧aj X ⟨μ.w,μ.φ,O'⟩ c' val∧Le μ ⟨μ.w,μ.φ,O'⟩∧ba X ⟨μ.w,μ.φ,O'⟩:=by
 obtain⟨v',rs,h1,_,h3,_,_⟩:=mE ho 5 hv ah
 obtain⟨O',k1,k2,k3,k4,k5⟩:=kf (w:=μ.w) (φ:=μ.φ) rs ho h1
 refine⟨v',O',k1,?_,k2,k3⟩
 refine h3 X.Us ⟨μ.w,μ.φ,O'⟩ rfl fun b hb=> ?_
 rcases hb with⟨r',q1,q2,q3,q4⟩ | hb
 ·simp only at q1 q2 q3 q4
  by_cases hm:r' ∈ rs
  ·rw[k5 r' hm] at q2;simp at q2
  ·rw[k4 r' hm] at q1 q2
   refine⟨.inl ⟨r',q1,q2,q3,q4⟩,fun r hr hs hc e=> ?_⟩
   exact ho.inj r' r (fun e'=>hm (e' ▸ hr)) q1 hs q3 hc (q4.trans e)
 ·exact⟨.inr hb,fun r hr hs hc e=>ho.sS r hs hc (e ▸ hb)⟩
end Go.AM
namespace Go.AM
open Go Go.RowKit Go.MapKept
section
variable {X:Ctx} {E:Env} {C:bn} {o:Oper} {a:Go.Act} {T:Nat→V} {μ:Mu} {v:V} {σ':St}
def oY (e:MapEntry):Value:= .tuple #[e.key,e.val]
def jP (q:Option IntKind) (d:TypeDesc):Prop:=match q with
 | some q=>d= .int q
 | none=>d= .string
theorem Qg {q:Option IntKind} {d:TypeDesc} {k:V} {kv:Value} (hd:jP q d) (hk:isKey q k=true) (hv:aj X μ k kv):IsKey d kv:=by
 unfold isKey at hk
 unfold jP at hd
 split at hk
 ·simp only[aj] at hv
  subst hv;subst hd
  simpa [IsKey] using hk
 ·simp only[aj] at hv
  obtain⟨bs,rfl,_⟩:=hv
  subst hd
  simp[IsKey]
 ·simp at hk
theorem qS {q:Option IntKind} {d:TypeDesc} {k k':V} {kv XN:Value} {b:Bool} (hd:jP q d) (hk:isKey q k=true) (h1:aj X μ k kv) (h2:aj X μ k' XN) (h:vZ k k'=some b):
  Instr.sameNow d kv XN=some b∧(b=true→XN=kv):=by
 unfold vZ at h
 split at h
 ·simp only[aj] at h1 h2
  subst h1;subst h2
  split at h
  ·rename_i e
   subst e
   injection h with h
   subst h
   have: ∃q',d= .int q':=by
    unfold isKey at hk
    unfold jP at hd
    cases q<;>simp_all
   obtain⟨q',rfl⟩:=this
   refine⟨by simp[Instr.sameNow],fun hb=> ?_⟩
   simp only[beq_iff_eq] at hb
   rw[hb]
  ·simp at h
 ·simp only[aj] at h1 h2
  obtain⟨x,rfl,rfl⟩:=h1
  obtain⟨y,rfl,rfl⟩:=h2
  injection h with h
  subst h
  have:d= .string:=by
   unfold isKey at hk
   unfold jP at hd
   cases q<;>simp_all
  subst this
  have Mx: (x==y)=decide (x.data.toList=y.data.toList):=by
   rw[ahH,bytes_beq,decide_eq_true_eq]
   constructor
   ·rintro rfl;rfl
   ·intro h
    cases x;cases y
    simp only[ByteArray.mk.injEq]
    exact ag3.1 h
  refine⟨by simp[Instr.sameNow,Mx],fun hb=> ?_⟩
  rw[←Mx,bytes_beq] at hb
  rw[hb]
 ·simp at h
theorem qT {e:V} {me:MapEntry} (h:aj X μ e (oY me)) {k v:V} (he:e= .tuple [k,v]):aj X μ k me.key∧aj X μ v me.val:=by
 subst he
 simp only[oY,aj] at h
 obtain⟨vs,h1,h2⟩:=h
 injection h1 with h1
 subst h1
 simpa [ag] using h2
theorem mU {k v:V} {me:MapEntry} (h1:aj X μ k me.key) (h2:aj X μ v me.val):aj X μ (.tuple [k,v]) (oY me):=by
 simp only[oY,aj]
 exact⟨_,rfl,by simp[ag,h1,h2]⟩
theorem qa {q:Option IntKind} {d:TypeDesc} {k:V} {kv:Value} (hd:jP q d) (hk:isKey q k=true) (h1:aj X μ k kv): ∀ {es:List V} {ents:List MapEntry} {i:Nat} {r:Option V},ag X μ es (ents.map oY)→cj k es=some r→
   (r=none∧Instr.findNow d kv ents i=some none)∨ ∃v j e,r=some v∧Instr.findNow d kv ents i=some (some (j,e))∧aj X μ v e
 | [],[],i,r,_,h=>by simp[cj] at h;subst h;exact .inl ⟨rfl,rfl⟩
 | [],_::_,_,_,h,_=>by simp[ag] at h
 | _::_,[],_,_,h,_=>by simp[ag] at h
 | e::es,m::ents,i,r,hr,h=>by
   simp only[List.map_cons,ag] at hr
   unfold cj at h
   split at h
   ·rename_i heq;simp at heq
   ·rename_i k' v' es' heq
    injection heq with e1 e2
    subst e2
    obtain⟨t1,t2⟩:=qT hr.1 e1
    split at h
    ·rename_i hq
     injection h with h
     subst h
     obtain⟨s1,_⟩:=qS hd hk h1 t1 hq
     exact .inr ⟨v',i,m.val,rfl,by simp[Instr.findNow,s1],t2⟩
    ·rename_i hq
     obtain⟨s1,_⟩:=qS hd hk h1 t1 hq
     rcases qa hd hk h1 (i:=i+1) hr.2 h with⟨g1,g2⟩ | ⟨v,j,x,g1,g2,g3⟩
     ·exact .inl ⟨g1,by simp[Instr.findNow,s1,g2]⟩
     ·exact .inr ⟨v,j,x,g1,by simp[Instr.findNow,s1,g2],g3⟩
    ·simp at h
   ·simp at h
theorem zJ {q:Option IntKind} {d:TypeDesc} {k u:V} {kv val:Value} (hd:jP q d) (hk:isKey q k=true) (h1:aj X μ k kv) (h2:aj X μ u val): ∀ {es es':List V} {ents:List MapEntry} {i:Nat},ag X μ es (ents.map oY)→iT k u es=some es'→
   (Instr.findNow d kv ents i=some none∧ ∀c,ag X μ es' ((ents++[({key:=kv,val:=val,born:=c}:MapEntry)]).map oY))∨
   ∃j e,Instr.findNow d kv ents i=some (some (i+j,e.val))∧ents[j]? =some e∧e.key=kv∧ag X μ es' ((ents.set j ({key:=kv,val:=val,born:=e.born}:MapEntry)).map oY)
 | [],es',[],i,_,h=>by
   simp[iT] at h;subst h
   exact .inl ⟨rfl,fun c=>by simp only[agH,List.map_cons,ahx,ag];exact⟨mU (me:={key:=kv,val:=val,born:=c}) h1 h2,trivial⟩⟩
 | [],_,_::_,_,h,_=>by simp[ag] at h
 | _::_,_,[],_,h,_=>by simp[ag] at h
 | e::es,es',m::ents,i,hr,h=>by
   simp only[List.map_cons,ag] at hr
   unfold iT at h
   split at h
   ·rename_i heq;simp at heq
   ·rename_i k' v' Ar heq
    injection heq with e1 e2
    subst e2
    obtain⟨t1,t2⟩:=qT hr.1 e1
    split at h
    ·rename_i hq
     injection h with h
     subst h
     obtain⟨s1,s2⟩:=qS hd hk h1 t1 hq
     exact .inr ⟨0,m,by simp[Instr.findNow,s1],rfl,s2 rfl,by simp only[List.set_cons_zero,List.map_cons,ag];exact⟨mU (me:={key:=kv,val:=val,born:=m.born}) h1 h2,hr.2⟩⟩
    ·rename_i hq
     obtain⟨s1,_⟩:=qS hd hk h1 t1 hq
     rw[afZ] at h
     obtain⟨ZO,g0,rfl⟩:=h
     rcases zJ hd hk h1 h2 (i:=i+1) hr.2 g0 with⟨g1,g2⟩ | ⟨j,x,g1,g2,g3,g4⟩
     ·exact .inl ⟨by simp[Instr.findNow,s1,g1],fun c=>by simp only[ags,List.map_cons,ag];exact⟨mU t1 t2,g2 c⟩⟩
     ·exact .inr ⟨j+1,x,by simp[Instr.findNow,s1,g1];omega,by simpa using g2,g3,by simp only[List.set_cons_succ,List.map_cons,ag];exact⟨mU t1 t2,g4⟩⟩
    ·simp at h
   ·simp at h
theorem Qh {t:TypeId} {rs:Option Operand} {r:Nat} (hr:Rel X T a μ) (ho:o.op= .makeMap t rs) (RT:rs=none) (ah: (aH E (.mkMap r)).run C ⟨T,μ.O⟩=some (v,σ')):σ'.T=T∧cT X o a μ σ'.O v:=by
 subst RT
 simp only[aH,Act.run,afY,af4] at ah
 obtain⟨rfl,rfl⟩:=ah
 obtain⟨le,eS⟩:=zA hr.a8 r (.map #[] 0) [] (.inl ⟨#[],0,rfl,by simp[ag],by simp[gr]⟩)
 refine⟨rfl,.map (some μ.w.heap.size),_,_,.inl ?_,?_,le,eS⟩
 ·simp only[execOp,ho]
  refine du ?_
  simp[Instr.makeMap,Sem.run_bind]
 ·simp only[aj,aw]
  exact⟨_,rfl,af6 _,fun _=> ⟨trivial,rfl⟩⟩
theorem L5 {t kt et:TypeId} {d:TypeDesc} {x i:Operand} {x' i':aT} {ok:Bool} {q:Option IntKind} {z:V} (hr:Rel X T a μ) (ho:o.op= .lookup t x i ok) (ht:bJ X t=some (.map kt et)) (Py:bJ X kt=some d) (hd:jP q d)
  (hz:eY X et=some z) (h1:dc X x=some x') (h2:dc X i=some i') (ah: (aH E (.yu q ok z x' i')).run C ⟨T,μ.O⟩=some (v,σ')):σ'.T=T∧cT X o a μ σ'.O v:=by
 simp only[aH,bz] at ah
 have hx:=aQ hr h1 μ.O
 have hi:=aQ hr h2 μ.O
 have kH:X.P.underlying t=some (.map kt et):=ht
 have vF:X.P.underlying kt=some d:=Py
 obtain⟨zv,xp,Am⟩:=ij hz μ.w
 obtain⟨zH,It⟩:=eG (X:=X) (μ:=μ) Am
 split at ah
 ·rename_i mf
  have EC:=Qg hd mf hi
  have main: ∀ {es:List V} {ents:Array MapEntry} {m:Option Nat},ag X μ es (ents.toList.map oY)→(cQ ok z es (bu ⟨T,μ.O⟩ i')).run C ⟨T,μ.O⟩=some (v,σ')→a.eval x= .map m→
    (match m with| none=>ents= #[] | some r=> ∃clock,μ.w.heap[r]? =some (.map ents clock))→σ'.T=T∧cT X o a μ σ'.O v:=by
   intro es ents m bl eF hm hb
   have fin: ∀ (u:Value) (b:Bool),(match Instr.findNow d (a.eval i) ents.toList 0 with
      | some (some (_,v))=>u=v∧b=true
      | some none=>u=zv∧b=false
      | none=>False)→(execOp a.eval o).run X.P μ.w= .ok (.value (if ok then .tuple #[u,.bool b] else u)) μ.w:=by
    intro u b hf
    simp only[execOp,ho]
    refine du ?_
    cases mc:Instr.findNow d (a.eval i) ents.toList 0 with
    | none=>rw[mc] at hf;exact hf.elim
    | some r=>
      rw[mc] at hf
      cases m with
      | none=>
        simp only at hb
        subst hb
        cases r with
        | none=>
          simp only at hf;obtain⟨rfl,rfl⟩:=hf
          cases ok<;>simp[Instr.lookup,Sem.run_bind,run_underlying kH,Result.andThen,hm,Go.MapKept.run_checkKey vF EC,Go.MapKept.run_findKey (l:=[]) vF (by simpa using mc),xp]
        | some p=>
          obtain⟨j,y⟩:=p
          simp only at hf;obtain⟨rfl,rfl⟩:=hf
          cases ok<;>simp[Instr.lookup,Sem.run_bind,run_underlying kH,Result.andThen,hm,Go.MapKept.run_checkKey vF EC,Go.MapKept.run_findKey (l:=[]) vF (by simpa using mc)]
      | some rr=>
        obtain⟨clock,hb⟩:=hb
        cases r with
        | none=>
          simp only at hf;obtain⟨rfl,rfl⟩:=hf
          cases ok<;>simp[Instr.lookup,Sem.run_bind,run_underlying kH,Result.andThen,hm,Go.MapKept.run_getObj_map hb,Go.MapKept.run_checkKey vF EC,Go.MapKept.run_findKey vF mc,xp]
        | some p=>
          obtain⟨j,y⟩:=p
          simp only at hf;obtain⟨rfl,rfl⟩:=hf
          cases ok<;>simp[Instr.lookup,Sem.run_bind,run_underlying kH,Result.andThen,hm,Go.MapKept.run_getObj_map hb,Go.MapKept.run_checkKey vF EC,Go.MapKept.run_findKey vF mc]
   unfold cQ at eF
   split at eF
   ·rename_i y hy
    obtain⟨rfl,rfl⟩:=aY eF
    rcases qa hd mf hi (i:=0) bl hy with⟨g1,_⟩ | ⟨v0,j,e,g1,g2,g3⟩
    ·cases g1
    · injection g1 with g1
      subst g1
      refine⟨rfl,aN hr.a8 (fin e true (by rw[g2];exact⟨rfl,rfl⟩)) ?_⟩
      cases ok
      ·simpa using g3
      ·simp only[if_true,aj];exact⟨_,rfl,by simp[ag,aj,g3]⟩
   ·rename_i hy
    obtain⟨rfl,rfl⟩:=aY eF
    rcases qa hd mf hi (i:=0) bl hy with⟨_,g2⟩ | ⟨v0,j,e,g1,g2,g3⟩
    · refine⟨rfl,aN hr.a8 (fin zv false (by rw[g2];exact⟨rfl,rfl⟩)) ?_⟩
      cases ok
      ·simpa using zH
      ·simp only[if_true,aj];exact⟨_,rfl,by simp[ag,aj,zH]⟩
    ·cases g1
   ·exact absurd eF aq
  split at ah
  ·rename_i r g e
   rw[e] at hx
   simp only[aj] at hx
   obtain⟨b,hp,oO,bT⟩:=hx
   simp only[Act.run] at ah
   split at ah
   ·rename_i es bo
    split at ah
    · rename_i hc
      obtain⟨k0,rfl⟩:=bT hc.1
      rcases hr.a8.ents r es bo hc.2 with⟨cM,ents,clock,hm,bl,_⟩ | ⟨_,s,pos,_,rfl⟩ | ⟨lX,rfl⟩
      ·exact main bl ah hp ⟨clock,hm⟩
      ·exact absurd (by simpa [cQ,cj] using ah) aq
      ·exact absurd (by simpa [cQ,cj] using ah) aq
    ·exact absurd ah aq
   ·exact absurd ah aq
  ·rename_i es e
   rw[e] at hx
   simp only[aj] at hx
   obtain⟨_,⟨rfl,hp⟩ | ⟨b,ents,clock,hp,_,_,⟨hm,_⟩,bl⟩⟩:=hx
   ·exact main (ents:= #[]) (by simp[ag]) ah hp rfl
   ·exact main bl ah hp ⟨clock,hm⟩
  ·exact absurd ah aq
 ·exact absurd ah aq
theorem qU {ents:Array MapEntry} {clock:Nat} (h:gr ents clock) (e:MapEntry) (he:e.born=clock):gr (ents.push e) (clock+1):=by
 obtain⟨h1,h2⟩:=h
 refine⟨by simp[h1],?_⟩
 rw[Array.toList_push,agA,h2,Array.size_push,List.range_succ,List.map_cons,ahx,he,h1]
theorem mF {ents:Array MapEntry} {clock:Nat} (h:gr ents clock) (j:Nat) {f:MapEntry→MapEntry} (hf: ∀e,(f e).born=e.born):gr (ents.modify j f) clock:=by
 have hm: (ents.modify j f).toList.map (·.born)=ents.toList.map (·.born):=by
  apply agQ
  intro n
  simp only[age,ahh,agu]
  cases ents.toList[n]? with
  | none=>rfl
  | some x=>
    simp only[agc]
    split
    ·simp[hf]
    ·rfl
 exact⟨by simpa using h.1,by rw[hm];simpa using h.2⟩
theorem B5 {t kt et:TypeId} {d:TypeDesc} {x i y:Operand} {x' i' y':aT} {q:Option IntKind} (hr:Rel X T a μ) (ho:o.op= .mapUpdate t x i y∨o.op= .insert t x i y) (ht:bJ X t=some (.map kt et)) (Py:bJ X kt=some d) (hd:jP q d)
  (h1:dc X x=some x') (h2:dc X i=some i') (h3:dc X y=some y') (ah: (aH E (.u5 q x' i' y')).run C ⟨T,μ.O⟩=some (v,σ')):σ'.T=T∧cT X o a μ σ'.O v:=by
 simp only[aH,bz] at ah
 have hx:=aQ hr h1 μ.O
 have hi:=aQ hr h2 μ.O
 have hy:=aQ hr h3 μ.O
 have kH:X.P.underlying t=some (.map kt et):=ht
 have vF:X.P.underlying kt=some d:=Py
 split at ah
 ·rename_i r g e
  rw[e] at hx
  simp only[bz] at ah
  obtain⟨u,O1,k1,k2,k3,k4⟩:=jD (μ:=μ) hr.a8 hy ah
  have MO:=aj.mono k3 hx
  have qA:=aj.mono k3 hi
  simp only[Act.run] at k1
  split at k1
  ·rename_i es bo
   split at k1
   ·rename_i hc
    obtain⟨cE,bF,gu,mf,kq⟩:=hc
    split at k1
    ·rename_i es' fj
     simp only[Act.run,afY,af4] at k1
     obtain⟨rfl,rfl⟩:=k1
     simp only[aj] at MO
     obtain⟨b,hp,oO,bT⟩:=MO
     obtain⟨_,rfl⟩:=bT cE
     obtain⟨cM,ents,clock,hm,bl,cr⟩: (μ.φ r).cap≠0∧ ∃ents clock,μ.w.heap[(μ.φ r).bV]? =some (.map ents clock)∧ag X ⟨μ.w,μ.φ,O1⟩ es (ents.toList.map oY)∧gr ents clock:=by
      rcases k4.ents r es bo bF with h| ⟨_,s,pos,_,rfl⟩ | ⟨lX,rfl⟩
      ·exact h
      ·simp[iT] at fj
      ·simp[iT] at fj
     have EC:=Qg hd mf qA
     have fin: ∀w',(Instr.mapUpdate t (.map (some (μ.φ r).bV)) (a.eval i) (a.eval y)).run X.P μ.w= .ok () w'→(execOp a.eval o).run X.P μ.w= .ok .skip w':=fun w' hw=>by
      rcases ho with ho| ho
      ·simp only[execOp,ho,hp];exact zB hw
      ·simp only[execOp,ho,hp];exact zB hw
     rcases zJ hd mf qA k2 (i:=0) bl fj with⟨g1,g2⟩ | ⟨j,e,g1,g2,g3,g4⟩
     ·obtain⟨le,eS⟩:=gv (μ:=⟨μ.w,μ.φ,O1⟩) k4 r (es':=es') (ob':= .map (ents.push {key:=a.eval i,val:=a.eval y,born:=clock}) (clock+1)) bo gu bF hm cM (.inl ⟨ents,clock,rfl,bl,cr⟩) (.inl ⟨_,_,rfl,by
       have:=g2 clock
       have e1: (ents.push ({key:=a.eval i,val:=a.eval y,born:=clock}:MapEntry)).toList=ents.toList++[({key:=a.eval i,val:=a.eval y,born:=clock}:MapEntry)]:=afU
       rw[e1];exact this,qU cr _ rfl⟩)
      refine⟨rfl,undef,_,_,.inr ⟨fin _ ?_,rfl⟩,by simp only[aj];exact⟨#[],rfl,by simp[ag]⟩,k3.trans le,eS⟩
      simp[Instr.mapUpdate,run_underlying kH,Go.MapKept.run_getObj_map hm,Go.MapKept.run_checkKey vF EC,Go.MapKept.run_findKey vF g1,Go.MapKept.run_setObj_map _ hm,Result.andThen,Sem.run_bind]
     ·rw[agK] at g1
      have Rc:ents[j]? =some e:=by simpa using g2
      obtain⟨le,eS⟩:=gv (μ:=⟨μ.w,μ.φ,O1⟩) k4 r (es':=es') (ob':= .map (ents.modify j fun e=> {e with key:=a.eval i,val:=a.eval y}) (clock)) bo gu bF hm cM (.inl ⟨ents,clock,rfl,bl,cr⟩) (.inl ⟨_,_,rfl,by
       have hl: (ents.modify j fun e=> {e with key:=a.eval i,val:=a.eval y}).toList=ents.toList.set j {e with key:=a.eval i,val:=a.eval y}:=by
         apply agQ
         intro n
         rw[ahh,agu,agY]
         by_cases hn:j=n
         ·subst hn
          have bk:=(af0.1 g2).1
          simp only[if_true,bk,g2,agc,and_self]
          rfl
         ·simp[hn]
       rw[hl];exact g4,mF cr j fun _=>rfl⟩)
      refine⟨rfl,undef,_,_,.inr ⟨fin _ ?_,rfl⟩,by simp only[aj];exact⟨#[],rfl,by simp[ag]⟩,k3.trans le,eS⟩
      simp[Instr.mapUpdate,run_underlying kH,Go.MapKept.run_getObj_map hm,Go.MapKept.run_checkKey vF EC,Go.MapKept.run_findKey vF g1,Rc,g3,Go.MapKept.run_keyThatStays EC,Go.MapKept.run_setObj_map _ hm,Result.andThen,Sem.run_bind]
    ·exact absurd k1 aq
   ·exact absurd k1 aq
  ·exact absurd k1 aq
 ·exact absurd ah aq
theorem Iz {t kt et:TypeId} {x:Operand} {y:aT} {r:Nat} (hr:Rel X T a μ) (ho:o.op= .range t x) (ht:bJ X t=some (.map kt et)) (h1:dc X x=some y) (ah: (aH E (.mapIter r y)).run C ⟨T,μ.O⟩=some (v,σ')):σ'.T=T∧cT X o a μ σ'.O v:=by
 simp only[aH,bz] at ah
 have hx:=aQ hr h1 μ.O
 have kH:X.P.underlying t=some (.map kt et):=ht
 split at ah
 ·rename_i es e
  rw[e] at hx
  simp only[aj] at hx
  simp only[Act.run,afY,af4] at ah
  obtain⟨rfl,rfl⟩:=ah
  obtain⟨_,⟨rfl,hp⟩ | ⟨b,ents,clock,hp,gR,bk,⟨hm,cr⟩,bl⟩⟩:=hx
  ·obtain⟨le,eS⟩:=zA hr.a8 r (.mapIter none 0 #[] 0) [.mlit []] (.inr (.inr ⟨none,0,[],rfl,rfl,.inl ⟨rfl,rfl⟩⟩))
   refine⟨rfl,.pointer (some ⟨μ.w.heap.size,0,none⟩),_,_,.inl ?_,?_,le,eS⟩
   ·simp only[execOp,ho]
    refine du ?_
    simp[Instr.range,Sem.run_bind,run_underlying kH,hp,Result.andThen]
   ·simp only[aj,aw]
    exact⟨_,rfl,af6 _,fun _=> ⟨trivial,rfl⟩⟩
  ·obtain⟨le,eS⟩:=zA hr.a8 r (.mapIter (some b) clock #[] clock) [.mlit es] (.inr (.inr ⟨some b,clock,es,rfl,rfl,.inr ⟨b,ents,rfl,gR,bk,hm,cr,bl⟩⟩))
   refine⟨rfl,.pointer (some ⟨μ.w.heap.size,0,none⟩),_,_,.inl ?_,?_,le,eS⟩
   ·simp only[execOp,ho]
    refine du ?_
    simp[Instr.range,Sem.run_bind,run_underlying kH,hp,Result.andThen,Go.MapKept.run_getObj_map hm]
   ·simp only[aj,aw]
    exact⟨_,rfl,af6 _,fun _=> ⟨trivial,rfl⟩⟩
 ·exact absurd ah aq
theorem J8 {x:Operand} {y:aT} (hr:Rel X T a μ) (ho:o.op= .move x∨o.op= .assign x) (ht:dc X x=some y) (ah: (aH E (.Nb y)).run C ⟨T,μ.O⟩=some (v,σ')):σ'.T=T∧cT X o a μ σ'.O v:=by
 simp only[aH,bz] at ah
 have jl: (execOp a.eval o).run X.P μ.w= .ok (.value (a.eval x)) μ.w:=by rcases ho with ho| ho<;>simp[execOp,ho]
 obtain⟨u,O1,k1,k2,k3,k4⟩: ∃c' O',(Act.done c').run C ⟨T,O'⟩=some (v,σ')∧aj X ⟨μ.w,μ.φ,O'⟩ c' (a.eval x)∧Le μ ⟨μ.w,μ.φ,O'⟩∧ba X ⟨μ.w,μ.φ,O'⟩:=by
  split at ah
  ·exact Gl hr.a8 (aQ hr ht μ.O) ah
  ·exact jD (μ:=μ) hr.a8 (aQ hr ht μ.O) ah
 obtain⟨rfl,rfl⟩:=aY k1
 exact⟨rfl,a.eval x,μ.w,μ.φ,.inl jl,k2,k3,k4⟩
end
end Go.AM
namespace Go.AM
open Go Go.RowKit Go.MapKept
section
variable {X:Ctx} {E:Env} {C:bn} {o:Oper} {a:Go.Act} {T:Nat→V} {μ:Mu} {v:V} {σ':St}
theorem L6 {t:TypeId} {m k:Nat} {c:V} {x:Value} {D:TypeDesc} (hd:bJ X t=some D) (hk: (k=0∧D= .bool)∨(k=1∧ ∃q,D= .int q)∨(k=2∧D= .string))
  (hc:aj X μ c x) (em:Bool) (w:World): (Instr.checkKey em (m+1) t x).run X.P w= .ok () w:=by
 have oX:X.P.underlying t=some D:=hd
 rcases hk with⟨_,rfl⟩ | ⟨_,q,rfl⟩ | ⟨_,rfl⟩ <;>simp[Instr.checkKey,run_underlying oX]
theorem xr {ks uS:List Nat} {cs:List V} (h: (cR (ks++uS) cs cs).isSome=true): (cR ks (cs.take ks.length) (cs.take ks.length)).isSome=true∧(cR uS (cs.drop ks.length) (cs.drop ks.length)).isSome=true:=by
 obtain⟨b,hb⟩:=af8.1 h
 obtain⟨b1,b2,h1,h2,_⟩:=sI ks hb
 rw[h1,h2];exact⟨rfl,rfl⟩
theorem WB (  em:Bool) (w:World): ∀d:Nat,
   (∀t ks cs xs m,gq X d t=some ks→d≤m→ag X μ cs xs→(cR ks cs cs).isSome=true→
     bO X t=some ks.length∧((gp X t=some true∧(Instr.checkKey em m t (.agg xs.toArray)).run X.P w= .ok () w)∨
       (gp X t=some false∧ks.length=1∧ ∃x,xs=[x]∧(Instr.checkKey em m t x).run X.P w= .ok () w)))∧
   (∀fs off ks cs xs m,oy X d fs off=some ks→d≤m→ag X μ cs xs→(cR ks (cs.drop off) (cs.drop off)).isSome=true→
     ∀f ∈ fs,f.name≠ "_" ∧ ∃y,(Go.part f.type xs.toArray f.offset).run X.P w= .ok y w∧(Instr.checkKey em m f.type y).run X.P w= .ok () w):=by
 intro d
 induction d with
 | zero=>exact⟨fun _ _ _ _ _ h=>by simp[gq] at h,fun _ _ _ _ _ _ h=>by simp[oy] at h⟩
 | succ d ih=>
   refine⟨fun t ks cs xs m hk hm hx hb=> ?_,fun fs off ks cs xs m hk hm hx hb=> ?_⟩
   · obtain⟨m,rfl⟩: ∃m',m=m'+1:=⟨m - 1,ae0⟩
     have hlen:cs.length=ks.length:=by
       obtain⟨b,hb⟩:=af8.1 hb
       exact(pU hb).1
     have scalar: ∀ (D:TypeDesc) (k:Nat),bJ X t=some D→((k=0∧D= .bool)∨(k=1∧ ∃q,D= .int q)∨(k=2∧D= .string))→bO X t=some 1→ks=[k]→
         bO X t=some ks.length∧((gp X t=some true∧(Instr.checkKey em (m+1) t (.agg xs.toArray)).run X.P w= .ok () w)∨
       (gp X t=some false∧ks.length=1∧ ∃x,xs=[x]∧(Instr.checkKey em (m+1) t x).run X.P w= .ok () w)):=by
       intro D k hd hD hs e
       subst e
       have lx:=hx.length
       match cs,xs,hlen,lx with
       | [c],[x],_,_=>
         simp only[ag,and_true] at hx
         refine⟨by simpa using hs,.inr ⟨?_,rfl,x,rfl,L6 hd hD hx em w⟩⟩
         simp only[gp,hd,agc]
         rcases hD with⟨_,rfl⟩ | ⟨_,q,rfl⟩ | ⟨_,rfl⟩ <;>rfl
     simp only[gq] at hk
     split at hk
     · split at hk<;>simp at hk
       rename_i hd hs
       exact scalar _ 0 hd afU hs hk.symm
     · split at hk<;>simp at hk
       rename_i hd hs
       exact scalar _ 1 hd afU hs hk.symm
     · split at hk<;>simp at hk
       rename_i hd hs
       exact scalar _ 2 hd afU hs hk.symm
     · rename_i fs hd
       split at hk
       · split at hk
         ·rename_i uS hkf
          split at hk
          · rename_i hs
            injection hk with hk;subst hk
            refine⟨hs,.inl ⟨by simp[gp,hd],?_⟩⟩
            have oX:X.P.underlying t=some (.struct fs):=hd
            have each:=ih.2 _ 0 _ cs xs m hkf ae0 hx (by simpa using hb)
            rw[Instr.checkKey]
            simp only[Sem.run_bind,run_underlying oX,Result.andThen_ok]
            rw[←Array.forIn_toList]
            generalize fs.toList=L at each
            clear hkf hd oX hb
            induction L with
            | nil=>simp
            | cons f L ihL=>
              obtain⟨hn,y,p1,p2⟩:=each f afU
              simp only[List.forIn_cons,Sem.run_bind,hn,ne_eq,not_false_eq_true,if_true,Result.andThen_ok,p1,p2,Sem.run_pure]
              exact ihL fun y hy=>each y (by simp[hy])
          ·simp at hk
         ·simp at hk
       ·simp at hk
     · rename_i n e hd
       split at hk
       · rename_i oO
         obtain⟨oO,bF⟩:=oO
         split at hk
         ·rename_i k oW
          injection hk with hk;subst hk
          refine⟨by rw[ahi];exact bF,.inl ⟨by simp[gp,hd],?_⟩⟩
          have oX:X.P.underlying t=some (.array n e):=hd
          have iY:bO X e=some 1:=by
            cases d with
            | zero=>simp[gq] at oW
            | succ d=>
              simp only[gq] at oW
              split at oW<;> (try (split at oW<;>simp at oW<;>assumption)) <;> (try (rename_i hde;simp[gp,hde] at oO)) <;>simp at oW
          obtain⟨inf,qA,FX⟩: ∃inf,X.P.info? e=some inf∧inf.size=1:=by simpa [bO,info] using iY
          have np:X.P.cellsOf e=1:=by simp[Program.cellsOf,qA,FX]
          rw[ahi] at hlen
          have lx:=hx.length
          have each: ∀j<n,∃y,(Go.part e xs.toArray (j*X.P.cellsOf e)).run X.P w= .ok y w∧(Instr.checkKey em m e y).run X.P w= .ok () w:=by
            intro j hj
            obtain⟨c,hc⟩: ∃c,cs[j]? =some c:=⟨_,af3 ae0⟩
            obtain⟨x,hxj,rx⟩:=hx.get hc
            have px:xs.toArray[j*X.P.cellsOf e]? =some x:=by rw[np];simpa using hxj
            have Gm: (cR [k] [c] [c]).isSome=true:=by
              obtain⟨b,hb⟩:=af8.1 hb
              have key: ∀ (n:Nat) (cs:List V) (b:Bool),cR (List.replicate n k) cs cs=some b→ ∀ (j:Nat) c,cs[j]? =some c→(cR [k] [c] [c]).isSome=true:=by
               intro n
               induction n with
               | zero=>intro cs b h j c hc;cases cs<;>simp[cR] at h hc
               | succ n ihn=>
                 intro cs b h j c hc
                 cases cs with
                 | nil=>simp at hc
                 | cons c0 cs=>
                   simp only[List.replicate_succ,cR] at h
                   split at h
                   ·rename_i p q hp hq
                    cases j with
                    | zero=>simp at hc;subst hc;simp[cR,hp]
                    | succ j=>exact ihn cs q hq j c (by simpa using hc)
                   ·simp at h
              exact key n cs b hb j c hc
            obtain⟨_,hq⟩:=ih.1 e [k] [c] [x] m oW ae0 (by simp only[ag,and_true];exact rx) Gm
            rcases hq with⟨hq,_⟩ | ⟨_,_,x',wh,hq⟩
            ·rw[oO] at hq;cases hq
            · obtain rfl:x=x':=by simpa using wh
              exact⟨x,fH oO _ _ _ px w,hq⟩
          rw[Instr.checkKey]
          simp only[Sem.run_bind,run_underlying oX,Result.andThen_ok]
          simp only[Std.Legacy.Range.forIn_eq_forIn_range',Std.Legacy.Range.size,Nat.sub_zero,Nat.add_one_sub_one,Nat.div_one]
          have Qi: ∀j ∈ List.range' 0 n,∃y,(Go.part e xs.toArray (j*X.P.cellsOf e)).run X.P w= .ok y w∧(Instr.checkKey em m e y).run X.P w= .ok () w:=fun j hj=>each j (by simp[List.mem_range'_1] at hj;omega)
          clear each
          generalize List.range' 0 n=is at Qi
          induction is with
          | nil=>simp
          | cons j is ihj=>
            obtain⟨y,p1,p2⟩:=Qi j afU
            simp only[List.forIn_cons,Sem.run_bind,run_sizeOf w qA,Result.andThen_ok,p1,p2,Sem.run_pure]
            exact ihj (fun y hy=>Qi y (by simp[hy]))
         ·simp at hk
       ·simp at hk
     ·simp at hk
   · obtain⟨m,rfl⟩: ∃m',m=m'+1:=⟨m - 1,ae0⟩
     cases fs with
     | nil=>simp
     | cons f fs=>
       simp only[oy] at hk
       split at hk
       · rename_i hn
         split at hk
         ·rename_i k1 yN
          split at hk
          · rename_i k2 JL
            injection hk with hk;subst hk
            obtain⟨e1,e2⟩:=xr hb
            obtain⟨hs,ha⟩:=ih.1 f.type k1 _ _ (m+1) yN ae0 (ag.take k1.length (ag.drop off hx)) e1
            have ud:=ih.2 fs (off+k1.length) k2 cs xs (m+1) JL ae0 hx (by simpa [ahc] using e2)
            have Im:=hn.2
            intro g hg
            rcases af7.1 hg with rfl| hg
            · refine⟨hn.1,?_⟩
              rcases ha with⟨TP,hq⟩ | ⟨TP,h1,x,MO,hq⟩
              ·refine⟨_,ur TP hs xs.toArray _ w,?_⟩
               rw[←hq,Im]
               congr 3 <;> (apply Array.ext';simp[aho,ag5])
              ·have gx:xs.toArray[g.offset]? =some x:=by
                 have:=congrArg (fun l=>l[0]?) MO
                 simpa [agy,h1,Im] using this
               exact⟨x,fH TP _ _ _ gx w,hq⟩
            ·exact ud g hg
          ·simp at hk
         ·simp at hk
       ·simp at hk
theorem eI {kt:TypeId} {ks:List Nat} (h:cH X kt=some ks): (∃fs,X.P.underlying kt=some (.struct fs))∧gq X 100 kt=some ks:=by
 unfold cH at h
 split at h
 ·rename_i fs hd;exact⟨⟨fs,hd⟩,h⟩
 ·simp at h
theorem iC {ks:List Nat} {k k':V} {b:Bool} (h:dn ks k k'=some b): ∃cs ds,k= .agg cs∧k'= .agg ds∧cR ks cs ds=some b:=by
 unfold dn at h
 split at h
 ·exact⟨_,_,rfl,rfl,h⟩
 ·simp at h
theorem qV: ∀ {ks:List Nat} {cs ds:List V},cR ks cs ds=some true→cs=ds
 | [],[],[],_=>rfl
 | [],[],_::_,h=>by simp[cR] at h
 | [],_::_,_,h=>by simp[cR] at h
 | _::_,[],_,h=>by simp[cR] at h
 | _::_,_::_,[],h=>by simp[cR] at h
 | k::ks,c::cs,d::ds,h=>by
   simp only[cR] at h
   split at h
   ·rename_i x y hx hy
    simp only[afY,af2] at h
    obtain⟨rfl,rfl⟩:=h
    have hcd:c=d:=by
     unfold GO at hx
     split at hx
     ·simp only[afY,beq_iff_eq] at hx;rw[hx]
     ·split at hx
      ·rename_i e;simp only[afY,beq_iff_eq] at hx;rw[hx,e]
      ·simp at hx
     ·simp only[afY,decide_eq_true_eq] at hx;rw[hx]
     ·simp at hx
    rw[hcd,qV hy]
   ·simp at h
theorem wQ: ∀ {ks:List Nat} {cs:List V} {xs:List Value},(cR ks cs cs).isSome=true→ag X μ cs xs→ ∀p ∈ xs.zip xs,Instr.sameBits 9999 p.1 p.2=true
 | _,[],[],_,_,_,hp=>by simp at hp
 | _,[],_::_,_,h,_,_=>by simp[ag] at h
 | _,_::_,[],_,h,_,_=>by simp[ag] at h
 | [],_::_,_,h,_,_,_=>by simp[cR] at h
 | k::ks,c::cs,x::xs,h,hr,p,hp=>by
   simp only[ag] at hr
   obtain⟨b,hb⟩:=af8.1 h
   simp only[cR] at hb
   split at hb
   ·rename_i u w hu hw
    simp only[List.zip_cons_cons,af7] at hp
    rcases hp with rfl| hp
    ·have ve:=hr.1
     unfold GO at hu
     split at hu
     ·simp only[aj] at ve;subst ve;simp[Instr.sameBits]
     ·simp only[aj] at ve;subst ve;simp[Instr.sameBits]
     ·simp only[aj] at ve;obtain⟨bs,rfl,_⟩:=ve;simp only[Instr.sameBits];rw[bytes_beq]
     ·simp at hu
    ·exact wQ (ks:=ks) (by rw[hw];rfl) hr.2 p hp
   ·simp at hb
theorem Gn: ∀ {ks:List Nat} {cs:List V} {xs ys:List Value},(cR ks cs cs).isSome=true→ag X μ cs xs→ag X μ cs ys→xs=ys
 | _,[],[],[],_,_,_=>rfl
 | _,[],[],_::_,_,_,h=>by simp[ag] at h
 | _,[],_::_,_,_,h,_=>by simp[ag] at h
 | _,_::_,[],_,_,h,_=>by simp[ag] at h
 | _,_::_,_::_,[],_,_,h=>by simp[ag] at h
 | [],_::_,_,_,h,_,_=>by simp[cR] at h
 | k::ks,c::cs,x::xs,y::ys,h,hr,hs=>by
   simp only[ag] at hr hs
   obtain⟨b,hb⟩:=af8.1 h
   simp only[cR] at hb
   split at hb
   ·rename_i u w hu hw
    rw[Gn (ks:=ks) (by rw[hw];rfl) hr.2 hs.2]
    congr 1
    have ve:=hr.1;have iY:=hs.1
    unfold GO at hu
    split at hu
    ·simp only[aj] at ve iY;rw[ve,iY]
    ·simp only[aj] at ve iY;rw[ve,iY]
    ·simp only[aj] at ve iY
     obtain⟨bs,rfl,e1⟩:=ve;obtain⟨bs',rfl,e2⟩:=iY
     congr 1
     cases bs;cases bs'
     simp only[ByteArray.mk.injEq]
     exact ag3.1 (e1.trans e2.symm)
    ·simp at hu
   ·simp at hb
theorem IA {ks:List Nat} {k:V} {x y:Value} (h: (dn ks k k).isSome=true) (h1:aj X μ k x) (h2:aj X μ k y):x=y:=by
 obtain⟨b,hb⟩:=af8.1 h
 obtain⟨cs,ds,rfl,e,hk⟩:=iC hb
 injection e with e;subst e
 simp only[aj] at h1 h2
 obtain⟨_,vs,rfl,hv⟩:=h1
 obtain⟨_,ws,rfl,hw⟩:=h2
 have:=Gn (ks:=ks) (by rw[hk];rfl) hv hw
 rw[ag3.1 this]
theorem zK {ks:List Nat} {k:V} {kv:Value} (h: (dn ks k k).isSome=true) (hr:aj X μ k kv) (w:World): (Instr.keyThatStays kv kv).run X.P w= .ok kv w:=by
 obtain⟨b,hb⟩:=af8.1 h
 obtain⟨cs,ds,rfl,e,hk⟩:=iC hb
 injection e with e;subst e
 simp only[aj] at hr
 obtain⟨_,vs,rfl,hv⟩:=hr
 have hs:Instr.sameBits 10000 (.agg vs) (.agg vs)=true:=by
  show Instr.sameBits (9999+1) (.agg vs) (.agg vs)=true
  simp only[Instr.sameBits,beq_self_eq_true,ahz,af5]
  intro p hp
  exact wQ (ks:=ks) (by rw[hk];rfl) hv p hp
 simp[Instr.keyThatStays,hs]
theorem qb {kt:TypeId} {ks:List Nat} {k:V} {kv:Value} (hk:cH X kt=some ks) (h: (dn ks k k).isSome=true) (hr:aj X μ k kv) (em:Bool) (w:World): (Instr.checkKey em 10000 kt kv).run X.P w= .ok () w:=by
 obtain⟨⟨fs,hd⟩,hks⟩:=eI hk
 obtain⟨b,hb⟩:=af8.1 h
 obtain⟨cs,ds,rfl,e,he⟩:=iC hb
 injection e with e;subst e
 simp only[aj] at hr
 obtain⟨_,vs,rfl,hv⟩:=hr
 obtain⟨_,h1| ⟨h1,_⟩⟩:=(WB em w 100).1 kt ks cs vs.toList 10000 hks ae0 hv (by rw[he];rfl)
 ·simpa using h1.2
 ·have:gp X kt=some true:=by simp[gp,bJ,hd]
  rw[this] at h1;cases h1
theorem nG {kt:TypeId} {ks:List Nat} {k k':V} {kv XN:Value} {b:Bool} (hk:cH X kt=some ks) (h:dn ks k k'=some b) (h1:aj X μ k kv) (h2:aj X μ k' XN) (w:World):
  (Op.equal kt kv XN).run X.P w= .ok b w:=by
 obtain⟨⟨fs,hd⟩,hks⟩:=eI hk
 obtain⟨cs,ds,rfl,rfl,he⟩:=iC h
 simp only[aj] at h1 h2
 obtain⟨_,xs,rfl,hx⟩:=h1
 obtain⟨_,ys,rfl,hy⟩:=h2
 obtain⟨_,hh| ⟨hh,_⟩⟩:=(PU (X:=X) (μ:=μ) w 100).1 kt ks cs ds _ _ b 10000 hks ae0 hx hy he
 ·simpa [Op.equal,Op.maxDepth] using hh.2
 ·have:gp X kt=some true:=by simp[gp,bJ,hd]
  rw[this] at hh;cases hh
def uB (X:Ctx) (μ:Mu) (kt:TypeId) (kv:Value) (ents:List MapEntry) (r:Option (Nat×Value)):Prop:= ∀i,(Instr.findAsking kt kv ents i).run X.P μ.w= .ok (r.map fun p=> (i+p.1,p.2)) μ.w
theorem jf {kt:TypeId} {ks:List Nat} {k:V} {kv:Value} (hk:cH X kt=some ks) (h1:aj X μ k kv): ∀ {es:List V} {ents:List MapEntry} {r:Option V},ag X μ es (ents.map oY)→cG ks k es=some r→
   (r=none∧uB X μ kt kv ents none)∨ ∃v j e,r=some v∧uB X μ kt kv ents (some (j,e))∧aj X μ v e
 | [],[],r,_,h=>by simp[cG] at h;subst h;exact .inl ⟨rfl,fun i=>by simp[Instr.findAsking]⟩
 | [],_::_,_,h,_=>by simp[ag] at h
 | _::_,[],_,h,_=>by simp[ag] at h
 | e::es,m::ents,r,hr,h=>by
   simp only[List.map_cons,ag] at hr
   unfold cG at h
   split at h
   ·rename_i heq;simp at heq
   ·rename_i k' v' es' heq
    injection heq with e1 e2
    subst e2
    obtain⟨t1,t2⟩:=qT hr.1 e1
    split at h
    ·rename_i hq
     injection h with h
     subst h
     exact .inr ⟨v',0,m.val,rfl,fun i=>by simp[Instr.findAsking,Sem.run_bind,nG hk hq h1 t1 μ.w,Result.andThen_ok],t2⟩
    ·rename_i hq
     have s1:=nG hk hq h1 t1 μ.w
     rcases jf hk h1 hr.2 h with⟨g1,g2⟩ | ⟨v,j,x,g1,g2,g3⟩
     ·exact .inl ⟨g1,fun i=>by simp[Instr.findAsking,Sem.run_bind,s1,Result.andThen_ok,g2 (i+1)]⟩
     ·exact .inr ⟨v,j+1,x,g1,fun i=>by simp[Instr.findAsking,Sem.run_bind,s1,Result.andThen_ok,g2 (i+1)];omega,g3⟩
    ·simp at h
   ·simp at h
theorem qc {kt:TypeId} {ks:List Nat} {k u:V} {kv val:Value} (hk:cH X kt=some ks) (h1:aj X μ k kv) (h2:aj X μ u val): ∀ {es es':List V} {ents:List MapEntry},ag X μ es (ents.map oY)→dF ks k u es=some es'→
   (uB X μ kt kv ents none∧ ∀c,ag X μ es' ((ents++[({key:=kv,val:=val,born:=c}:MapEntry)]).map oY))∨
   ∃j e,uB X μ kt kv ents (some (j,e.val))∧ents[j]? =some e∧aj X μ k e.key∧ag X μ es' ((ents.set j ({key:=kv,val:=val,born:=e.born}:MapEntry)).map oY)
 | [],es',[],_,h=>by
   simp[dF] at h;subst h
   exact .inl ⟨fun i=>by simp[Instr.findAsking],fun c=>by simp only[agH,List.map_cons,ahx,ag];exact⟨mU (me:={key:=kv,val:=val,born:=c}) h1 h2,trivial⟩⟩
 | [],_,_::_,h,_=>by simp[ag] at h
 | _::_,_,[],h,_=>by simp[ag] at h
 | e::es,es',m::ents,hr,h=>by
   simp only[List.map_cons,ag] at hr
   unfold dF at h
   split at h
   ·rename_i heq;simp at heq
   ·rename_i k' v' Ar heq
    injection heq with e1 e2
    subst e2
    obtain⟨t1,t2⟩:=qT hr.1 e1
    split at h
    ·rename_i hq
     injection h with h
     subst h
     have hkk:k=k':=by
      obtain⟨cs,ds,rfl,rfl,he⟩:=iC hq
      rw[qV he]
     exact .inr ⟨0,m,fun i=>by simp[Instr.findAsking,Sem.run_bind,nG hk hq h1 t1 μ.w,Result.andThen_ok],rfl,by rw[hkk];exact t1,by simp only[List.set_cons_zero,List.map_cons,ag];exact⟨mU (me:={key:=kv,val:=val,born:=m.born}) h1 h2,hr.2⟩⟩
    ·rename_i hq
     have s1:=nG hk hq h1 t1 μ.w
     rw[afZ] at h
     obtain⟨ZO,g0,rfl⟩:=h
     rcases qc hk h1 h2 hr.2 g0 with⟨g1,g2⟩ | ⟨j,x,g1,g2,g3,g4⟩
     ·exact .inl ⟨fun i=>by simp[Instr.findAsking,Sem.run_bind,s1,Result.andThen_ok,g1 (i+1)],fun c=>by simp only[ags,List.map_cons,ag];exact⟨mU t1 t2,g2 c⟩⟩
     ·exact .inr ⟨j+1,x,fun i=>by simp[Instr.findAsking,Sem.run_bind,s1,Result.andThen_ok,g1 (i+1)];omega,by simpa using g2,g3,by simp only[List.set_cons_succ,List.map_cons,ag];exact⟨mU t1 t2,g4⟩⟩
    ·simp at h
   ·simp at h
theorem iI {kt:TypeId} {fs:Array Field} (hd:X.P.underlying kt=some (.struct fs)) {kv:Value} {ents:List MapEntry} {r:Option (Nat×Value)} (h:uB X μ kt kv ents r): (Instr.findKey kt kv ents).run X.P μ.w= .ok r μ.w:=by
 rw[run_findKey_eq μ.w (by rw[hd]),h 0]
 cases r<;>simp
theorem zL {t kt et:TypeId} {x i:Operand} {x' i':aT} {ok:Bool} {ks:List Nat} {z:V} (hr:Rel X T a μ) (ho:o.op= .lookup t x i ok) (ht:bJ X t=some (.map kt et)) (hk:cH X kt=some ks)
  (hz:eY X et=some z) (h1:dc X x=some x') (h2:dc X i=some i') (ah: (aH E (.qy ks ok z x' i')).run C ⟨T,μ.O⟩=some (v,σ')):σ'.T=T∧cT X o a μ σ'.O v:=by
 simp only[aH,bz] at ah
 have hx:=aQ hr h1 μ.O
 have hi:=aQ hr h2 μ.O
 have kH:X.P.underlying t=some (.map kt et):=ht
 obtain⟨⟨fs,hd⟩,_⟩:=eI hk
 obtain⟨zv,xp,Am⟩:=ij hz μ.w
 obtain⟨zH,It⟩:=eG (X:=X) (μ:=μ) Am
 split at ah
 ·rename_i mf
  have GX:=fun em=>qb hk mf hi em μ.w
  have main: ∀ {es:List V} {ents:Array MapEntry} {m:Option Nat},ag X μ es (ents.toList.map oY)→(dB ks ok z es (bu ⟨T,μ.O⟩ i')).run C ⟨T,μ.O⟩=some (v,σ')→a.eval x= .map m→
    (match m with| none=>ents= #[] | some r=> ∃clock,μ.w.heap[r]? =some (.map ents clock))→σ'.T=T∧cT X o a μ σ'.O v:=by
   intro es ents m bl eF hm hb
   have fin: ∀ (u:Value) (b:Bool) (r:Option (Nat×Value)),uB X μ kt (a.eval i) ents.toList r→(match r with
      | some (_,v)=>u=v∧b=true
      | none=>u=zv∧b=false)→(execOp a.eval o).run X.P μ.w= .ok (.value (if ok then .tuple #[u,.bool b] else u)) μ.w:=by
    intro u b r mc hf
    have DD:=iI hd mc
    simp only[execOp,ho]
    refine du ?_
    cases m with
    | none=>
      simp only at hb
      subst hb
      cases r with
      | none=>
        simp only at hf;obtain⟨rfl,rfl⟩:=hf
        cases ok<;>simp[Instr.lookup,Sem.run_bind,run_underlying kH,Result.andThen,hm,GX,DD,xp]
      | some p=>
        obtain⟨j,y⟩:=p
        simp only at hf;obtain⟨rfl,rfl⟩:=hf
        cases ok<;>simp[Instr.lookup,Sem.run_bind,run_underlying kH,Result.andThen,hm,GX,DD]
    | some rr=>
      obtain⟨clock,hb⟩:=hb
      cases r with
      | none=>
        simp only at hf;obtain⟨rfl,rfl⟩:=hf
        cases ok<;>simp[Instr.lookup,Sem.run_bind,run_underlying kH,Result.andThen,hm,Go.MapKept.run_getObj_map hb,GX,DD,xp]
      | some p=>
        obtain⟨j,y⟩:=p
        simp only at hf;obtain⟨rfl,rfl⟩:=hf
        cases ok<;>simp[Instr.lookup,Sem.run_bind,run_underlying kH,Result.andThen,hm,Go.MapKept.run_getObj_map hb,GX,DD]
   unfold dB at eF
   split at eF
   ·rename_i y hy
    obtain⟨rfl,rfl⟩:=aY eF
    rcases jf hk hi bl hy with⟨g1,_⟩ | ⟨v0,j,e,g1,g2,g3⟩
    ·cases g1
    · injection g1 with g1
      subst g1
      refine⟨rfl,aN hr.a8 (fin e true _ g2 ⟨rfl,rfl⟩) ?_⟩
      cases ok
      ·simpa using g3
      ·simp only[if_true,aj];exact⟨_,rfl,by simp[ag,aj,g3]⟩
   ·rename_i hy
    obtain⟨rfl,rfl⟩:=aY eF
    rcases jf hk hi bl hy with⟨_,g2⟩ | ⟨v0,j,e,g1,g2,g3⟩
    · refine⟨rfl,aN hr.a8 (fin zv false _ g2 ⟨rfl,rfl⟩) ?_⟩
      cases ok
      ·simpa using zH
      ·simp only[if_true,aj];exact⟨_,rfl,by simp[ag,aj,zH]⟩
    ·cases g1
   ·exact absurd eF aq
  split at ah
  ·rename_i r g e
   rw[e] at hx
   simp only[aj] at hx
   obtain⟨b,hp,oO,bT⟩:=hx
   simp only[Act.run] at ah
   split at ah
   ·rename_i es bo
    split at ah
    · rename_i hc
      obtain⟨k0,rfl⟩:=bT hc.1
      rcases hr.a8.ents r es bo hc.2 with⟨cM,ents,clock,hm,bl,_⟩ | ⟨_,s,pos,_,rfl⟩ | ⟨lX,rfl⟩
      ·exact main bl ah hp ⟨clock,hm⟩
      ·exact absurd (by simpa [dB,cG] using ah) aq
      ·exact absurd (by simpa [dB,cG] using ah) aq
    ·exact absurd ah aq
   ·exact absurd ah aq
  ·rename_i es e
   rw[e] at hx
   simp only[aj] at hx
   obtain⟨_,⟨rfl,hp⟩ | ⟨b,ents,clock,hp,_,_,⟨hm,_⟩,bl⟩⟩:=hx
   ·exact main (ents:= #[]) (by simp[ag]) ah hp rfl
   ·exact main bl ah hp ⟨clock,hm⟩
  ·exact absurd ah aq
 ·exact absurd ah aq
theorem zM {t kt et:TypeId} {x i y:Operand} {x' i' y':aT} {ks:List Nat} (hr:Rel X T a μ) (ho:o.op= .mapUpdate t x i y∨o.op= .insert t x i y) (ht:bJ X t=some (.map kt et)) (hk:cH X kt=some ks)
  (h1:dc X x=some x') (h2:dc X i=some i') (h3:dc X y=some y') (ah: (aH E (.qx ks x' i' y')).run C ⟨T,μ.O⟩=some (v,σ')):σ'.T=T∧cT X o a μ σ'.O v:=by
 simp only[aH,bz] at ah
 have hx:=aQ hr h1 μ.O
 have hi:=aQ hr h2 μ.O
 have hy:=aQ hr h3 μ.O
 have kH:X.P.underlying t=some (.map kt et):=ht
 obtain⟨⟨fs,hd⟩,_⟩:=eI hk
 split at ah
 ·rename_i r g e
  rw[e] at hx
  simp only[bz] at ah
  obtain⟨u,O1,k1,k2,k3,k4⟩:=jD (μ:=μ) hr.a8 hy ah
  have MO:=aj.mono k3 hx
  have qA:=aj.mono k3 hi
  simp only[Act.run] at k1
  split at k1
  ·rename_i es bo
   split at k1
   ·rename_i hc
    obtain⟨cE,bF,gu,mf,kq⟩:=hc
    split at k1
    ·rename_i es' fj
     simp only[Act.run,afY,af4] at k1
     obtain⟨rfl,rfl⟩:=k1
     simp only[aj] at MO
     obtain⟨b,hp,oO,bT⟩:=MO
     obtain⟨_,rfl⟩:=bT cE
     obtain⟨cM,ents,clock,hm,bl,cr⟩: (μ.φ r).cap≠0∧ ∃ents clock,μ.w.heap[(μ.φ r).bV]? =some (.map ents clock)∧ag X ⟨μ.w,μ.φ,O1⟩ es (ents.toList.map oY)∧gr ents clock:=by
      rcases k4.ents r es bo bF with h| ⟨_,s,pos,_,rfl⟩ | ⟨lX,rfl⟩
      ·exact h
      ·simp[dF] at fj
      ·simp[dF] at fj
     have GX:=qb hk mf hi false μ.w
     have fin: ∀w',(Instr.mapUpdate t (.map (some (μ.φ r).bV)) (a.eval i) (a.eval y)).run X.P μ.w= .ok () w'→(execOp a.eval o).run X.P μ.w= .ok .skip w':=fun w' hw=>by
      rcases ho with ho| ho
      ·simp only[execOp,ho,hp];exact zB hw
      ·simp only[execOp,ho,hp];exact zB hw
     rcases qc hk qA k2 bl fj with⟨g1,g2⟩ | ⟨j,e,g1,g2,g3,g4⟩
     ·have DD:=iI (μ:=⟨μ.w,μ.φ,O1⟩) hd g1
      obtain⟨le,eS⟩:=gv (μ:=⟨μ.w,μ.φ,O1⟩) k4 r (es':=es') (ob':= .map (ents.push {key:=a.eval i,val:=a.eval y,born:=clock}) (clock+1)) bo gu bF hm cM (.inl ⟨ents,clock,rfl,bl,cr⟩) (.inl ⟨_,_,rfl,by
       have:=g2 clock
       have e1: (ents.push ({key:=a.eval i,val:=a.eval y,born:=clock}:MapEntry)).toList=ents.toList++[({key:=a.eval i,val:=a.eval y,born:=clock}:MapEntry)]:=afU
       rw[e1];exact this,qU cr _ rfl⟩)
      refine⟨rfl,undef,_,_,.inr ⟨fin _ ?_,rfl⟩,by simp only[aj];exact⟨#[],rfl,by simp[ag]⟩,k3.trans le,eS⟩
      simp[Instr.mapUpdate,run_underlying kH,Go.MapKept.run_getObj_map hm,GX,DD,Go.MapKept.run_setObj_map _ hm,Result.andThen,Sem.run_bind]
     ·have DD:=iI (μ:=⟨μ.w,μ.φ,O1⟩) hd g1
      have oW:e.key=a.eval i:=IA mf g3 qA
      have Rc:ents[j]? =some e:=by simpa using g2
      have eJ:=zK mf hi μ.w
      obtain⟨le,eS⟩:=gv (μ:=⟨μ.w,μ.φ,O1⟩) k4 r (es':=es') (ob':= .map (ents.modify j fun e=> {e with key:=a.eval i,val:=a.eval y}) (clock)) bo gu bF hm cM (.inl ⟨ents,clock,rfl,bl,cr⟩) (.inl ⟨_,_,rfl,by
       have hl: (ents.modify j fun e=> {e with key:=a.eval i,val:=a.eval y}).toList=ents.toList.set j {e with key:=a.eval i,val:=a.eval y}:=by
        apply agQ
        intro n
        rw[ahh,agu,agY]
        by_cases hn:j=n
        ·subst hn
         have bk:=(af0.1 g2).1
         simp only[if_true,bk,g2,agc,and_self]
         rfl
        ·simp[hn]
       rw[hl];exact g4,mF cr j fun _=>rfl⟩)
      refine⟨rfl,undef,_,_,.inr ⟨fin _ ?_,rfl⟩,by simp only[aj];exact⟨#[],rfl,by simp[ag]⟩,k3.trans le,eS⟩
      simp[Instr.mapUpdate,run_underlying kH,Go.MapKept.run_getObj_map hm,GX,DD,Rc,oW,eJ,Go.MapKept.run_setObj_map _ hm,Result.andThen,Sem.run_bind]
    ·exact absurd k1 aq
   ·exact absurd k1 aq
  ·exact absurd k1 aq
 ·exact absurd ah aq
theorem zN {c:Call} {s x:Operand} {sT xT e:TypeId} {d:TypeDesc} {s' x':aT} {ix r sz:Nat} {i:TypeInfo} {z:V} (hr:Rel X T a μ) (ho:o.op= .call c) (hc:c.callee= .builtin .append)
  (j6:c.args= #[s,x]) (Ix:c.argTypes= #[sT,xT]) (hd:bJ X sT=some (.slice e)) (hx:bJ X xT=some d) (L3: ∀k,d≠ .int k) (hn:bO X e=some sz) (hi:info X e=some i)
  (hz:eY X e=some z) (P7:aU z sz=true) (h1:dc X s=some s') (h2:dc X x=some x')
  (ah: (aH E (.ti ix r sz (uj i.bytes) s' x')).run C ⟨T,μ.O⟩=some (v,σ')):σ'.T=T∧cT X o a μ σ'.O v:=by
 simp only[aH,bz] at ah
 split at ah
 ·rename_i kk j he
  refine vE (E:=E) (C:=C) (v:=v) (r:=r+16*j.toNat) hr ho hc j6 Ix hd hx L3 hn hi hz P7 h1 h2 ?_
  simp only[aH,bz] at ah ⊢
  exact ah
 ·exact absurd ah aq
theorem qd {kt:TypeId} {ks:List Nat} {k:V} {kv:Value} (hk:cH X kt=some ks) (h1:aj X μ k kv): ∀ {es:List V} {ents:List MapEntry} {i:Nat} {r:Option (Nat×V)},ag X μ es (ents.map oY)→dZ ks k i es=some r→
   (r=none∧uB X μ kt kv ents none)∨ ∃v j e,r=some (i+j,v)∧uB X μ kt kv ents (some (j,e.val))∧aj X μ v e.val∧ents[j]? =some e∧aj X μ k e.key
 | [],[],_,r,_,h=>by simp[dZ] at h;subst h;exact .inl ⟨rfl,fun i=>by simp[Instr.findAsking]⟩
 | [],_::_,_,_,h,_=>by simp[ag] at h
 | _::_,[],_,_,h,_=>by simp[ag] at h
 | e::es,m::ents,i,r,hr,h=>by
   simp only[List.map_cons,ag] at hr
   unfold dZ at h
   split at h
   ·rename_i heq;simp at heq
   ·rename_i k' v' es' heq
    injection heq with e1 e2
    subst e2
    obtain⟨t1,t2⟩:=qT hr.1 e1
    split at h
    ·rename_i hq
     injection h with h
     subst h
     have hkk:k=k':=by
      obtain⟨cs,ds,rfl,rfl,he⟩:=iC hq
      rw[qV he]
     exact .inr ⟨v',0,m,rfl,fun i=>by simp[Instr.findAsking,Sem.run_bind,nG hk hq h1 t1 μ.w,Result.andThen_ok],t2,rfl,by rw[hkk];exact t1⟩
    ·rename_i hq
     have s1:=nG hk hq h1 t1 μ.w
     rcases qd hk h1 hr.2 h with⟨g1,g2⟩ | ⟨v,j,x,g1,g2,g3,g4,g5⟩
     ·exact .inl ⟨g1,fun i=>by simp[Instr.findAsking,Sem.run_bind,s1,Result.andThen_ok,g2 (i+1)]⟩
     ·exact .inr ⟨v,j+1,x,by rw[g1];congr 2;omega,fun i=>by simp[Instr.findAsking,Sem.run_bind,s1,Result.andThen_ok,g2 (i+1)];omega,g3,by simpa using g4,g5⟩
    ·simp at h
   ·simp at h
theorem IB {t kt et:TypeId} {x i:Operand} {x' i':aT} {ks:List Nat} {z:V} (hr:Rel X T a μ) (ho:o.op= .mapEntry t x i) (ht:bJ X t=some (.map kt et)) (hk:cH X kt=some ks)
  (hz:eY X et=some z) (h1:dc X x=some x') (h2:dc X i=some i') (ah: (aH E (.tg ks z x' i')).run C ⟨T,μ.O⟩=some (v,σ')):σ'.T=T∧cT X o a μ σ'.O v:=by
 simp only[aH,bz] at ah
 have hx:=aQ hr h1 μ.O
 have hi:=aQ hr h2 μ.O
 have kH:X.P.underlying t=some (.map kt et):=ht
 obtain⟨⟨fs,hd⟩,_⟩:=eI hk
 obtain⟨zv,xp,Am⟩:=ij hz μ.w
 obtain⟨zH,It⟩:=eG (X:=X) (μ:=μ) Am
 split at ah
 ·rename_i r g e
  rw[e] at hx
  simp only[bz,Act.run] at ah
  split at ah
  ·rename_i es bo
   split at ah
   ·rename_i hc
    obtain⟨cE,bF,gu,mf,kq⟩:=hc
    simp only[aj] at hx
    obtain⟨b,hp,oO,bT⟩:=hx
    obtain⟨_,rfl⟩:=bT cE
    have GX:=qb hk mf hi false μ.w
    have fin: ∀u w',(Instr.mapEntry t (.map (some (μ.φ r).bV)) (a.eval i)).run X.P μ.w= .ok u w'→(execOp a.eval o).run X.P μ.w= .ok (.value u) w':=fun u w' hw=>by
     simp only[execOp,ho,hp];exact du hw
    have Uz: (∃q,dZ ks (bu ⟨T,μ.O⟩ i') 0 es=some q)→(μ.φ r).cap≠0∧ ∃ents clock,μ.w.heap[(μ.φ r).bV]? =some (.map ents clock)∧ag X μ es (ents.toList.map oY)∧gr ents clock:=by
     rintro⟨q,hq⟩
     rcases hr.a8.ents r es bo bF with h| ⟨_,s,pos,_,rfl⟩ | ⟨lX,rfl⟩
     ·exact h
     ·simp[dZ] at hq
     ·simp[dZ] at hq
    split at ah
    ·rename_i j u qZ
     simp only[Act.run,afY,af4] at ah
     obtain⟨rfl,rfl⟩:=ah
     obtain⟨cM,ents,clock,hm,bl,cr⟩:=Uz ⟨_,qZ⟩
     rcases qd hk hi bl qZ with⟨g1,_⟩ | ⟨v,j',e,g1,g2,g3,g4,g5⟩
     ·cases g1
     ·simp only[afY,af4,agK] at g1
      obtain⟨rfl,rfl⟩:=g1
      have DD:=iI hd g2
      have oW:e.key=a.eval i:=IA mf g5 hi
      have Rc:ents[j]? =some e:=by simpa using g4
      have eJ:=zK mf hi μ.w
      have mm: (ents.modify j fun e=> {e with key:=a.eval i})=ents:=by
       apply Array.ext'
       apply agQ
       intro n
       rw[ahh,agu]
       by_cases hn:j=n
       ·subst hn
        rw[g4,←oW];simp only[if_true];rfl
       ·simp[hn]
      obtain⟨le,eS⟩:=gv hr.a8 r (es':=es) (ob':= .map ents clock) bo gu bF hm cM (.inl ⟨ents,clock,rfl,bl,cr⟩) (.inl ⟨ents,clock,rfl,bl,cr⟩)
      refine⟨rfl,.tuple #[e.val,goInt e.born],_,_,.inl (fin _ _ ?_),?_,le,eS⟩
      ·simp[Instr.mapEntry,run_underlying kH,Go.MapKept.run_getObj_map hm,GX,DD,Rc,oW,eJ,mm,Go.MapKept.run_setObj_map _ hm,Result.andThen,Sem.run_bind]
      ·simp only[aj]
       refine⟨_,rfl,?_⟩
       simp only[ag,aj,and_true]
       exact⟨aj.mono le g3,by rw[cr.at Rc];rfl⟩
    ·rename_i qZ
     simp only[Act.run,afY,af4] at ah
     obtain⟨rfl,rfl⟩:=ah
     obtain⟨cM,ents,clock,hm,bl,cr⟩:=Uz ⟨_,qZ⟩
     rcases qd hk hi bl qZ with⟨_,g2⟩ | ⟨v,j',e,g1,_⟩
     ·have DD:=iI hd g2
      have hlen:es.length=ents.size:=by have:=bl.length;simpa using this
      obtain⟨le,eS⟩:=gv hr.a8 r (es':=es++[.tuple [bu ⟨T,μ.O⟩ i',z]]) (ob':= .map (ents.push {key:=a.eval i,val:=zv,born:=clock}) (clock+1)) bo gu bF hm cM (.inl ⟨ents,clock,rfl,bl,cr⟩) (.inl ⟨_,_,rfl,by
       have e1: (ents.push ({key:=a.eval i,val:=zv,born:=clock}:MapEntry)).toList=ents.toList++[({key:=a.eval i,val:=zv,born:=clock}:MapEntry)]:=afU
       rw[e1,agA]
       refine bl.append ?_
       simp only[List.map_cons,ahx,ag,and_true]
       exact mU (me:={key:=a.eval i,val:=zv,born:=clock}) hi zH,qU cr _ rfl⟩)
      refine⟨rfl,.tuple #[zv,goInt clock],_,_,.inl (fin _ _ ?_),?_,le,eS⟩
      ·simp[Instr.mapEntry,run_underlying kH,Go.MapKept.run_getObj_map hm,GX,DD,xp,Go.MapKept.run_setObj_map _ hm,Result.andThen,Sem.run_bind]
      ·simp only[aj]
       refine⟨_,rfl,?_⟩
       simp only[ag,aj,and_true]
       exact⟨aj.mono le zH,by rw[cr.1,hlen];rfl⟩
     ·cases g1
    ·exact absurd ah aq
   ·exact absurd ah aq
  ·exact absurd ah aq
 ·exact absurd ah aq
theorem IC {t:TypeId} {x s y:Operand} {x' s' y':aT} (hr:Rel X T a μ) (ho:o.op= .entryStore t x s y)
  (h1:dc X x=some x') (h2:dc X s=some s') (h3:dc X y=some y') (ah: (aH E (.th x' s' y')).run C ⟨T,μ.O⟩=some (v,σ')):σ'.T=T∧cT X o a μ σ'.O v:=by
 simp only[aH,bz] at ah
 have hx:=aQ hr h1 μ.O
 have hs:=aQ hr h2 μ.O
 have hy:=aQ hr h3 μ.O
 split at ah
 ·rename_i r g e
  rw[e] at hx
  simp only[bz] at ah
  split at ah
  ·rename_i j lX
   rw[lX] at hs
   simp only[bz] at ah
   obtain⟨u,O1,k1,k2,k3,k4⟩:=jD (μ:=μ) hr.a8 hy ah
   have MO:=aj.mono k3 hx
   simp only[Act.run] at k1
   split at k1
   ·rename_i es bo
    split at k1
    ·rename_i hc
     obtain⟨cE,bF,gu,kq,hj0⟩:=hc
     split at k1
     ·rename_i k' w0 eF
      simp only[Act.run,afY,af4] at k1
      obtain⟨rfl,rfl⟩:=k1
      simp only[aj] at MO hs
      obtain⟨b,hp,oO,bT⟩:=MO
      obtain⟨_,rfl⟩:=bT cE
      obtain⟨cM,ents,clock,hm,bl,cr⟩: (μ.φ r).cap≠0∧ ∃ents clock,μ.w.heap[(μ.φ r).bV]? =some (.map ents clock)∧ag X ⟨μ.w,μ.φ,O1⟩ es (ents.toList.map oY)∧gr ents clock:=by
       rcases k4.ents r es bo bF with h| ⟨_,s,pos,_,rfl⟩ | ⟨lX,rfl⟩
       ·exact h
       ·exfalso
        cases hn:j.toNat with
        | zero=>rw[hn] at eF;simp at eF
        | succ n=>rw[hn] at eF;cases n<;>simp at eF
       ·exfalso
        cases hn:j.toNat with
        | zero=>rw[hn] at eF;simp at eF
        | succ n=>rw[hn] at eF;simp at eF
      obtain⟨me,hme,hmr⟩:=bl.get eF
      simp only[age,afZ] at hme
      obtain⟨en,hen,rfl⟩:=hme
      have WC:ents[j.toNat]? =some en:=by simpa using hen
      obtain⟨t1,_⟩:=qT hmr rfl
      have tK:ents.findIdx? (fun e=> (e.born:Int)==j)=some j.toNat:=by
       have bk:=(af1.1 WC).1
       rw[Array.findIdx?_eq_some_iff_getElem]
       refine⟨bk,?_,fun n hn=> ?_⟩
       ·have:=cr.at WC
        rw[(af1.1 WC).2,this]
        simp;omega
       ·have GP:n<ents.size:=ae0
        have:=cr.at (agl GP)
        rw[this];simp;omega
      have pS:ag X ⟨μ.w,μ.φ,O1⟩ (es.set j.toNat (.tuple [k',u])) ((ents.modify j.toNat fun e=> {e with val:=a.eval y}).toList.map oY):=by
       have hl: (ents.modify j.toNat fun e=> {e with val:=a.eval y}).toList=ents.toList.set j.toNat {en with val:=a.eval y}:=by
        apply agQ
        intro n
        rw[ahh,agu,agY]
        by_cases hn:j.toNat=n
        ·subst hn
         have bk:=(af0.1 hen).1
         simp only[if_true,bk,hen,agc,and_self]
         rfl
        ·simp[hn]
       rw[hl,ag0]
       exact bl.set j.toNat (mU (me:={en with val:=a.eval y}) t1 k2)
      obtain⟨le,eS⟩:=gv (μ:=⟨μ.w,μ.φ,O1⟩) k4 r (es':=es.set j.toNat (.tuple [k',u])) (ob':= .map (ents.modify j.toNat fun e=> {e with val:=a.eval y}) clock) bo gu bF hm cM (.inl ⟨ents,clock,rfl,bl,cr⟩)
       (.inl ⟨_,_,rfl,pS,mF cr _ fun _=>rfl⟩)
      refine⟨rfl,undef,_,_,.inr ⟨?_,rfl⟩,by simp only[aj];exact⟨#[],rfl,by simp[ag]⟩,k3.trans le,eS⟩
      simp only[execOp,ho,hp,hs]
      refine zB ?_
      simp[Instr.entryStore,Go.MapKept.run_getObj_map hm,Sem.run_bind,Result.andThen,asInt,asIntOf,tK,Go.MapKept.run_setObj_map _ hm]
     ·exact absurd k1 aq
    ·exact absurd k1 aq
   ·exact absurd k1 aq
  ·exact absurd ah aq
 ·exact absurd ah aq
theorem qW: ∀ {ks:List Nat} {cs ds:List V},iV ks cs=true→iV ks ds=true→(cR ks cs ds).isSome=true
 | [],[],[],_,_=>rfl
 | [],[],_::_,_,h=>by simp[iV] at h
 | [],_::_,_,h,_=>by simp[iV] at h
 | k::ks,[],_,h,_=>by unfold iV at h;split at h<;>simp_all
 | k::ks,_::_,[],_,h=>by unfold iV at h;split at h<;>simp_all
 | k::ks,c::cs,d::ds,h,h'=>by
   unfold iV at h
   split at h
   ·simp_all
   ·rename_i e1 e2
    injection e1 with a1 a2;injection e2 with b1 b2;subst a1;subst a2;subst b1;subst b2
    unfold iV at h'
    split at h'<;>simp_all
    rename_i e1 e2 _
    have:=qW h h'
    obtain⟨b,hb⟩:=af8.1 this
    obtain⟨rfl,rfl⟩:=e2
    simp[cR,GO,hb]
   ·rename_i e1 e2
    injection e1 with a1 a2;injection e2 with b1 b2;subst a1;subst a2;subst b1;subst b2
    unfold iV at h'
    split at h'<;>simp_all
    have:=qW h h'
    obtain⟨b,hb⟩:=af8.1 this
    simp[cR,GO,hb]
   ·rename_i e1 e2
    injection e1 with a1 a2;injection e2 with b1 b2;subst a1;subst a2;subst b1;subst b2
    unfold iV at h'
    split at h'<;>simp_all
    have:=qW h h'
    obtain⟨b,hb⟩:=af8.1 this
    simp[cR,GO,hb]
   ·simp at h
theorem DE {ks:List Nat} {k k':V} (h:Au ks k=true) (h':Au ks k'=true): (dn ks k k').isSome=true:=by
 cases k<;>simp[Au] at h
 cases k'<;>simp[Au] at h'
 exact qW h h'
theorem zO {ks:List Nat} {k:V} (hk:Au ks k=true): ∀ {es:List V},es.all (Eg ks)=true→ ∃r,cG ks k es=some r∧eu ks k es=r.getD (.int .i64 0)
 | [],_=> ⟨none,rfl,rfl⟩
 | e::es,h=>by
   simp only[agj,af2] at h
   obtain⟨h1,h2⟩:=h
   unfold Eg at h1
   split at h1
   ·rename_i k' n
    obtain⟨b,hb⟩:=af8.1 (DE hk h1)
    cases b with
    | true=>exact⟨some (.int .i64 n),by simp[cG,hb],by simp[eu,hb]⟩
    | false=>
      obtain⟨r,h3,h4⟩:=zO hk h2
      exact⟨r,by simp[cG,hb,h3],by simp[eu,hb,h4]⟩
   ·simp at h1
theorem B6 {z:V} (h:isZero z=true):z= .int .i64 0:=by
 unfold isZero at h
 split at h
 ·rename_i n;simp at h;rw[h]
 ·simp at h
theorem WD {x' i':aT} {ks:List Nat} {T:Nat→V} {O:Nat→Obj} {p:V×St} (ah: (aH E (.ky ks x' i')).run C ⟨T,O⟩=some p): (aH E (.qy ks false (.int .i64 0) x' i')).run C ⟨T,O⟩=some p:=by
 simp only[aH,bz] at ah ⊢
 split at ah
 ·rename_i r g e
  rw[e]
  simp only[bz,Act.run] at ah
  unfold G8 kl at ah
  split at ah
  ·rename_i gen sz f hc
   simp only[af4] at hc
   obtain⟨rfl,rfl,hc⟩:=hc
   cases bo: (O r).es with
   | none=>rw[bo] at hc;simp at hc
   | some es=>
     rw[bo] at hc
     simp only[agc,afY,af4] at hc
     obtain⟨kA,rfl⟩:=hc
     split at ah
     ·rename_i WA
      obtain⟨c1,c2,c3⟩:=WA
      rw[if_pos (DE c3 c3)]
      simp only[Act.run,bo]
      rw[if_pos ⟨c1,c2⟩]
      obtain⟨q,q1,q2⟩:=zO c3 kA
      unfold dB
      rw[q1]
      simp only[q2] at ah
      cases q<;>simpa using ah
     ·exact absurd ah aq
  ·exact absurd ah aq
 ·exact absurd ah aq
theorem WE {x' i':aT} {ks:List Nat} {T:Nat→V} {O:Nat→Obj} {p:V×St} (ah: (aH E (.kz ks x' i')).run C ⟨T,O⟩=some p): (aH E (.tg ks (.int .i64 0) x' i')).run C ⟨T,O⟩=some p:=by
 simp only[aH,bz] at ah ⊢
 split at ah
 ·rename_i r g e
  simp only[e,bz,Act.run] at ah ⊢
  cases bo: (O r).es with
  | none=>rw[bo] at ah;exact absurd ah aq
  | some es=>
    rw[bo] at ah
    simp only at ah ⊢
    split at ah
    ·rename_i hc
     rw[if_pos ⟨hc.1,hc.2.1,hc.2.2.1,DE hc.2.2.2.1 hc.2.2.2.1,rfl⟩]
     exact ah
    ·exact absurd ah aq
 ·exact absurd ah aq
theorem zP {ks:List Nat} {k k':V}: ∀es:List V,eu ks k' (es++[.tuple [k,.int .i64 0]])=eu ks k' es
 | []=>by
   simp only[agH,eu]
   split<;>rfl
 | e::es=>by
   have ih:=zP (ks:=ks) (k:=k) (k':=k') es
   rw[ags]
   cases e<;>try (simp only[eu,ih];done)
   rename_i l
   match l with
   | []=>simp only[eu,ih]
   | [_]=>simp only[eu,ih]
   | [_,_]=>simp only[eu,ih]
   | _::_::_::_=>simp only[eu,ih]
theorem B7 {x' i':aT} {ks:List Nat} {σ σ':St} {v:V} (ah: (aH E (.kz ks x' i')).run C σ=some (v,σ')):σ'.T=σ.T∧ ∀n,kl ks (σ'.O n)=kl ks (σ.O n):=by
 obtain⟨T,O⟩:=σ
 simp only[aH,bz] at ah
 split at ah
 ·rename_i r g e
  simp only[bz,Act.run] at ah
  cases bo: (O r).es with
  | none=>rw[bo] at ah;exact absurd ah aq
  | some es=>
    rw[bo] at ah
    simp only at ah
    split at ah
    ·rename_i hc
     obtain⟨c1,c2,c3,c4,c5⟩:=hc
     split at ah
     ·simp only[Act.run,afY,af4] at ah
      obtain⟨_,rfl⟩:=ah
      refine⟨rfl,fun n=> ?_⟩
      by_cases hn:n=r
      ·subst hn;simp only[aw,kl,bo]
      ·simp only[aW _ _ hn]
     ·rename_i qZ
      simp only[Act.run,afY,af4] at ah
      obtain⟨_,rfl⟩:=ah
      refine⟨rfl,fun n=> ?_⟩
      by_cases hn:n=r
      ·subst hn
       simp only[aw,kl,bo,agc]
       refine congrArg (fun q=> ((O n).gen,(O n).sz,some q)) (Prod.ext ?_ ?_)
       ·simp only[ag6,agj,List.all_nil,agB]
        rw[c5]
        simp only[Eg,c4,agE]
       ·funext k'
        exact zP es
      ·simp only[aW _ _ hn]
     ·exact absurd ah aq
    ·exact absurd ah aq
 ·exact absurd ah aq
theorem ID {t kt et:TypeId} {x i:Operand} {x' i':aT} {ks:List Nat} {z:V} (hr:Rel X T a μ) (ho:o.op= .lookup t x i false) (ht:bJ X t=some (.map kt et)) (hk:cH X kt=some ks)
  (hz:eY X et=some z) (Tn:isZero z=true) (h1:dc X x=some x') (h2:dc X i=some i') (ah: (aH E (.ky ks x' i')).run C ⟨T,μ.O⟩=some (v,σ')):σ'.T=T∧cT X o a μ σ'.O v:=by
 obtain rfl:=B6 Tn
 exact zL hr ho ht hk hz h1 h2 (WD ah)
theorem IE {t kt et:TypeId} {x i:Operand} {x' i':aT} {ks:List Nat} {z:V} (hr:Rel X T a μ) (ho:o.op= .mapEntry t x i) (ht:bJ X t=some (.map kt et)) (hk:cH X kt=some ks)
  (hz:eY X et=some z) (Tn:isZero z=true) (h1:dc X x=some x') (h2:dc X i=some i') (ah: (aH E (.kz ks x' i')).run C ⟨T,μ.O⟩=some (v,σ')):σ'.T=T∧cT X o a μ σ'.O v:=by
 obtain rfl:=B6 Tn
 exact IB hr ho ht hk hz h1 h2 (WE ah)
end
end Go.AM
namespace Go.AM
open Go Go.RowKit
def sW.jE:sW→Bool
 | .call .. =>true
 | _=>false
section
variable {X:Ctx} {E:Env} {C:bn} {o:Oper} {a:Go.Act} {T:Nat→V} {μ:Mu} {v:V} {σ':St}
theorem J9 {p:V×St} {σ:St}: (aH E .bad).run C σ≠some p:=by simp[aH,Act.run]
theorem IF {h:Hints} {dst:Nat} {c:Call} {rj:sW} (hr:Rel X T a μ) (ho:o.op= .call c) (aJ:zw X h dst c=some rj) (Iy:rj.jE=false)
  (ah: (aH E rj).run C ⟨T,μ.O⟩=some (v,σ')):σ'.T=T∧cT X o a μ σ'.O v:=by
 unfold zw at aJ
 split at aJ
 ·split at aJ
  ·injection aJ with aJ;subst aJ;simp[sW.jE] at Iy
  ·simp at aJ
 ·simp at aJ
 ·rename_i b hc
  have kN: ∀ {α:Type} (l:Array α) (m:List α),l.toList=m→l=m.toArray:=fun l m e=>by rw[←e]
  split at aJ
  ·rename_i x t h1 h2
   have e1:=kN _ _ h1;have e2:=kN _ _ h2
   split at aJ
   ·rename_i x' e hx hd
    injection aJ with aJ;subst aJ
    exact Wo hr ho hc e1 e2 hd hx ah
   ·rename_i x' hx hd
    injection aJ with aJ;subst aJ
    exact LV hr ho hc e1 e2 hd hx ah
   ·rename_i x' n e hx hd
    injection aJ with aJ;subst aJ
    exact LW hr ho hc e1 e2 hd ah
   ·simp at aJ
  ·rename_i xs _
   simp only[afZ] at aJ
   obtain⟨aD,h1,rfl⟩:=aJ
   exact Wp hr ho hc h1 ah
  ·rename_i xs _
   simp only[afZ] at aJ
   obtain⟨aD,h1,rfl⟩:=aJ
   exact Wq hr ho hc h1 ah
  ·rename_i s x t t' h1 h2
   have e1:=kN _ _ h1;have e2:=kN _ _ h2
   split at aJ
   ·rename_i s' x' e d hs hx hd LG
    split at aJ
    ·rename_i sz i z e' hn hi hz
     split at aJ<;>simp at aJ
     rename_i hb
     subst aJ
     unfold Th at ah
     split at ah
     ·exact zN hr ho hc e1 e2 hd LG afU hn hi hz hb hs hx ah
     ·exact vE hr ho hc e1 e2 hd LG afU hn hi hz hb hs hx ah
    ·rename_i sz i z hn hi hz
     split at aJ<;>simp at aJ
     rename_i hb
     subst aJ
     unfold Th at ah
     split at ah
     ·exact zN hr ho hc e1 e2 hd LG afU hn hi hz hb hs hx ah
     ·exact vE hr ho hc e1 e2 hd LG afU hn hi hz hb hs hx ah
    ·simp at aJ
   ·simp at aJ
  ·rename_i x t h1 h2
   have e1:=kN _ _ h1;have e2:=kN _ _ h2
   split at aJ
   ·rename_i x' e hx hd
    split at aJ
    ·rename_i sz z hn hz
     injection aJ with aJ;subst aJ
     exact Qf hr ho hc e1 e2 hd hz hx ah
    ·simp at aJ
   ·simp at aJ
  ·simp at aJ
theorem oD {kt:TypeId} {q:Option IntKind} (h:uk X kt=some q): ∃d,bJ X kt=some d∧jP q d:=by
 unfold uk at h
 split at h
 ·rename_i k hk
  injection h with h;subst h
  exact⟨_,hk,rfl⟩
 ·rename_i hk
  injection h with h;subst h
  exact⟨_,hk,rfl⟩
 ·simp at h
theorem Qj (rf: ∀t1 t2 k,X.pP t1=some k→X.pP t2=some k→t1=t2) {h:Hints} {dst:Nat} {rj:sW} (hr:Rel X T a μ) (aJ:AJ X h dst o.op=some rj) (Iy:rj.jE=false)
  (ah: (aH E rj).run C ⟨T,μ.O⟩=some (v,σ')):σ'.T=T∧cT X o a μ σ'.O v:=by
 cases eA:o.op<;>simp only[AJ,eA] at aJ<;>try (simp at aJ;done)
 case move x=>
  split at aJ
  · simp only[afZ] at aJ
    obtain⟨y,h1,rfl⟩:=aJ
    exact J5 hr (.inl eA) h1 ah
  · split at aJ
    ·  simp only[afZ] at aJ
       obtain⟨y,h1,rfl⟩:=aJ
       exact J8 hr (.inl eA) h1 ah
    ·exact Ut hr (.inl eA) aJ ah
 case assign x=>
  split at aJ
  · simp only[afZ] at aJ
    obtain⟨y,h1,rfl⟩:=aJ
    exact J5 hr (.inr eA) h1 ah
  · split at aJ
    ·  simp only[afZ] at aJ
       obtain⟨y,h1,rfl⟩:=aJ
       exact J8 hr (.inr eA) h1 ah
    ·exact Ut hr (.inr eA) aJ ah
 case pick c p q=>
  split at aJ
  · rename_i c' p' q' h1 h2 h3
    injection aJ with aJ;subst aJ
    exact Tl hr eA h1 h2 h3 ah
  ·simp at aJ
 case alloc t=>
  split at aJ
  · rename_i sz z h1 h2
    injection aJ with aJ;subst aJ
    exact P3 _ hr eA h2 ah
  ·simp at aJ
 case box t x=>
  split at aJ
  · rename_i sz y h1 h2
    injection aJ with aJ;subst aJ
    exact Wt _ hr eA h2 ah
  ·simp at aJ
 case build t ps=>
  split at aJ
  · rename_i z fs h1 h2
    split at aJ
    ·simp at aJ
    ·  rename_i kA
       simp only[afZ] at aJ
       obtain⟨aD,h3,rfl⟩:=aJ
       exact LZ _ hr eA h1 h2 (by revert kA;cases fs.toList.all (fun f=> (bO X f.type).isSome) <;>simp) h3 ah
  · rename_i z n e h1 h2
    split at aJ
    ·  rename_i s hs
       simp only[afZ] at aJ
       obtain⟨aD,h3,rfl⟩:=aJ
       exact L1 _ hr eA h1 h2 hs h3 ah
    ·simp at aJ
  ·simp at aJ
 case buildSlice t n ps=>
  split at aJ
  · rename_i e hd
    split at aJ
    ·  rename_i sz z aD h1 h2 h3
       injection aJ with aJ;subst aJ
       exact AL hr eA hd h1 h2 h3 ah
    ·simp at aJ
  ·simp at aJ
 case load t x=>
  split at aJ
  · rename_i g sz y h1 h2 h3
    injection aJ with aJ;subst aJ
    split at ah
    ·exact J3 hr eA h3 h1 h2 ah
    ·exact PY _ hr eA h3 h1 h2 ah
  ·simp at aJ
 case store t x y=>
  split at aJ
  · rename_i g sz x' y' h1 h2 h3 h4
    injection aJ with aJ
    split at aJ
    ·subst aJ;exact LY hr eA h3 h4 h2 ah
    ·subst aJ;exact P4 hr eA h3 h4 h2 ah
  ·simp at aJ
 case nilCheck x=>
  simp only[afZ] at aJ
  obtain⟨y,h1,rfl⟩:=aJ
  exact F4 hr eA h1 ah
 case binOp op t x y t2=>
  split at aJ
  · rename_i x' y' h1 h2
    unfold J1 at aJ
    split at aJ
    ·  rename_i heq
       have WG:op= .eql∨op= .neq:=by cases op<;>simp[PS] at heq<;>simp
       split at aJ
       ·injection aJ with aJ;subst aJ
        exact Io hr eA h1 h2 ah
       ·injection aJ with aJ;subst aJ
        exact Io hr eA h1 h2 ah
       ·rename_i e hd
        split at aJ
        ·rename_i n bF
         injection aJ with aJ;subst aJ
         exact Wn hr eA WG hd bF h1 h2 rfl ah
        ·simp at aJ
       ·rename_i fs hd
        split at aJ
        ·rename_i hg
         simp only[afZ] at aJ
         obtain⟨ks,h3,rfl⟩:=aJ
         exact PX hr eA WG hg h3 (by simp[gp,hd]) h1 h2 rfl ah
        ·simp at aJ
       ·rename_i hd
        split at aJ
        ·rename_i hg
         simp only[afZ] at aJ
         obtain⟨ks,h3,rfl⟩:=aJ
         exact PX hr eA WG hg h3 (by simp[gp,hd]) h1 h2 rfl ah
        ·simp at aJ
       ·simp at aJ
    ·  injection aJ with aJ;subst aJ
       exact Io hr eA h1 h2 ah
  ·simp at aJ
 case unOp op t x=>
  simp only[afZ] at aJ
  obtain⟨y,h1,rfl⟩:=aJ
  exact aaZ hr eA h1 ah
 case convert s d x=>
  split at aJ
  · rename_i k0 k y h1 h2 h3
    injection aJ with aJ;subst aJ
    exact Ip hr eA h1 h2 h3 ah
  · rename_i k0 y h1 h2 h3
    injection aJ with aJ;subst aJ
    exact LS hr eA h1 h2 h3 ah
  · rename_i k y h1 h2 h3
    injection aJ with aJ;subst aJ
    exact LU hr eA h1 h2 h3 ah
  ·simp at aJ
 case makeInterface t x=>
  injection aJ with aJ;subst aJ
  exact absurd ah J9
 case makeFunc fn first caps=>
  cases fn<;>simp only at aJ<;>try (simp at aJ;done)
  split at aJ
  · rename_i hf
    split at aJ
    ·  rename_i n cs h1 h2
       injection aJ with aJ
       split at aJ
       ·subst aJ;exact Dz hr eA hf h1 h2 ah
       ·subst aJ;exact F5 hr eA hf h1 h2 ah
    ·simp at aJ
  · split at aJ
    ·  rename_i hf
       split at aJ
       ·rename_i n cs h1 h2
        injection aJ with aJ;subst aJ
        exact Dv hr eA hf h1 h2 ah
       ·simp at aJ
    ·simp at aJ
 case slice t x lo hi mx=>
  split at aJ
  · rename_i e x' lo' LF mx' hd h1 h2 h3 h4
    simp only[afZ] at aJ
    obtain⟨sz,hn,rfl⟩:=aJ
    exact PZ hr eA hd hn h1 h2 h3 h4 ah
  ·simp at aJ
 case fieldAddr s x i=>
  split at aJ
  · rename_i fs y hd h1
    split at aJ
    ·  rename_i f hf
       split at aJ
       ·rename_i n hn
        injection aJ with aJ;subst aJ
        exact Du hr eA h1 hd hf hn ah
       ·simp at aJ
    ·simp at aJ
  ·simp at aJ
 case indexAddr t x i=>
  split at aJ
  · rename_i e x' i' hd h1 h2
    simp only[afZ] at aJ
    obtain⟨sz,hn,rfl⟩:=aJ
    exact Dw hr eA hd hn h1 h2 ah
  · rename_i n e x' i' hd h1 h2
    simp only[afZ] at aJ
    obtain⟨sz,hn,rfl⟩:=aJ
    exact F8 hr eA hd hn h1 h2 ah
  ·simp at aJ
 case index t x i=>
  split at aJ
  · rename_i x' i' hd h1 h2
    injection aJ with aJ;subst aJ
    exact F9 hr eA hd h1 h2 ah
  ·simp at aJ
 case extract x i=>
  simp only[afZ] at aJ
  obtain⟨y,h1,rfl⟩:=aJ
  exact Il hr eA h1 ah
 case makeMap t rs=>
  cases rs with
  | some _=>simp at aJ
  | none=>
    injection aJ with aJ;subst aJ
    exact Qh hr eA rfl ah
 case range t x=>
  split at aJ
  · rename_i x' hd h1
    injection aJ with aJ;subst aJ
    exact Iz hr eA hd h1 ah
  ·simp at aJ
 case lookup t x i ok=>
  split at aJ
  · rename_i kt et x' i' hd h1 h2
    split at aJ
    ·  rename_i q z hq hz
       injection aJ with aJ;subst aJ
       obtain⟨d,Py,hk⟩:=oD hq
       exact L5 hr eA hd Py hk hz h1 h2 ah
    ·  rename_i z hq hz
       simp only[afZ] at aJ
       obtain⟨ks,hk,aJ⟩:=aJ
       split at aJ
       ·rename_i hc
        simp only[af2,agS] at hc
        obtain⟨⟨_,rfl⟩,Tn⟩:=hc
        subst aJ
        exact ID hr eA hd hk hz Tn h1 h2 ah
       ·subst aJ
        exact zL hr eA hd hk hz h1 h2 ah
    ·simp at aJ
  ·simp at aJ
 case mapUpdate t m k v=>
  split at aJ
  · rename_i kt et m' k' v' hd h1 h2 h3
    split at aJ
    ·  rename_i q hq
       injection aJ with aJ;subst aJ
       obtain⟨d,Py,hk⟩:=oD hq
       exact B5 hr (.inl eA) hd Py hk h1 h2 h3 ah
    ·  simp only[afZ] at aJ
       obtain⟨ks,hk,rfl⟩:=aJ
       exact zM hr (.inl eA) hd hk h1 h2 h3 ah
  ·simp at aJ
 case mapEntry t m k=>
  split at aJ
  · rename_i kt et m' k' hd h1 h2
    split at aJ
    ·  rename_i ks z hk hz
       split at aJ
       ·rename_i hc
        simp only[af2] at hc
        injection aJ with aJ
        subst aJ
        exact IE hr eA hd hk hz hc.2 h1 h2 ah
       ·simp at aJ
    ·simp at aJ
  ·simp at aJ
 case entryStore t m s v=>
  split at aJ
  · rename_i m' s' v' h1 h2 h3
    injection aJ with aJ;subst aJ
    exact IC hr eA h1 h2 h3 ah
  ·simp at aJ
 case insert t m k v=>
  split at aJ
  · rename_i kt et m' k' v' hd h1 h2 h3
    split at aJ
    ·  rename_i q hq
       injection aJ with aJ;subst aJ
       obtain⟨d,Py,hk⟩:=oD hq
       exact B5 hr (.inr eA) hd Py hk h1 h2 h3 ah
    ·  simp only[afZ] at aJ
       obtain⟨ks,hk,rfl⟩:=aJ
       exact zM hr (.inr eA) hd hk h1 h2 h3 ah
  ·simp at aJ
 case call c=>exact IF hr eA aJ Iy ah
end
end Go.AM
namespace Go.AM
open Go Go.RowKit
def qe (X:Ctx) (E:Env) (C:bn):Prop:= ∀ (h:Hints) (dst:Nat) (o:Oper) (rj:sW) (a:Go.Act) (T:Nat→V) (μ:Mu) (v:V) (σ':St),Rel X T a μ→AJ X h dst o.op=some rj→
 (aH E rj).run C ⟨T,μ.O⟩=some (v,σ')→σ'.T=T∧ ∀ (next:Go.Act→World→Prop) (Q:Go.Exit→Go.Act→World→Prop),
   (∀val w' φ',aj X ⟨w',φ',σ'.O⟩ v val→Le μ ⟨w',φ',σ'.O⟩→ba X ⟨w',φ',σ'.O⟩→next (a.put o.dst val) w')→o.wp X.P a μ.w next Q
structure Fp where
 tm:Nat
 fl:Nat
 ro:Option Nat
def Marks (n:Fp) (w:World) (ds:List Deferred):Prop:=(n.fl≤w.heap.size∧ ∀l,n.ro=some l→ ∃L,w.heap[l]? =some (.loop L))∧ ∃Ds:List Nat,ds=Ds.map (fun D=> {target:= .collected D,args:= #[]})∧Ds.Nodup∧ ∀D ∈ Ds,n.fl≤D∧w.heap[D]? =some (.deferred (some []))
theorem Marks.nil {n:Fp} {w:World} (h:n.fl≤w.heap.size) (hl: ∀l,n.ro=some l→ ∃L,w.heap[l]? =some (.loop L)):Marks n w []:=⟨⟨h,hl⟩,[],rfl,.nil,afU⟩
theorem dh {X:Ctx} {μ:Mu} (ho:ba X μ) {D:Nat} {o:Go.Obj} (hD:μ.w.heap[D]? =some o) (h1:o.isCells=false) (h2:o.isWalk=false): ¬μ.own D:=by
 rintro⟨r,hr,_,hc,hb⟩
 obtain⟨es,bo⟩:=af8.1 hr
 rcases ho.ok r es bo with⟨_,_,_,h4⟩ | ⟨_,_,ob,h3,h4⟩
 ·rcases h4 with h4| ⟨c,T,vs,k1,_⟩
  ·exact hc h4
  ·rw[hb,hD] at k1;injection k1 with k1;subst k1;simp[Obj.isCells] at h1
 ·rw[hb,hD] at h3;injection h3 with h3;subst h3
  rcases h4 with⟨_,_,rfl,_⟩ | ⟨_,_,rfl,_⟩ | ⟨_,_,_,rfl,_⟩ <;>simp[Obj.isWalk] at h2
theorem Marks.le {X:Ctx} {μ μ':Mu} {n:Fp} {ds:List Deferred} (h:Marks n μ.w ds) (ho:ba X μ) (le:Le μ μ'):Marks n μ'.w ds:=by
 obtain⟨⟨h0,jx⟩,Ds,h1,h2,h3⟩:=h
 refine⟨⟨agm h0 le.size,fun l hl=>by
  obtain⟨L,k⟩:=jx l hl
  exact⟨L,(le.bS l (af1.1 k).1 (dh ho k rfl rfl)).1.trans k⟩⟩,Ds,h1,h2,fun D hD=> ⟨(h3 D hD).1,?_⟩⟩
 have k:=(h3 D hD).2
 rw[(le.bS D (af1.1 k).1 (dh ho k rfl rfl)).1]
 exact k
structure jy (X:Ctx) (μ0:Mu) (n:Fp) (σ:St) (a:Go.Act) (w:World):Prop where
 defers:Marks n w a.defers
 size:a.tmps.size=n.1
 rel: ∃φ,Rel X σ.T a ⟨w,φ,σ.O⟩∧Le μ0 ⟨w,φ,σ.O⟩
section
variable {X:Ctx} {E:Env} {C:bn} {μ0:Mu} {n:Fp}
theorem ox {T:Nat→V} {a:Go.Act} {μ μ':Mu} {dst:Option Nat} {v:V} {val:Value} (hr:Rel X T a μ) (le:Le μ μ') (ho:ba X μ') (hv:aj X μ' v val) (hd:dst.all (· <a.tmps.size)=true) (O:Nat→Obj):
   Rel X (St.put ⟨T,O⟩ dst v).T (a.put dst val) μ':=by
 refine⟨fun t=> ?_,ho⟩
 cases dst with
 | none=>exact aj.mono le (hr.tmps t)
 | some d=>
   simp at hd
   simp only[St.put,Go.Act.put,cU]
   split
   ·rename_i e
    subst e
    have: (a.tmps.setIfInBounds t val).getD t undef=val:=by simp[hd]
    rw[this];exact hv
   ·rename_i cF
    have: (a.tmps.setIfInBounds d val).getD t undef=a.tmps.getD t undef:=by
     simp[agT (fun e=>cF e.symm)]
    rw[this];exact aj.mono le (hr.tmps t)
theorem lK (a:Go.Act) (dst:Option Nat) (v:Value): (a.put dst v).tmps.size=a.tmps.size:=by cases dst<;>simp[Go.Act.put]
theorem put_defers (a:Go.Act) (dst:Option Nat) (v:Value): (a.put dst v).defers=a.defers:=by cases dst<;>simp[Go.Act.put]
theorem qN {μ:Mu}:aj X μ dE undef:=by simp only[dE,aj];exact⟨#[],rfl,by simp[ag]⟩
theorem lJ (H:qe X E C) {h:Hints} {ops:Array Oper} {i:Nat} {o:Oper} {ao:bX} {σ σ':St} {a:Go.Act} {w:World} {K:Go.Act→World→Prop} {Q:Go.Exit→Go.Act→World→Prop}
  (ho:ops[i]? =some o) (aJ:mT X h ops o=some ao) (hn:h.n=n.1) (hs:jy X μ0 n σ a w) (ah:dK E C ao σ=some σ') (hK: ∀a' w',jy X μ0 n σ' a' w'→K a' w'):
  wpOpIn (Fr n.ro) 0 X.P ops Q i K a w:=by
 obtain⟨j3,bF,φ,hr,hle⟩:=hs
 unfold mT at aJ
 simp only at aJ
 split at aJ
 ·rename_i g hg DF
  injection aJ with aJ
  subst aJ
  have hd:o.dst.all (· <a.tmps.size)=true:=by rw[bF,←hn];exact DF
  simp only[dK] at ah
  split at ah
  ·rename_i v σ1 sK
   injection ah with ah
   subst ah
   have runs: (aH E ((AJ X h (o.dst.getD 0) o.op).getD .bad)).run C σ=some (v,σ1)→o.wpIn (Fr n.ro) 0 X.P a w K Q:=fun eA=>by
     cases Qk:AJ X h (o.dst.getD 0) o.op with
     | none=>rw[Qk] at eA;exact absurd eA J9
     | some rj=>
       rw[Qk] at eA
       obtain⟨hT,hwp⟩:=H h _ o rj a σ.T ⟨w,φ,σ.O⟩ v σ1 hr Qk eA
       refine qL (fun c e=>by rw[e] at Qk;simp[AJ] at Qk) (hwp K Q fun val w' φ' hv le eS=>hK _ _ ⟨by rw[put_defers];exact j3.le hr.a8 le,by rw[lK];exact bF,φ',?_,?_⟩)
       ·have:=ox hr le eS hv hd σ1.O
        rw[←hT] at this
        have e: (σ1.put o.dst v).O=σ1.O:=by cases o.dst<;>rfl
        rw[e];exact this
       ·have e: (σ1.put o.dst v).O=σ1.O:=by cases o.dst<;>rfl
        rw[e];exact hle.trans le
   have UA:v=dE→σ1=σ→K (a.put o.dst undef) w:=fun hv hσ=>by
     subst hv;subst hσ
     refine hK _ _ ⟨by rw[put_defers];exact j3,by rw[lK];exact bF,φ,?_,?_⟩
     · have:=ox hr (Le.refl _) hr.a8 qN hd σ1.O
       have e: (σ1.put o.dst dE).O=σ1.O:=by cases o.dst<;>rfl
       rw[e];exact this
     · have e: (σ1.put o.dst dE).O=σ1.O:=by cases o.dst<;>rfl
       rw[e];exact hle
   simp only[wpOpIn,ho]
   cases LR:o.guard with
   | none=>
     rw[LR] at hg
     injection hg with hg
     subst hg
     rw[if_pos (by simp[Region.wanted,LR])]
     exact runs (by simpa [cJ] using sK)
   | some gw=>
     obtain⟨j,want⟩:=gw
     rw[LR] at hg
     simp only at hg
     split at hg
     · rename_i d hdj
       injection hg with hg
       subst hg
       simp only[cJ,Act.run] at sK
       have hv:=hr.tmps d
       split at sK
       ·rename_i b hb
        rw[hb] at hv
        simp only[aj] at hv
        have bk:d<a.tmps.size:=by
         rcases ahd d a.tmps.size with hl| hl
         ·exact hl
         ·simp[agX hl,undef] at hv
        have aeY:a.tmps[d]? =some (.bool b):=by
         rw[agl bk]
         simp[agl bk] at hv
         rw[hv]
        have hy:yielded ops a.tmps j=some b:=by simp[yielded,hdj,aeY]
        split at sK
        ·rename_i XM
         rw[if_pos (by simp[Region.wanted,LR,hy,XM])]
         exact runs sK
        ·rename_i XM
         rw[if_neg (by simp[Region.wanted,LR,hy,XM])]
         obtain⟨e1,e2⟩:=aY sK
         exact⟨fun _ _=>trivial,UA e1.symm e2⟩
       ·rename_i hb
        rw[hb] at hv
        simp only[aj] at hv
        obtain⟨vs,lE,Xx⟩:=hv
        have hy:yielded ops a.tmps j=none:=by
         simp only[yielded,hdj,Option.bind_some]
         cases hq:a.tmps[d]? with
         | none=>rfl
         | some x=>
           have:x= .tuple vs:=by simpa [hq] using lE
           rw[this]
        rw[if_neg (by simp[Region.wanted,LR,hy])]
        obtain⟨e1,e2⟩:=aY sK
        exact⟨fun _ _=>trivial,UA e1.symm e2⟩
       ·exact absurd sK aq
     ·simp at hg
  ·simp at ah
 ·simp at aJ
theorem mG {h:Hints} {ops:Array Oper}: ∀ {l:List Oper} {aD:List bX},im X h ops l=some aD→aD.length=l.length∧ ∀ (i:Nat) o,l[i]? =some o→ ∃ao,aD[i]? =some ao∧mT X h ops o=some ao
 | [],aD,h'=>by simp[im] at h';subst h';simp
 | o::l,aD,h'=>by
   simp only[im] at h'
   split at h'
   ·rename_i ao Wx h1 h2
    injection h' with h';subst h'
    obtain⟨k1,k2⟩:=mG h2
    refine⟨by simp[k1],fun i o' hi=> ?_⟩
    cases i with
    | zero=>simp at hi;subst hi;exact⟨ao,afU,h1⟩
    | succ i=>simpa using k2 i o' (by simpa using hi)
   ·simp at h'
theorem L7 {ao:bX} {σ:St} {p:List Nat}:dK E C {ao with pre:=p} σ=dK E C ao σ:=rfl
theorem ft (H:qe X E C) {h:Hints} {ops:Array Oper} {aD:List bX} (hn:h.n=n.1) (aJ:im X h ops ops.toList=some aD) {Q:Go.Exit→Go.Act→World→Prop}:
   ∀ (m k:Nat),k+m=ops.size→ ∀ {σ σ':St} {a:Go.Act} {w:World},jy X μ0 n σ a w→iw E C ((aD.drop k).map fun o=> {o with pre:=[]}) σ=some σ'→
    (∀a' w',jy X μ0 n σ' a' w'→Q .normal a' w')→wpOpsIn (Fr n.ro) 0 X.P ops Q (List.range' k m) a w
 | 0,k,hk,σ,σ',a,w,hs,ah,hQ=>by
   obtain⟨hl,_⟩:=mG aJ
   have:aD.drop k=[]:=by simp at hl;simp;omega
   rw[this] at ah
   simp[iw] at ah
   subst ah
   simpa [wpOpsIn] using hQ a w hs
 | m+1,k,hk,σ,σ',a,w,hs,ah,hQ=>by
   obtain⟨hl,eF⟩:=mG aJ
   have U0:k<ops.size:=ae0
   obtain⟨ao,L8,nH⟩:=eF k ops[k] (by simp[U0])
   have hka:k<aD.length:=by simp at hl;omega
   have hd:aD.drop k=ao::aD.drop (k+1):=by
    rw[agq hka]
    rw[af3 hka] at L8
    injection L8 with L8;rw[L8]
   rw[hd] at ah
   simp only[List.map_cons,iw,L7] at ah
   split at ah
   ·rename_i σ1 h1
    rw[List.range'_succ,wpOpsIn_cons]
    refine lJ H (o:=ops[k]) (by simp[U0]) nH hn hs h1 fun a' w' ji=> ?_
    exact ft H hn aJ m (k+1) ae0 ji ah hQ
   ·simp at ah
end
end Go.AM
namespace Go.AM
open Go Go.RowKit
inductive Cell where
 | v (x:V)
 | o (x:Obj)
 | m (x:Nat×Nat×Option (Bool× (V→V)))
inductive IG where
 | t (n:Nat)
 | o (n:Nat)
 | m (n:Nat) (ks:List Nat)
def St.at (σ:St):IG→Cell
 | .t n=> .v (σ.T n)
 | .o n=> .o (σ.O n)
 | .m n ks=> .m (kl ks (σ.O n))
def St.vG (σ:St):Loc→Cell
 | .t n=> .v (σ.T n)
 | .o n=> .o (σ.O n)
 | _=> .v dE
def rd (f:eB):IG→Prop
 | .t n=>Loc.t n ∈ f.reads
 | .o n=>Loc.o n ∈ f.reads
 | .m n ks=>Loc.m n ks ∈ f.reads
def wr (f:eB):IG→Prop
 | .t n=>Loc.t n ∈ f.writes
 | .o n=>Loc.o n ∈ f.writes∨ ∃ks,Loc.e n ks ∈ f.writes
 | .m n ks=>Loc.o n ∈ f.writes∨ ∃uS,uS≠ks∧Loc.e n uS ∈ f.writes
def L9 (a b:eB):Prop:= ∃l,(wr a l∧wr b l)∨(wr a l∧rd b l)∨(rd a l∧wr b l)
theorem L9.symm {a b:eB} (h:L9 a b):L9 b a:=by
 obtain⟨l,h⟩:=h
 exact⟨l,by rcases h with⟨h1,h2⟩ | ⟨h1,h2⟩ | ⟨h1,h2⟩ <;>simp[h1,h2]⟩
theorem gB {a b:List Loc} {x y:Loc} (hx:x ∈ a) (hy:y ∈ b) (h:x.vd y=true):meets a b=true:=by
 simp only[meets,List.any_eq_true]
 exact⟨x,hx,y,hy,h⟩
theorem L9.tw {a b:eB} (h:L9 a b):a.tw b=true:=by
 simp only[eB.tw,aht]
 obtain⟨l,⟨h1,h2⟩ | ⟨h1,h2⟩ | ⟨h1,h2⟩⟩:=h
 ·refine .inl (.inl ?_)
  cases l with
  | t n=>exact gB h1 h2 (by simp[Loc.vd])
  | o n=>rcases h1 with h1| ⟨k1,h1⟩ <;>rcases h2 with h2| ⟨k2,h2⟩ <;>exact gB h1 h2 (by simp[Loc.vd])
  | m n ks=>rcases h1 with h1| ⟨k1,_,h1⟩ <;>rcases h2 with h2| ⟨k2,_,h2⟩ <;>exact gB h1 h2 (by simp[Loc.vd])
 ·refine .inl (.inr ?_)
  cases l with
  | t n=>exact gB h1 h2 (by simp[Loc.vd])
  | o n=>rcases h1 with h1| ⟨k1,h1⟩ <;>exact gB h1 h2 (by simp[Loc.vd])
  | m n ks=>
    rcases h1 with h1| ⟨k1,hk,h1⟩
    ·exact gB h1 h2 (by simp[Loc.vd])
    ·exact gB h1 h2 (by simp[Loc.vd,hk])
 ·refine .inr ?_
  cases l with
  | t n=>exact gB h1 h2 (by simp[Loc.vd])
  | o n=>rcases h2 with h2| ⟨k2,h2⟩ <;>exact gB h1 h2 (by simp[Loc.vd])
  | m n ks=>
    rcases h2 with h2| ⟨k2,hk,h2⟩
    ·exact gB h1 h2 (by simp[Loc.vd])
    ·exact gB h1 h2 (by simp[Loc.vd,ag8 hk])
theorem St.ext' {σ τ:St} (h: ∀l,σ.at l=τ.at l):σ=τ:=by
 cases σ;cases τ
 congr
 ·funext n;have:=h (.t n);simpa [St.at] using this
 ·funext n;have:=h (.o n);simpa [St.at] using this
theorem kW {C:bn}: ∀ (act:Act) {σ τ σ':St} {v:V},act.run C σ=some (v,σ')→(∀l ∈ (act.cO C σ).reads,σ.vG l=τ.vG l)→
   ∃τ',act.run C τ=some (v,τ')∧act.cO C τ=act.cO C σ∧ ∀l,(l ∈ (act.cO C σ).writes→τ'.vG l=σ'.vG l)∧(l ∉ (act.cO C σ).writes→τ'.vG l=τ.vG l∧σ'.vG l=σ.vG l)
 | .done u,σ,τ,σ',v,h,_=>by
   simp only[Act.run,afY,af4] at h
   obtain⟨rfl,rfl⟩:=h
   exact⟨τ,rfl,rfl,fun l=> ⟨fun hl=>by simp[Act.cO] at hl,fun _=> ⟨rfl,rfl⟩⟩⟩
 | .fail,_,_,_,_,h,_=>by simp[Act.run] at h
 | .mY t k,σ,τ,σ',v,h,hr=>by
   simp only[Act.run] at h
   have e:σ.T t=τ.T t:=by have:=hr (.t t) (by simp[Act.cO]);simpa [St.vG] using this
   obtain⟨τ',h1,h2,h3⟩:=kW (k (σ.T t)) h (fun l hl=>hr l (by simp[Act.cO,hl]))
   exact⟨τ',by simp only[Act.run,←e];exact h1,by simp only[Act.cO,←e,h2],by simpa [Act.cO] using h3⟩
 | .bP r k,σ,τ,σ',v,h,hr=>by
   simp only[Act.run] at h
   have e:σ.O r=τ.O r:=by have:=hr (.o r) (by simp[Act.cO]);simpa [St.vG] using this
   obtain⟨τ',h1,h2,h3⟩:=kW (k (σ.O r)) h (fun l hl=>hr l (by simp[Act.cO,hl]))
   exact⟨τ',by simp only[Act.run,←e];exact h1,by simp only[Act.cO,←e,h2],by simpa [Act.cO] using h3⟩
 | .bM r o k,σ,τ,σ',v,h,hr=>by
   simp only[Act.run] at h
   obtain⟨τ',h1,h2,h3⟩:=kW k (τ:={τ with O:=cU τ.O r o}) h (fun l hl=>by
    have:=hr l (by simp[Act.cO,hl])
    cases l with
    | t n=>simpa [St.vG] using this
    | m n ks=>rfl
    | e n ks=>rfl
    | o n=>
      simp only[St.vG,Cell.o.injEq] at this ⊢
      by_cases hn:n=r
      ·subst hn;simp[aw]
      ·simp[aW _ _ hn,this])
   refine⟨τ',by simp only[Act.run];exact h1,by simp only[Act.cO,h2],fun l=> ⟨fun hl=> ?_,fun hl=> ?_⟩⟩
   ·simp only[Act.cO,af7] at hl
    by_cases hw:l ∈ (k.cO C {σ with O:=cU σ.O r o}).writes
    ·exact(h3 l).1 hw
    · obtain⟨e1,e2⟩:=(h3 l).2 hw
      rcases hl with rfl| hl
      ·rw[e1,e2];simp[St.vG,aw]
      ·exact absurd hl hw
   ·simp only[Act.cO,af7,not_or] at hl
    obtain⟨e1,e2⟩:=(h3 l).2 hl.2
    rw[e1,e2]
    cases l with
    | t n=>simp[St.vG]
    | m n ks=>simp[St.vG]
    | e n ks=>simp[St.vG]
    | o n=>
      have hn:n≠r:=fun e=>hl.1 (by rw[e])
      simp[St.vG,aW _ _ hn]
 | .call f aD k,σ,τ,σ',v,h,hr=>by
   simp only[Act.run] at h
   split at h
   ·rename_i res iO
    obtain⟨τ',h1,h2,h3⟩:=kW (k res) h (fun l hl=>hr l (by simp[Act.cO,iO,hl]))
    exact⟨τ',by simp only[Act.run,iO];exact h1,by simp only[Act.cO,iO,h2],by simpa [Act.cO,iO] using h3⟩
   ·simp at h
theorem Ql (σ:St) (dst:Option Nat) (v:V) (n:Nat): (σ.put dst v).T n=if dst.any (fun d=>n=d) then v else σ.T n:=by
 cases dst with
 | none=>simp[St.put]
 | some d=>simp only[St.put,cU,Option.any_some];by_cases h:n=d<;>simp[h]
theorem vH (σ:St) (dst:Option Nat) (v:V): (σ.put dst v).O=σ.O:=by cases dst<;>rfl
theorem gC {C:bn}: ∀ (act:Act) (σ:St) (l:Loc),l ∈ (act.cO C σ).reads∨l ∈ (act.cO C σ).writes→(∃n,l= .t n)∨ ∃n,l= .o n
 | .done _,_,l,h=>by simp[Act.cO] at h
 | .fail,_,l,h=>by simp[Act.cO] at h
 | .mY t k,σ,l,h=>by
   simp only[Act.cO,af7] at h
   rcases h with(rfl| h) | h
   ·exact .inl ⟨_,rfl⟩
   ·exact gC _ _ l (.inl h)
   ·exact gC _ _ l (.inr h)
 | .bP r k,σ,l,h=>by
   simp only[Act.cO,af7] at h
   rcases h with(rfl| h) | h
   ·exact .inr ⟨_,rfl⟩
   ·exact gC _ _ l (.inl h)
   ·exact gC _ _ l (.inr h)
 | .bM r o k,σ,l,h=>by
   simp only[Act.cO,af7] at h
   rcases h with h| (rfl| h)
   ·exact gC _ _ l (.inl h)
   ·exact .inr ⟨_,rfl⟩
   ·exact gC _ _ l (.inr h)
 | .call f aD k,σ,l,h=>by
   simp only[Act.cO] at h
   split at h
   ·exact gC _ _ l h
   ·simp at h
def mH (ks:List Nat):Act→Prop
 | .done _=>True
 | .fail=>True
 | .mY _ k=> ∀v,mH ks (k v)
 | .bP _ k=> (∀o o',kl ks o=kl ks o'→k o=k o')∧ ∀o,mH ks (k o)
 | .bM .. =>False
 | .call .. =>False
theorem sL {C:bn} {ks:List Nat}: ∀ (act:Act),mH ks act→ ∀ {σ τ σ':St} {v:V},act.run C σ=some (v,σ')→(∀n,Loc.t n ∈ (act.cO C σ).reads→σ.T n=τ.T n)→(∀n,Loc.o n ∈ (act.cO C σ).reads→kl ks (σ.O n)=kl ks (τ.O n))→
   act.run C τ=some (v,τ)∧σ'=σ∧(act.cO C σ).writes=[]
 | .done u,_,σ,τ,σ',v,h,_,_=>by
   simp only[Act.run,afY,af4] at h
   obtain⟨rfl,rfl⟩:=h
   exact⟨rfl,rfl,rfl⟩
 | .fail,_,_,_,_,_,h,_,_=>by simp[Act.run] at h
 | .mY t k,hv,σ,τ,σ',v,h,h1,h2=>by
   simp only[Act.run] at h ⊢
   rw[←h1 t (by simp[Act.cO])]
   simp only[Act.cO]
   exact sL (k (σ.T t)) (hv _) h (fun n hn=>h1 n (by simp[Act.cO,hn])) (fun n hn=>h2 n (by simp[Act.cO,hn]))
 | .bP r k,hv,σ,τ,σ',v,h,h1,h2=>by
   simp only[Act.run] at h ⊢
   rw[←hv.1 _ _ (h2 r (by simp[Act.cO]))]
   simp only[Act.cO]
   exact sL (k (σ.O r)) (hv.2 _) h (fun n hn=>h1 n (by simp[Act.cO,hn])) (fun n hn=>h2 n (by simp[Act.cO,hn]))
 | .bM ..,hv,_,_,_,_,_,_,_=>hv.elim
 | .call ..,hv,_,_,_,_,_,_,_=>hv.elim
theorem zQ {ks:List Nat} {x:aT} {k:V→Act} (h: ∀v,mH ks (k v)):mH ks (ev x k):=by
 cases x with
 | tmp t=>exact h
 | const v=>exact h v
theorem uC {E:Env} {ks:List Nat} {x k:aT}:mH ks (aH E (.ky ks x k)):=by
 simp only[aH]
 refine zQ fun v=> ?_
 split
 ·refine zQ fun kv=> ?_
  refine⟨fun o o' e=>congrArg (G8 ks _ kv) e,fun o=> ?_⟩
  show mH ks (G8 ks _ kv (kl ks o))
  generalize kl ks o=q
  unfold G8
  split
  ·split<;>trivial
  ·trivial
 ·trivial
theorem wR {E:Env} {C:bn} {o:bX} {σ τ σ':St} (h:dK E C o σ=some σ') (hr: ∀l,rd (cV E C o σ) l→σ.at l=τ.at l):
  ∃τ',dK E C o τ=some τ'∧ ∀l,(wr (cV E C o σ) l→τ'.at l=σ'.at l)∧(¬wr (cV E C o σ) l→τ'.at l=τ.at l∧σ'.at l=σ.at l):=by
 simp only[dK] at h
 rcases sK: (cJ E o).run C σ with _| ⟨v,σ1⟩
 ·rw[sK] at h;simp at h
 rw[sK] at h
 injection h with h
 subst h
 have DY:=gC (C:=C) (cJ E o) σ
 obtain⟨F0,D2⟩: ∃F,F=(cJ E o).cO C σ:=⟨_,rfl⟩
 have aeZ: ∀n ks,Loc.m n ks ∉ F0.writes∧Loc.e n ks ∉ F0.writes∧Loc.m n ks ∉ F0.reads:=fun n ks=>by
  rw[D2]
  refine⟨fun hm=> ?_,fun hm=> ?_,fun hm=> ?_⟩
  ·rcases DY _ (.inr hm) with⟨_,h⟩ | ⟨_,h⟩ <;>cases h
  ·rcases DY _ (.inr hm) with⟨_,h⟩ | ⟨_,h⟩ <;>cases h
  ·rcases DY _ (.inl hm) with⟨_,h⟩ | ⟨_,h⟩ <;>cases h
 have DF: ∀ (l:Loc),l ∈ (match o.dst with| some d=> [Loc.t d] | none=> [])↔ ∃d,o.dst=some d∧l= .t d:=fun l=>by cases o.dst<;>simp
 have hF:cV E C o σ=eM o.op ⟨F0.reads,(match o.dst with| some d=> [.t d] | none=> [])++F0.writes⟩:=by rw[D2];rfl
 rw[hF] at hr ⊢
 have hT: ∀ (τ1:St),(∀n,(Loc.t n ∈ F0.writes→τ1.T n=σ1.T n)∧(Loc.t n ∉ F0.writes→τ1.T n=τ.T n∧σ1.T n=σ.T n))→ ∀n,
    ((∃d,o.dst=some d∧n=d)∨Loc.t n ∈ F0.writes→(τ1.put o.dst v).T n=(σ1.put o.dst v).T n)∧
    (¬ ((∃d,o.dst=some d∧n=d)∨Loc.t n ∈ F0.writes)→(τ1.put o.dst v).T n=τ.T n∧(σ1.put o.dst v).T n=σ.T n):=by
  intro τ1 h1 n
  rw[Ql,Ql]
  by_cases hd: ∃d,o.dst=some d∧n=d
  · obtain⟨d,e1,e2⟩:=hd
    simp[e1,e2]
  · have hn: (o.dst.any fun d=>decide (n=d))=false:=by
      cases e:o.dst with
      | none=>rfl
      | some d=>simp only[Option.any_some,decide_eq_false_iff_not];exact fun h=>hd ⟨d,e,h⟩
    simp only[hn,aga,if_false]
    exact⟨fun hh=> (h1 n).1 (hh.resolve_left hd),fun hh=> (h1 n).2 fun hw=>hh (.inr hw)⟩
 by_cases hC: ∃ks x k,o.op= .ky ks x k
 ·obtain⟨ks,x,k,eA⟩:=hC
  have hva:mH ks (cJ E o):=by
    unfold cJ
    cases o.guard with
    | none=>simp only[eA];exact uC
    | some p=>
      obtain⟨t,want⟩:=p
      intro u
      simp only[eA]
      split
      ·split
       ·exact uC
       ·trivial
      ·trivial
      ·trivial
  simp only[eA,eM] at hr ⊢
  obtain⟨g1,rfl,g3⟩:=sL (cJ E o) hva sK (τ:=τ)
    (fun n hn=>by
      have:=hr (.t n) (by simp only[rd,agk];exact⟨.t n,by rw[D2];exact hn,rfl⟩)
      simpa [St.at] using this)
    (fun n hn=>by
      have:=hr (.m n ks) (by simp only[rd,agk];exact⟨.o n,by rw[D2];exact hn,rfl⟩)
      simpa [St.at] using this)
  rw[←D2] at g3
  refine⟨τ.put o.dst v,by simp only[dK,g1],fun l=> ?_⟩
  have ht:=hT τ (fun n=> ⟨fun hh=>by rw[g3] at hh;simp at hh,fun _=> ⟨rfl,rfl⟩⟩)
  cases l with
  | t n=>
    simp only[wr,agd,DF,St.at,Cell.v.injEq,Loc.t.injEq]
    exact ht n
  | o n=>simp only[wr,agd,DF,g3,St.at,vH];simp
  | m n uS=>simp only[wr,agd,DF,g3,St.at,vH];simp
 by_cases hE: ∃ks x k,o.op= .kz ks x k
 ·obtain⟨ks,x,k,eA⟩:=hE
  simp only[eA,eM] at hr ⊢
  obtain⟨τ1,h1,h2,h3⟩:=kW (cJ E o) (τ:=τ) sK (fun l hl=>by
    rw[←D2] at hl
    rcases DY l (by rw[←D2];exact .inl hl) with⟨n,rfl⟩ | ⟨n,rfl⟩
    ·have:=hr (.t n) hl;simpa [St.at,St.vG] using this
    ·have:=hr (.o n) hl;simpa [St.at,St.vG] using this)
  rw[←D2] at h3
  have UB: ∀ {ρ ρ':St} {u:V},(cJ E o).run C ρ=some (u,ρ')→ ∀n,kl ks (ρ'.O n)=kl ks (ρ.O n):=by
    intro ρ ρ' u hh n
    unfold cJ at hh
    cases hg:o.guard with
    | none=>simp only[hg,eA] at hh;exact(B7 hh).2 n
    | some p=>
      obtain⟨t,want⟩:=p
      simp only[hg,eA,Act.run] at hh
      split at hh
      ·split at hh
       ·exact(B7 hh).2 n
       ·obtain⟨_,rfl⟩:=aY hh;rfl
      ·obtain⟨_,rfl⟩:=aY hh;rfl
      ·exact absurd hh aq
  refine⟨τ1.put o.dst v,by simp only[dK,h1],fun l=> ?_⟩
  have ht:=hT τ1 (fun n=>by have:=h3 (.t n);simpa [St.vG] using this)
  have H5: ∀l,l ∈ ((match o.dst with| some d=> [Loc.t d] | none=> [])++F0.writes).map (asE ks)↔(∃d,o.dst=some d∧l= .t d)∨(∃n,l= .t n∧Loc.t n ∈ F0.writes)∨ ∃n,l= .e n ks∧Loc.o n ∈ F0.writes:=by
    intro l
    simp only[agk,agd,DF]
    constructor
    · rintro⟨x,⟨d,e1,rfl⟩ | hx,rfl⟩
      ·exact .inl ⟨d,e1,rfl⟩
      ·rcases DY x (by rw[←D2];exact .inr hx) with⟨n,rfl⟩ | ⟨n,rfl⟩
       ·exact .inr (.inl ⟨n,rfl,hx⟩)
       ·exact .inr (.inr ⟨n,rfl,hx⟩)
    · rintro(⟨d,e1,rfl⟩ | ⟨n,rfl,hx⟩ | ⟨n,rfl,hx⟩)
      ·exact⟨.t d,.inl ⟨d,e1,rfl⟩,rfl⟩
      ·exact⟨.t n,.inr hx,rfl⟩
      ·exact⟨.o n,.inr hx,rfl⟩
  have Sp: ∀n uS,Loc.e n uS ∈ ((match o.dst with| some d=> [Loc.t d] | none=> [])++F0.writes).map (asE ks)↔uS=ks∧Loc.o n ∈ F0.writes:=fun n uS=>by
    rw[H5]
    constructor
    · rintro(⟨d,_,h⟩ | ⟨m,h,_⟩ | ⟨m,h,hx⟩)
      ·cases h
      ·cases h
      ·injection h with a b;subst a;subst b;exact⟨rfl,hx⟩
    ·rintro⟨rfl,hx⟩;exact .inr (.inr ⟨n,rfl,hx⟩)
  have hoo: ∀n,Loc.o n ∉ ((match o.dst with| some d=> [Loc.t d] | none=> [])++F0.writes).map (asE ks):=fun n=>by rw[H5];simp
  cases l with
  | t n=>
    simp only[wr,H5,St.at,Cell.v.injEq,Loc.t.injEq,reduceCtorEq,false_and,exists_false,or_false]
    have:=ht n
    refine⟨fun hh=>this.1 ?_,fun hh=>this.2 fun h'=>hh ?_⟩
    · rcases hh with hh| ⟨m,rfl,hh⟩
      ·exact .inl hh
      ·exact .inr hh
    · rcases h' with h'| h'
      ·exact .inl h'
      ·exact .inr ⟨n,rfl,h'⟩
  | o n=>
    have:=h3 (.o n)
    simp only[St.vG,Cell.o.injEq] at this
    simp only[wr,hoo,Sp,false_or,St.at,Cell.o.injEq,vH]
    exact⟨fun ⟨_,_,hh⟩=>this.1 hh,fun hh=>this.2 fun h'=>hh ⟨ks,rfl,h'⟩⟩
  | m n uS=>
    have:=h3 (.o n)
    simp only[St.vG,Cell.o.injEq] at this
    simp only[wr,hoo,Sp,false_or,St.at,Cell.m.injEq,vH]
    refine⟨fun ⟨k2,e1,e2,hh⟩=>by rw[this.1 hh],fun hh=> ?_⟩
    by_cases hw:Loc.o n ∈ F0.writes
    · by_cases e:ks=uS
      ·subst e;exact⟨UB h1 n,UB sK n⟩
      ·exact absurd ⟨ks,e,rfl,hw⟩ hh
    · obtain⟨e1,e2⟩:=this.2 hw
      rw[e1,e2];exact⟨rfl,rfl⟩
 ·have ae1: ∀f,eM o.op f=f:=fun f=>by
    unfold eM
    split
    ·rename_i ks x k eA;exact absurd ⟨ks,x,k,eA⟩ hC
    ·rename_i ks x k eA;exact absurd ⟨ks,x,k,eA⟩ hE
    ·rfl
  rw[ae1] at hr ⊢
  obtain⟨τ1,h1,h2,h3⟩:=kW (cJ E o) (τ:=τ) sK (fun l hl=>by
    rw[←D2] at hl
    rcases DY l (by rw[←D2];exact .inl hl) with⟨n,rfl⟩ | ⟨n,rfl⟩
    ·have:=hr (.t n) hl;simpa [St.at,St.vG] using this
    ·have:=hr (.o n) hl;simpa [St.at,St.vG] using this)
  rw[←D2] at h3
  refine⟨τ1.put o.dst v,by simp only[dK,h1],fun l=> ?_⟩
  have ht:=hT τ1 (fun n=>by have:=h3 (.t n);simpa [St.vG] using this)
  have hwe: ∀n ks,Loc.e n ks ∉ ((match o.dst with| some d=> [Loc.t d] | none=> [])++F0.writes):=fun n ks=>by
    simp only[agd,DF,(aeZ n ks).2.1,or_false];simp
  have Qe: ∀n,Loc.o n ∈ ((match o.dst with| some d=> [Loc.t d] | none=> [])++F0.writes)↔Loc.o n ∈ F0.writes:=fun n=>by
    simp only[agd,DF];simp
  cases l with
  | t n=>
    simp only[wr,agd,DF,St.at,Cell.v.injEq,Loc.t.injEq]
    exact ht n
  | o n=>
    have:=h3 (.o n)
    simp only[St.vG,Cell.o.injEq] at this
    simp only[wr,Qe,hwe,and_false,exists_false,or_false,St.at,Cell.o.injEq,vH]
    exact this
  | m n uS=>
    have:=h3 (.o n)
    simp only[St.vG,Cell.o.injEq] at this
    simp only[wr,Qe,hwe,and_false,exists_false,or_false,St.at,Cell.m.injEq,vH]
    refine⟨fun hh=>by rw[this.1 hh],fun hh=> ?_⟩
    obtain⟨e1,e2⟩:=this.2 hh
    rw[e1,e2];exact⟨rfl,rfl⟩
structure Trace (E:Env) (C:bn) (aD:List bX) (S:Nat→St) (F:Nat→eB) (W:Nat→List Nat):Prop where
 step: ∀ (i:Nat) ao,aD[i]? =some ao→dK E C ao (S i)=some (S (i+1))∧F i=cV E C ao (S i)∧(∀x,x ∈ W i↔x ∈ ao.pre++ao.pre.flatMap W)∧(∀p ∈ ao.pre,p<i)∧
  ∀j,j<i→j ∈ W i∨(F j).tw (F i)=false
theorem Gp {b9:List eB} {wait:List Nat} {f:eB}: ∀ {k:Nat},fits b9 wait f k=true→ ∀j,j<k→j ∈ wait∨(b9.getD j ⟨[],[]⟩).tw f=false
 | 0,_,j,hj=>ae0
 | k+1,h,j,hj=>by
   simp only[fits,af2,aht,agS] at h
   by_cases e:j=k
   ·subst e
    rcases h.1 with h1| h1
    ·exact .inl (by simpa using h1)
    ·exact .inr h1
   ·exact Gp h.2 j ae0
theorem qf {α β:Type} {f g:α→List β}: ∀ {l:List α},(∀x ∈ l,f x=g x)→l.flatMap f=l.flatMap g
 | [],_=>rfl
 | x::l,h=>by
   simp only[List.flatMap_cons]
   rw[h x afU,qf fun y hy=>h y (by simp[hy])]
theorem Qm {x:Nat}: ∀ {l:List Nat},x ∈ l.foldr Xj []↔x ∈ l
 | []=>Iff.rfl
 | a::l=>by
   have ih:=fun y=>Qm (x:=y) (l:=l)
   show x ∈ Xj a (l.foldr Xj [])↔_
   generalize l.foldr Xj []=m at ih
   unfold Xj
   split
   ·rename_i h
    rw[ih,af7]
    exact⟨.inr,fun k=>k.elim (fun e=>e ▸ (ih a).1 (by simpa using h)) id⟩
   ·rw[af7,af7,ih]
theorem wS {E:Env} {C:bn}: ∀ (l:List bX) (b9:List eB) (before:List (List Nat)) (σ σ':St),b9.length=before.length→eo E C l b9 before σ=some σ'→
   ∃ (S:Nat→St) (F:Nat→eB) (W:Nat→List Nat),S b9.length=σ∧S (b9.length+l.length)=σ'∧(∀k,k<b9.length→F k=b9.getD k ⟨[],[]⟩∧W k=before.getD k [])∧
    ∀ ( i:Nat) ao,l[i]? =some ao→dK E C ao (S (b9.length+i))=some (S (b9.length+i+1))∧F (b9.length+i)=cV E C ao (S (b9.length+i))∧
       (∀x,x ∈ W (b9.length+i)↔x ∈ ao.pre++ao.pre.flatMap W)∧(∀p ∈ ao.pre,p<b9.length+i)∧ ∀j,j<b9.length+i→j ∈ W (b9.length+i)∨(F j).tw (F (b9.length+i))=false
 | [],b9,before,σ,σ',hl,h=>by
   simp only[eo,afY] at h
   subst h
   exact⟨fun _=>σ,fun k=>b9.getD k ⟨[],[]⟩,fun k=>before.getD k [],rfl,rfl,fun k _=> ⟨rfl,rfl⟩,fun i ao hi=>by simp at hi⟩
 | o::l,b9,before,σ,σ',hl,h=>by
   simp only[eo] at h
   split at h
   ·rename_i hf
    simp only[af2,af5,decide_eq_true_eq] at hf
    split at h
    ·  rename_i σ1 h1
       obtain⟨S,F,W,s1,s2,s3,s4⟩:=wS l (b9++[cV E C o σ]) (before++[closure before o.pre]) σ1 σ' (by simp[hl]) h
       simp only[List.length_append,List.length_singleton] at s1 s2 s3 s4
       let S':Nat→St:=fun k=>if k=b9.length then σ else S k
       have e1:S' (b9.length+1)=σ1:=by simp[S',s1]
       have e2: ∀k,b9.length<k→S' k=S k:=fun k hk=>by simp[S'];intro e;omega
       have Re:F b9.length=cV E C o σ:=by
        have:=(s3 b9.length ae0).1
        simpa using this
       have hWk:W b9.length=closure before o.pre:=by
        have:=(s3 b9.length ae0).2
        rw[hl] at this
        simpa [hl] using this
       have aa7: ∀k,k<b9.length→W k=before.getD k []:=fun k hk=>by
        have:=(s3 k ae0).2
        rw[this]
        simp[agM (show k<before.length by omega)]
       have aa8: ∀k,k<b9.length→F k=b9.getD k ⟨[],[]⟩:=fun k hk=>by
        have:=(s3 k ae0).1
        rw[this]
        simp[agM hk]
       refine⟨S',F,W,by simp[S'],?_,fun k hk=> ⟨aa8 k hk,aa7 k hk⟩,fun i ao hi=> ?_⟩
       ·rw[e2 _ afU]
        rw[←s2];congr 1;simp;omega
       ·cases i with
        | zero=>
          simp at hi
          subst hi
          simp only[ahk]
          have hS:S' b9.length=σ:=by simp[S']
          rw[hS,e1]
          refine⟨h1,Re,?_,hf.2,fun j hj=> ?_⟩
          ·intro x
           rw[hWk,closure,Qm,qf fun p hp=> (aa7 p (hf.2 p hp)).symm]
          ·rw[Re,hWk,aa8 j hj]
           exact Gp hf.1 j hj
        | succ i=>
          have:=s4 i ao (by simpa using hi)
          have ea:b9.length+1+i=b9.length+(i+1):=ae0
          rw[ea] at this
          rw[e2 _ ae0,e2 _ ae0]
          exact this
    ·simp at h
   ·simp at h
open Classical in
noncomputable def oE (S:Nat→St) (F:Nat→eB) (D:Nat→Bool) (l:IG):Nat→Cell
 | 0=> (S 0).at l
 | i+1=>if D i=true∧wr (F i) l then(S (i+1)).at l else oE S F D l i
theorem sM {S:Nat→St} {F:Nat→eB} {D D':Nat→Bool} {l:IG}: ∀ {n:Nat},(∀i,i<n→wr (F i) l→D i=D' i)→oE S F D l n=oE S F D' l n
 | 0,_=>rfl
 | n+1,h=>by
   simp only[oE]
   rw[sM fun i hi=>h i ae0]
   by_cases hl:wr (F n) l
   ·rw[h n ae0 hl]
   ·simp[hl]
theorem qX {  S:Nat→St} {F:Nat→eB} {D:Nat→Bool} {l:IG} {m:Nat}: ∀ {n:Nat},m≤n→(∀i,m≤i→i<n→wr (F i) l→D i=false)→oE S F D l n=oE S F D l m
 | 0,h,_=>by have:m=0:=ae0
             subst this;rfl
 | n+1,h,hh=>by
   by_cases e:m=n+1
   ·subst e;rfl
   ·simp only[oE]
    rw[if_neg (by rintro⟨h1,h2⟩;have:=hh n ae0 ae0 h2;simp[this] at h1)]
    exact qX ae0 fun i h1 h2=>hh i h1 ae0
theorem zR {E:Env} {C:bn} {aD:List bX} {S:Nat→St} {F:Nat→eB} {W:Nat→List Nat} (tr:Trace E C aD S F W) {D:Nat→Bool} {l:IG}:
   ∀ {n:Nat},n≤aD.length→(∀i,i<n→D i=true)→oE S F D l n=(S n).at l
 | 0,_,_=>rfl
 | n+1,hn,hD=>by
   obtain⟨ao,L8⟩: ∃ao,aD[n]? =some ao:=⟨aD[n],af3 ae0⟩
   obtain⟨h1,h2,_⟩:=tr.step n ao L8
   simp only[oE,hD n ae0,true_and]
   split
   ·rfl
   ·rename_i hl
    rw[zR tr ae0 fun i hi=>hD i ae0]
    obtain⟨_,_,h3⟩:=wR h1 (τ:=S n) fun _ _=>rfl
    rw[h2] at hl
    exact((h3 l).2 fun hh=>hl ⟨hD n ae0,hh⟩).2.symm
structure qg (S:Nat→St) (F:Nat→eB) (W:Nat→List Nat) (m:Nat) (D:Nat→Bool) (τ:St):Prop where
 closed: ∀i,D i=true→ ∀p ∈ W i,D p=true
 state: ∀l,τ.at l=oE S F D l m
theorem AP {E:Env} {C:bn} {aD:List bX} {S:Nat→St} {F:Nat→eB} {W:Nat→List Nat} (tr:Trace E C aD S F W) {D:Nat→Bool} {τ:St} (hA:qg S F W aD.length D τ)
  {j:Nat} {ao:bX} (hj:aD[j]? =some ao) (hD:D j=false) (AB: ∀p ∈ ao.pre,D p=true):
  ∃τ',dK E C ao τ=some τ'∧qg S F W aD.length (fun i=>i==j || D i) τ':=by
 obtain⟨h1,h2,h3,h4,h5⟩:=tr.step j ao hj
 have KH:j<aD.length:=(af0.1 hj).1
 have hW: ∀p ∈ W j,D p=true:=by
  simp only[h3]
  intro p hp
  simp only[agd,List.mem_flatMap] at hp
  rcases hp with hp| ⟨q,hq,hp⟩
  ·exact AB p hp
  ·exact hA.closed q (AB q hq) p hp
 have key: ∀i,i≠j→i<aD.length→L9 (F i) (F j)→(D i=true↔i<j):=by
  intro i cF hi hc
  rcases ahd i j with bk| oO
  ·refine⟨fun _=>bk,fun _=> ?_⟩
   rcases h5 i bk with h| h
   ·exact hW i h
   ·rw[hc.tw] at h;cases h
  ·have hgt:j<i:=ae0
   refine⟨fun XO=> ?_,fun h=>ae0⟩
   obtain⟨ao',ae2⟩: ∃ao',aD[i]? =some ao':=⟨aD[i],af3 hi⟩
   obtain⟨_,_,_,_,g5⟩:=tr.step i ao' ae2
   rcases g5 j hgt with h| h
   ·have:=hA.closed i XO j h
    rw[hD] at this;cases this
   ·rw[hc.symm.tw] at h;cases h
 have agree: ∀l,rd (F j) l→(S j).at l=τ.at l:=by
  intro l hl
  rw[hA.state l]
  have e1:oE S F D l aD.length=oE S F D l j:=qX ae0 fun i qA FX hw=>by
   by_cases e:i=j
   ·subst e;exact hD
   ·have:=key i e FX ⟨l,.inr (.inl ⟨hw,hl⟩)⟩
    cases XO:D i with
    | false=>rfl
    | true=>have:=this.1 XO;omega
  have e2:oE S F D l j=oE S F (fun i=>decide (i<j)) l j:=sM fun i hi hw=>by
   have:=(key i ae0 ae0 ⟨l,.inr (.inl ⟨hw,hl⟩)⟩).2 hi
   simp[this,hi]
  rw[e1,e2]
  exact(zR tr ae0 fun i hi=>by simp[hi]).symm
 rw[h2] at agree
 obtain⟨τ',k1,k2⟩:=wR h1 agree
 rw[←h2] at k2
 refine⟨τ',k1,fun i hi p hp=> ?_,fun l=> ?_⟩
 ·simp only[aht,beq_iff_eq] at hi ⊢
  rcases hi with rfl| hi
  ·exact .inr (hW p hp)
  ·exact .inr (hA.closed i hi p hp)
 ·by_cases hl:wr (F j) l
  ·rw[(k2 l).1 hl]
   have e1:oE S F (fun i=>i==j || D i) l aD.length=oE S F (fun i=>i==j || D i) l (j+1):=qX ae0 fun i qA FX hw=>by
    have cF:i≠j:=ae0
    have:=key i cF FX ⟨l,.inl ⟨hw,hl⟩⟩
    cases XO:D i with
    | false=>simp[cF,XO]
    | true=>have:=this.1 XO;omega
   rw[e1]
   simp[oE,hl]
  ·rw[((k2 l).2 hl).1,hA.state l]
   exact sM fun i _ hw=>by
    by_cases e:i=j
    ·subst e;exact absurd hw hl
    ·simp[e]
theorem DG {E:Env} {C:bn} {aD:List bX} {S:Nat→St} {F:Nat→eB} {W:Nat→List Nat} (tr:Trace E C aD S F W) {D:Nat→Bool} {τ:St} (hA:qg S F W aD.length D τ)
  (kA: ∀i,i<aD.length→D i=true):τ=S aD.length:=
 St.ext' fun l=>by rw[hA.state l,zR tr (af6 _) kA]
section
variable {X:Ctx} {E:Env} {C:bn} {μ0:Mu} {n:Fp}
theorem Qn {σ:St} {a:Go.Act} {w:World} (h:jy X μ0 n σ a w):jy X μ0 n σ a {w with drawn:=w.drawn+1}:=by
 obtain⟨h1,h2,φ,hr,hle⟩:=h
 obtain⟨led,hod⟩:=Le.drew (X:=X) (μ:=⟨w,φ,σ.O⟩) hr.a8
 exact⟨h1,h2,φ,⟨fun t=>aj.mono led (hr.tmps t),hod⟩,hle.trans led⟩
theorem Ma ( H:qe X E C) {h:Hints} {ops:Array Oper} {aD:List bX} (hn:h.n=n.1) (aJ:im X h ops ops.toList=some aD) {S:Nat→St} {F:Nat→eB} {W:Nat→List Nat}
   (tr:Trace E C aD S F W) {Q:Go.Exit→Go.Act→World→Prop} (hQ: ∀a w,jy X μ0 n (S aD.length) a w→Q .normal a w):
   ∀ (fuel:Nat) (an:Array Bool) (τ:St) (a:Go.Act) (w:World),an.size=ops.size→((List.range ops.size).filter fun i=> !an.getD i true).length≤fuel→
     qg S F W aD.length (fun i=>an.getD i false) τ→jy X μ0 n τ a w→wpAnyIn (Fr n.ro) 0 X.P .any ops Q fuel an a w:=by
 obtain⟨hlen,eF⟩:=mG aJ
 have ug:aD.length=ops.size:=by simpa using hlen
 have ready: ∀ (an:Array Bool) (j:Nat),j ∈ Region.ready .any ops an→ ∃o ao,ops[j]? =some o∧aD[j]? =some ao∧mT X h ops o=some ao∧an.getD j true=false∧ ∀p ∈ ao.pre,an.getD p false=true:=by
   intro an j hj
   simp only[Region.ready,ahI,List.mem_range,af2,agS] at hj
   obtain⟨bk,hl,hr⟩:=hj
   have ho:ops[j]? =some ops[j]:=by simp[bk]
   obtain⟨ao,L8,nH⟩:=eF j ops[j] (by simp[bk])
   refine⟨_,ao,ho,L8,nH,hl,fun p hp=> ?_⟩
   rw[ho] at hr
   simp only[agc,ahT] at hr
   have AB:ao.pre=(ops[j].after.toList.filter (Region.binds .any)).map (·.on):=by
     unfold mT at nH
     simp only at nH
     split at nH
     ·injection nH with nH;rw[←nH]
     ·simp at nH
   rw[AB] at hp
   simp only[agk,ahI] at hp
   obtain⟨e,⟨Xr,T3⟩,rfl⟩:=hp
   rw[Array.all_eq_true'] at hr
   have:=hr e (by simpa using Xr)
   simpa [T3] using this
 have done: ∀ (an:Array Bool),Region.ready .any ops an=[]→an.size=ops.size→ ∀i,i<aD.length→an.getD i false=true:=by
   intro an Mb bF i
   induction i using Nat.strongRecOn with
   | _ i ih=>
     intro hi
     cases hl:an.getD i false with
     | true=>rfl
     | false=>
       exfalso
       have bk:i<ops.size:=ae0
       have kb:i<an.size:=ae0
       have hlT:an.getD i true=false:=by simpa [kb] using hl
       obtain⟨ao,L8,nH⟩:=eF i ops[i] (by simp[bk])
       obtain⟨_,_,_,DY,_⟩:=tr.step i ao L8
       have AB:ao.pre=(ops[i].after.toList.filter (Region.binds .any)).map (·.on):=by
         unfold mT at nH
         simp only at nH
         split at nH
         ·injection nH with nH;rw[←nH]
         ·simp at nH
       have:i ∈ Region.ready .any ops an:=by
         simp only[Region.ready,ahI,List.mem_range,af2,agS]
         refine⟨bk,hlT,?_⟩
         have ho:ops[i]? =some ops[i]:=by simp[bk]
         rw[ho]
         simp only[agc,ahT]
         rw[Array.all_eq_true']
         intro e he
         cases hb:Region.binds .any e with
         | false=>simp
         | true=>
           have hm:e.on ∈ ao.pre:=by
            rw[AB];simp only[agk,ahI]
            exact⟨e,⟨by simpa using he,hb⟩,rfl⟩
           have h1:=DY _ hm
           simpa using ih e.on h1 ae0
       rw[Mb] at this
       cases this
 have finish: ∀ (an:Array Bool) (τ:St) (a:Go.Act) (w:World),an.size=ops.size→qg S F W aD.length (fun i=>an.getD i false) τ→jy X μ0 n τ a w→Region.ready .any ops an=[]→Q .normal a w:=by
   intro an τ a w bF hA hs Mb
   have:=DG tr hA (done an Mb bF)
   exact hQ a w (this ▸ hs)
 intro fuel
 induction fuel with
 | zero=>
   intro an τ a w bF hf hA hs
   have Mb:Region.ready .any ops an=[]:=by
     simp only[Nat.le_zero,agR,List.filter_eq_nil_iff,List.mem_range] at hf
     simp only[Region.ready,List.filter_eq_nil_iff,List.mem_range]
     intro i hi
     have:=hf i hi
     simp at this
     simp[this]
   exact⟨Mb,finish an τ a w bF hA hs Mb⟩
 | succ fuel ih=>
   intro an τ a w bF hf hA hs
   refine⟨finish an τ a w bF hA hs,fun j hj=> ?_⟩
   obtain⟨o,ao,ho,L8,nH,hl,AB⟩:=ready an j hj
   have KH:j<ops.size:=by rw[←ug];exact(af0.1 L8).1
   have hlF:an.getD j false=false:=by
     have h1:j<an.size:=ae0
     simpa [h1] using hl
   obtain⟨τ',k1,k2⟩:=AP tr hA L8 hlF AB
   refine lJ H ho nH hn hs k1 fun a' w' ji=>ih _ τ' a' w' (by simpa using bF) ?_ ?_ ji
   ·
     have Nt: ∀ (L:List Nat),L.Nodup→j ∈ L→(L.filter fun i=> !(an.setIfInBounds j true).getD i true).length+1≤(L.filter fun i=> !an.getD i true).length:=by
       intro L
       induction L with
       | nil=>intro _ h;cases h
       | cons x L ihL=>
         intro Rj hm
         have cF: ∀i,i≠j→(an.setIfInBounds j true).getD i true=an.getD i true:=fun i hi=>by
           simp[agT (fun e=>hi e.symm)]
         have hjt: (an.setIfInBounds j true).getD j true=true:=by
           have h1:j<an.size:=ae0
           simp[h1]
         by_cases e:x=j
         · subst e
           have ud: (L.filter fun i=> !(an.setIfInBounds x true).getD i true)=L.filter fun i=> !an.getD i true:=by
            apply List.filter_congr
            intro i hi
            have:i≠x:=fun e=>by rw[ahJ] at Rj;exact Rj.1 (e ▸ hi)
            rw[cF i this]
           simp only[List.filter_cons,hjt,hl,ud]
           simp
         · have D3:j ∈ L:=by
            rcases af7.1 hm with h1| h1
            ·exact absurd h1.symm e
            ·exact h1
           have:=ihL (ahJ.1 Rj).2 D3
           simp only[List.filter_cons,cF x e]
           split
           ·simp only[agb];omega
           ·omega
     have:=Nt (List.range ops.size) List.nodup_range (by simp[KH])
     omega
   · have ae3: (fun i=>i==j || an.getD i false)=fun i=> (an.setIfInBounds j true).getD i false:=by
       funext i
       have h1:j<an.size:=ae0
       by_cases e:i=j
       ·subst e;simp[h1]
       ·simp[e,agT (fun e'=>e e'.symm)]
     rw[ae3] at k2
     exact k2
theorem Gq (H:qe X E C) {h:Hints} (hm:X.P.follows .mixedOrders=true) {ops:Array Oper} {aD:List bX} (hn:h.n=n.1) (aJ:im X h ops ops.toList=some aD) {id:Nat}
  {σ σ':St} {a:Go.Act} {w:World} (hs:jy X μ0 n σ a w) (ah:eo E C aD [] [] σ=some σ') {Q:Go.Exit→Go.Act→World→Prop} (hQ: ∀a' w',jy X μ0 n σ' a' w'→Q .normal a' w'):
  (Code.region id ops true).wpIn (Fr n.ro) 0 X.P Q a w:=by
 obtain⟨S,F,W,s1,s2,_,s4⟩:=wS aD [] [] σ σ' rfl ah
 simp only[agi,agK] at s1 s2 s4
 have tr:Trace E C aD S F W:=⟨fun i ao hi=>s4 i ao hi⟩
 refine wpIn_region_any hm ?_
 refine Ma H hn aJ tr (by rw[s2];exact hQ) ops.size _ σ _ _ afU ?_ ?_ (Qn hs)
 ·exact agm (List.length_filter_le _ _) afU
 ·have Qo: ∀i,(Array.replicate ops.size false).getD i false=false:=fun i=>by
   simp only[Array.getD_eq_getD_getElem?,ahu];split<;>rfl
  refine⟨(fun i hi=>by rw[Qo i] at hi;cases hi),fun l=> ?_⟩
  rw[←s1]
  have:oE S F (fun i=> (Array.replicate ops.size false).getD i false) l aD.length=oE S F (fun i=> (Array.replicate ops.size false).getD i false) l 0:=qX (agI _) fun i _ _ _=>Qo i
  rw[this];rfl
end
end Go.AM
namespace Go.AM
open Go Go.RowKit
theorem Qp {P:Program} {w:World} {ty:TypeId} {bi bm since:Nat} {seen:Array Nat} {es:Array MapEntry} (hi:w.heap[bi]? =some (.mapIter (some bm) since seen since)) (hb:w.heap[bm]? =some (.map es since)) (hold: ∀x ∈ es.toList,x.born<since):
  ((leftOf es seen).size=0∧(Instr.next (.pointer (some ⟨bi,0,none⟩)) false ty).run P w= .ok (.tuple #[.bool false]) w)∨
  ∃e ∈ (leftOf es seen).toList,∃d,(Instr.next (.pointer (some ⟨bi,0,none⟩)) false ty).run P w= .ok (.tuple #[.bool true,e.key,e.val]) {w with drawn:=w.drawn+d,heap:=w.heap.setIfInBounds bi (.mapIter (some bm) since (seen.push e.born) since)}:=by
 simp only[Instr.next,getObj,Sem.run_bind,Sem.run,hi,hb,Result.andThen,next_test_false seen es since since hold (af6 _),aga,if_false]
 unfold leftOf
 have jZ: ∀x ∈ (Array.filter (fun e=> !seen.contains e.born) es).toList,x.born<since:=fun x hx=>hold x (by simp at hx ⊢;exact hx.1)
 generalize Array.filter (fun e=> !seen.contains e.born) es=L at jZ ⊢
 have e1:L.filter (fun x=>decide (x.born<since))=L:=Array.filter_eq_self.2 (fun x hx=>by simpa using jZ x (by simpa using hx))
 have e2:L.filter (fun x=>decide (x.born≥since))= #[]:=by
  rw[Array.filter_eq_empty_iff]
  intro x hx
  have:=jZ x (by simpa using hx)
  simp
  omega
 simp only[e1,e2,Array.append_empty]
 by_cases h0:L.size=0
 ·left
  have:L= #[]:=Array.eq_empty_of_size_eq_zero h0
  subst this
  refine⟨rfl,?_⟩
  simp[choose,Sem.run,Question.forced]
 ·right
  have cF:L.isEmpty=false:=by simp[Array.isEmpty,h0]
  simp only[cF,aga,if_false,Array.empty_append,Array.size_map]
  have hch: ∃ (j d:Nat),j<L.size∧(choose (Question.mapNext L.size)).run P w= .ok j {w with drawn:=w.drawn+d}:=by
   by_cases hf:L.size≤1
   ·exact⟨0,0,ae0,by simp[choose,Sem.run,Question.forced,hf]⟩
   ·exact⟨w.tape w.drawn (Question.mapNext L.size) % L.size,1,Nat.mod_lt _ ae0,by
     simp only[choose,Sem.run,Question.forced,decide_eq_true_eq,hf,if_false,Question.cut]⟩
  obtain⟨j,d,hj,ah⟩:=hch
  refine⟨L[j],afU,d,?_⟩
  have CP: ∀ (o':Go.Obj),(setObj bi o').run P {w with drawn:=w.drawn+d}= .ok () {w with drawn:=w.drawn+d,heap:=w.heap.setIfInBounds bi o'}:=fun o'=>by
   simp only[setObj,Sem.run,hi]
  simp only[ah,Array.getElem?_map,agl hj,agc,Sem.run_bind,CP,Result.andThen]
  rfl
theorem Qq {P:Program} {w:World} {ty:TypeId} {bi a b:Nat} {s:Array Nat} (hi:w.heap[bi]? =some (.mapIter none a s b)):
  (Instr.next (.pointer (some ⟨bi,0,none⟩)) false ty).run P w= .ok (.tuple #[.bool false]) w:=by
 simp only[Instr.next,getObj,Sem.run_bind,Sem.run,hi,Result.andThen]
 rfl
structure iz (X:Ctx) (μ:Mu) (w':World):Prop where
 cell: ∀a c,μ.w.cell? a=some c→w'.cell? a=some c
 map: ∀ (a:Nat) ents clock,μ.w.heap[a]? =some (.map ents clock)→w'.heap[a]? =some (.map ents clock)
 size:μ.w.heap.size≤w'.heap.size
section
variable {X:Ctx} {μ:Mu} {w':World}
theorem iz.row (h:iz X μ w') {b off sz:Nat} {vs:List Value} (hr:di μ.w b off sz vs):di w' b off sz vs:=
 fun i v hv=> ⟨(hr i v hv).1,fun j c hc=>h.cell _ _ ((hr i v hv).2 j c hc)⟩
mutual
theorem aj.ck (h:iz X μ w'): ∀ {x:V} {v:Value},aj X μ x v→aj X ⟨w',μ.φ,μ.O⟩ x v
 | .bool _,_,k| .int ..,_,k| .float _,_,k| .str _,_,k| .nilp,_,k| .nilfn,_,k| .nili,_,k| .nils,_,k| .sl ..,_,k| .ptr ..,_,k| .mp ..,_,k| .it ..,_,k=>by simpa [aj] using k
 | .any,_,_=>by simp[aj]
 | .own ..,_,k| .msl ..,_,k| .mptr ..,_,k=>by simp[aj] at k
 | .agg cs,_,k=>by
   simp only[aj] at k ⊢
   obtain⟨h1,vs,rfl,h2⟩:=k
   exact⟨h1,vs,rfl,ag.ck h h2⟩
 | .tuple cs,_,k=>by
   simp only[aj] at k ⊢
   obtain⟨vs,rfl,h2⟩:=k
   exact⟨vs,rfl,ag.ck h h2⟩
 | .bfn f cs,_,k=>by
   simp only[aj] at k ⊢
   obtain⟨F,cv,rfl,h1,h2⟩:=k
   exact⟨F,cv,rfl,h1,ag.ck h h2⟩
 | .fn f cs,_,k=>by
   simp only[aj] at k ⊢
   obtain⟨F,cv,rfl,h1,h2⟩:=k
   exact⟨F,cv,rfl,h1,ag.ck h h2⟩
 | .iface t x,_,k=>by
   simp only[aj] at k ⊢
   obtain⟨F,y,rfl,h1,h2⟩:=k
   exact⟨F,y,rfl,h1,aj.ck h h2⟩
 | .lit sz xs,_,k=>by
   simp only[aj] at k ⊢
   obtain⟨h0,jx,a,cap,vs,rfl,h1,h2,h3⟩:=k
   refine⟨h0,jx,a,cap,vs,rfl,h1,ag.ck h h2,h3.imp id ?_⟩
   rintro⟨b,o,rfl,hb,hs,hr⟩
   exact⟨b,o,rfl,hb,af9 hs h.size,h.row hr⟩
 | .litk sz xs,_,k=>by
   simp only[aj] at k ⊢
   obtain⟨h0,jx,a,cap,vs,rfl,h1,h2,h3⟩:=k
   refine⟨h0,jx,a,cap,vs,rfl,h1,ag.ck h h2,h3.imp id ?_⟩
   rintro⟨rfl,hb,hs,hr⟩
   exact⟨rfl,hb,af9 hs h.size,h.row hr⟩
 | .eptr e off,_,k=>by
   simp only[aj] at k ⊢
   obtain⟨h0,jx,b,o,sz,x,rfl,hb,hs,h1,hr⟩:=k
   exact⟨h0,jx,b,o,sz,x,rfl,hb,af9 hs h.size,aj.ck h h1,h.row hr⟩
 | .epk i sz e off,_,k=>by
   simp only[aj] at k ⊢
   obtain⟨h0,jx,x,rfl,hb,hs,h1,hr⟩:=k
   exact⟨h0,jx,x,rfl,hb,af9 hs h.size,aj.ck h h1,h.row hr⟩
 | .mlit es,_,k=>by
   simp only[aj] at k ⊢
   obtain⟨h0,k⟩:=k
   refine⟨h0,k.imp id ?_⟩
   rintro⟨a,ents,clock,rfl,hb,hs,h1,h2⟩
   exact⟨a,ents,clock,rfl,hb,af9 hs h.size,⟨h.map _ _ _ h1.1,h1.2⟩,ag.ck h h2⟩
theorem ag.ck (h:iz X μ w'): ∀ {xs:List V} {vs:List Value},ag X μ xs vs→ag X ⟨w',μ.φ,μ.O⟩ xs vs
 | [],[],_=>by simp[ag]
 | [],_::_,k=>by simp[ag] at k
 | _::_,[],k=>by simp[ag] at k
 | x::xs,v::vs,k=>by
   simp only[ag] at k ⊢
   exact⟨aj.ck h k.1,ag.ck h k.2⟩
end
theorem ba.ck (h:iz X μ w') (ho:ba X μ) (hb: ∀r,(μ.O r).es.isSome=true→(μ.φ r).cap≠0→w'.heap[(μ.φ r).bV]? =μ.w.heap[(μ.φ r).bV]?):ba X ⟨w',μ.φ,μ.O⟩ where
 ok:=fun r es bo=>by
  have MF: (μ.O r).es.isSome=true:=by rw[bo];rfl
  rcases ho.ok r es bo with⟨h1,h2,h3,h4⟩ | ⟨h1,h2,ob,h3,h4⟩
  ·refine .inl ⟨h1,h2,h3,?_⟩
   rcases h4 with h4| ⟨c,T,vs,k1,k2,k3,k4⟩
   ·exact .inl h4
   ·by_cases hc: (μ.φ r).cap=0
    ·exact .inl hc
    ·exact .inr ⟨c,T,vs,by show w'.heap[(μ.φ r).bV]? =_;rw[hb r MF hc];exact k1,k2,ag.ck h k3,h.row k4⟩
  ·refine .inr ⟨h1,h2,ob,by show w'.heap[(μ.φ r).bV]? =_;rw[hb r MF h2];exact h3,?_⟩
   rcases h4 with⟨ents,clock,k1,k2,k3⟩ | k| ⟨mo,since,lX,k1,k2,k3⟩
   ·exact .inl ⟨ents,clock,k1,ag.ck h k2,k3⟩
   ·exact .inr (.inl k)
   ·refine .inr (.inr ⟨mo,since,lX,k1,k2,k3.imp id ?_⟩)
    rintro⟨m,ents,l1,l2,l3,l4,l5,l6⟩
    exact⟨m,ents,l1,l2,af9 l3 h.size,h.map _ _ _ l4,l5,ag.ck h l6⟩
 inj:=ho.inj
 sS:=ho.sS
 blt:=fun b kI=>af9 (ho.blt b kI) h.size
end
theorem B8 {X:Ctx} {w:World} {φ:Nat→Row} {O O':Nat→Obj} (ho:ba X ⟨w,φ,O⟩) (h: ∀r,O' r=O r∨(O' r).es=none∧((O r).gen< (O' r).gen∨(O' r).gen=(O r).gen∧(O' r).sz=(O r).sz)):
  Le ⟨w,φ,O⟩ ⟨w,φ,O'⟩∧ba X ⟨w,φ,O'⟩:=by
 have UC: ∀r es,(O' r).es=some es→O' r=O r:=fun r es bo=>by
  rcases h r with h| ⟨h,_⟩
  ·exact h
  ·rw[h] at bo;simp at bo
 have MF: ∀r,(O' r).es.isSome=true→O' r=O r:=fun r hr=>by
  obtain⟨es,bo⟩:=af8.1 hr
  exact UC r es bo
 have jd: ∀b,(Mu.mk w φ O').own b→(Mu.mk w φ O).own b:=by
  rintro b ⟨r,h1,h2,h3,h4⟩
  have e:=MF r h1
  have Ee: (O' r).es.isSome=true:=h1
  have KR: (O' r).fz=false:=h2
  rw[e] at Ee KR
  exact⟨r,Ee,KR,h3,h4⟩
 have le:Le ⟨w,φ,O⟩ ⟨w,φ,O'⟩:=by
  refine⟨af6 _,fun b _ hn=> ⟨rfl,fun h'=>hn (jd b h')⟩,fun r=> ?_,fun r e=> ?_,rfl,rfl,rfl,fun _ _=>rfl⟩
  ·show (O r).gen≤(O' r).gen
   rcases h r with h| ⟨_,h| ⟨h,_⟩⟩
   ·rw[h];exact af6 _
   ·omega
   ·omega
  ·have e': (O' r).gen=(O r).gen:=e
   refine⟨rfl,?_⟩
   show (O' r).sz=(O r).sz
   rcases h r with h| ⟨_,h| ⟨_,h⟩⟩
   ·rw[h]
   ·omega
   ·exact h
 refine⟨le,fun r es bo=> ?_,fun r r' cF h1 h2 h3 h4=> ?_,fun r h1 h2=> ?_,ho.blt⟩
 ·have e:=UC r es bo
  have fm: (O r).es=some es:=by rw[←e];exact bo
  exact fR.bS (r:=r) (r':=r) le (ho.ok r es fm) (by show (O' r).sz=(O r).sz;rw[e]) rfl fun _=>rfl
 ·have Ee: (O' r).es.isSome=true:=h1
  have KR: (O' r').es.isSome=true:=h2
  rw[MF r Ee] at Ee
  rw[MF r' KR] at KR
  exact ho.inj r r' cF Ee KR h3 h4
 ·have Ee: (O' r).es.isSome=true:=h1
  rw[MF r Ee] at Ee
  exact ho.sS r Ee h2
def jm (Z:List (V×MapEntry)) (seen:Array Nat):List (V×MapEntry):=Z.filter fun z=> !seen.contains z.2.born
theorem B9 {Z:List (V×MapEntry)} {ents:Array MapEntry} (h:Z.map (·.2)=ents.toList) (seen:Array Nat): (jm Z seen).map (·.2)=(leftOf ents seen).toList:=by
 unfold jm leftOf
 rw[Array.toList_filter,←h,List.filter_map]
 rfl
theorem wT {α:Type} (f:α→Nat): ∀ {l:List α} {z:α},z ∈ l→(l.map f).Nodup→l.Perm (z::l.filter fun x=> !(f x==f z))
 | a::l,z,hz,hn=>by
   rw[List.map_cons,ahJ] at hn
   rcases af7.1 hz with rfl| hz
   ·have:l.filter (fun x=> !(f x==f z))=l:=List.filter_eq_self.2 fun x hx=>by
     have:f x≠f z:=fun e=>hn.1 (e ▸ agk.2 ⟨x,hx,rfl⟩)
     simpa using this
    simp[this]
   ·have cF: ¬ (f a=f z):=fun e=>hn.1 (e ▸ agk.2 ⟨z,hz,rfl⟩)
    have ih:=wT f hz hn.2
    have: (a::l).filter (fun x=> !(f x==f z))=a::l.filter (fun x=> !(f x==f z)):=by
     rw[List.filter_cons_of_pos (by simpa using cF)]
    rw[this]
    exact(ih.cons a).trans (.swap z a _)
theorem IH {Z:List (V×MapEntry)} {seen:Array Nat} (hn: (Z.map fun z=>z.2.born).Nodup) {z:V×MapEntry} (hz:z ∈ jm Z seen): (jm Z seen).Perm (z::jm Z (seen.push z.2.born)):=by
 have h1: ((jm Z seen).map fun z=>z.2.born).Nodup:=hn.sublist (List.filter_sublist.map _)
 have h2:=wT (fun z:V×MapEntry=>z.2.born) hz h1
 have h3: (jm Z seen).filter (fun x=> !(x.2.born==z.2.born))=jm Z (seen.push z.2.born):=by
  unfold jm
  rw[List.filter_filter]
  refine List.filter_congr fun x _=> ?_
  rw[contains_push]
  cases seen.contains x.2.born<;>cases (x.2.born==z.2.born) <;>rfl
 rw[h3] at h2
 exact h2
theorem Gr {X:Ctx} {μ:Mu}: ∀ {es:List V} {l:List MapEntry},ag X μ es (l.map fun e=>Value.tuple #[e.key,e.val])→ ∃Z:List (V×MapEntry),Z.map (·.1)=es∧Z.map (·.2)=l∧ ∀z ∈ Z,aj X μ z.1 (.tuple #[z.2.key,z.2.val])
 | [],[],_=> ⟨[],rfl,rfl,afU⟩
 | [],_::_,h=>by simp[ag] at h
 | _::_,[],h=>by simp[ag] at h
 | x::es,e::l,h=>by
   simp only[List.map_cons,ag] at h
   obtain⟨Z,h1,h2,h3⟩:=Gr h.2
   refine⟨(x,e)::Z,by simp[h1],by simp[h2],fun z hz=> ?_⟩
   rcases af7.1 hz with rfl| hz
   ·exact h.1
   ·exact h3 z hz
section
variable {X:Ctx} {E:Env} {n:Fp}
def DH (X:Ctx) (n:Fp) (ops:Array Oper) (y:Code) (rec:aS→St→Option (aP×St)) (tb:aS):Prop:=
 ∀ (σ σ':St) (e:aP) (μ0:Mu) (a:Go.Act) (w:World) (Q K:Go.Exit→Go.Act→World→Prop),rec tb σ=some (e,σ')→jy X μ0 n σ a w→(∀a' w',jy X μ0 n σ' a' w'→Q (match e with| .normal=> .normal| .exit id=> .exit id| .ret=> .ret) a' w')→
  (∀a' w',y.wpIn (Fr n.ro) 0 X.P Q a' w'→K .normal a' w')→wpOpsIn (Fr n.ro) 0 X.P ops K (List.range' 1 (ops.size - 1)) a w
def II (X:Ctx) (n:Fp) (ops:Array Oper) (z:Code) (b1:Nat) (rec:aS→St→Option (aP×St)) (tm:aS):Prop:=
 ∀ (σ σ':St) (μ0:Mu) (a:Go.Act) (w:World) (Q:Go.Exit→Go.Act→World→Prop),rec tm σ=some (.normal,σ')→jy X μ0 n σ a w→(∀a' w',jy X μ0 n σ' a' w'→Q .normal a' w')→
  wpOpsIn (Fr n.ro) 0 X.P ops (Exit.then (z.wpIn (Fr n.ro) 0 X.P (Exit.inBlock b1 Q)) (Exit.inBlock b1 Q)) (List.range' 1 (ops.size - 1)) a w
abbrev qh (i0:Nat) (ops:Array Oper) (y:Code) (b1 i5:Nat) (gV:Array Oper) (z5:Code):Code:= .seq (.region i0 ops false) (.seq y (.block b1 (.seq (.region i5 gV false) z5)))
theorem Mc {P:Program} {w:World} {bi bm since:Nat} {seen:Array Nat} {ents:Array MapEntry} {e:MapEntry} (hi:w.heap[bi]? =some (.mapIter (some bm) since (seen.push e.born) since)) (hb:w.heap[bm]? =some (.map ents since)) (he:e ∈ ents.toList) (hn: (ents.toList.map (·.born)).Nodup):
  (Instr.entry (.pointer (some ⟨bi,0,none⟩))).run P w= .ok (.tuple #[e.key,e.val]) w:=by
 have hf:ents.find? (·.born==e.born)=some e:=by
  rw[←Array.find?_toList]
  generalize ents.toList=l at he hn
  induction l with
  | nil=>simp at he
  | cons x l ih=>
    rw[List.map_cons,ahJ] at hn
    rw[List.find?_cons]
    rcases af7.1 he with rfl| he
    ·simp
    ·have cF: ¬ (x.born==e.born)=true:=by
      intro h
      exact hn.1 (agk.2 ⟨e,he,(by simpa using h:x.born=e.born).symm⟩)
     simp only[cF]
     exact ih he hn.2
 simp only[Instr.entry,getObj,Sem.run_bind,Sem.run,hi,hb,Result.andThen,Array.back?_push,bne_self_eq_false,aga,if_false,hf]
 rfl
structure DI (X:Ctx) (n:Fp) (μ0:Mu) (rec:aS→St→Option (aP×St)) (tl:aS) (Good:St→Prop) (a:Go.Act) (w:World):Prop where
 h: ∃σe σp,jy X μ0 n σe a w∧rec tl σe=some (.normal,σp)∧Good σp
variable {ops gV:Array Oper} {o1 o5:Oper} {y z5:Code} {it nx ne id b1 r g:Nat} {μ0:Mu} {rec:aS→St→Option (aP×St)} {tb tm tl:aS} {Good:St→Prop} {i0 i5:Nat}
theorem zS (h0:ops[0]? =some o1) (hd: ∀c,o1.op≠ .defer c) (hg:o1.guard=none) {a:Go.Act} {w w1:World} {v:Value} (jl: (execOp a.eval o1).run X.P w= .ok (.value v) w1) {Q:Go.Exit→Go.Act→World→Prop}
  (h:wpOpsIn (Fr n.ro) 0 X.P ops Q (List.range' 1 (ops.size - 1)) (a.put o1.dst v) w1): (Code.region i0 ops false).wpIn (Fr n.ro) 0 X.P Q a w:=by
 refine wpIn_region ?_
 have bF:0 <ops.size:=(af1.1 h0).1
 have hr:List.range ops.size=0::List.range' 1 (ops.size - 1):=by
  rw[aha]
  obtain⟨k,hk⟩: ∃k,ops.size=k+1:=⟨ops.size - 1,ae0⟩
  rw[hk,List.range'_succ]
  rfl
 rw[hr,wpOpsIn_cons]
 simp only[wpOpIn,h0]
 rw[if_pos (by simp[Region.wanted,hg])]
 refine qL hd ?_
 unfold Oper.wp
 rw[jl,Oper.upon_value]
 exact h
theorem Ca (eA:o1.op= .next (.tmp it) false) {a:Go.Act} {w w1:World} {v:Value} (ah: (Instr.next (a.eval (.tmp it)) false o1.type).run X.P w= .ok v w1): (execOp a.eval o1).run X.P w= .ok (.value v) w1:=by
 simp only[execOp,eA]
 exact du ah
theorem IJ (eA:o5.op= .entry (.tmp it)) {a:Go.Act} {w w1:World} {v:Value} (ah: (Instr.entry (a.eval (.tmp it))).run X.P w= .ok v w1): (execOp a.eval o5).run X.P w= .ok (.value v) w1:=by
 simp only[execOp,eA]
 exact du ah
theorem Cb {Q:Go.Exit→Go.Act→World→Prop} (hQ: ∀a w,DI X n μ0 rec tl Good a w→Q (.exit id) a w) (hB:DH X n ops y rec tb) (h0:ops[0]? =some o1) (eA:o1.op= .next (.tmp it) false) (hd:o1.dst=some nx) (hg:o1.guard=none) (GU:nx<n.1)
  {σ σp:St} {a:Go.Act} {w:World} (hs:jy X μ0 n σ a w) (ah: (Instr.next (a.eval (.tmp it)) false o1.type).run X.P w= .ok (.tuple #[.bool false]) w)
  (hk:runK rec it r g nx ne id tb tm tl [] σ=some σp) (Gs:Good σp) (m:Nat):
  Code.roundsIn (Fr n.ro) 0 X.P (qh i0 ops y b1 i5 gV z5) Q (m+1) a w:=by
 rw[roundsIn_succ]
 simp only[runK] at hk
 split at hk
 ·split at hk
  ·rename_i lW σe fS
   split at hk
   ·rename_i Q0
    subst Q0
    split at hk
    ·rename_i σ'' J4
     injection hk with hk;subst hk
     refine wpIn_seq (zS (X:=X) h0 (by rw[eA];simp) hg (Ca eA ah) ?_)
     obtain⟨j3,bF,φ,hr,hle⟩:=hs
     have iY:jy X μ0 n (σ.put (some nx) (.tuple [.bool false])) (a.put o1.dst (.tuple #[.bool false])) w:=by
      rw[hd]
      exact⟨by rw[put_defers];exact j3,by rw[lK];exact bF,φ,ox hr (Le.refl _) hr.a8 (by simp only[aj];exact⟨_,rfl,by simp[ag,aj]⟩) (by simp;omega) σ.O,hle⟩
     exact hB _ _ _ _ _ _ (Exit.then (Code.wpIn (Fr n.ro) 0 X.P (.block b1 (.seq (.region i5 gV false) z5)) (Exit.then (Code.roundsIn (Fr n.ro) 0 X.P (qh i0 ops y b1 i5 gV z5) Q m) Q)) (Exit.then (Code.roundsIn (Fr n.ro) 0 X.P (qh i0 ops y b1 i5 gV z5) Q m) Q)) _ fS iY (fun a' w' ji=>hQ _ _ ⟨σe,σ'',ji,J4,Gs⟩) fun a' w' h=>wpIn_seq h
    ·simp at hk
   ·simp at hk
  ·simp at hk
 ·simp at hk
theorem zT {σ:St} (h:xd it r g σ=true):σ.T it= .it r g∧(σ.O r).gen=g:=by
 unfold xd at h
 split at h
 ·rename_i r' g' e
  simp only[af2,ahe] at h
  obtain⟨rfl,rfl,h⟩:=h
  exact⟨e,h⟩
 ·simp at h
theorem uD {Q:Go.Exit→Go.Act→World→Prop} (hQ: ∀a w,DI X n μ0 rec tl Good a w→Q (.exit id) a w) (hB:DH X n ops y rec tb) (hM:II X n gV z5 b1 rec tm) (h0:ops[0]? =some o1) (eA:o1.op= .next (.tmp it) false) (hd:o1.dst=some nx) (hg:o1.guard=none) (GU:nx<n.1)
   (k0:gV[0]? =some o5) (kop:o5.op= .entry (.tmp it)) (kd:o5.dst=some ne) (kg:o5.guard=none) (cF:ne<n.1)
   {bi bm since:Nat} {ents:Array MapEntry} {Z:List (V×MapEntry)} (hZ:Z.map (·.2)=ents.toList) (cr:gr ents since):
   ∀ (m:Nat) (seen:Array Nat) (σ:St) (a:Go.Act) (w:World) (φ:Nat→Row),(jm Z seen).length=m→Marks n w a.defers→a.tmps.size=n.1→Rel X σ.T a ⟨w,φ,σ.O⟩→Le μ0 ⟨w,φ,σ.O⟩→
    (φ r).bV=bi→w.heap[bi]? =some (.mapIter (some bm) since seen since)→ ¬ (Mu.mk w φ σ.O).own bi→(bi<μ0.w.heap.size→μ0.own bi)→
    (∀r',(σ.O r').es.isSome=true→(φ r').cap≠0→(φ r').bV≠bi)→w.heap[bm]? =some (.map ents since)→ ¬Own X ⟨w,φ,σ.O⟩ bm→
    (∀z ∈ Z,aj X ⟨w,φ,σ.O⟩ z.1 (.tuple #[z.2.key,z.2.val]))→
    (∀p,p.Perm ((jm Z seen).map (·.1))→ ∃σp,runK rec it r g nx ne id tb tm tl p σ=some σp∧Good σp)→
    Code.roundsIn (Fr n.ro) 0 X.P (qh i0 ops y b1 i5 gV z5) Q (m+1) a w
 | m,seen,σ,a,w,φ,hm,j3,bF,hr,hle,hφ,UD,gR,j8,eS,Dj,RD,bl,zU=>by
   have oU:xd it r g σ=true:=by
    obtain⟨σp,hk,_⟩:=zU _ (.refl _)
    cases hl: (jm Z seen).map (·.1) with
    | nil=>
      rw[hl] at hk
      simp only[runK] at hk
      split at hk
      ·rename_i h;exact h
      ·simp at hk
    | cons e p=>
      rw[hl] at hk
      simp only[runK] at hk
      split at hk
      · split at hk
        ·rename_i h;exact h
        ·simp at hk
      ·simp at hk
   obtain⟨hT,cE⟩:=zT oU
   have tL:a.eval (.tmp it)= .pointer (some ⟨bi,0,none⟩):=by
    have:=hr.tmps it
    rw[hT] at this
    simp only[aj] at this
    obtain⟨a0,h1,_,h2⟩:=this
    obtain⟨_,rfl⟩:=h2 cE
    show a.tmps.getD it undef=_
    rw[h1,hφ]
   have j4:jy X μ0 n σ a w:=⟨j3,bF,φ,hr,hle⟩
   have bk:bi<w.heap.size:=(af1.1 UD).1
   rcases Qp (P:=X.P) (ty:=o1.type) UD Dj cr.lt with⟨hz,ah⟩ | ⟨e,he,d,ah⟩
   ·
    have hl:jm Z seen=[]:=by
      have:=B9 hZ seen
      rw[Array.eq_empty_of_size_eq_zero hz] at this
      exact List.map_eq_nil_iff.1 this
    obtain⟨σp,hk,Gs⟩:=zU [] (by rw[hl];exact .refl _)
    exact Cb hQ hB h0 eA hd hg GU j4 (by rw[tL];exact ah) hk Gs m
   ·
    rw[←B9 hZ seen] at he
    obtain⟨z,hz,rfl⟩:=agk.1 he
    have Rj: (Z.map fun z=>z.2.born).Nodup:=by
      have:=cr.nodup
      rw[←hZ,List.map_map] at this
      exact this
    have Ka:=IH Rj hz
    obtain⟨m',rfl⟩: ∃m',m=m'+1:=by
      have:=Ka.length_eq
      simp only[agb] at this
      exact⟨_,by rw[←hm];exact this⟩
    have hZm:z ∈ Z:=(ahI.1 hz).1
    have zH:=bl z hZm
    obtain⟨σp1,yN,_⟩:=zU (z.1:: (jm Z (seen.push z.2.born)).map (·.1)) (by have:=(Ka.map (·.1)).symm;simpa using this)
    obtain⟨k,v,σm,σ',hzv,Qr,Ts,fS⟩: ∃k v σm σ',z.1= .tuple [k,v]∧rec tb (σ.put (some nx) (.tuple [.bool true,k,v]))=some (.normal,σm)∧xd it r g σm=true∧rec tm (σm.put (some ne) (.tuple [k,v]))=some (.normal,σ'):=by
      simp only[runK] at yN
      split at yN
      · rename_i k v XP
        rw[if_pos oU] at yN
        split at yN
        ·rename_i σm hb
         split at yN
         · rename_i Ts
           split at yN
           ·rename_i σ' kI;exact⟨k,v,σm,σ',XP,hb,Ts,kI⟩
           ·simp at yN
         ·simp at yN
        ·simp at yN
      ·simp at yN
    have XP:aj X ⟨w,φ,σ.O⟩ k z.2.key∧aj X ⟨w,φ,σ.O⟩ v z.2.val:=by
      rw[hzv] at zH
      simp only[aj] at zH
      obtain⟨vs,h1,h2⟩:=zH
      injection h1 with h1
      subst h1
      simpa [ag] using h2
    rw[roundsIn_succ]
    refine wpIn_seq (zS (X:=X) h0 (by rw[eA];simp) hg (Ca eA (by rw[tL];exact ah)) ?_)
    generalize GR: ({w with drawn:=w.drawn+d,heap:=w.heap.setIfInBounds bi (.mapIter (some bm) since (seen.push z.2.born) since)}:World)=w2
    have j5: ∀b,b≠bi→w2.heap[b]? =w.heap[b]? :=fun b hb=>by
      rw[←GR];exact agT (fun e=>hb e.symm)
    have WH:w2.heap[bi]? =some (.mapIter (some bm) since (seen.push z.2.born) since):=by
      rw[←GR];simp[bk]
    have mC:w2.heap.size=w.heap.size:=by rw[←GR];simp
    have st:iz X ⟨w,φ,σ.O⟩ w2:=by
      refine⟨fun ad c hc=> ?_,fun b es cl hb=> ?_,by show w.heap.size≤w2.heap.size;omega⟩
      · have cF:ad.block≠bi:=fun e=>by
         have Co:w.cell? ad=some c:=hc
         simp[World.cell?,e,UD] at Co
        have Co:w.cell? ad=some c:=hc
        simp only[World.cell?,j5 _ cF] at Co ⊢
        exact Co
      · have kI:w.heap[b]? =some (.map es cl):=hb
        rw[j5 b (fun e=>by rw[e,UD] at kI;simp at kI)]
        exact kI
    have aa9:ba X ⟨w2,φ,σ.O⟩:=hr.a8.ck st fun r' h1 h2=>j5 _ (eS r' h1 h2)
    have WI:Le μ0 ⟨w2,φ,σ.O⟩:=by
      refine⟨by have:=hle.size;show μ0.w.heap.size≤w2.heap.size;have h2:μ0.w.heap.size≤w.heap.size:=this;omega,fun b hb hn=> ?_,hle.gen,hle.row,?_,?_,?_,fun ad LI=> ?_⟩
      · have cF:b≠bi:=fun e=>by subst e;exact hn (j8 hb)
        obtain⟨k1,k2⟩:=hle.bS b hb hn
        exact⟨(j5 b cF).trans k1,k2⟩
      ·rw[←hle.os,←GR]
      ·rw[←hle.output,←GR]
      ·rw[←hle.tape,←GR]
      · have k1:w.frozen? ad=μ0.w.frozen? ad:=hle.frozen ad LI
        show w2.frozen? ad=_
        rw[←k1]
        by_cases e:ad.block=bi
        ·simp only[World.frozen?,e,UD,WH]
        ·simp only[World.frozen?,j5 _ e]
    have oV:Rel X σ.T a ⟨w2,φ,σ.O⟩:=⟨fun t=>aj.ck st (hr.tmps t),aa9⟩
    have Qs:Marks n w2 a.defers:=by
      obtain⟨⟨m0,m0'⟩,Ds,m1,m2,m3⟩:=j3
      exact⟨⟨ae0,fun l hl=>by
        obtain⟨L,k⟩:=m0' l hl
        exact⟨L,(j5 l (fun e=>by rw[e,UD] at k;simp at k)).trans k⟩⟩,Ds,m1,m2,fun D hD=> ⟨(m3 D hD).1,(j5 D (fun e=>by have:=(m3 D hD).2;rw[e,UD] at this;simp at this)).trans (m3 D hD).2⟩⟩
    have nZ:jy X ⟨w2,φ,σ.O⟩ n (σ.put (some nx) (.tuple [.bool true,k,v])) (a.put o1.dst (.tuple #[.bool true,z.2.key,z.2.val])) w2:=by
      rw[hd]
      refine⟨by rw[put_defers];exact Qs,by rw[lK];exact bF,φ,ox oV (Le.refl _) aa9 ?_ (by simp;omega) σ.O,Le.refl _⟩
      simp only[aj]
      exact⟨_,rfl,by simp only[ag,aj];exact⟨trivial,aj.ck st XP.1,aj.ck st XP.2,trivial⟩⟩
    refine hB _ _ _ _ _ _ (Exit.then (Code.wpIn (Fr n.ro) 0 X.P (.block b1 (.seq (.region i5 gV false) z5)) (Exit.then (Code.roundsIn (Fr n.ro) 0 X.P (qh i0 ops y b1 i5 gV z5) Q (m'+1)) Q)) (Exit.then (Code.roundsIn (Fr n.ro) 0 X.P (qh i0 ops y b1 i5 gV z5) Q (m'+1)) Q)) _ Qr nZ (fun am wm hsm=> ?_) fun a' w' h=>wpIn_seq h
    have kb:bi<w2.heap.size:=ae0
    have UE:bm<w2.heap.size:=by rw[mC];exact(af1.1 Dj).1
    have UG:bm≠bi:=fun e=>by rw[e,UD] at Dj;simp at Dj
    obtain⟨hTm,UH⟩:=zT Ts
    have afQ:=hsm
    obtain⟨aba,ae4,φm,SQ,Md⟩:=hsm
    have hφm:φm r=φ r:=(Md.row r (by show (σm.O r).gen=(σ.O r).gen;rw[UH,cE])).1
    have ae5:wm.heap[bi]? =some (.mapIter (some bm) since (seen.push z.2.born) since):=(Md.bS bi kb gR).1.trans WH
    have ae6:wm.heap[bm]? =some (.map ents since):=(Md.bS bm UE (fun h=>RD (.inl h))).1.trans ((j5 bm UG).trans Dj)
    have ae7:am.eval (.tmp it)= .pointer (some ⟨bi,0,none⟩):=by
      have:=SQ.tmps it
      rw[hTm] at this
      simp only[aj] at this
      obtain⟨a0,h1,_,h2⟩:=this
      obtain⟨_,rfl⟩:=h2 UH
      show am.tmps.getD it undef=_
      rw[h1,hφm,hφ]
    have hze:z.2 ∈ ents.toList:=by rw[←hZ];exact agk.2 ⟨z,hZm,rfl⟩
    refine wpIn_block (wpIn_seq (zS (X:=X) k0 (by rw[kop];simp) kg (IJ kop (by rw[ae7];exact Mc ae5 ae6 hze cr.nodup)) ?_))
    have BL:jy X ⟨w2,φ,σ.O⟩ n (σm.put (some ne) (.tuple [k,v])) (am.put o5.dst (.tuple #[z.2.key,z.2.val])) wm:=by
      rw[kd]
      refine⟨by rw[put_defers];exact aba,by rw[lK];exact ae4,φm,ox SQ (Le.refl _) SQ.a8 ?_ (by simp;omega) σm.O,Md⟩
      simp only[aj]
      exact⟨_,rfl,by simp only[ag];exact⟨aj.mono Md (aj.ck st XP.1),aj.mono Md (aj.ck st XP.2),trivial⟩⟩
    refine hM _ _ _ _ _ _ fS BL fun a' w' ji=> ?_
    obtain⟨abb,Tq,φ',vn,pR⟩:=ji
    have Qt: ∀p,p.Perm ((jm Z (seen.push z.2.born)).map (·.1))→ ∃σp,runK rec it r g nx ne id tb tm tl p σ'=some σp∧Good σp:=fun p hp=>by
      obtain⟨σp,hk,LR⟩:=zU (z.1::p) ((hp.cons z.1).trans (by have:=(Ka.map (·.1)).symm;simpa using this))
      refine⟨σp,?_,LR⟩
      rw[hzv] at hk
      simp only[runK,oU,Ts,if_true,Qr,fS] at hk
      exact hk
    have ae8:xd it r g σ'=true:=by
      obtain⟨σp,hk,_⟩:=Qt _ (.refl _)
      cases hl: (jm Z (seen.push z.2.born)).map (·.1) with
      | nil=>
        rw[hl] at hk
        simp only[runK] at hk
        split at hk
        ·rename_i h;exact h
        ·simp at hk
      | cons e p=>
        rw[hl] at hk
        simp only[runK] at hk
        split at hk
        ·split at hk
         ·rename_i h;exact h
         ·simp at hk
        ·simp at hk
    have zV: (σ'.O r).gen=g:=(zT ae8).2
    obtain⟨kb1,kb2⟩:=pR.bS bi kb gR
    obtain⟨km1,km2⟩:=pR.bS bm UE (fun h=>RD (.inl h))
    have WJ:w'.heap[bi]? =some (.mapIter (some bm) since (seen.push z.2.born) since):=kb1.trans WH
    have hlen: (jm Z (seen.push z.2.born)).length=m':=by
      have:=Ka.length_eq
      rw[hm,agb] at this
      omega
    refine uD hQ hB hM h0 eA hd hg GU k0 kop kd kg cF hZ cr m' (seen.push z.2.born) σ' a' w' φ' hlen abb Tq vn (WI.trans pR) ?_ WJ kb2 j8 ?_ (km1.trans ((j5 bm UG).trans Dj)) ?_ (fun x hx=>aj.mono pR (aj.ck st (bl x hx))) Qt
    · have:=(pR.row r (by show (σ'.O r).gen=(σ.O r).gen;rw[zV,cE])).1
      rw[show φ' r=φ r from this];exact hφ
    · intro r' h1 h2 hb
      obtain⟨es,bo⟩:=af8.1 h1
      rcases vn.a8.ok r' es bo with⟨_,_,_,h4⟩ | ⟨_,_,ob,h3,h4⟩
      · rcases h4 with h4| ⟨c,T,vs,k1,_⟩
        ·exact h2 h4
        ·have k1':w'.heap[(φ' r').bV]? =some (.cells c T (0,0)):=k1
         rw[hb,WJ] at k1';simp at k1'
      · have XQ:w'.heap[(φ' r').bV]? =some ob:=h3
        rw[hb,WJ] at XQ
        injection XQ with XQ
        rcases h4 with⟨_,_,k1,_⟩ | ⟨_,_,k1,_⟩ | ⟨_,_,_,k1,_⟩
        ·rw[←XQ] at k1;simp at k1
        ·rw[←XQ] at k1;simp at k1
        ·rw[←XQ] at k1
         injection k1 with _ _ k1 _
         have:=congrArg Array.size k1
         simp at this
    · rintro(h| h)
      ·exact km2 h
      ·exact RD (.inr h)
termination_by m=>m
theorem zW {kT kO:List Nat} (hB:DH X n ops y rec tb) (hM:II X n gV z5 b1 rec tm) (h0:ops[0]? =some o1) (eA:o1.op= .next (.tmp it) false) (hd:o1.dst=some nx) (hg:o1.guard=none) (GU:nx<n.1)
  (l0:gV[0]? =some o5) (lop:o5.op= .entry (.tmp it)) (ld:o5.dst=some ne) (lg:o5.guard=none) (cF:ne<n.1)
  {C:bn} {σ σ2:St} {e:aP} {a:Go.Act} {w:World} (ah:aC E C rec (.keys it nx ne id kT kO tb tm tl) σ=some (e,σ2)) (hs:jy X μ0 n σ a w):
  e= .normal∧(Code.block id (.loop (qh i0 ops y b1 i5 gV z5))).wpIn (Fr n.ro) 0 X.P (fun ex a' w'=>ex= .normal∧ ∃σe σp,jy X μ0 n σe a' w'∧rec tl σe=some (.normal,σp)∧ ∀MQ Kb,jy X μ0 n σp MQ Kb→jy X μ0 n σ2 MQ Kb) a w:=by
 simp only[aC] at ah
 split at ah
 ·rename_i r g hT
  split at ah
  ·rename_i es hO
   split at ah
   ·rename_i hc
    obtain⟨cE,SV,gu⟩:=hc
    split at ah
    ·rename_i σ1 σs kA
     split at ah
     ·rename_i WK
      simp only[afY,af4] at ah
      obtain⟨rfl,rfl⟩:=ah
      refine⟨rfl,?_⟩
      let Good:St→Prop:=fun σp=> ∀MQ Kb,jy X μ0 n σp MQ Kb→jy X μ0 n (forget kT kO σ1 σs) MQ Kb
      have Gs: ∀σp ∈ σ1::σs,Good σp:=by
       rintro σp hp MQ Kb ⟨j3,bF,φ,hr,hle⟩
       have TP:agree kT kO σ1 σp=true∨σp=σ1:=by
        rcases af7.1 hp with h| h
        ·exact .inr h
        ·exact .inl (af5.1 WK σp h)
       have hTk: ∀t,t ∈ kT→σp.T t=σ1.T t:=fun t ht=>by
        rcases TP with h| h
        ·simp only[agree,af2,af5] at h
         exact V.beq_eq (h.1 t ht)
        ·rw[h]
       have hOk: ∀x,x ∈ kO→σp.O x=σ1.O x:=fun x hx=>by
        rcases TP with h| h
        ·simp only[agree,af2,af5] at h
         exact Obj.beq_eq (h.2 x hx)
        ·rw[h]
       have EB:=B8 (O':=(forget kT kO σ1 σs).O) hr.a8 fun x=>by
        simp only[forget]
        by_cases hx:kO.contains x=true
        ·rw[if_pos hx]
         exact .inl (hOk x (by simpa using hx)).symm
        ·rw[if_neg hx]
         refine .inr ⟨rfl,.inl ?_⟩
         have:=tx (fun σ:St=> (σ.O x).gen) hp
         show (σp.O x).gen<_+1
         omega
       refine⟨j3,bF,φ,⟨fun t=> ?_,EB.2⟩,hle.trans EB.1⟩
       simp only[forget]
       split
       ·rename_i ht
        rw[←hTk t (by simpa using ht)]
        exact aj.mono EB.1 (hr.tmps t)
       ·simp[aj]
      have zU: ∀p,p.Perm es→ ∃σp,runK rec it r g nx ne id tb tm tl p ⟨σ.T,cU σ.O r ⟨g,0,false,false,none⟩⟩=some σp∧Good σp:=fun p hp=>by
       obtain⟨σp,h1,h2⟩:=v7 kA p (pc hp)
       exact⟨σp,h2,Gs σp h1⟩
      obtain⟨j3,bF,φ,hr,hle⟩:=hs
      have EB:=B8 (O':=cU σ.O r ⟨g,0,false,false,none⟩) hr.a8 fun x=>by
       by_cases hx:x=r
       ·subst hx
        rw[aw]
        exact .inr ⟨rfl,.inr ⟨cE.symm,SV.symm⟩⟩
       ·rw[aW _ _ hx];exact .inl rfl
      have oV:Rel X σ.T a ⟨w,φ,cU σ.O r ⟨g,0,false,false,none⟩⟩:=⟨fun t=>aj.mono EB.1 (hr.tmps t),EB.2⟩
      obtain⟨_,cM,ob,D4,hh⟩:=hr.a8.map r _ hO SV
      have jd: (Mu.mk w φ σ.O).own (φ r).bV:=⟨r,by show (σ.O r).es.isSome=true;rw[hO];rfl,gu,cM,rfl⟩
      have gR: ¬ (Mu.mk w φ (cU σ.O r ⟨g,0,false,false,none⟩)).own (φ r).bV:=by
       rintro⟨r',h1,h2,h3,h4⟩
       by_cases hx:r'=r
       ·subst hx;simp[aw] at h1
       ·have Ee: (σ.O r').es.isSome=true:=by have:=h1;simp only[aW _ _ hx] at this;exact this
        exact hr.a8.inj r' r hx Ee (by show (σ.O r).es.isSome=true;rw[hO];rfl) h3 cM h4
      have j8: (φ r).bV<μ0.w.heap.size→μ0.own (φ r).bV:=fun bk=>ahQ fun hn=> (hle.bS _ bk hn).2 jd
      have eS: ∀r',((cU σ.O r ⟨g,0,false,false,none⟩) r').es.isSome=true→(φ r').cap≠0→(φ r').bV≠(φ r).bV:=fun r' h1 h2 h4=>by
       by_cases hx:r'=r
       ·subst hx;simp[aw] at h1
       ·have Ee: (σ.O r').es.isSome=true:=by have:=h1;simp only[aW _ _ hx] at this;exact this
        exact hr.a8.inj r' r hx Ee (by show (σ.O r).es.isSome=true;rw[hO];rfl) h2 cM h4
      have hQ: ∀a' w',DI X n μ0 rec tl Good a' w'→Exit.inBlock id (fun ex a' w'=>ex= .normal∧ ∃σe σp,jy X μ0 n σe a' w'∧rec tl σe=some (.normal,σp)∧ ∀MQ Kb,jy X μ0 n σp MQ Kb→jy X μ0 n (forget kT kO σ1 σs) MQ Kb) (.exit id) a' w':=by
       rintro a' w' ⟨σe,σp,q1,q2,q3⟩
       simp only[Go.Exit.inBlock,if_true]
       exact⟨trivial,σe,σp,q1,q2,q3⟩
      have key: ∃m,Code.roundsIn (Fr n.ro) 0 X.P (qh i0 ops y b1 i5 gV z5) (Exit.inBlock id (fun ex a' w'=>ex= .normal∧ ∃σe σp,jy X μ0 n σe a' w'∧rec tl σe=some (.normal,σp)∧ ∀MQ Kb,jy X μ0 n σp MQ Kb→jy X μ0 n (forget kT kO σ1 σs) MQ Kb)) (m+1) a w:=by
       rcases hh with⟨ents,clock,k1,hh,_⟩ | ⟨s,pos,_,hh⟩ | ⟨mo,since,lX,h1,h2,h3⟩
       ·exfalso
        cases he:ents.toList with
        | nil=>rw[he] at hh;simp[ag] at hh
        | cons x xs=>rw[he] at hh;simp[ag,aj] at hh
       ·simp at hh
       ·simp only[ahK,V.mlit.injEq,and_true] at h2
        subst h2
        subst h1
        rcases h3 with⟨rfl,rfl⟩ | ⟨bm,ents,rfl,k2,k3,k4,k5,k6⟩
        ·obtain⟨σp,hk,LR⟩:=zU [] (.refl _)
         have oU:a.eval (.tmp it)= .pointer (some ⟨(φ r).bV,0,none⟩):=by
            have:=hr.tmps it
            rw[hT] at this
            simp only[aj] at this
            obtain⟨a0,e1,_,e2⟩:=this
            obtain⟨_,rfl⟩:=e2 cE
            exact e1
         exact⟨0,Cb hQ hB h0 eA hd hg GU ⟨j3,bF,φ,oV,hle.trans EB.1⟩ (by rw[oU];exact Qq D4) hk LR 0⟩
        ·obtain⟨Z,z1,z2,z3⟩:=Gr k6
         have uz:jm Z #[]=Z:=List.filter_eq_self.2 fun z _=>afU
         refine⟨_,uD (r:=r) (g:=g) hQ hB hM h0 eA hd hg GU l0 lop ld lg cF z2 k5 _ #[] ⟨σ.T,cU σ.O r ⟨g,0,false,false,none⟩⟩ a w φ rfl j3 bF oV (hle.trans EB.1) rfl D4 gR j8 eS k4 ?_ (fun z hz=>aj.mono EB.1 (z3 z hz)) ?_⟩
         ·  rintro(⟨r',h1,h2,h3,h4⟩ | h)
            ·refine k2 (.inl ⟨r',?_,?_,h3,h4⟩)
             ·by_cases hx:r'=r
              ·subst hx;simp[aw] at h1
              ·have:=h1;simp only[aW _ _ hx] at this;exact this
             ·by_cases hx:r'=r
              ·subst hx;exact gu
              ·have:=h2;simp only[aW _ _ hx] at this;exact this
            ·exact k2 (.inr h)
         ·rw[uz,z1];exact zU
      obtain⟨m,hm⟩:=key
      exact wpIn_block (wpIn_loop_rounds (m+1) hm)
     ·simp at ah
    ·simp at ah
   ·simp at ah
  ·simp at ah
 ·simp at ah
end
end Go.AM
namespace Go.AM
open Go Go.RowKit
theorem Qu {X:Ctx} {μ:Mu} (ho:ba X μ) {D:Nat} {o:Go.Obj} (hD:μ.w.heap[D]? =some o) (h1:o.isCells=false) (h2:o.isWalk=false) {r:Nat} (hr: (μ.O r).es.isSome=true) (hc: (μ.φ r).cap≠0): (μ.φ r).bV≠D:=fun hb=>by
 obtain⟨es,bo⟩:=af8.1 hr
 rcases ho.ok r es bo with⟨_,_,_,h4⟩ | ⟨_,_,ob,h3,h4⟩
 ·rcases h4 with h4| ⟨c,T,vs,k1,_⟩
  ·exact hc h4
  ·rw[hb,hD] at k1;injection k1 with k1;subst k1;simp[Obj.isCells] at h1
 ·rw[hb,hD] at h3;injection h3 with h3;subst h3
  rcases h4 with⟨_,_,rfl,_⟩ | ⟨_,_,rfl,_⟩ | ⟨_,_,_,rfl,_⟩ <;>simp[Obj.isWalk] at h2
theorem iA {X:Ctx} {μ:Mu} {D:Nat} {o o':Go.Obj} (hD:μ.w.heap[D]? =some o) (h1:o.isCells=false) (h2:o.isWalk=false):iz X μ (μ.w.putObj D o'):=by
 refine⟨fun ad c hc=> ?_,fun b es cl hb=> ?_,by simp[World.putObj]⟩
 ·have cF:ad.block≠D:=fun e=>by
   simp only[World.cell?,e,hD] at hc
   cases o<;>simp_all[Obj.isCells]
  simp only[World.cell?,World.putObj_heap_other cF] at hc ⊢
  exact hc
 ·rw[World.putObj_heap_other (fun e=>by rw[e,hD] at hb;injection hb with hb;subst hb;simp[Obj.isWalk] at h2)]
  exact hb
theorem Dm {μ0:Mu} {w:World} {φ:Nat→Row} {O:Nat→Obj} (le:Le μ0 ⟨w,φ,O⟩) {D:Nat} {o':Go.Obj} (hf:μ0.w.heap.size≤D):Le μ0 ⟨w.putObj D o',φ,O⟩:=by
 refine⟨by have:=le.size;simpa [World.putObj] using this,fun b hb hn=> ?_,le.gen,le.row,le.os,le.output,le.tape,fun ad LI=> ?_⟩
 ·have cF:b≠D:=ae0
  exact⟨(World.putObj_heap_other cF).trans (le.bS b hb hn).1,(le.bS b hb hn).2⟩
 ·have cF:ad.block≠D:=ae0
  have:=le.frozen ad LI
  simp only[World.frozen?] at this ⊢
  show (match (w.putObj D o').heap[ad.block]? with| some (.cells _ _ (lo,hi))=>_| _=>false)=_
  rw[World.putObj_heap_other cF]
  exact this
theorem vA {X:Ctx} {w:World} {φ:Nat→Row} {O:Nat→Obj} (ho:ba X ⟨w,φ,O⟩) {D:Nat} (h2:w.heap[D]? =some (.deferred (some []))):ba X ⟨w.putObj D (.deferred none),φ,O⟩:=
 ho.ck (iA (μ:=⟨w,φ,O⟩) h2 rfl rfl) fun r h3 h4=>World.putObj_heap_other (Qu ho h2 rfl rfl h3 h4)
def Kept (μ:Mu) (W W':World):Prop:= ∀b,b<μ.w.heap.size→ ¬μ.own b→W'.heap[b]? =W.heap[b]?
def Abides (J:Nat→World→Prop):Prop:= ∀k A B,J k A→A.grownBy B none→J k B
structure AbidesF (J:Nat→(Nat→Prop)→World→Prop):Prop where
 grow: ∀k F A B,J k F A→A.grownBy B none→J k (fun b=>F b∨(A.heap.size≤b∧b<B.heap.size)) B
 less: ∀k F F' A,J k F A→(∀b,F' b→F b)→J k F' A
structure xX (X:Ctx) (μ:Mu) (gf:Nat) (lb:Array Value) (xs:List (List V)):Prop where
 enters: ∀args w,(callFunc gf args).run X.P w= .ok (.enter gf args) w
 ex: ∃sq:List (Array Value),sq.length=xs.length∧(∀ (i:Nat) x v,xs[i]? =some x→sq[i]? =some v→ag X μ x v.toList)∧
  ∀ (l:Nat) (J:Nat→(Nat→Prop)→World→Prop) (Jx:Nat→World→Prop) (W0:World),Below μ.w.heap.size μ.w W0→AbidesF J→Abides Jx→
   (∀ (k:Nat) F W1 v,sq[k]? =some v→J k F W1→YieldAt (Fr none) 0 X.P l v W1 fun e W'=> (e= .returned (.bool true)∧J (k+1) F W'∧Kept μ W1 W'∧ ∀b,F b→W'.heap[b]? =W1.heap[b]?)∨(e= .returned (.bool false)∧Jx (k+1) W'))→
   J 0 (fun _=>False) W0→CallsIn (Fr none) 0 X.P gf (#[.func (.yield l) #[] #[]]++lb) W0 fun e W'=> (∃v,e= .returned v)∧((∃F,J sq.length F W')∨ ∃k,k≤sq.length∧Jx k W')
theorem mw {X:Ctx} {μ:Mu} {W':World} (h:μ.w.grownBy W' none):iz X μ W':=by
 have hb: ∀k,k<μ.w.heap.size→W'.heap[k]? =μ.w.heap[k]? :=fun k hk=>h.block k hk afU
 refine⟨fun ad c hc=> ?_,fun b es cl hc=> ?_,h.size⟩
 ·have bk:ad.block<μ.w.heap.size:=by
   rcases ahd ad.block μ.w.heap.size with hl| hl
   ·exact hl
   ·simp[World.cell?,agX hl] at hc
  simp only[World.cell?,hb _ bk] at hc ⊢
  exact hc
 ·rw[hb _ (af1.1 hc).1];exact hc
theorem sx {X:Ctx} {μ:Mu} (ho:ba X μ) {r:Nat} (hr: (μ.O r).es.isSome=true) (hc: (μ.φ r).cap≠0): (μ.φ r).bV<μ.w.heap.size:=by
 obtain⟨es,bo⟩:=af8.1 hr
 rcases ho.ok r es bo with⟨_,_,_,h4⟩ | ⟨_,_,ob,h3,h4⟩
 ·rcases h4 with h4| ⟨c,T,vs,k1,_⟩
  ·exact absurd h4 hc
  ·exact(af1.1 k1).1
 ·exact(af1.1 h3).1
structure dd (X:Ctx) (μb:Mu) (T:Nat→V) (a:Go.Act) (l:Nat) (Dq:Option Nat) (L:Loop) (O:Nat→Obj) (φ:Nat→Row) (W:World):Prop where
 rel:Rel X T a ⟨W,φ,O⟩
 le:Le μb ⟨W,φ,O⟩
 q9:W.heap[l]? =some (.loop L)
 ML: ∀D,Dq=some D→W.heap[D]? =some (.deferred (some []))
section
variable {X:Ctx} {μb:Mu} {T:Nat→V} {a:Go.Act} {l:Nat} {Dq:Option Nat} {L L':Loop} {O:Nat→Obj} {φ:Nat→Row} {W W':World}
theorem dd.grow (h:dd X μb T a l Dq L O φ W) (hg:W.grownBy W' none):dd X μb T a l Dq L O φ W':=by
 have st:iz X ⟨W,φ,O⟩ W':=mw (μ:=⟨W,φ,O⟩) hg
 have hb: ∀k,k<W.heap.size→W'.heap[k]? =W.heap[k]? :=fun k hk=>hg.block k hk afU
 refine⟨⟨fun t=>aj.ck st (h.rel.tmps t),h.rel.a8.ck st fun r h1 h2=>hb _ (sx h.rel.a8 h1 h2)⟩,?_,(hb _ (af1.1 h.q9).1).trans h.q9,fun D hD=> (hb _ (af1.1 (h.ML D hD)).1).trans (h.ML D hD)⟩
 have le:=h.le
 have bF:μb.w.heap.size≤W.heap.size:=le.size
 exact⟨agm bF hg.size,fun b kI hn=> ⟨(hb b ae0).trans (le.bS b kI hn).1,(le.bS b kI hn).2⟩,le.gen,le.row,hg.os.trans le.os,hg.output.trans le.output,hg.tape.trans le.tape,fun ad LI=>by
  have:=le.frozen ad LI
  rw[←this]
  show W'.frozen? ad=W.frozen? ad
  simp only[World.frozen?,hb ad.block ae0]⟩
theorem dd.put (h:dd X μb T a l Dq L O φ W) (hl:μb.w.heap.size≤l) (hD: ∀D,Dq=some D→D≠l):dd X μb T a l Dq L' O φ (W.putObj l (.loop L')):=by
 have st:iz X ⟨W,φ,O⟩ (W.putObj l (.loop L')):=iA (μ:=⟨W,φ,O⟩) h.q9 rfl rfl
 refine⟨⟨fun t=>aj.ck st (h.rel.tmps t),h.rel.a8.ck st fun r h3 h4=>World.putObj_heap_other (Qu h.rel.a8 h.q9 rfl rfl h3 h4)⟩,Dm h.le hl,World.putObj_heap_same (af1.1 h.q9).1,fun D hd=> (World.putObj_heap_other (hD D hd)).trans (h.ML D hd)⟩
end
def aP.conv:aP→Go.Exit
 | .normal=> .normal
 | .exit id=> .exit id
 | .ret=> .ret
def zk (X:Ctx) (n:Fp) (c:Code) (rec:aS→St→Option (aP×St)) (tc:aS):Prop:=
 ∀ (σ σ':St) (e:aP) (μ0:Mu) (a:Go.Act) (w:World),rec tc σ=some (e,σ')→jy X μ0 n σ a w→c.wpIn (Fr n.ro) 0 X.P (fun ex a' w'=>ex=e.conv∧jy X μ0 n σ' a' w') a w
theorem Dd {X:Ctx} {μ:Mu}: ∀ {ps:List Nat} {x:List V} {vs:List Value} {T:Nat→V} {tmps:Array Value},ag X μ x vs→(∀t,aj X μ (T t) (tmps.getD t undef))→(∀p ∈ ps,p<tmps.size)→
   (∀t,aj X μ (jr T ps x t) (((ps.zip vs).foldl (fun t p=>t.setIfInBounds p.1 p.2) tmps).getD t undef))∧((ps.zip vs).foldl (fun t p=>t.setIfInBounds p.1 p.2) tmps).size=tmps.size
 | [],x,vs,T,tmps,_,h,_=> ⟨by simpa [jr] using h,rfl⟩
 | p::ps,[],[],T,tmps,_,h,_=> ⟨by simpa [jr] using h,rfl⟩
 | p::ps,[],_::_,T,tmps,hx,_,_=>by simp[ag] at hx
 | p::ps,_::_,[],T,tmps,hx,_,_=>by simp[ag] at hx
 | p::ps,x::xs,v::vs,T,tmps,hx,h,hp=>by
   simp only[ag] at hx
   have bk:=hp p afU
   obtain⟨k1,k2⟩:=Dd (ps:=ps) (T:=cU T p x) (tmps:=tmps.setIfInBounds p v) hx.2 (fun t=>by
    unfold cU
    split
    ·rename_i e;subst e
     have: (tmps.setIfInBounds t v).getD t undef=v:=by simp[bk]
     rw[this];exact hx.1
    ·rename_i cF
     have: (tmps.setIfInBounds p v).getD t undef=tmps.getD t undef:=by
      simp[agT (fun e=>cF e.symm)]
     rw[this];exact h t) (fun q hq=>by simpa using hp q (by simp[hq]))
   exact⟨k1,by simpa using k2⟩
theorem BR {P:Program} {w:World} (ro:Option Nat) (h: ∀l,ro=some l→ ∃L,w.heap[l]? =some (.loop L)) (fn:FuncId) (tmps:Array Value) (ps:Array Tmp) (assign body:Code):
   ∃ (l:Nat) (Dq:Option Nat) (dD:Nat) (W1:World),(Instr.enterLoop fn tmps ps assign body ro).run P w= .ok (l,Dq.toList.map fun D=> {target:= .collected D,args:= #[]}) W1∧w.grownBy W1 none∧w.heap.size≤l∧
    W1.heap[l]? =some (.loop {state:= .ready,pending:=none,fn,tmps,params:=ps,assign,body,defers:=dD})∧ ∀D,Dq=some D→w.heap.size≤D∧D≠l∧W1.heap[D]? =some (.deferred (some [])):=by
 cases ro with
 | none=>
   have bF: (w.alloc (.deferred (some []))).heap.size=w.heap.size+1:=World.size_alloc _ _
   refine⟨w.heap.size+1,some w.heap.size,w.heap.size,_,run_enterLoop_outer fn tmps ps assign body,?_,ae0,?_,?_⟩
   ·have b1:Below w.heap.size w ((w.alloc (.deferred (some []))).alloc (.loop {state:= .ready,pending:=none,fn,tmps,params:=ps,assign,body,defers:=w.heap.size})):=((Below.refl _ w).alloc (af6 _) _).alloc afU _
    exact⟨b1.os,b1.tape,b1.output,b1.size,fun k hk _=>b1.block k hk⟩
   ·have:=World.alloc_heap_new (w.alloc (.deferred (some []))) (.loop {state:= .ready,pending:=none,fn,tmps,params:=ps,assign,body,defers:=w.heap.size})
    rwa [bF] at this
   ·rintro D hD
    injection hD with hD;subst hD
    exact⟨af6 _,ae0,(Below.heap_alloc _ _ _ (by rw[bF];omega)).trans (World.alloc_heap_new w _)⟩
 | some l0=>
   obtain⟨L,hL⟩:=h l0 rfl
   refine⟨w.heap.size,none,L.defers,_,run_enterLoop_inner hL fn tmps ps assign body,?_,af6 _,World.alloc_heap_new w _,afU⟩
   have b1:Below w.heap.size w (w.alloc (.loop {state:= .ready,pending:=none,fn,tmps,params:=ps,assign,body,defers:=L.defers})):=(Below.refl _ w).alloc (af6 _) _
   exact⟨b1.os,b1.tape,b1.output,b1.size,fun k hk _=>b1.block k hk⟩
theorem vy {X:Ctx} {μ0:Mu} {n:Fp} {T:Nat→V} {a:Go.Act} {w W:World} {φ φ':Nat→Row} {O0 O:Nat→Obj} {l:Nat} {Dq:Option Nat} {L:Loop} (j3:Marks n w a.defers) (bF:a.tmps.size=n.tm) (ho:ba X ⟨w,φ,O0⟩) (hle:Le μ0 ⟨w,φ,O0⟩)
  (h:dd X ⟨w,φ,O0⟩ T a l Dq L O φ' W) (hD: ∀D,Dq=some D→w.heap.size≤D):jy X μ0 n ⟨T,O⟩ {a with defers:=(Dq.toList.map fun D=> {target:= .collected D,args:= #[]})++a.defers} W:=by
 refine⟨?_,bF,φ',⟨h.rel.tmps,h.rel.a8⟩,hle.trans h.le⟩
 obtain⟨h0,Ds,h1,h2,h3⟩:=j3.le ho h.le
 refine⟨h0,Dq.toList++Ds,by simp[h1],?_,fun D hd=> ?_⟩
 ·cases Dq with
  | none=>simpa using h2
  | some D=>
    simp only[Option.toList_some,ags,agH,ahJ]
    refine⟨fun hm=> ?_,h2⟩
    obtain⟨_,Ds',k1,_,k3⟩:=j3
    have:Ds=Ds':=by
      rw[h1] at k1
      have rf:Function.Injective (fun D:Nat=> ({target:= .collected D,args:= #[]}:Deferred)):=fun x y e=>by injection e with e;injection e
      exact List.map_inj_right (fun x y e=>rf e) |>.1 k1
    subst this
    have:=(af1.1 (k3 D hm).2).1
    have:=hD D rfl
    omega
 ·rcases agd.1 hd with hd| hd
  · cases Dq with
    | none=>simp at hd
    | some D'=>
      simp at hd;subst hd
      exact⟨agm j3.1.1 (hD _ rfl),h.ML _ rfl⟩
  ·exact h3 D hd
theorem Gt {X:Ctx} {n:Fp} {g:Operand} {ps:Array Tmp} {assign body:Code} {rec:aS→St→Option (aP×St)} {ta tb:aS} (hA: ∀l,zk X ⟨n.tm,0,some l⟩ assign rec ta) (hB: ∀l,zk X ⟨n.tm,0,some l⟩ body rec tb)
  {μ0:Mu} {σ σ':St} {e:aP} {a:Go.Act} {w:World} (hs:jy X μ0 n σ a w) (CC: ∀p ∈ ps.toList,p<n.tm) {gf:Nat} {lb:Array Value} {xs:List (List V)} (hg:a.eval g= .func (.func gf) #[] lb)
  (hI: ∀φ,Rel X σ.T a ⟨w,φ,σ.O⟩→xX X ⟨w,φ,σ.O⟩ gf lb xs) (hlen: ∀x ∈ xs,x.length=ps.size) (ah:tp rec ps.toList ta tb σ.T xs σ.O=some (e,σ')):
  (Code.rangeFunc g ps assign body).wpIn (Fr n.ro) 0 X.P (fun ex a' w'=>ex=e.conv∧jy X μ0 n σ' a' w') a w:=by
 obtain⟨j3,bF,φ,hr,hle⟩:=hs
 obtain⟨enters,sq,BN,zp,pM⟩:=hI φ hr
 refine wpIn_rangeFunc fun fn mc=> ?_
 obtain⟨l,Dq,dD,W1,V6,eK,hl,PI,PJ⟩:=BR (P:=X.P) n.ro j3.1.2 fn a.tmps ps assign body
 obtain⟨cY,gh⟩: ∃cY:LoopState→Option Code→Loop,cY=fun st pe=> {state:=st,pending:=pe,fn,tmps:=a.tmps,params:=ps,assign,body,defers:=dD}:=⟨_,rfl⟩
 have cF: ∀D,Dq=some D→D≠l:=fun D hD=> (PJ D hD).2.1
 have SP:dd X ⟨w,φ,σ.O⟩ σ.T a l Dq (cY .ready none) σ.O φ W1:=by
  have st:iz X ⟨w,φ,σ.O⟩ W1:=mw (μ:=⟨w,φ,σ.O⟩) eK
  have hb: ∀k,k<w.heap.size→W1.heap[k]? =w.heap[k]? :=fun k hk=>eK.block k hk afU
  refine⟨⟨fun t=>aj.ck st (hr.tmps t),hr.a8.ck st fun r h1 h2=>hb _ (sx hr.a8 h1 h2)⟩,?_,by rw[gh];exact PI,fun D hD=> (PJ D hD).2.2⟩
  exact⟨eK.size,fun b kI hn=> ⟨hb b kI,hn⟩,fun _=>af6 _,fun _ _=> ⟨rfl,rfl⟩,eK.os,eK.output,eK.tape,fun ad LI=>by simp only[World.frozen?,hb ad.block LI]⟩
 refine⟨l,_,W1,{target:= .fn (.func gf) lb,args:= #[.func (.yield l) #[] #[]]},W1,gf,#[.func (.yield l) #[] #[]]++lb,W1,V6,?_,fun _ _=>trivial,?_,fun h=>by simp[Fr,Fence.wide] at h,?_⟩
 ·simp only[resolve,hg]
  simp[go_sem]
 ·simp[invoke,go_sem,enters]
 have key:=pM l (fun k F W=> ∃O φ',dd X ⟨w,φ,σ.O⟩ σ.T a l Dq (cY .ready none) O φ' W∧tp rec ps.toList ta tb σ.T (xs.drop k) O=some (e,σ')∧ ∀b,F b→b<W.heap.size∧ ¬Mu.own ⟨W,φ',O⟩ b∧b≠l)
  (fun k W=> ∃O φ' c,dd X ⟨w,φ,σ.O⟩ σ.T a l Dq (cY .done (some c)) O φ' W∧σ'=⟨σ.T,O⟩∧(e= .ret∧c= .ret∨ ∃id,e= .exit id∧c= .exit id)) W1
  ⟨eK.os,eK.tape,eK.output,eK.size,fun k hk=>eK.block k hk afU⟩
  ⟨fun  k F A B ⟨O,φ',h1,h2,h3⟩ hg=> ⟨O,φ',h1.grow hg,h2,fun b hb=>by
    rcases hb with hb| ⟨xO,pF⟩
    ·exact⟨af9 (h3 b hb).1 hg.size,(h3 b hb).2⟩
    ·  refine⟨pF,?_,fun jM=> ?_⟩
       · rintro⟨r,q1,_,q3,q4⟩
         have:=sx (μ:=⟨A,φ',O⟩) h1.rel.a8 q1 q3
         have hq: (φ' r).bV=b:=q4
         have: (φ' r).bV<A.heap.size:=this
         omega
       · subst jM
         have:=(af1.1 h1.q9).1
         omega⟩,fun k F F' A ⟨O,φ',h1,h2,h3⟩ hF=> ⟨O,φ',h1,h2,fun b hb=>h3 b (hF b hb)⟩⟩ (fun k A B ⟨O,φ',c,h1,h2⟩ hg=> ⟨O,φ',c,h1.grow hg,h2⟩) ?round ⟨σ.O,φ,SP,by simpa using ah,fun b hb=>hb.elim⟩
 case round=>
  rintro k F W v hv ⟨O,φ',j8,xq,hF⟩
  have hk:k<xs.length:=by rw[←BN];exact(af0.1 hv).1
  have hx:xs[k]? =some xs[k]:=af3 hk
  rw[agq hk] at xq
  generalize xs[k]=x at hx xq
  have re:=zp k x v hx hv
  have Q7:=hlen x (List.mem_of_getElem? hx)
  simp only[tp] at xq
  split at xq
  rotate_left
  ·simp at xq
  rename_i σ1 h1
  have aax:=j8.le
  have SX:ag X ⟨W,φ',O⟩ x v.toList:=ag.mono aax re
  have lE:v.size=ps.size:=by
    have:=re.length
    rw[←Q7,this];simp
  have Ha:=Dd (ps:=ps.toList) (T:=σ.T) (tmps:=a.tmps) SX j8.rel.tmps (by rw[bF];exact CC)
  have FJ: ((ps.zip v).foldl (fun tmps (p:Tmp×Value)=>tmps.setIfInBounds p.1 p.2) a.tmps)=(ps.toList.zip v.toList).foldl (fun t p=>t.setIfInBounds p.1 p.2) a.tmps:=by
    rw[←Array.foldl_toList,Array.toList_zip]
  have hy:=run_yield (P:=X.P) (args:=v) j8.q9 (by rw[gh];exact lE)
  rw[gh] at hy
  refine⟨fn,_,assign,body,hy,roundIn_of_wpIn mc ?_⟩
  have j4:jy X ⟨W,φ',O⟩ ⟨n.tm,0,some l⟩ ⟨jr σ.T ps.toList x,O⟩ {tmps:=(ps.zip v).foldl (fun tmps (p:Tmp×Value)=>tmps.setIfInBounds p.1 p.2) a.tmps,defers:=[]} W:=by
    refine⟨Marks.nil (agI _) (fun l' xH=>by injection xH with xH;subst xH;exact⟨_,j8.q9⟩),by show Array.size _=n.tm;rw[FJ,Ha.2];exact bF,φ',⟨fun t=> ?_,j8.rel.a8⟩,Le.refl _⟩
    show aj X _ _ (Array.getD _ t undef)
    rw[FJ];exact Ha.1 t
  refine wpIn_mono (hA l _ _ _ _ _ _ h1 j4) fun ex a1 w1 hq=> ?_
  obtain⟨rfl,Fb,xp,φ1,ve,zl⟩:=hq
  have FK: ∀ {b:Nat} {o:Go.Obj},W.heap[b]? =some o→o.isCells=false→o.isWalk=false→w1.heap[b]? =some o:=fun {b o} hb i1 i2=>
    (zl.bS b (af1.1 hb).1 (dh j8.rel.a8 hb i1 i2)).1.trans hb
  have De:dd X ⟨w,φ,σ.O⟩ σ.T a l Dq (cY .ready none) σ1.O φ1 w1:=⟨⟨fun t=>aj.mono zl (j8.rel.tmps t),ve.a8⟩,j8.le.trans zl,FK j8.q9 rfl rfl,fun D hD=>FK (j8.ML D hD) rfl rfl⟩
  show ∃w₂,_∧_
  refine⟨_,run_beginRound De.q9 (by rw[gh]),?_⟩
  have mR:dd X ⟨w,φ,σ.O⟩ σ.T a l Dq (cY .busy none) σ1.O φ1 (w1.putObj l (.loop (cY .busy none))):=De.put hl cF
  have PK: ({cY .ready none with state:= .busy}:Loop)=cY .busy none:=by rw[gh]
  rw[PK]
  have st2:iz X ⟨w1,φ1,σ1.O⟩ (w1.putObj l (.loop (cY .busy none))):=iA (μ:=⟨w1,φ1,σ1.O⟩) De.q9 rfl rfl
  have JR:jy X ⟨w1.putObj l (.loop (cY .busy none)),φ1,σ1.O⟩ ⟨n.tm,0,some l⟩ σ1 a1 (w1.putObj l (.loop (cY .busy none))):=by
    refine⟨?_,xp,φ1,⟨fun t=>aj.ck st2 (ve.tmps t),mR.rel.a8⟩,Le.refl _⟩
    obtain⟨_,Ds,m1,m2,m3⟩:=Fb
    refine⟨⟨agI _,fun l' xH=>by injection xH with xH;subst xH;exact⟨_,mR.q9⟩⟩,Ds,m1,m2,fun D hD=> ⟨agI _,?_⟩⟩
    rw[World.putObj_heap_other (fun e=>by have:=(m3 D hD).2;rw[e,De.q9] at this;simp at this)]
    exact(m3 D hD).2
  split at xq
  ·
    rename_i σ2 h2
    refine wpIn_mono (hB l _ _ _ _ _ _ h2 JR) fun ex a3 w3 hq=> ?_
    obtain⟨rfl,_,_,φ3,SE,sy⟩:=hq
    have nz: ∀ {b:Nat} {o:Go.Obj},(w1.putObj l (.loop (cY .busy none))).heap[b]? =some o→o.isCells=false→o.isWalk=false→w3.heap[b]? =some o:=fun {b o} hb i1 i2=>
       (sy.bS b (af1.1 hb).1 (dh mR.rel.a8 hb i1 i2)).1.trans hb
    have Df:dd X ⟨w,φ,σ.O⟩ σ.T a l Dq (cY .busy none) σ2.O φ3 w3:=⟨⟨fun t=>aj.mono sy (mR.rel.tmps t),SE.a8⟩,mR.le.trans sy,nz mR.q9 rfl rfl,fun D hD=>nz (mR.ML D hD) rfl rfl⟩
    have FL:dd X ⟨w,φ,σ.O⟩ σ.T a l Dq (cY .ready none) σ2.O φ3 (w3.putObj l (.loop (cY .ready none))):=Df.put hl cF
    have e4: ({cY .busy none with state:=if (none:Option Code).isNone then .ready else .done,pending:=none}:Loop)=cY .ready none:=by rw[gh];rfl
    have Re: ∀b,F b→(w3.putObj l (.loop (cY .ready none))).heap[b]? =W.heap[b]? ∧b<w3.heap.size∧ ¬Mu.own ⟨w3,φ3,σ2.O⟩ b:=fun b hb=>by
       obtain⟨f1,f2,f3⟩:=hF b hb
       have g1:=zl.bS b f1 f2
       have s1:W.heap.size≤w1.heap.size:=zl.size
       have s2: (w1.putObj l (.loop (cY .busy none))).heap.size≤w3.heap.size:=sy.size
       have s3: (w1.putObj l (.loop (cY .busy none))).heap.size=w1.heap.size:=World.putObj_size ..
       have g2:=sy.bS b (by show b< (w1.putObj l (.loop (cY .busy none))).heap.size;omega) g1.2
       refine⟨?_,ae0,g2.2⟩
       rw[World.putObj_heap_other f3,show w3.heap[b]? =(w1.putObj l (.loop (cY .busy none))).heap[b]? from g2.1,World.putObj_heap_other f3]
       exact g1.1
    refine⟨_,_,run_endRound none Df.q9,.inl ⟨rfl,⟨σ2.O,φ3,by rw[e4];exact FL,xq,fun b hb=> ?_⟩,fun b hb hn=> ?_,fun b hb=> ?_⟩⟩
    ·  rw[e4]
       refine⟨?_,(Re b hb).2.2,(hF b hb).2.2⟩
       rw[show (w3.putObj l (.loop (cY .ready none))).heap.size=w3.heap.size from World.putObj_size ..]
       exact(Re b hb).2.1
    ·  rw[e4]
       exact(FL.le.bS b hb hn).1.trans (j8.le.bS b hb hn).1.symm
    ·rw[e4];exact(Re b hb).1
  ·
    rename_i e2 σ2 hnn h2
    simp only[afY,af4] at xq
    obtain⟨rfl,rfl⟩:=xq
    refine wpIn_mono (hB l _ _ _ _ _ _ h2 JR) fun ex a3 w3 hq=> ?_
    obtain⟨rfl,_,_,φ3,SE,sy⟩:=hq
    have nz: ∀ {b:Nat} {o:Go.Obj},(w1.putObj l (.loop (cY .busy none))).heap[b]? =some o→o.isCells=false→o.isWalk=false→w3.heap[b]? =some o:=fun {b o} hb i1 i2=>
       (sy.bS b (af1.1 hb).1 (dh mR.rel.a8 hb i1 i2)).1.trans hb
    have Df:dd X ⟨w,φ,σ.O⟩ σ.T a l Dq (cY .busy none) σ2.O φ3 w3:=⟨⟨fun t=>aj.mono sy (mR.rel.tmps t),SE.a8⟩,mR.le.trans sy,nz mR.q9 rfl rfl,fun D hD=>nz (mR.ML D hD) rfl rfl⟩
    have FL: ∀c,dd X ⟨w,φ,σ.O⟩ σ.T a l Dq (cY .done (some c)) σ2.O φ3 (w3.putObj l (.loop (cY .done (some c)))):=fun c=>Df.put hl cF
    have e4: ∀c,({cY .busy none with state:=if (some c:Option Code).isNone then .ready else .done,pending:=some c}:Loop)=cY .done (some c):=fun c=>by rw[gh];rfl
    cases e2 with
    | normal=>exact absurd rfl (hnn ·)
    | exit id=>exact⟨_,_,run_endRound (some (.exit id)) Df.q9,.inr ⟨rfl,σ2.O,φ3,_,by rw[e4];exact FL _,rfl,.inr ⟨id,rfl,rfl⟩⟩⟩
    | ret=>exact⟨_,_,run_endRound (some .ret) Df.q9,.inr ⟨rfl,σ2.O,φ3,_,by rw[e4];exact FL _,rfl,.inl ⟨rfl,rfl⟩⟩⟩
  ·simp at xq
 refine CallsIn.mono (show CallsIn (Fr n.ro) (0 - 1) X.P gf _ W1 _ from key) ?_
 rintro ending W' ⟨⟨v,rfl⟩,(⟨_,O,φ',j8,xq,_⟩ | ⟨k,_,O,φ',c,j8,hσ,hc⟩)⟩
 ·rw[ahE ae0] at xq
  simp only[tp,afY,af4] at xq
  obtain⟨rfl,rfl⟩:=xq
  exact⟨none,_,by have:=run_endLoop (P:=X.P) j8.q9 (by rw[gh];simp);rw[this,gh],rfl,vy j3 bF hr.a8 hle (j8.put hl cF) fun D hD=> (PJ D hD).1⟩
 ·subst hσ
  refine⟨some c,_,by have:=run_endLoop (P:=X.P) j8.q9 (by rw[gh];simp);rw[this,gh],?_⟩
  have j4:=vy j3 bF hr.a8 hle (j8.put (L':=cY .exhausted (some c)) hl cF) fun D hD=> (PJ D hD).1
  rcases hc with⟨rfl,rfl⟩ | ⟨id,rfl,rfl⟩
  · refine wpIn_ret ⟨rfl,?_⟩
    rw[gh] at j4;exact j4
  · refine wpIn_exit ⟨rfl,?_⟩
    rw[gh] at j4;exact j4
end Go.AM
namespace Go.AM
open Go Go.RowKit
def Ends (X:Ctx) (μ0:Mu) (n:Fp) (e:aP) (σ:St):Go.Exit→Go.Act→World→Prop:=fun ex a w=>ex=e.conv∧jy X μ0 n σ a w
section
variable {X:Ctx} {E:Env} {μ0:Mu} {n:Fp}
theorem zX {σ:St} {a:Go.Act} {w:World} (hs:jy X μ0 n σ a w) {c:Operand} {c':aT} (hc:dc X c=some c') {b:Bool} (hb:bu σ c'= .bool b):a.eval c= .bool b:=by
 obtain⟨_,_,φ,hr,_⟩:=hs
 have:=aQ hr hc σ.O
 have e:bu ⟨σ.T,σ.O⟩ c'=bu σ c':=rfl
 rw[e,hb] at this
 simpa [aj] using this
theorem mI {h:Hints} {i:Nat} {ops:Array Oper} {d:Bool} {b:Code} {ta tb:aS}:FZ h (.region i ops d) b ta tb= .seq ta tb:=by
 simp[FZ,Dn]
theorem Me {h:Hints} {c:Operand} {x y b:Code} {ta tb:aS}:FZ h (.cond c x y) b ta tb= .seq ta tb:=by
 simp[FZ,Dn]
theorem IK {h:Hints} {x y:Code} {ax ay:aS}:FZ h x y ax ay= .seq ax ay∨ ∃iR Mf dR i0 ops cc cx cy b1 i5 gV z5 id iS Qv dS rest it nx ne kT kO o1 o5 lW b1' aD tc bs tz tR tS zx,
  x= .seq (.region iR Mf dR) (.block id (.loop (.seq (.region i0 ops false) (.seq (.cond cc cx cy) (.block b1 (.seq (.region i5 gV false) z5))))))∧y= .seq (.region iS Qv dS) rest∧(ops[0]? =some o1∧o1.op= .next (.tmp it) false∧o1.dst=some nx∧o1.guard=none∧nx<h.n)∧
  (gV[0]? =some o5∧o5.op= .entry (.tmp it)∧o5.dst=some ne∧o5.guard=none∧ne<h.n)∧
  ax= .seq tR (.block lW (.loop (.seq (.region aD) (.seq tc (.block b1' (.seq (.region bs) tz))))))∧ay= .seq tS zx∧FZ h x y ax ay= .seq tR (.seq (.keys it nx ne id kT kO (.seq (.region (aD.drop 1)) tc) (.block b1' (.seq (.region (bs.drop 1)) tz)) tS) zx):=by
 unfold FZ
 split
 ·rename_i it nx ne id kT kO tR lW aD tc b1' bs tz tS zx hk hr
  right
  unfold Dn at hk
  split at hk
  ·rename_i iR Mf dR id2 i0 ops cc cx cy b1 i5 gV z5
   split at hk
   ·rename_i o1 o5 ho ho5
    split at hk
    ·rename_i it2 nx2 it3 ne2 k1 k2 k3 k4 k5 k6
     split at hk
     ·split at hk
      ·rename_i hn
       simp only[afY,af4] at hk
       obtain⟨rfl,rfl,rfl,rfl,rfl,rfl⟩:=hk
       obtain⟨V1,hn2,rfl⟩:=hn
       unfold FY at hr
       split at hr
       ·rename_i iS Qv dS rest
        exact⟨iR,Mf,dR,i0,ops,cc,cx,cy,b1,i5,gV,z5,id2,iS,Qv,dS,rest,it3,nx2,ne2,_,_,o1,o5,lW,b1',aD,tc,bs,tz,tR,tS,zx,rfl,rfl,⟨ho,k1,k2,k3,V1⟩,⟨ho5,k4,k5,k6,hn2⟩,rfl,rfl,rfl⟩
       ·simp at hr
      ·simp at hk
     ·simp at hk
    ·simp at hk
   ·simp at hk
  ·simp at hk
 ·exact .inl rfl
def JX (X:Ctx) (E:Env):Prop:= ∀g F caps xs,E.iter g caps=some xs→X.fo F=some g→ ∀ (μ:Mu) (lb:Array Value),ag X μ caps lb.toList→ba X μ→xX X μ F lb xs
theorem lI (     hm:X.P.follows .mixedOrders=true) (oU:JX X E) {h:Hints}: ∀ (fuel:Nat),(∀m,m<fuel→qe X E (dm E (exec E m)))→ ∀ {n:Fp} (hn:h.n=n.1) {μ0:Mu} (c:Code) (ac:aS) (σ σ':St) (e:aP) (a:Go.Act) (w:World),
   ct X h c=some ac→exec E fuel ac σ=some (e,σ')→jy X μ0 n σ a w→c.wpIn (Fr n.ro) 0 X.P (Ends X μ0 n e σ') a w:=by
 intro fuel
 induction fuel using Nat.strongRecOn with
 | _ Gu XR=>
   intro hH n hn μ0 c
   rcases agr Gu with h0| Gv
   ·subst h0;intro ac σ σ' e a w _ ah;simp[exec] at ah
   obtain⟨fuel,rfl⟩: ∃f,Gu=f+1:=⟨Gu - 1,ae0⟩
   have MR: ∀m,m<fuel→qe X E (dm E (exec E m)):=fun m D3=>hH m ae0
   have ih:=XR fuel ae0
   have H:=hH fuel ae0
   cases c with
   | skip=>
     intro ac σ σ' e a w aJ ah hs
     simp[ct] at aJ;subst aJ
     simp[exec,aC] at ah
     obtain⟨rfl,rfl⟩:=ah
     exact wpIn_skip ⟨rfl,hs⟩
   | region id ops d=>
     intro ac σ σ' e a w aJ ah hs
     cases d with
     | false=>
       simp only[ct,afZ] at aJ
       obtain⟨aD,h1,rfl⟩:=aJ
       simp only[exec,aC,afZ,af4] at ah
       obtain⟨σ1,h2,rfl,rfl⟩:=ah
       refine wpIn_region ?_
       rw[aha]
       exact ft H hn h1 ops.size 0 ae0 hs (by simpa using h2) fun a' w' ji=> ⟨rfl,ji⟩
     | true=>
       simp only[ct,afZ] at aJ
       obtain⟨aD,h1,rfl⟩:=aJ
       simp only[exec,aC,afZ,af4] at ah
       obtain⟨σ1,h2,rfl,rfl⟩:=ah
       exact Gq H hm hn h1 hs h2 fun a' w' ji=> ⟨rfl,ji⟩
   | seq x y=>
     intro ac σ σ' e a w aJ ah hs
     simp only[ct] at aJ
     split at aJ
     · rename_i ax ay h1 h2
       injection aJ with aJ;subst aJ
       rcases IK (h:=h) (x:=x) (y:=y) (ax:=ax) (ay:=ay) with hk| hk
       rotate_left
       · obtain⟨iR,Mf,dR,i0,ops,cc,cx,cy,b1,i5,gV,z5,id,iS,Qv,dS,rest,it,nx,ne,kT,kO,o1,o5,lW,b1',aD,tc,bs,tz,tR,tS,zx,rfl,rfl,⟨ho,k1,k2,k3,GU⟩,⟨ho5,k4,k5,k6,cF⟩,rfl,rfl,hk⟩:=hk
         rw[hk] at ah
         simp only[ct] at h1 h2
         split at h1
         rotate_left
         ·simp at h1
         rename_i t1 t2 g1 g2
         rw[mI] at h1
         simp only[afY,aS.seq.injEq] at h1
         obtain⟨rfl,rfl⟩:=h1
         split at h2
         rotate_left
         ·simp at h2
         rename_i t3 t4 g3 g4
         rw[mI] at h2
         simp only[afY,aS.seq.injEq] at h2
         obtain⟨rfl,rfl⟩:=h2
         rw[afZ] at g2
         obtain⟨q1,g2,e2⟩:=g2
         rw[afZ] at g2
         obtain⟨q2,g2,e1⟩:=g2
         subst e1
         simp only[aS.block.injEq,aS.loop.injEq] at e2
         obtain⟨rfl,e2⟩:=e2
         subst e2
         split at g2
         rotate_left
         ·simp at g2
         rename_i t5 t6 g5 g6
         rw[mI] at g2
         simp only[afY,aS.seq.injEq] at g2
         obtain⟨e3,e4⟩:=g2
         subst e3 e4
         rw[afZ] at g5
         obtain⟨l,g5,e4⟩:=g5
         simp only[aS.region.injEq] at e4
         subst e4
         split at g6
         rotate_left
         ·simp at g6
         rename_i t7 t8 g7 g8
         rw[Me] at g6
         simp only[afY,aS.seq.injEq] at g6
         obtain⟨e5,e6⟩:=g6
         subst e5 e6
         rw[afZ] at g8
         obtain⟨q3,g8,e7⟩:=g8
         simp only[aS.block.injEq] at e7
         obtain⟨rfl,e7⟩:=e7
         subst e7
         split at g8
         rotate_left
         ·simp at g8
         rename_i t9 t10 g9 g10
         rw[mI] at g8
         simp only[afY,aS.seq.injEq] at g8
         obtain⟨e8,e9⟩:=g8
         subst e8 e9
         rw[afZ] at g9
         obtain⟨l5,g9,e10⟩:=g9
         simp only[aS.region.injEq] at e10
         subst e10
         simp only[exec,aC] at ah
         refine wpIn_seq (wpIn_seq ?_)
         split at ah
         rotate_left
         ·rename_i r zz
          refine wpIn_mono (ih MR hn (.region iR Mf dR) _ σ σ' e a w (by simpa only[ct] using g1) ah hs) fun ex a' w' hq=> ?_
          obtain⟨rfl,ji⟩:=hq
          cases e with
          | normal=>exact absurd ah (zz σ')
          | exit id=>exact⟨rfl,ji⟩
          | ret=>exact⟨rfl,ji⟩
         rename_i σ1 hx
         refine wpIn_mono (ih MR hn (.region iR Mf dR) _ σ σ1 .normal a w (by simpa only[ct] using g1) hx hs) fun ex a' w' hq=> ?_
         obtain⟨rfl,iY⟩:=hq
         rcases agr fuel with hf| hf
         ·subst hf;simp[exec] at ah
         obtain⟨f1,rfl⟩: ∃f,fuel=f+1:=⟨fuel - 1,ae0⟩
         simp only[exec,aC] at ah
         rcases agr f1 with hf1| hf1
         ·subst hf1;simp[exec] at ah
         obtain⟨f2,rfl⟩: ∃f,f1=f+1:=⟨f1 - 1,ae0⟩
         have hB:DH X n ops (.cond cc cx cy) (exec E f2) (.seq (.region ((l.map fun o=> {o with pre:=[]}).drop 1)) t7):=by
          intro s s' e' μ1 a1 w1 Q K hb j4 hQ hK
          rcases agr f2 with K9| K9
          ·subst K9;simp[exec] at hb
          obtain⟨f3,rfl⟩: ∃f,f2=f+1:=⟨f2 - 1,ae0⟩
          simp only[exec,aC] at hb
          rcases agr f3 with hf3| hf3
          ·subst hf3;simp[exec] at hb
          obtain⟨f4,rfl⟩: ∃f,f3=f+1:=⟨f3 - 1,ae0⟩
          have bF:0 <ops.size:=(af1.1 ho).1
          split at hb
          rotate_left
          ·rename_i r zz
           simp only[exec,aC,afZ,af4] at hb
           obtain⟨s1,h3,rfl,rfl⟩:=hb
           exact absurd (by simp only[exec,aC,h3,agc]) (zz s1)
          rename_i s1 Qw
          simp only[exec,aC,afZ,af4,true_and] at Qw
          obtain⟨s2,h3,rfl⟩:=Qw
          refine ft (hH f4 ae0) hn g5 (ops.size - 1) 1 ae0 j4 (by rw[List.map_drop];exact h3) fun a2 w2 nZ=>hK _ _ ?_
          refine wpIn_mono (XR (f4+1) ae0 (fun m D3=>hH m ae0) hn (.cond cc cx cy) t7 s2 s' e' a2 w2 (by simpa only[ct] using g7) hb nZ) fun ex a3 w3 hq=> ?_
          obtain⟨rfl,BL⟩:=hq
          have:=hQ a3 w3 BL
          cases e'<;>exact this
         have hM:II X n gV z5 b1 (exec E f2) (.block b1 (.seq (.region ((l5.map fun o=> {o with pre:=[]}).drop 1)) t10)):=by
          intro s s' μ1 a1 w1 Q hb j4 hQ
          rcases agr f2 with K9| K9
          ·subst K9;simp[exec] at hb
          obtain⟨f3,rfl⟩: ∃f,f2=f+1:=⟨f2 - 1,ae0⟩
          simp only[exec,aC] at hb
          rcases agr f3 with hf3| hf3
          ·subst hf3;simp[exec] at hb
          obtain⟨f4,rfl⟩: ∃f,f3=f+1:=⟨f3 - 1,ae0⟩
          have bF:0 <gV.size:=(af1.1 ho5).1
          have inner: ∀e' (R:Go.Exit→Go.Act→World→Prop),exec E (f4+1) (.seq (.region ((l5.map fun o=> {o with pre:=[]}).drop 1)) t10) s=some (e',s')→(∀a' w',jy X μ1 n s' a' w'→R e'.conv a' w')→wpOpsIn (Fr n.ro) 0 X.P gV (Exit.then (z5.wpIn (Fr n.ro) 0 X.P R) R) (List.range' 1 (gV.size - 1)) a1 w1:=by
           intro e' R hb hR
           simp only[exec,aC] at hb
           rcases agr f4 with hf4| hf4
           ·subst hf4;simp[exec] at hb
           obtain⟨f5,rfl⟩: ∃f,f4=f+1:=⟨f4 - 1,ae0⟩
           split at hb
           rotate_left
           ·rename_i r zz
            simp only[exec,aC,afZ,af4] at hb
            obtain⟨s1,h3,rfl,rfl⟩:=hb
            exact absurd (by simp only[exec,aC,h3,agc]) (zz s1)
           rename_i s1 Qw
           simp only[exec,aC,afZ,af4,true_and] at Qw
           obtain⟨s2,h3,rfl⟩:=Qw
           refine ft (hH f5 ae0) hn g9 (gV.size - 1) 1 ae0 j4 (by rw[List.map_drop];exact h3) fun a2 w2 nZ=> ?_
           refine wpIn_mono (XR (f5+1) ae0 (fun m D3=>hH m ae0) hn z5 t10 s2 s' e' a2 w2 g10 hb nZ) fun ex a3 w3 hq=> ?_
           obtain⟨rfl,BL⟩:=hq
           exact hR a3 w3 BL
          split at hb
          ·rename_i lW s1 j8
           split at hb
           ·rename_i heq
            simp only[afY,af4,true_and] at hb
            subst hb;subst heq
            exact inner _ _ j8 fun a' w' ji=>by
                simp only[aP.conv,Go.Exit.inBlock,if_true]
                exact hQ a' w' ji
           ·simp at hb
          ·exact inner _ _ hb fun a' w' ji=>hQ a' w' ji
         split at ah
         rotate_left
         ·rename_i r zz
          obtain⟨rfl,_⟩:=zW (μ0:=μ0) (i0:=i0) (i5:=i5) hB hM ho k1 k2 k3 (by rw[←hn];exact GU) ho5 k4 k5 k6 (by rw[←hn];exact cF) ah iY
          exact absurd ah (zz σ')
         rename_i σ2 hkr
         obtain⟨_,hwp⟩:=zW (μ0:=μ0) (i0:=i0) (i5:=i5) hB hM ho k1 k2 k3 (by rw[←hn];exact GU) ho5 k4 k5 k6 (by rw[←hn];exact cF) hkr iY
         refine wpIn_mono hwp fun ex a2 w2 hq=> ?_
         obtain⟨rfl,σe,σp,q1,q2,q3⟩:=hq
         refine wpIn_seq ?_
         refine wpIn_mono (XR f2 ae0 (fun m D3=>hH m ae0) hn (.region iS Qv dS) _ σe σp .normal a2 w2 (by simpa only[ct] using g3) q2 q1) fun ex a3 w3 hq=> ?_
         obtain⟨rfl,BL⟩:=hq
         exact XR (f2+1) ae0 (fun m D3=>hH m ae0) hn rest _ σ2 σ' e a3 w3 g4 ah (q3 a3 w3 BL)
       rw[hk] at ah
       simp only[exec,aC] at ah
       refine wpIn_seq ?_
       split at ah
       · rename_i σ1 hx
         refine wpIn_mono (ih MR hn x ax σ σ1 .normal a w h1 hx hs) fun ex a' w' hq=> ?_
         obtain⟨rfl,ji⟩:=hq
         exact ih MR hn y ay σ1 σ' e a' w' h2 ah ji
       · rename_i r cF
         refine wpIn_mono (ih MR hn x ax σ σ' e a w h1 ah hs) fun ex a' w' hq=> ?_
         obtain⟨rfl,ji⟩:=hq
         cases e with
         | normal=>exact absurd ah (cF σ')
         | exit id=>exact⟨rfl,ji⟩
         | ret=>exact⟨rfl,ji⟩
     ·simp at aJ
   | cond c x y=>
     intro ac σ σ' e a w aJ ah hs
     simp only[ct] at aJ
     split at aJ
     · rename_i c' ax ay h0 h1 h2
       injection aJ with aJ;subst aJ
       simp only[exec,aC] at ah
       split at ah
       · rename_i hb
         exact wpIn_cond_true (zX hs h0 hb) (ih MR hn x ax σ σ' e a w h1 ah hs)
       · rename_i hb
         exact wpIn_cond_false (zX hs h0 hb) (ih MR hn y ay σ σ' e a w h2 ah hs)
       ·simp at ah
     ·simp at aJ
   | block id b=>
     intro ac σ σ' e a w aJ ah hs
     simp only[ct,afZ] at aJ
     obtain⟨ab,h1,rfl⟩:=aJ
     simp only[exec,aC] at ah
     refine wpIn_block ?_
     split at ah
     · rename_i lW σ1 hb
       refine wpIn_mono (ih MR hn b ab σ σ1 (.exit lW) a w h1 hb hs) fun ex a' w' hq=> ?_
       obtain⟨rfl,ji⟩:=hq
       simp only[aP.conv,Go.Exit.inBlock]
       split at ah
       · rename_i heq
         simp only[afY,af4] at ah
         obtain⟨rfl,rfl⟩:=ah
         rw[if_pos heq]
         exact⟨rfl,ji⟩
       · rename_i cF
         simp only[afY,af4] at ah
         obtain⟨rfl,rfl⟩:=ah
         rw[if_neg cF]
         exact⟨rfl,ji⟩
     · rename_i r cF
       refine wpIn_mono (ih MR hn b ab σ σ' e a w h1 ah hs) fun ex a' w' hq=> ?_
       obtain⟨rfl,ji⟩:=hq
       cases e with
       | normal=>exact⟨rfl,ji⟩
       | exit lW=>exact absurd ah (cF lW σ')
       | ret=>exact⟨rfl,ji⟩
   | loop b=>
     intro ac σ σ' e a w aJ ah hs
     simp only[ct,afZ] at aJ
     obtain⟨ab,h1,rfl⟩:=aJ
     have rounds: ∀ (k:Nat),k≤fuel+1→ ∀ (σ:St),exec E k (.loop ab) σ=some (e,σ')→ ∃m,∀a w,jy X μ0 n σ a w→Code.roundsIn (Fr n.ro) 0 X.P b (Ends X μ0 n e σ') m a w:=by
       intro k
       induction k with
       | zero=>intro _ σ hr;simp[exec] at hr
       | succ k ihk=>
         intro hk σ hr
         simp only[exec,aC] at hr
         have body: ∀ (σ1:St) (e1:aP),exec E k ab σ=some (e1,σ1)→ ∀a w,jy X μ0 n σ a w→b.wpIn (Fr n.ro) 0 X.P (Ends X μ0 n e1 σ1) a w:=fun σ1 e1 hx a w hs=>
          XR k ae0 (fun m D3=>hH m ae0) hn b ab σ σ1 e1 a w h1 hx hs
         split at hr
         ·rename_i σ1 hx
          obtain⟨m,Mz⟩:=ihk ae0 σ1 hr
          refine⟨m+1,fun a w hs=> ?_⟩
          rw[roundsIn_succ]
          refine wpIn_mono (body σ1 .normal hx a w hs) fun ex a' w' hq=> ?_
          obtain⟨rfl,ji⟩:=hq
          exact Mz a' w' ji
         ·rename_i r cF
          refine⟨1,fun a w hs=> ?_⟩
          rw[roundsIn_succ]
          refine wpIn_mono (body σ' e hr a w hs) fun ex a' w' hq=> ?_
          obtain⟨rfl,ji⟩:=hq
          cases e with
          | normal=>exact absurd hr (cF σ')
          | exit lW=>exact⟨rfl,ji⟩
          | ret=>exact⟨rfl,ji⟩
     obtain⟨m,D3⟩:=rounds (fuel+1) (af6 _) σ ah
     exact wpIn_loop_rounds m (D3 a w hs)
   | exit id=>
     intro ac σ σ' e a w aJ ah hs
     simp[ct] at aJ;subst aJ
     simp[exec,aC] at ah
     obtain⟨rfl,rfl⟩:=ah
     exact wpIn_exit ⟨rfl,hs⟩
   | ret=>
     intro ac σ σ' e a w aJ ah hs
     simp[ct] at aJ;subst aJ
     simp[exec,aC] at ah
     obtain⟨rfl,rfl⟩:=ah
     exact wpIn_ret ⟨rfl,hs⟩
   | label l=>
     intro ac σ σ' e a w aJ ah hs
     simp[ct] at aJ;subst aJ
     simp[exec,aC] at ah
     obtain⟨rfl,rfl⟩:=ah
     exact wpIn_label ⟨rfl,hs⟩
   | scope b=>
     intro ac σ σ' e a w aJ ah hs
     simp only[ct,afZ] at aJ
     obtain⟨ab,h1,rfl⟩:=aJ
     simp only[exec,aC] at ah
     refine IM ?_
     refine wpIn_mono (ih MR hn b ab σ σ' e a w h1 ah hs) fun ex a' w' hq=> ?_
     obtain⟨rfl,ji⟩:=hq
     cases e<;>exact⟨rfl,ji⟩
   | rangeFunc f ps x y=>
     intro ac σ σ' e a w aJ ah hs
     simp only[ct] at aJ
     split at aJ
     rotate_left
     ·simp at aJ
     rename_i f' ax ay h0 h1 h2
     split at aJ
     rotate_left
     ·simp at aJ
     rename_i CC
     injection aJ with aJ;subst aJ
     simp only[exec,aC] at ah
     split at ah
     · rename_i g caps mc
       split at ah
       · rename_i xs I8
         split at ah
         ·rename_i hlen
          obtain⟨j3,bF,φ,hr,hle⟩:=hs
          have hf:=aQ hr h0 σ.O
          have Si:bu ⟨σ.T,σ.O⟩ f'= .fn g caps:=mc
          rw[Si] at hf
          simp only[aj] at hf
          obtain⟨F,cv,hF,Mg,uE⟩:=hf
          refine Gt (lb:=cv) (xs:=xs) (rec:=exec E fuel) ?_ ?_ ⟨j3,bF,φ,hr,hle⟩ ?_ hF ?_ ?_ ah
          ·intro l s s' e' m b v hb j4
           exact ih MR (n:=⟨n.tm,0,some l⟩) hn x ax s s' e' b v h1 hb j4
          ·intro l s s' e' m b v hb j4
           exact ih MR (n:=⟨n.tm,0,some l⟩) hn y ay s s' e' b v h2 hb j4
          ·intro p hp
           rw[af5] at CC
           have:=CC p hp
           rw[Nat.blt_eq] at this
           rw[hn] at this
           exact this
          ·intro φ2 oV
           exact oU g F caps xs I8 Mg ⟨w,φ2,σ.O⟩ cv (by
            have K9:=aQ oV h0 σ.O
            have ae9:bu ⟨σ.T,σ.O⟩ f'= .fn g caps:=mc
            rw[ae9] at K9
            simp only[aj] at K9
            obtain⟨F2,cv2,hF2,_,WL⟩:=K9
            rw[hF] at hF2
            injection hF2 with _ _ e3
            rw[e3];exact WL) oV.a8
          ·intro x hx
           rw[af5] at hlen
           have:=hlen x hx
           rw[ahe] at this
           simpa using this
         ·simp at ah
       ·simp at ah
     ·simp at ah
   | goto l=>
     intro ac σ σ' e a w aJ ah hs
     simp[ct] at aJ;subst aJ
     simp[exec,aC] at ah
   | refuse y=>
     intro ac σ σ' e a w aJ ah hs
     simp[ct] at aJ;subst aJ
     simp[exec,aC] at ah
end
end Go.AM
