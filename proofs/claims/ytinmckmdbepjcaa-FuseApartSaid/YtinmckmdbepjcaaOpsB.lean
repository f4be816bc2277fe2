/-
  Texts of the proof, joined by program: AmOps8, AmOps9, AmCall1, AmMap, AmDisp, AmExec, AmDraw, AmLoopM, AmRange, AmCode. Own work.
-/
import Derived.Test.YtinmckmdbepjcaaOpsA
import Derived.Test.YtinmckmdbepjcaaTail
import Derived.Test.YtinmckmdbepjcaaDefs
import Derived.MapKept
import Derived.Scope
import Derived.Laws.IdiomRangeMap
set_option linter.unusedSimpArgs false
set_option linter.unusedVariables false
namespace Go.AM
open Go Go.RowKit
section
variable {X:Ctx} {E:Env} {C:bl} {o:Oper} {a:Go.Act} {T:Nat→V} {μ:Mu} {v:V} {σ':St}
theorem AV (bs:List UInt8):flat (bs.map fun b=>Value.int .u8 b.toNat)=bs.map fun b=>Value.int .u8 b.toNat:=by
 induction bs with
 | nil=>rfl
 | cons b bs ih=>simp only[List.map_cons,flat,List.flatMap_cons] at ih ⊢;rw[ih];rfl
theorem ak.bytes (bs:List UInt8):ak X μ (bs.map fun b=>V.int .u8 b.toNat) (bs.map fun b=>Value.int .u8 b.toNat):=by
 induction bs with
 | nil=>simp[ak]
 | cons b bs ih=>simp only[List.map_cons,ak];exact⟨by simp[al],ih⟩
theorem oX {sz:Nat} {x:V} {xv:Value} {k:List V→Act} {p:V×St} (ho:br X μ) (hx:al X μ x xv) (aj: (content sz x k).run C ⟨T,μ.O⟩=some p):
  ∃ys us,(k ys).run C ⟨T,μ.O⟩=some p∧ak X μ ys us∧(Builtin.lenOf xv).run X.P μ.w= .ok ys.length μ.w∧
    ∀w',w'.heap=μ.w.heap→ ∀n,n≤ys.length→(Builtin.firstCells sz n xv).run X.P w'= .ok (flat (us.take n)).toArray w':=by
 cases x<;>simp only[content] at aj<;>try exact absurd aj au
 ·
  split at aj
  · rename_i s hs
    simp only[al] at hx
    obtain⟨bs,rfl,rfl⟩:=hx
    refine⟨_,_,aj,ak.bytes _,?_,fun w' jf n hn=> ?_⟩
    · simp only[Builtin.lenOf,Sem.run_pure,List.length_map];rw[cb];rfl
    · have: (bs.extract 0 n).data.map (fun b=>Value.int .u8 b.toNat)=(flat ((bs.data.toList.map fun b=>Value.int .u8 b.toNat).take n)).toArray:=by
        rw[←List.map_take,AV]
        apply Array.ext'
        simp[ByteArray.data_extract,Array.toList_extract,List.extract_eq_take_drop]
      simp only[Builtin.firstCells,Sem.run_pure,this]
  · exact absurd aj au
 ·
  simp only[al] at hx
  obtain⟨q,rfl⟩:=hx
  refine⟨[],[],aj,by simp[ak],by simp[Builtin.lenOf],fun w' jf n hn=> ?_⟩
  have:n=0:=by simpa using hn
  subst this
  cases q<;>simp[Builtin.firstCells,loadCells,loadCellsFrom,flat]
 ·
  split at aj
  · rename_i sz' xs hs
    subst hs
    simp only[al] at hx
    obtain⟨_,_,q,cap,vs,rfl,_,rU,jL⟩:=hx
    refine⟨xs,vs,aj,rU,by simp[Builtin.lenOf],fun w' jf n hn=> ?_⟩
    rcases jL with rfl| ⟨b,q',rfl,_,_,dL⟩
    · have:n=0:=by simpa using hn
      subst this
      cases q<;>simp[Builtin.firstCells,loadCells,loadCellsFrom,flat]
    · simp only[Builtin.firstCells]
      exact rV (dL.cR (by rw[jf])) (by rw[←rU.length];exact hn)
  · exact absurd aj au
 ·
  rename_i r g off len
  simp only[Act.run] at aj
  split at aj
  · rename_i es bQ
    split at aj
    · rename_i hc
      obtain⟨AE,BK,MU⟩:=hc
      simp only[al] at hx
      obtain⟨q,cap,rfl,hle,_,cK⟩:=hx
      obtain⟨k0,k1,k2⟩:=cK AE
      have nZ: (aO es off len).length=len:=by simp[aO];omega
      obtain⟨q1,q2,q3,q4⟩:=ho.row r es bQ k0
      by_cases ed:cap=0
      · have zO:len=0:=by omega
        subst zO
        refine⟨_,[],aj,by simp[aO,ak],by simp[Builtin.lenOf,aO],fun w' jf n hn=> ?_⟩
        have:n=0:=by simpa [aO] using hn
        subst this
        cases q<;>simp[Builtin.firstCells,loadCells,loadCellsFrom,flat]
      · rcases q4 with q4| ⟨cc,TT,vs,p1,p2,p3,p4⟩
        · omega
        · have WD:=k2.resolve_left ed
          subst WD
          refine⟨_,(vs.drop off).take len,aj,ak.take _ (ak.drop _ p3),by simp only[Builtin.lenOf,Sem.run_pure,nZ],fun w' jf n hn=> ?_⟩
          simp only[Builtin.firstCells]
          have oY:=(p4.drop off).take len
          rw[BK] at oY
          rw[BK]
          refine rV (oY.cR (by rw[jf])) ?_
          rw[nZ] at hn
          have:=p3.length
          simp;omega
    · exact absurd aj au
  · exact absurd aj au
theorem wz (bZ:Nat): ∀ (k c:Nat),c≤bZ+(bZ+768) / 4→Builtin.growBy bZ k c≤bZ+(bZ+768) / 4
 | 0,c,h=>h
 | k+1,c,h=>by
   simp only[Builtin.growBy]
   split
   · exact h
   · exact wz bZ k _ (by omega)
theorem AW {bZ old:Nat} (h:old<bZ):Builtin.nextslicecap bZ old≤2*bZ+192:=by
 unfold Builtin.nextslicecap
 split
 · omega
 · split
   · omega
   · have:=wz bZ 4 old (by omega)
     omega
theorem FJ {bZ old bytes:Nat} (h:old<bZ) (hl:bZ≤oM bytes): ¬Builtin.nextslicecap bZ old*bytes >2 ^ 48∧ ¬ ((bZ:Int) >IntKind.i64.max):=by
 unfold oM at hl
 have h1:=AW h
 have h2:bZ+200≤140737488355328 / (bytes+1):=by omega
 have h3: (bZ+200)*(bytes+1)≤140737488355328:=(Nat.le_div_iff_mul_le (by omega)).1 h2
 have h4:Builtin.nextslicecap bZ old*bytes≤(2*(bZ+200))*(bytes+1):=Nat.mul_le_mul (by omega) (by omega)
 have h5: (2*(bZ+200))*(bytes+1)=2*((bZ+200)*(bytes+1)):=by rw[Nat.mul_assoc]
 have h6: (2:Nat) ^ 48=281474976710656:=by decide
 have h7:bZ+200≤(bZ+200)*(bytes+1):=Nat.le_mul_of_pos_right _ (by omega)
 have h8:IntKind.i64.max=9223372036854775807:=by decide
 refine⟨by omega,by rw[h8];omega⟩
theorem iW {sT xT e:TypeId} {d:TypeDesc} {sz n sLen sCap:Nat} {base:Option Addr} {xv:Value} {new:Array Value} {w w':World} {ty:TypeId}
  (hd:X.P.underlying sT=some (.slice e)) (hx:X.P.underlying xT=some d) (Dy: ∀k,d≠ .int k) (hn:bI X e=some sz) (hl: (Builtin.lenOf xv).run X.P w= .ok n w)
  (gO:sLen+n≤sCap) (pC: (Builtin.firstCells sz n xv).run X.P w= .ok new w)
  (oK:match base with| some p=> (storeCells (p.add (sLen*sz)) new.toList).run X.P w= .ok () w'| none=>w'=w):
  (Builtin.append_ #[sT,xT] ty #[.slice base sLen sCap,xv]).run X.P w= .ok (.slice base (sLen+n) sCap) w':=by
 have hm: (match d with| .int _=>true| _=>false)=false:=by
  cases d<;>first| rfl| exact absurd rfl (Dy _)
 have H0: (#[sT,xT]:Array TypeId)[0]? =some sT:=rfl
 have H2: (#[sT,xT]:Array TypeId)[1]? =some xT:=rfl
 have L5: (#[Value.slice base sLen sCap,xv]:Array Value)[0]? =some (.slice base sLen sCap):=rfl
 have Au: (#[Value.slice base sLen sCap,xv]:Array Value)[1]? =some xv:=rfl
 simp only[Builtin.append_,H0,H2,L5,Au,Sem.run_bind,run_underlying hd,Result.andThen_ok,di hn,run_underlying hx,Sem.run_pure,hm,Bool.false_eq_true,if_false,hl]
 rw[if_pos gO]
 simp only[Bool.not_false,if_true,Sem.run_bind,pC,Result.andThen_ok]
 cases base with
 | none=>simp only at oK;subst oK;simp
 | some p=>simp only at oK;simp[Sem.run_bind,oK]
theorem mm {sT xT e:TypeId} {d:TypeDesc} {sz n sLen sCap:Nat} {base:Option Addr} {xv zv:Value} {old new:Array Value} {w:World} {ty:TypeId} {i:TypeInfo}
  (hd:X.P.underlying sT=some (.slice e)) (hx:X.P.underlying xT=some d) (Dy: ∀k,d≠ .int k) (hn:bI X e=some sz) (hi:X.P.info? e=some i)
  (hz: ∀w,(zeroValue e).run X.P w= .ok zv w) (hl: (Builtin.lenOf xv).run X.P w= .ok n w) (kU:sCap<sLen+n) (zb:sLen+n≤oM i.bytes)
  (hold: (Builtin.firstCells sz sLen (.slice base sLen sCap)).run X.P w.drew= .ok old w.drew) (pC: (Builtin.firstCells sz n xv).run X.P w.drew= .ok new w.drew):
  ∃newCap,sLen+n≤newCap∧(Builtin.append_ #[sT,xT] ty #[.slice base sLen sCap,xv]).run X.P w=
   .ok (.slice (some ⟨w.heap.size,0,none⟩) (sLen+n) newCap) (w.drew.alloc (.cells (old++new++Builtin.zeroCells zv.cells (newCap - (sLen+n))) e)):=by
 have hm: (match d with| .int _=>true| _=>false)=false:=by
  cases d<;>first| rfl| exact absurd rfl (Dy _)
 have H0: (#[sT,xT]:Array TypeId)[0]? =some sT:=rfl
 have H2: (#[sT,xT]:Array TypeId)[1]? =some xT:=rfl
 have L5: (#[Value.slice base sLen sCap,xv]:Array Value)[0]? =some (.slice base sLen sCap):=rfl
 have Au: (#[Value.slice base sLen sCap,xv]:Array Value)[1]? =some xv:=rfl
 obtain⟨r1,r2⟩:=FJ kU zb
 refine⟨(Question.appendCap (sLen+n) sCap e).cut (w.tape w.drawn (.appendCap (sLen+n) sCap e)),by simp[Question.cut],?_⟩
 simp only[Builtin.append_,H0,H2,L5,Au,Sem.run_bind,run_underlying hd,Result.andThen_ok,di hn,run_underlying hx,Sem.run_pure,hm,Bool.false_eq_true,if_false,hl]
 rw[if_neg (by omega)]
 simp only[Sem.run_bind,run_typeInfo w hi,Result.andThen_ok]
 have c2: ¬ (((sLen+n:Nat):Int) >IntKind.i64.max∧(False∨i.bytes=0)):=fun h=>r2 h.1
 rw[if_neg c2]
 simp only[Sem.run_bind,run_typeInfo w hi,Result.andThen_ok]
 rw[if_neg r1]
 have TF: (choose (.appendCap (sLen+n) sCap e)).run X.P w= .ok ((Question.appendCap (sLen+n) sCap e).cut (w.tape w.drawn (.appendCap (sLen+n) sCap e))) w.drew:=by
  rw[run_choose];simp only[Question.forced,Bool.false_eq_true,if_false];rfl
 simp only[Sem.run_bind,TF,Result.andThen_ok,run_typeInfo w.drew hi,run_askRoom,hold,Bool.not_false,if_true,pC,hz,Sem.run_pure,newRow,run_newObj]
 rfl
theorem zc {us rest:List Value} {sz:Nat} (h: ∀u ∈ us,u.cells.size=sz):dz (flat us++rest) 0 sz us:=by
 intro i v hv
 have hm:=h v (List.mem_of_getElem? hv)
 refine⟨hm,fun j x hx=> ?_⟩
 have:=qO h hv hx
 have bk:i*sz+j< (flat us).length:=(List.getElem?_eq_some_iff.1 this).1
 rw[Nat.zero_add,List.getElem?_append_left bk];exact this
theorem zd (us vs:List Value):flat (us++vs)=flat us++flat vs:=by simp[flat]
theorem nj {zv:Value} {sz n:Nat} (h:zv.cells.size=sz): (Builtin.zeroCells zv.cells n).size=n*sz:=by simp[Builtin.zeroCells,h]
theorem Dz {α:Type} {n:Nat} {l:List α} (h:l.length≤n):l.take n=l:=List.take_of_length_le h
theorem ze {O1:Nat→Obj} (hO:br X ⟨μ.w,μ.φ,O1⟩) {r sz newCap:Nat} {olds ys:List V} {ous us:List Value} {zv:Value} {e:TypeId} {o0:Obj}
  (WE:o0={gen:=o0.gen,sz:=sz,arr:=true,fz:=false,es:=some (olds++ys)}) (MF:o0.gen=(O1 r).gen+1)
  (cP:0 <sz) (h1:ak X ⟨μ.w,μ.φ,O1⟩ olds ous) (h2:ak X ⟨μ.w,μ.φ,O1⟩ ys us) (b1:olds.all (aQ · sz)=true) (b2:ys.all (aQ · sz)=true)
  (hz:zv.cells.size=sz) (ed:olds.length+ys.length≤newCap):
  let μ':Mu:=⟨μ.w.drew.alloc (.cells ((flat ous).toArray++(flat us).toArray++Builtin.zeroCells zv.cells (newCap - (olds.length+ys.length))) e),dm μ.φ r ⟨μ.w.heap.size,0,newCap⟩,dm O1 r o0⟩
  Le ⟨μ.w,μ.φ,O1⟩ μ'∧br X μ':=by
 intro μ'
 obtain⟨P8,TG⟩:=Le.drew (X:=X) (μ:=⟨μ.w,μ.φ,O1⟩) hO
 have bV:ak X ⟨μ.w.drew,μ.φ,O1⟩ (olds++ys) (ous++us):=ak.mono P8 (h1.append h2)
 have hs: ∀u ∈ ous++us,u.cells.size=sz:=((h1.append h2).rW (sz:=sz) (by simp only[List.all_append,b1,b2,Bool.and_self])).1
 have U1:=h1.length
 have C9:=h2.length
 have y6:=gh hs
 have mG: ((flat ous).toArray++(flat us).toArray++Builtin.zeroCells zv.cells (newCap - (olds.length+ys.length))).toList=flat (ous++us)++(Builtin.zeroCells zv.cells (newCap - (olds.length+ys.length))).toList:=by
  simp[zd]
 have dk:newCap*sz≤((flat ous).toArray++(flat us).toArray++Builtin.zeroCells zv.cells (newCap - (olds.length+ys.length))).size:=by
  rw[←cb,mG,List.length_append,y6,cb (Builtin.zeroCells _ _),nj hz,←Nat.add_mul]
  apply Nat.mul_le_mul_right
  rw[List.length_append];omega
 have:=xl (X:=X) (μ:=⟨μ.w.drew,μ.φ,O1⟩) TG r sz newCap true (es:=olds++ys) (vs:=ous++us) (c:=(flat ous).toArray++(flat us).toArray++Builtin.zeroCells zv.cells (newCap - (olds.length+ys.length))) e cP
  (by simp;omega) (by simp only[List.all_append,b1,b2,Bool.and_self]) bV dk (fun i u hu=>by
    have uq:=zc (rest:=(Builtin.zeroCells zv.cells (newCap - (olds.length+ys.length))).toList) hs
    rw[←mG] at uq
    obtain⟨m1,m2⟩:=uq i u hu
    refine⟨m1,fun j x hx=> ?_⟩
    have:=m2 j x hx
    rw[Nat.zero_add] at this
    rw[←Array.getElem?_toList];exact this)
 have heq: ({gen:=(O1 r).gen+1,sz:=sz,arr:=true,fz:=false,es:=some (olds++ys)}:Obj)=o0:=by rw[WE,MF]
 simp only[heq] at this
 exact⟨P8.trans this.1,this.2⟩
theorem nk {sz:Nat} {p:Option Addr} {n m:Nat} {w:World}: (Builtin.firstCells sz 0 (.slice p n m)).run X.P w= .ok #[] w:=by
 cases p<;>simp[Builtin.firstCells,loadCells,loadCellsFrom]
theorem np (       cR:Bool) {c:Call} {s x:Operand} {sT xT e:TypeId} {d:TypeDesc} {s' x':aT} {r sz:Nat} {i:TypeInfo} {z:V} (hr:Rel X T a μ) (ho:o.op= .call c) (hc:c.callee= .builtin .append)
   (jN:c.args= #[s,x]) (xw:c.argTypes= #[sT,xT]) (hd:bq X sT=some (.slice e)) (hx:bq X xT=some d) (Dy: ∀k,d≠ .int k) (hn:bI X e=some sz) (hi:info X e=some i)
   (hz:ez X e=some z) (FI:aQ z sz=true) (h1:cZ X s=some s') (h2:cZ X x=some x')
   (aj: (content sz (bn ⟨T,μ.O⟩ x') fun ys=>match cR with| true=>yd r sz (oM i.bytes) (bn ⟨T,μ.O⟩ s') ys| false=>gm ys fun ys=>yd r sz (oM i.bytes) (bn ⟨T,μ.O⟩ s') ys).run C ⟨T,μ.O⟩=some (v,σ')):σ'.T=T∧cM X o a μ σ'.O v:=by
 have hs:=aS hr h1 μ.O
 have WG:=aS hr h2 μ.O
 have kE:X.P.underlying sT=some (.slice e):=hd
 have BI:X.P.underlying xT=some d:=hx
 have xP:X.P.info? e=some i:=hi
 obtain⟨Vf,us,k1,k2,k3,k4⟩:=oX hr.bd WG aj
 have gK: ∃ys O1,(yd r sz (oM i.bytes) (bn ⟨T,μ.O⟩ s') ys).run C ⟨T,O1⟩=some (v,σ')∧ak X ⟨μ.w,μ.φ,O1⟩ ys us∧Le μ ⟨μ.w,μ.φ,O1⟩∧br X ⟨μ.w,μ.φ,O1⟩:=by
   cases cR with
   | true=>exact⟨Vf,μ.O,k1,k2,Le.refl μ,hr.bd⟩
   | false=>exact uJ (μ:=μ) hr.bd k2 k1
 obtain⟨ys,O1,g1,g2,g3,g4⟩:=gK
 unfold yd at g1
 have Tk:ys.length=Vf.length:=by rw[g2.length,k2.length]
 rw[←Tk] at k3 k4
 have Ee:us.length=ys.length:=g2.length.symm
 have FK: ∀w',w'.heap=μ.w.heap→(Builtin.firstCells sz ys.length (a.eval x)).run X.P w'= .ok (flat us).toArray w':=fun w' jf=>by
   have:=k4 w' jf ys.length (Nat.le_refl _)
   rwa [Dz (by omega)] at this
 have FL:=FK μ.w rfl
 have FM:=FK μ.w.drew rfl
 have B3:=al.mono g3 hs
 have fin: ∀val w',(Builtin.append_ #[sT,xT] o.type #[a.eval s,a.eval x]).run X.P μ.w= .ok val w'→(execOp a.eval o).run X.P μ.w= .ok (.value val) w':=fun val w' hv=>by
   refine eA ho hc ?_
   simp only[builtin,jN,xw]
   refine cq ?_
   simpa using hv
 split at g1
 · rename_i hb
   simp only[Bool.and_eq_true,decide_eq_true_eq] at hb
   obtain⟨lP,cP⟩:=hb
   obtain⟨zv,vh,wq⟩:=gL hz μ.w
   have Vg: ∀w,(zeroValue e).run X.P w= .ok zv w:=fun w=>by
    obtain⟨WH,q1,q2⟩:=gL hz w
    have:WH=zv:=by
      simp only[ez,info,Option.bind_eq_some_iff] at hz
      obtain⟨i0,e1,zq,e2,_⟩:=hz
      simp only[zeroValue,Sem.run_bind,run_typeInfo w e1,run_typeInfo μ.w e1,Result.andThen_ok,e2,Sem.run_pure] at q1 vh
      injection q1 with q1 _;injection vh with vh _
      rw[←q1,←vh]
    rw[←this];exact q1
   obtain⟨uH,FC⟩:=eG (X:=X) (μ:=μ) wq
   have FD:zv.cells.size=sz:=by rw[uH.eb FC,(cn FI).2]
   obtain⟨Fz,xr⟩:=g2.rW lP
   have y6:=gh Fz
   have qP:ys.length=0→ ∀ (p:Option Addr) (len cap:Nat),len≤cap→a.eval s= .slice p len cap→(execOp a.eval o).run X.P μ.w= .ok (.value (.slice p len cap)) μ.w:=fun h0 p len cap hle hp=>by
    have Sb:us=[]:=by
      have:us.length=0:=by omega
      simpa using this
    have sX:=iW (X:=X) (sT:=sT) (xT:=xT) (sLen:=len) (sCap:=cap) (base:=p) (ty:=o.type) (w':=μ.w) kE BI Dy hn k3 (by omega) FL (by
        cases p with
        | none=>rfl
        | some q=>simp[Sb,flat,storeCells])
    rw[h0,Nat.add_zero] at sX
    exact fin _ _ (by rw[hp];exact sX)
   generalize bn ⟨T,μ.O⟩ s'=sv at g1 hs B3
   split at g1
   ·
    simp only[al] at hs
    obtain⟨p,hp⟩:=hs
    split at g1
    · rename_i FN
      obtain⟨rfl,rfl⟩:=aX g1
      have L6:ys.length=0:=by simpa [List.isEmpty_iff] using FN
      exact⟨rfl,.slice p 0 0,μ.w,μ.φ,.inl (qP L6 p 0 0 (Nat.le_refl _) hp),by simp[al],g3,g4⟩
    · rename_i FN
      split at g1
      · rename_i zb
        simp only[Act.run,Option.some.injEq,Prod.mk.injEq] at g1
        obtain⟨rfl,rfl⟩:=g1
        have P9:0 <ys.length:=by
          rcases Nat.eq_zero_or_pos ys.length with h0| h0
          · exact absurd (by simpa [List.isEmpty_iff] using h0) FN
          · exact h0
        obtain⟨newCap,AX,sX⟩:=mm (X:=X) (sT:=sT) (xT:=xT) (sLen:=0) (sCap:=0) (base:=p) (ty:=o.type) (old:= #[]) kE BI Dy hn xP Vg k3 (by omega) (by simpa using zb) nk FM
        obtain⟨GH,MV⟩:=ze (X:=X) (μ:=μ) (O1:=O1) g4 (r:=r) (sz:=sz) (newCap:=newCap) (olds:=[]) (ous:=[]) (ys:=ys) (us:=us) (zv:=zv) (e:=e)
          (o0:={gen:=(O1 r).gen+1,sz:=sz,arr:=true,fz:=false,es:=some ys}) rfl rfl cP (by simp[ak]) g2 rfl lP FD (by simpa using AX)
        have Nh: (flat ([]:List Value)).toArray= #[]:=rfl
        simp only[Nh,List.length_nil] at GH MV
        refine⟨rfl,.slice (some ⟨μ.w.heap.size,0,none⟩) (0+ys.length) newCap,_,dm μ.φ r ⟨μ.w.heap.size,0,newCap⟩,.inl (fin _ _ (by rw[hp];exact sX)),?_,g3.trans GH,MV⟩
        simp only[al,aD]
        exact⟨_,newCap,by rw[Nat.zero_add],by omega,Nat.le_refl _,fun _=> ⟨by omega,by simp,by simp⟩⟩
      · exact absurd g1 au
   ·
    rename_i sz' xs
    split at g1
    · rename_i FN
      obtain⟨rfl,rfl⟩:=aX g1
      have L6:ys.length=0:=by simpa [List.isEmpty_iff] using FN
      have DA:=hs
      simp only[al] at DA
      obtain⟨_,_,p,cap,_,hp,hle,_⟩:=DA
      exact⟨rfl,a.eval s,μ.w,μ.φ,.inl (by rw[hp];exact qP L6 p _ cap hle hp),B3,g3,g4⟩
    · exact absurd g1 au
   ·
    rename_i r' g off len
    simp only[Act.run] at g1
    split at g1
    · rename_i es bQ
      split at g1
      · rename_i hc
        obtain⟨cD,iV,gK,fV,gO,zb⟩:=hc
        simp only[al] at B3
        obtain⟨p,cap,hp,hle,wk,cK⟩:=B3
        obtain⟨a0,a1,a2⟩:=cK cD
        obtain⟨q1,q2,q3,q4⟩:=g4.row r' es bQ a0
        simp only at q1 q2 q3 q4
        have fI:O1 r'={O1 r' with es:=some es}:=by rw[←bQ]
        split at g1
        · rename_i rL
          simp only[Act.run,Option.some.injEq,Prod.mk.injEq] at g1
          obtain⟨rfl,rfl⟩:=g1
          refine⟨rfl,?_⟩
          rcases Nat.eq_zero_or_pos ys.length with h0| h0
          ·
            have L6:ys=[]:=by simpa using h0
            have MN:overwrite es (off+len) ys=es:=by simp[overwrite,L6]
            have hO:dm O1 r' {O1 r' with es:=some (overwrite es (off+len) ys)}=O1:=by
              funext q
              by_cases hq:q=r'
              · subst hq;rw[aD,MN];exact fI.symm
              · rw[aY _ _ hq]
            simp only[hO]
            refine⟨.slice p len cap,μ.w,μ.φ,.inl (qP h0 p len cap hle hp),?_,g3,g4⟩
            rw[h0]
            simp only[al]
            exact⟨p,cap,rfl,hle,wk,cK⟩
          · have ed:cap≠0:=by omega
            have jY: (μ.φ r').cap≠0:=by omega
            rcases q4 with q4| ⟨cc,T0,vs,p1,p2,p3,p4⟩
            · exact absurd q4 jY
            · have wo:=a2.resolve_left ed
              subst wo
              have AY:=p3.length
              have uq:dz cc.toList (μ.φ r').base sz vs:=by have:=iy p1 p4;rwa [fV] at this
              rw[fV] at p2
              have hmul: (off+len+ys.length)*sz≤(μ.φ r').cap*sz:=Nat.mul_le_mul_right _ (by omega)
              rw[Nat.add_mul] at hmul
              have hw:=uq.write (k:=off+len) (us:=us) (by omega) Fz (by rw[cb cc,Ee];omega)
              have oK:=iz (P:=X.P) (w:=μ.w) (q:=(μ.φ r').base+(off+len)*sz) p1 (flat us) (by rw[y6,Ee];omega) xr
              have sX:=iW (X:=X) (sT:=sT) (xT:=xT) (sLen:=len) (sCap:=cap) (ty:=o.type) (base:=some ⟨(μ.φ r').cO,(μ.φ r').base+off*(O1 r').sz,none⟩)
                (w':=μ.w.setRow (μ.φ r').cO (cS cc.toList ((μ.φ r').base+(off+len)*sz) (flat us)).toArray) kE BI Dy hn k3 (by omega) FL (by
                  simp only[fj,fV]
                  have: (μ.φ r').base+off*sz+len*sz=(μ.φ r').base+(off+len)*sz:=by rw[Nat.add_mul];omega
                  rw[this];exact oK)
              have I0:=kM (X:=X) (μ:=⟨μ.w,μ.φ,O1⟩) g4 r' bQ gK p1 jY (c':=(cS cc.toList ((μ.φ r').base+(off+len)*sz) (flat us)).toArray)
                (by
                  have: (cS cc.toList ((μ.φ r').base+(off+len)*sz) (flat us)).length=cc.toList.length:=eR (by rw[cb cc,y6,Ee];omega)
                  simpa using this)
                (O1 r').gen (μ.φ r').base (μ.φ r').cap (es':=overwrite es (off+len) ys) (vs':=vs.take (off+len)++us++vs.drop (off+len+us.length)) (.inl ⟨rfl,rfl,rfl⟩) jY
                (by simp[overwrite];omega)
                (by
                  simp only[fV] at q3 ⊢
                  have t1:=jr (p:=(aQ · sz)) (off+len) q3
                  have t2:=kN (p:=(aQ · sz)) (off+len+ys.length) q3
                  simp only[overwrite,List.all_append,t1,lP,t2,Bool.and_self])
                (by
                  have:=((ak.take (off+len) p3).append g2).append (ak.drop (off+len+ys.length) p3)
                  rw[Ee];exact this)
                (by rw[fV];exact p2)
                (fun j y hy=>by
                  obtain⟨m1,m2⟩:=hw j y hy
                  refine⟨by rw[fV];exact m1,fun l q hq=> ?_⟩
                  have:=m2 l q hq
                  simp only[fV]
                  simpa using this)
              refine⟨_,_,_,.inl (fin _ _ (by rw[hp];exact sX)),?_,g3.trans I0.1,I0.2⟩
              simp only[al,aD]
              exact⟨_,cap,rfl,by omega,by omega,fun _=> ⟨a0,a1,.inr rfl⟩⟩
        · rename_i rL
          simp only[Act.run,Option.some.injEq,Prod.mk.injEq] at g1
          obtain⟨rfl,rfl⟩:=g1
          refine⟨rfl,?_⟩
          have P9:0 <ys.length:=by omega
          have nZ: (aO es off len).length=len:=by simp[aO];omega
          have MW: (aO es off len).all (aQ · sz)=true:=by
            rw[fV] at q3;exact jr _ (kN _ q3)
          by_cases oN:len+ys.length≤cap
          ·
            have ed:cap≠0:=by omega
            have jY: (μ.φ r').cap≠0:=by omega
            rcases q4 with q4| ⟨cc,T0,vs,p1,p2,p3,p4⟩
            · exact absurd q4 jY
            · have wo:=a2.resolve_left ed
              subst wo
              have AY:=p3.length
              have uq:dz cc.toList (μ.φ r').base sz vs:=by have:=iy p1 p4;rwa [fV] at this
              rw[fV] at p2
              have hmul: (off+len+ys.length)*sz≤(μ.φ r').cap*sz:=Nat.mul_le_mul_right _ (by omega)
              rw[Nat.add_mul] at hmul
              have hw:=uq.write (k:=off+len) (us:=us) (by omega) Fz (by rw[cb cc,Ee];omega)
              have oK:=iz (P:=X.P) (w:=μ.w) (q:=(μ.φ r').base+(off+len)*sz) p1 (flat us) (by rw[y6,Ee];omega) xr
              have sX:=iW (X:=X) (sT:=sT) (xT:=xT) (sLen:=len) (sCap:=cap) (ty:=o.type) (base:=some ⟨(μ.φ r').cO,(μ.φ r').base+off*(O1 r').sz,none⟩)
                (w':=μ.w.setRow (μ.φ r').cO (cS cc.toList ((μ.φ r').base+(off+len)*sz) (flat us)).toArray) kE BI Dy hn k3 (by omega) FL (by
                  simp only[fj,fV]
                  have: (μ.φ r').base+off*sz+len*sz=(μ.φ r').base+(off+len)*sz:=by rw[Nat.add_mul];omega
                  rw[this];exact oK)
              have zN:dz (cS cc.toList ((μ.φ r').base+(off+len)*sz) (flat us)) ((μ.φ r').base+off*sz) sz ((vs.drop off).take len++us):=by
                have h3:=(hw.take (off+len+us.length)).drop off
                have e1: (List.take (off+len+us.length) (vs.take (off+len)++us++vs.drop (off+len+us.length))).drop off=(vs.drop off).take len++us:=by
                  have l1: (vs.take (off+len)).length=off+len:=by simp;omega
                  have l2: (vs.take (off+len)++us).length=off+len+us.length:=by rw[List.length_append,l1]
                  rw[←l2,List.take_left,List.drop_append_of_le_length (by omega),List.drop_take]
                  congr 2;omega
                rwa [e1] at h3
              have Vh:off*sz+cap*sz=(μ.φ r').cap*sz:=by rw[←Nat.add_mul];congr 1;omega
              have I0:=kM (X:=X) (μ:=⟨μ.w,μ.φ,O1⟩) g4 r' bQ gK p1 jY (c':=(cS cc.toList ((μ.φ r').base+(off+len)*sz) (flat us)).toArray)
                (by
                  have: (cS cc.toList ((μ.φ r').base+(off+len)*sz) (flat us)).length=cc.toList.length:=eR (by rw[cb cc,y6,Ee];omega)
                  simpa using this)
                (g+1) ((μ.φ r').base+off*sz) cap (es':=aO es off len++ys) (vs':=(vs.drop off).take len++us) (.inr (by simp only;omega)) ed
                (by rw[List.length_append,nZ];omega)
                (by
                  simp only[fV]
                  simp only[List.all_append,MW,lP,Bool.and_self])
                ((ak.take len (ak.drop off p3)).append g2)
                (by simp only[fV];omega)
                (fun j y hy=>by
                  obtain⟨m1,m2⟩:=zN j y hy
                  refine⟨by rw[fV];exact m1,fun l q hq=> ?_⟩
                  have:=m2 l q hq
                  simp only[fV]
                  simpa using this)
              refine⟨_,_,_,.inl (fin _ _ (by rw[hp];exact sX)),?_,g3.trans I0.1,I0.2⟩
              simp only[al,aD]
              exact⟨_,cap,rfl,by omega,Nat.le_refl _,fun _=> ⟨a0,by omega,.inr (by simp[fV])⟩⟩
          ·
            have hold: ∃ous,ak X ⟨μ.w,μ.φ,O1⟩ (aO es off len) ous∧(Builtin.firstCells sz len (.slice p len cap)).run X.P μ.w.drew= .ok (flat ous).toArray μ.w.drew:=by
              by_cases ed:cap=0
              · have zO:len=0:=by omega
                subst zO
                exact⟨[],by simp[aO,ak],nk⟩
              · rcases q4 with q4| ⟨cc,T0,vs,p1,p2,p3,p4⟩
                · omega
                · have wo:=a2.resolve_left ed
                  subst wo
                  have AY:=p3.length
                  refine⟨(vs.drop off).take len,ak.take _ (ak.drop _ p3),?_⟩
                  have oY:=(p4.drop off)
                  rw[fV] at oY ⊢
                  have:=rV (P:=X.P) (oY.cR (w':=μ.w.drew) rfl) (n:=len) (by simp;omega)
                  simpa [Builtin.firstCells] using this
            obtain⟨ous,MX,MV⟩:=hold
            obtain⟨newCap,AX,sX⟩:=mm (X:=X) (sT:=sT) (xT:=xT) (sLen:=len) (sCap:=cap) (base:=p) (ty:=o.type) kE BI Dy hn xP Vg k3 (by omega) zb MV FM
            obtain⟨GH,Vi⟩:=ze (X:=X) (μ:=μ) (O1:=O1) g4 (r:=r') (sz:=sz) (newCap:=newCap) (olds:=aO es off len) (ous:=ous) (ys:=ys) (us:=us) (zv:=zv) (e:=e)
              (o0:={gen:=g+1,sz:=sz,arr:=true,fz:=false,es:=some (aO es off len++ys)}) rfl (by simp only;omega) cP MX g2 MW lP FD (by rw[nZ];exact AX)
            have hO:dm O1 r' {O1 r' with gen:=g+1,es:=some (aO es off len++ys)}=dm O1 r' {gen:=g+1,sz:=sz,arr:=true,fz:=false,es:=some (aO es off len++ys)}:=by
              have: ({O1 r' with gen:=g+1,es:=some (aO es off len++ys)}:Obj)={gen:=g+1,sz:=sz,arr:=true,fz:=false,es:=some (aO es off len++ys)}:=by
                rw[←fV,←iV,←gK]
              rw[this]
            simp only[hO]
            rw[nZ] at GH Vi
            refine⟨_,_,dm μ.φ r' ⟨μ.w.heap.size,0,newCap⟩,.inl (fin _ _ (by rw[hp];exact sX)),?_,g3.trans GH,Vi⟩
            simp only[al,aD]
            exact⟨_,newCap,rfl,by omega,Nat.le_refl _,fun _=> ⟨by omega,by simp,by simp⟩⟩
      · exact absurd g1 au
    · exact absurd g1 au
   · exact absurd g1 au
 · exact absurd g1 au
theorem wA {c:Call} {s x:Operand} {sT xT e:TypeId} {d:TypeDesc} {s' x':aT} {r sz:Nat} {i:TypeInfo} {z:V} (hr:Rel X T a μ) (ho:o.op= .call c) (hc:c.callee= .builtin .append)
  (jN:c.args= #[s,x]) (xw:c.argTypes= #[sT,xT]) (hd:bq X sT=some (.slice e)) (hx:bq X xT=some d) (Dy: ∀k,d≠ .int k) (hn:bI X e=some sz) (hi:info X e=some i)
  (hz:ez X e=some z) (FI:aQ z sz=true) (h1:cZ X s=some s') (h2:cZ X x=some x')
  (aj: (av E (.append r sz (oM i.bytes) s' x')).run C ⟨T,μ.O⟩=some (v,σ')):σ'.T=T∧cM X o a μ σ'.O v:=by
 refine np (C:=C) (v:=v) false (r:=r) hr ho hc jN xw hd hx Dy hn hi hz FI h1 h2 ?_
 simp only[av,bD] at aj
 exact aj
theorem uO {c:Call} {s x:Operand} {sT xT e:TypeId} {d:TypeDesc} {s' x':aT} {r sz:Nat} {i:TypeInfo} {z:V} (hr:Rel X T a μ) (ho:o.op= .call c) (hc:c.callee= .builtin .append)
  (jN:c.args= #[s,x]) (xw:c.argTypes= #[sT,xT]) (hd:bq X sT=some (.slice e)) (hx:bq X xT=some d) (Dy: ∀k,d≠ .int k) (hn:bI X e=some sz) (hi:info X e=some i)
  (hz:ez X e=some z) (FI:aQ z sz=true) (h1:cZ X s=some s') (h2:cZ X x=some x')
  (aj: (av E (.lF r sz (oM i.bytes) s' x')).run C ⟨T,μ.O⟩=some (v,σ')):σ'.T=T∧cM X o a μ σ'.O v:=by
 refine np (C:=C) (v:=v) true (r:=r) hr ho hc jN xw hd hx Dy hn hi hz FI h1 h2 ?_
 simp only[av,bD] at aj
 exact aj
end
end Go.AM
namespace Go.AM
open Go Go.RowKit
section
variable {X:Ctx} {E:Env} {C:bl} {o:Oper} {a:Go.Act} {T:Nat→V} {μ:Mu} {v:V} {σ':St}
theorem sF (ho:br X μ) {r g off len sz:Nat} {es ys:List V} {us:List Value} {p:Option Addr} {cap:Nat} (bQ: (μ.O r).es=some es) (gK: (μ.O r).fz=false) (fV: (μ.O r).sz=sz)
   (cD: (μ.O r).gen=g) (hle:len≤cap) (a0:0 < (μ.O r).sz) (a1:cap+off=(μ.φ r).cap) (a2:cap=0∨p=some ⟨(μ.φ r).cO,(μ.φ r).base+off*(μ.O r).sz,none⟩)
   (gO:off+len≤es.length) (hy:ys.length≤len) (bV:ak X μ ys us) (lP:ys.all (aQ · sz)=true):
   ∃w',(match p with| some q=> (storeCells q (flat us)).run X.P μ.w= .ok () w'| none=>w'=μ.w∧flat us=[])∧
     ∃φ',φ' r=μ.φ r∧Le μ ⟨w',φ',dm μ.O r {μ.O r with es:=some (overwrite es off ys)}⟩∧br X ⟨w',φ',dm μ.O r {μ.O r with es:=some (overwrite es off ys)}⟩:=by
 have Ee:us.length=ys.length:=bV.length.symm
 obtain⟨Fz,xr⟩:=bV.rW lP
 have y6:=gh Fz
 have fI:μ.O r={μ.O r with es:=some es}:=by rw[←bQ]
 rcases Nat.eq_zero_or_pos ys.length with h0| h0
 · have L6:ys=[]:=by simpa using h0
   have Sb:us=[]:=List.length_eq_zero_iff.1 (by omega)
   have MN:overwrite es off ys=es:=by simp[overwrite,L6]
   have hO:dm μ.O r {μ.O r with es:=some (overwrite es off ys)}=μ.O:=by
     funext q
     by_cases hq:q=r
     · subst hq;rw[aD,MN];exact fI.symm
     · rw[aY _ _ hq]
   rw[hO]
   refine⟨μ.w,?_,μ.φ,rfl,Le.refl μ,ho⟩
   cases p with
   | none=>simp[Sb,flat]
   | some q=>simp[Sb,flat,storeCells]
 · obtain⟨q1,q2,q3,q4⟩:=ho.row r es bQ a0
   have ed:cap≠0:=by omega
   have jY: (μ.φ r).cap≠0:=by omega
   rcases q4 with q4| ⟨cc,T0,vs,p1,p2,p3,p4⟩
   · exact absurd q4 jY
   · have wo:=a2.resolve_left ed
     subst wo
     have AY:=p3.length
     have uq:dz cc.toList (μ.φ r).base sz vs:=by have:=iy p1 p4;rwa [fV] at this
     rw[fV] at p2
     have hmul: (off+ys.length)*sz≤(μ.φ r).cap*sz:=Nat.mul_le_mul_right _ (by omega)
     rw[Nat.add_mul] at hmul
     have hw:=uq.write (k:=off) (us:=us) (by omega) Fz (by rw[cb cc,Ee];omega)
     have oK:=iz (P:=X.P) (w:=μ.w) (q:=(μ.φ r).base+off*sz) p1 (flat us) (by rw[y6,Ee];omega) xr
     have I0:=kM (X:=X) (μ:=μ) ho r bQ gK p1 jY (c':=(cS cc.toList ((μ.φ r).base+off*sz) (flat us)).toArray)
      (by
        have: (cS cc.toList ((μ.φ r).base+off*sz) (flat us)).length=cc.toList.length:=eR (by rw[cb cc,y6,Ee];omega)
        simpa using this)
      (μ.O r).gen (μ.φ r).base (μ.φ r).cap (es':=overwrite es off ys) (vs':=vs.take off++us++vs.drop (off+us.length)) (.inl ⟨rfl,rfl,rfl⟩) jY
      (by simp[overwrite];omega)
      (by
        simp only[fV] at q3 ⊢
        have t1:=jr (p:=(aQ · sz)) off q3
        have t2:=kN (p:=(aQ · sz)) (off+ys.length) q3
        simp only[overwrite,List.all_append,t1,lP,t2,Bool.and_self])
      (by
        have:=((ak.take off p3).append bV).append (ak.drop (off+ys.length) p3)
        rw[Ee];exact this)
      (by rw[fV];exact p2)
      (fun j y hy=>by
        obtain⟨m1,m2⟩:=hw j y hy
        refine⟨by rw[fV];exact m1,fun l q hq=> ?_⟩
        have:=m2 l q hq
        simp only[fV]
        simpa using this)
     refine⟨_,?_,_,?_,I0.1,I0.2⟩
     · simp only[fV];exact oK
     · rw[aD]
theorem H3 {c:Call} {d s:Operand} {dT sT e:TypeId} {d' s':aT} {sz:Nat} (hr:Rel X T a μ) (ho:o.op= .call c) (hc:c.callee= .builtin .copy)
   (jN:c.args= #[d,s]) (xw:c.argTypes= #[dT,sT]) (hd:bq X dT=some (.slice e)) (hn:bI X e=some sz) (h1:cZ X d=some d') (h2:cZ X s=some s')
   (aj: (av E (.copy sz d' s')).run C ⟨T,μ.O⟩=some (v,σ')):σ'.T=T∧cM X o a μ σ'.O v:=by
 simp only[av,bD] at aj
 have Eb:=aS hr h1 μ.O
 have Tr:=aS hr h2 μ.O
 have kE:X.P.underlying dT=some (.slice e):=hd
 obtain⟨ys,us,k1,k2,k3,k4⟩:=oX hr.bd Tr aj
 have fin: ∀ (p:Option Addr) (len cap:Nat) (w':World),a.eval d= .slice p len cap→
     (match p with| some q=> (storeCells q (flat (us.take (min ys.length len)))).run X.P μ.w= .ok () w'| none=>w'=μ.w∧flat (us.take (min ys.length len))=[])→
     (execOp a.eval o).run X.P μ.w= .ok (.value (goInt ((min ys.length len:Nat):Int))) w':=fun p len cap w' hp oK=>by
   refine eA ho hc ?_
   simp only[builtin,jN,xw]
   refine cq ?_
   have H0: (#[dT,sT]:Array TypeId)[0]? =some dT:=rfl
   have FO:Array.map a.eval #[d,s]= #[a.eval d,a.eval s]:=by simp
   rw[FO,hp]
   have L5: (#[Value.slice p len cap,a.eval s]:Array Value)[0]? =some (Value.slice p len cap):=rfl
   have Au: (#[Value.slice p len cap,a.eval s]:Array Value)[1]? =some (a.eval s):=rfl
   have Vj:=k4 μ.w rfl (min ys.length len) (Nat.min_le_left _ _)
   simp only[Builtin.copy_,H0,L5,Au,Sem.run_bind,run_underlying kE,Result.andThen_ok,k3,di hn,Nat.min_def] at Vj ⊢
   rw[Vj]
   simp only[Result.andThen_ok]
   simp only[Nat.min_def] at oK
   cases p with
   | none=>simp only at oK;obtain⟨rfl,_⟩:=oK;simp
   | some q=>simp only at oK;simp[Sem.run_bind,oK]
 generalize bn ⟨T,μ.O⟩ d'=dv at k1 Eb
 split at k1
 · obtain⟨rfl,rfl⟩:=aX k1
   simp only[al] at Eb
   obtain⟨p,hp⟩:=Eb
   have h0:min ys.length 0=0:=Nat.min_eq_right (Nat.zero_le _)
   have:=fin p 0 0 μ.w hp (by rw[h0];cases p<;>simp[flat,storeCells])
   rw[h0] at this
   exact⟨rfl,aM (val:=goInt 0) hr.bd (by simpa using this) (by simp[al,goInt])⟩
 · rename_i r g off len
   simp only[Act.run] at k1
   split at k1
   · rename_i es bQ
     split at k1
     · rename_i GR
       obtain⟨cD,iV,gK,fV,gO,lP⟩:=GR
       simp only[Act.run,Option.some.injEq,Prod.mk.injEq] at k1
       obtain⟨rfl,rfl⟩:=k1
       simp only[al] at Eb
       obtain⟨p,cap,hp,hle,wk,cK⟩:=Eb
       obtain⟨a0,a1,a2⟩:=cK cD
       obtain⟨w',oK,φ',hφ,le,fI⟩:=sF (X:=X) hr.bd (us:=us.take len) bQ gK fV cD hle a0 a1 a2 gO (ys:=ys.take len) (by simp;omega) (ak.take _ k2) lP
       have TH:us.take (min ys.length len)=us.take len:=by
        have hl:=k2.length
        rcases Nat.le_total ys.length len with h| h
        · rw[Nat.min_eq_left h,hl,List.take_length,List.take_of_length_le (by omega)]
        · rw[Nat.min_eq_right h]
       refine⟨rfl,goInt ((min ys.length len:Nat):Int),w',φ',.inl (fin p len cap w' hp (by rw[TH];exact oK)),?_,le,fI⟩
       simp only[al,goInt,List.length_take]
       rw[Nat.min_comm]
     · exact absurd k1 au
   · exact absurd k1 au
 · exact absurd k1 au
theorem nq {zv:Value} {sz n:Nat} (hz:zv.cells.size=sz) (cP:0 <sz): (Builtin.zeroCells zv.cells n).toList=flat (List.replicate n zv):=by
 have hs: ∀u ∈ List.replicate n zv,u.cells.size=sz:=fun u hu=>by rw[(List.mem_replicate.1 hu).2];exact hz
 have y6:=gh hs
 rw[List.length_replicate] at y6
 apply List.ext_getElem?
 intro q
 by_cases hq:q<n*sz
 · have hi:q / sz<n:=Nat.div_lt_of_lt_mul (by rw[Nat.mul_comm];exact hq)
   have wo:q / sz*sz+q % sz=q:=by rw[Nat.mul_comm];exact Nat.div_add_mod q sz
   have hm:q % sz<zv.cells.size:=by rw[hz];exact Nat.mod_lt _ cP
   have hc:zv.cells[q % sz]? =some zv.cells[q % sz]:=Array.getElem?_eq_getElem hm
   have hv: (List.replicate n zv)[q / sz]? =some zv:=by rw[List.getElem?_replicate];simp[hi]
   have g1:=qO hs hv hc
   rw[wo] at g1
   rw[g1,Array.getElem?_toList]
   have hr: (Array.range (n*sz))[q]? =some q:=by simp[hq]
   simp only[Builtin.zeroCells,Array.getElem?_map,hz,hr,Option.map_some]
   rw[getElem!_def,hc]
 · rw[List.getElem?_eq_none (by rw[cb (Builtin.zeroCells _ _),nj hz];omega),List.getElem?_eq_none (by omega)]
theorem FP {c:Call} {x:Operand} {t e:TypeId} {x':aT} {sz:Nat} {z:V} (hr:Rel X T a μ) (ho:o.op= .call c) (hc:c.callee= .builtin .clear)
   (jN:c.args= #[x]) (xw:c.argTypes= #[t]) (hd:bq X t=some (.slice e)) (hz:ez X e=some z) (h1:cZ X x=some x')
   (aj: (av E (.clear sz z x')).run C ⟨T,μ.O⟩=some (v,σ')):σ'.T=T∧cM X o a μ σ'.O v:=by
 simp only[av,bD] at aj
 have hx:=aS hr h1 μ.O
 have kE:X.P.underlying t=some (.slice e):=hd
 have fin: ∀w',(Builtin.clear_ #[t] o.type #[a.eval x]).run X.P μ.w= .ok (.tuple #[]) w'→(execOp a.eval o).run X.P μ.w= .ok (.value (.tuple #[])) w':=fun w' hv=>by
   refine eA ho hc ?_
   simp only[builtin,jN,xw]
   refine cq ?_
   simpa using hv
 have H0: (#[t]:Array TypeId)[0]? =some t:=rfl
 have L5: ∀y:Value,(#[y]:Array Value)[0]? =some y:=fun _=>rfl
 split at aj
 · rename_i ex
   obtain⟨rfl,rfl⟩:=aX aj
   rw[ex] at hx;simp only[al] at hx
   obtain⟨p,hp⟩:=hx
   refine⟨rfl,aM (val:= .tuple #[]) hr.bd (fin _ ?_) (by simp only[al];exact⟨#[],rfl,by simp[ak]⟩)⟩
   cases p<;>simp[Builtin.clear_,Sem.run_bind,run_underlying kE,hp]
 · rename_i r g off len ex
   rw[ex] at hx
   simp only[Act.run] at aj
   split at aj
   · rename_i es bQ
     split at aj
     · rename_i GR
       obtain⟨cD,iV,gK,fV,gO,FI⟩:=GR
       simp only[Act.run,Option.some.injEq,Prod.mk.injEq] at aj
       obtain⟨rfl,rfl⟩:=aj
       simp only[al] at hx
       obtain⟨p,cap,hp,hle,wk,cK⟩:=hx
       obtain⟨a0,a1,a2⟩:=cK cD
       obtain⟨zv,vh,wq⟩:=gL hz μ.w
       obtain⟨uH,FC⟩:=eG (X:=X) (μ:=μ) wq
       have FD:zv.cells.size=sz:=by rw[uH.eb FC,(cn FI).2]
       have cP:0 <sz:=fV ▸ a0
       obtain⟨w',oK,φ',hφ,le,fI⟩:=sF (X:=X) hr.bd (us:=List.replicate len zv) bQ gK fV cD hle a0 a1 a2 gO (ys:=List.replicate len z) (by simp) (ak.replicate uH len)
         (by simp only[List.all_eq_true,List.mem_replicate];rintro y ⟨_,rfl⟩;exact FI)
       refine⟨rfl,.tuple #[],w',φ',.inl (fin _ ?_),by simp only[al];exact⟨#[],rfl,by simp[ak]⟩,le,fI⟩
       rw[←nq FD cP] at oK
       rw[hp]
       simp only[Builtin.clear_,H0,L5,Sem.run_bind,run_underlying kE,Result.andThen_ok]
       rcases Nat.eq_zero_or_pos len with h0| h0
       · subst h0
         have MP: (Builtin.zeroCells zv.cells 0).toList=[]:=by rw[nq FD cP];rfl
         rw[MP] at oK
         have hw:w'=μ.w:=by
           cases p with
           | none=>exact oK.1
           | some q=>simp[storeCells] at oK;exact oK.symm
         subst hw
         cases p<;>simp
       · cases p with
         | none=>
           have ed:cap≠0:=by omega
           exact absurd (a2.resolve_left ed) (by simp)
         | some q=>
           obtain⟨n,rfl⟩: ∃n,len=n+1:=⟨len - 1,by omega⟩
           simp only at oK
           simp[Sem.run_bind,vh,oK]
     · exact absurd aj au
   · exact absurd aj au
 · exact absurd aj au
theorem B4 {x:Operand} {y:aT} (hr:Rel X T a μ) (ho:o.op= .move x∨o.op= .assign x) (ht:cZ X x=some y) (aj: (av E (.deep y)).run C ⟨T,μ.O⟩=some (v,σ')):
   σ'.T=T∧cM X o a μ σ'.O v:=by
 simp only[av,bD] at aj
 have bV:=aS hr ht μ.O
 have kj: (execOp a.eval o).run X.P μ.w= .ok (.value (a.eval x)) μ.w:=by rcases ho with ho| ho<;>simp[execOp,ho]
 unfold lG at aj
 split at aj
 · rename_i r g off len he
   rw[he] at bV
   simp only[Act.run] at aj
   split at aj
   · rename_i es bQ
     split at aj
     rotate_left
     · exact absurd aj au
     rename_i cD
     have I1:=bV
     simp only[al] at I1
     obtain⟨_,_,_,_,_,cK⟩:=I1
     obtain⟨q1,q2,q3,q4⟩:=hr.bd.row r es bQ (cK cD).1
     obtain⟨vs,rU,jL⟩: ∃vs,ak X μ es vs∧((μ.φ r).cap=0∨ ∃c T,μ.w.heap[(μ.φ r).cO]? =some (.cells c T (0,0))∧(μ.φ r).base+(μ.φ r).cap*(μ.O r).sz≤c.size∧
         dW μ.w (μ.φ r).cO (μ.φ r).base (μ.O r).sz vs):=by
       rcases q4 with q4| ⟨c,T0,vs,p1,p2,p3,p4⟩
       · have:es=[]:=by
          have:es.length=0:=by omega
          simpa using this
         subst this
         exact⟨[],by simp[ak],.inl q4⟩
       · exact⟨vs,p3,.inr ⟨c,T0,p1,p2,p4⟩⟩
     obtain⟨es',O1,g1,g2,g3,g4⟩:=uJ (μ:=μ) hr.bd rU aj
     simp only[Act.run] at g1
     split at g1
     · rename_i hc
       obtain⟨AE,BK,MU⟩:=hc
       simp only[Act.run,Option.some.injEq,Prod.mk.injEq] at g1
       obtain⟨rfl,rfl⟩:=g1
       have hs: (O1 r).sz=(μ.O r).sz:=(g3.row r AE).2
       have hlen:es'.length=es.length:=by rw[g2.length,rU.length]
       obtain⟨le,vm⟩:=Dj (X:=X) (μ:=⟨μ.w,μ.φ,O1⟩) g4 r (es':=es') BK (by rw[hs];exact q1) (by rw[hlen];exact q2) (by rw[hs];exact MU) (by
         refine jL.imp id ?_
         rintro⟨c,T0,p1,p2,p4⟩
         exact⟨c,T0,vs,p1,by simp only[hs];exact p2,g2,by simp only[hs];exact p4⟩)
       exact⟨rfl,a.eval x,μ.w,μ.φ,.inl kj,al.mono (g3.trans le) bV,g3.trans le,vm⟩
     · exact absurd g1 au
   · exact absurd aj au
 · obtain⟨rfl,rfl⟩:=aX aj
   exact⟨rfl,aM hr.bd kj bV⟩
end
end Go.AM
namespace Go.AM
open Go Go.RowKit
def iX (X:Ctx) (μ:Mu) (rs:List Nat) (a:V) (v:Value):Prop:= ∀ (B:Nat→Prop) (μ':Mu),μ'.w=μ.w→
 (∀b,Own ⟨X.toTrEnv,B,X.tok⟩ μ' b→Own X μ b∧ ∀r ∈ rs,(μ.O r).es.isSome=true→(μ.φ r).cap≠0→b≠(μ.φ r).cO)→al ⟨X.toTrEnv,B,X.tok⟩ μ' a v
def qQ (X:Ctx) (μ:Mu) (rs:List Nat) (as:List V) (vs:List Value):Prop:= ∀ (B:Nat→Prop) (μ':Mu),μ'.w=μ.w→
 (∀b,Own ⟨X.toTrEnv,B,X.tok⟩ μ' b→Own X μ b∧ ∀r ∈ rs,(μ.O r).es.isSome=true→(μ.φ r).cap≠0→b≠(μ.φ r).cO)→ak ⟨X.toTrEnv,B,X.tok⟩ μ' as vs
section
variable {X:Ctx} {B:Nat→Prop} {μ μ':Mu}
mutual
theorem dB (hw:μ'.w=μ.w) (ho: ∀b,Own ⟨X.toTrEnv,B,X.tok⟩ μ' b→Own X μ b): ∀ {x:V} {v:Value},V.aE x=true→al X μ x v→al ⟨X.toTrEnv,B,X.tok⟩ μ' x v
 | .bool _,_,_,h| .int ..,_,_,h| .float _,_,_,h| .str _,_,_,h| .nilp,_,_,h| .nilfn,_,_,h| .nili,_,_,h| .nils,_,_,h=>by simpa [al] using h
 | .any,_,hp,_| .own ..,_,hp,_| .msl ..,_,hp,_| .mptr ..,_,hp,_| .sl ..,_,hp,_| .ptr ..,_,hp,_| .mp ..,_,hp,_| .it ..,_,hp,_=>by simp[V.aE] at hp
 | .mlit es,_,hp,h=>by
   simp only[al] at h ⊢
   obtain⟨h0,h⟩:=h
   refine⟨h0,h.imp id ?_⟩
   rintro⟨a,ents,clock,rfl,hb,hs,h1,h2⟩
   exact⟨a,ents,clock,rfl,fun hh=>hb (ho _ hh),by rw[hw];exact hs,by rw[hw];exact h1,bS hw ho h0 h2⟩
 | .agg cs,_,hp,h=>by
   simp only[al] at h ⊢
   obtain⟨h1,vs,rfl,h2⟩:=h
   exact⟨h1,vs,rfl,bS hw ho (by simpa [V.aE] using hp) h2⟩
 | .tuple cs,_,hp,h=>by
   simp only[al] at h ⊢
   obtain⟨vs,rfl,h2⟩:=h
   exact⟨vs,rfl,bS hw ho (by simpa [V.aE] using hp) h2⟩
 | .fn f cs,_,hp,h=>by
   simp only[al] at h ⊢
   obtain⟨F,cv,rfl,h1,h2⟩:=h
   exact⟨F,cv,rfl,h1,bS hw ho (by simpa [V.aE] using hp) h2⟩
 | .iface t x,_,hp,h=>by
   simp only[al] at h ⊢
   obtain⟨F,y,rfl,h1,h2⟩:=h
   exact⟨F,y,rfl,h1,dB hw ho (by simpa [V.aE] using hp) h2⟩
 | .lit sz xs,_,hp,h=>by
   simp only[al] at h ⊢
   obtain⟨h0,jZ,a,cap,vs,rfl,h1,h2,h3⟩:=h
   refine⟨h0,jZ,a,cap,vs,rfl,h1,bS hw ho h0 h2,h3.imp id ?_⟩
   rintro⟨b,o,rfl,hb,hs,hr⟩
   exact⟨b,o,rfl,fun hh=>hb (ho b hh),by rw[hw];exact hs,by rw[hw];exact hr⟩
 | .litk sz xs,_,hp,h=>by
   simp only[al] at h ⊢
   obtain⟨h0,jZ,a,cap,vs,rfl,h1,h2,h3⟩:=h
   refine⟨h0,jZ,a,cap,vs,rfl,h1,bS hw ho h0 h2,h3.imp id ?_⟩
   rintro⟨rfl,hb,hs,hr⟩
   exact⟨rfl,fun hh=>hb (ho _ hh),by rw[hw];exact hs,by rw[hw];exact hr⟩
 | .epk i sz e off,_,hp,h=>by
   simp only[al] at h ⊢
   obtain⟨h0,jZ,x,rfl,hb,hs,h1,hr⟩:=h
   exact⟨h0,jZ,x,rfl,fun hh=>hb (ho _ hh),by rw[hw];exact hs,dB hw ho h0 h1,by rw[hw];exact hr⟩
 | .eptr e off,_,hp,h=>by
   simp only[al] at h ⊢
   obtain⟨h0,jZ,b,o,sz,x,rfl,hb,hs,h1,hr⟩:=h
   exact⟨h0,jZ,b,o,sz,x,rfl,fun hh=>hb (ho b hh),by rw[hw];exact hs,dB hw ho h0 h1,by rw[hw];exact hr⟩
theorem bS (hw:μ'.w=μ.w) (ho: ∀b,Own ⟨X.toTrEnv,B,X.tok⟩ μ' b→Own X μ b): ∀ {xs:List V} {vs:List Value},V.aq xs=true→ak X μ xs vs→ak ⟨X.toTrEnv,B,X.tok⟩ μ' xs vs
 | [],[],_,_=>by simp[ak]
 | [],_::_,_,h=>by simp[ak] at h
 | _::_,[],_,h=>by simp[ak] at h
 | x::xs,v::vs,hp,h=>by
   simp only[ak] at h ⊢
   simp only[V.aq,Bool.and_eq_true] at hp
   exact⟨dB hw ho hp.1 h.1,bS hw ho hp.2 h.2⟩
end
end
section
variable {X:Ctx} {C:bl} {T:Nat→V} {μ:Mu}
theorem iX.B5 {a:V} {v:Value} (hp:V.aE a=true) (h:al X μ a v) (rs:List Nat):iX X μ rs a v:=
 fun _ _ hw ho=>dB hw (fun b hb=> (ho b hb).1) hp h
theorem iX.more {rs rs':List Nat} {a:V} {v:Value} (h:iX X μ rs a v) (hs: ∀r ∈ rs,r ∈ rs'):iX X μ rs' a v:=
 fun B μ' hw ho=>h B μ' hw fun b hb=> ⟨(ho b hb).1,fun r hr=> (ho b hb).2 r (hs r hr)⟩
theorem qQ.more {rs rs':List Nat} {a:List V} {v:List Value} (h:qQ X μ rs a v) (hs: ∀r ∈ rs,r ∈ rs'):qQ X μ rs' a v:=
 fun B μ' hw ho=>h B μ' hw fun b hb=> ⟨(ho b hb).1,fun r hr=> (ho b hb).2 r (hs r hr)⟩
theorem kl {f:V→(V→List Nat→Act)→Act}
   (hf: ∀ {v:V} {k:V→List Nat→Act} {val:Value} {p:V×St},al X μ v val→(f v k).run C ⟨T,μ.O⟩=some p→ ∃v' rs,(k v' rs).run C ⟨T,μ.O⟩=some p∧V.aE v'=true∧iX X μ rs v' val∧(v.dh=true→v'.dh=true)∧(v.aN=true→v'.aN=true)):
   ∀ {vs:List V} {k:List V→List Nat→Act} {vals:List Value} {p:V×St},ak X μ vs vals→(oG f vs k).run C ⟨T,μ.O⟩=some p→
     ∃vs' rs,(k vs' rs).run C ⟨T,μ.O⟩=some p∧V.aq vs'=true∧qQ X μ rs vs' vals∧vs'.length=vs.length∧(vs.all V.dh=true→vs'.all V.dh=true)∧(vs.all V.aN=true→vs'.all V.aN=true)
 | [],k,[],p,_,aj=> ⟨[],[],aj,rfl,fun _ _ _ _=>by simp[ak],rfl,id,id⟩
 | [],_,_::_,_,h,_=>by simp[ak] at h
 | _::_,_,[],_,h,_=>by simp[ak] at h
 | v::vs,k,val::vals,p,h,aj=>by
   simp only[ak] at h
   obtain⟨v',rs,h1,h2,h3,h4,h5⟩:=hf h.1 aj
   obtain⟨vs',rs',k1,k2,k3,k4,k5,k6⟩:=kl hf h.2 h1
   refine⟨v'::vs',rs++rs',k1,by simp[V.aq,h2,k2],fun B μ' hw ho=> ?_,by simp[k4],?_,?_⟩
   · simp only[ak]
     exact⟨h3.more (fun r hr=>by simp[hr]) B μ' hw ho,k3.more (fun r hr=>by simp[hr]) B μ' hw ho⟩
   · simp only[List.all_cons,Bool.and_eq_true];exact fun hh=> ⟨h4 hh.1,k5 hh.2⟩
   · simp only[List.all_cons,Bool.and_eq_true];exact fun hh=> ⟨h5 hh.1,k6 hh.2⟩
theorem vA {f:V→(V→List Nat→Act)→Act}
   (hf: ∀ {v:V} {k:V→List Nat→Act} {val:Value} {p:V×St},al X μ v val→(f v k).run C ⟨T,μ.O⟩=some p→ ∃v' rs,(k v' rs).run C ⟨T,μ.O⟩=some p∧V.aE v'=true∧iX X μ rs v' val∧(v.dh=true→v'.dh=true)∧(v.aN=true→v'.aN=true))
   {vs:List V} {k:List V→List Nat→Act} {vals:List Value} {p:V×St} (h:ak X μ vs vals) (aj: (tf f vs k).run C ⟨T,μ.O⟩=some p):
     ∃vs' rs,(k vs' rs).run C ⟨T,μ.O⟩=some p∧V.aq vs'=true∧qQ X μ rs vs' vals∧vs'.length=vs.length∧(vs.all V.dh=true→vs'.all V.dh=true)∧(vs.all V.aN=true→vs'.all V.aN=true):=by
 unfold tf at aj
 split at aj
 · rename_i hp
   exact⟨vs,[],aj,hp,fun _ _ hw ho=>bS hw (fun b hb=> (ho b hb).1) hp h,rfl,id,id⟩
 · exact kl hf h aj
theorem km (     ho:br X μ): ∀ (d:Nat) {v:V} {k:V→List Nat→Act} {val:Value} {p:V×St},al X μ v val→(eZ d v k).run C ⟨T,μ.O⟩=some p→
   ∃v' rs,(k v' rs).run C ⟨T,μ.O⟩=some p∧V.aE v'=true∧iX X μ rs v' val∧(v.dh=true→v'.dh=true)∧(v.aN=true→v'.aN=true)
 | 0,v,k,val,p,h,aj=>by
   simp only[eZ] at aj
   split at aj
   · rename_i hp;exact⟨v,[],aj,hp,iX.B5 hp h _,id,id⟩
   · exact absurd aj au
 | d+1,v,k,val,p,h,aj=>by
   have ih:=fun {v:V} {k:V→List Nat→Act} {val:Value} {p:V×St}=>km ho d (v:=v) (k:=k) (val:=val) (p:=p)
   simp only[eZ] at aj
   split at aj
   · rename_i hp;exact⟨v,[],aj,hp,iX.B5 hp h _,id,id⟩
   · rename_i Sc
     split at aj
     ·
      simp only[al] at h
      obtain⟨h0,vs,rfl,hv⟩:=h
      obtain⟨cY,rs,k1,k2,k3,k4,k5,k6⟩:=kl ih hv aj
      refine⟨_,rs,k1,by simpa [V.aE] using k2,fun B μ' hw hh=> ?_,fun _=>rfl,fun hc=>by simp[V.aN] at hc⟩
      simp only[al]
      exact⟨k6 h0,vs,rfl,k3 B μ' hw hh⟩
     ·
      simp only[al] at h
      obtain⟨F,cv,rfl,hf,hv⟩:=h
      obtain⟨cY,rs,k1,k2,k3,k4,k5,k6⟩:=kl ih hv aj
      refine⟨_,rs,k1,by simpa [V.aE] using k2,fun B μ' hw hh=> ?_,fun _=>rfl,fun _=>rfl⟩
      simp only[al]
      exact⟨F,cv,rfl,hf,k3 B μ' hw hh⟩
     ·
      simp only[al] at h
      obtain⟨F,y,rfl,hf,hv⟩:=h
      obtain⟨x',rs,k1,k2,k3,k4,k5⟩:=ih hv aj
      refine⟨_,rs,k1,by simpa [V.aE] using k2,fun B μ' hw hh=> ?_,fun _=>rfl,fun _=>rfl⟩
      simp only[al]
      exact⟨F,y,rfl,hf,k3 B μ' hw hh⟩
     ·
      rename_i r g off len
      simp only[Act.run] at aj
      split at aj
      · rename_i es bQ
        split at aj
        · rename_i hc
          obtain⟨cD,iV,gO⟩:=hc
          simp only[al] at h
          obtain⟨a,cap,rfl,hle,wk,cK⟩:=h
          obtain⟨a0,a1,a2⟩:=cK cD
          obtain⟨q1,q2,q3,q4⟩:=ho.row r es bQ a0
          have nZ: (aO es off len).length=len:=by simp[aO];omega
          have kS: (aO es off len).all V.dh=true:=by
            simp only[List.all_eq_true] at q3 ⊢
            exact fun x hx=> (cn (q3 x (List.mem_of_mem_drop (List.mem_of_mem_take hx)))).1
          have rU: ∃vs,ak X μ (aO es off len) vs∧(len=0∨((μ.φ r).cap≠0∧(μ.φ r).cO<μ.w.heap.size∧a=some ⟨(μ.φ r).cO,(μ.φ r).base+off*(μ.O r).sz,none⟩∧dW μ.w (μ.φ r).cO ((μ.φ r).base+off*(μ.O r).sz) (μ.O r).sz vs)):=by
            by_cases zO:len=0
            · exact⟨[],by simp[aO,zO,ak],.inl zO⟩
            · rcases q4 with q4| ⟨cc,TT,vs,p1,p2,p3,p4⟩
              · omega
              · exact⟨(vs.drop off).take len,ak.take _ (ak.drop _ p3),.inr ⟨by omega,(Array.getElem?_eq_some_iff.1 p1).1,a2.resolve_left (by omega),(p4.drop off).take len⟩⟩
          obtain⟨vs,TI,B2⟩:=rU
          obtain⟨HZ,rs,k1,k2,k3,k4,k5,k6⟩:=vA ih TI aj
          refine⟨_,r::rs,k1,rfl,fun B μ' hw hh=> ?_,fun _=>rfl,fun _=>rfl⟩
          have hx:=k3.more (rs':=r::rs) (fun q hq=>by simp[hq]) B μ' hw hh
          simp only[al]
          refine⟨k2,k5 kS,a,cap,vs,by rw[k4,nZ],by rw[k4,nZ];exact hle,hx,?_⟩
          rcases B2 with zO| ⟨c0,c1,c2,c3⟩
          · left
            have:HZ.length=0:=by rw[k4,nZ];exact zO
            simpa using this
          · right
            refine⟨_,_,c2,fun ib=> ?_,by rw[hw];exact c1,by rw[hw];exact c3⟩
            exact(hh _ ib).2 r (by simp) (by simp[bQ]) c0 rfl
        · exact absurd aj au
      · exact absurd aj au
     ·
      rename_i r g idx off
      simp only[Act.run] at aj
      split at aj
      · rename_i es bQ
        split at aj
        · rename_i cD
          split at aj
          · rename_i e he
            simp only[al] at h
            obtain⟨a,rfl,wk,cK⟩:=h
            obtain⟨a0,Vk⟩:=cK cD
            obtain⟨q1,q2,q3,q4⟩:=ho.row r es bQ a0
            have bk:idx<es.length:=(List.getElem?_eq_some_iff.1 he).1
            rcases q4 with q4| ⟨cc,TT,vs,p1,p2,p3,p4⟩
            · omega
            · obtain⟨x,hx,bV⟩:=p3.get he
              have lP:aQ e (μ.O r).sz=true:=by
               simp only[List.all_eq_true] at q3
               exact q3 e (List.mem_of_getElem? he)
              obtain⟨e',rs,k1,k2,k3,k4,k5⟩:=ih bV aj
              refine⟨_,r::rs,k1,rfl,fun B μ' hw hh=> ?_,fun _=>rfl,fun _=>rfl⟩
              simp only[al]
              have dL:dW μ.w (μ.φ r).cO ((μ.φ r).base+idx*(μ.O r).sz) (μ.O r).sz [x]:=by
               have:=(p4.drop idx).take 1
               have Dl: (vs.drop idx).take 1=[x]:=by
                have C9:idx<vs.length:=(List.getElem?_eq_some_iff.1 hx).1
                rw[List.drop_eq_getElem_cons C9,List.take_succ_cons,List.take_zero]
                rw[List.getElem?_eq_getElem C9] at hx
                injection hx with hx;rw[hx]
               rwa [Dl] at this
              refine⟨k2,k4 (cn lP).1,(μ.φ r).cO,(μ.φ r).base+idx*(μ.O r).sz,(μ.O r).sz,x,by rw[Vk],fun ib=> ?_,by rw[hw];exact(Array.getElem?_eq_some_iff.1 p1).1,
               k3.more (rs':=r::rs) (fun q hq=>by simp[hq]) B μ' hw hh,by rw[hw];exact dL⟩
              exact(hh _ ib).2 r (by simp) (by simp[bQ]) (by omega) rfl
          · exact absurd aj au
        · exact absurd aj au
      · exact absurd aj au
     · exact absurd aj au
inductive j0 (X:Ctx) (μ:Mu) (r0:Nat):Nat→List V→List Value→List Nat→List dZ→Prop
 | nil (i:Nat):j0 X μ r0 i [] [] [] []
 | plain {i:Nat} {a:V} {v:Value} {rs rs':List Nat} {as:List V} {vs:List Value} {ws:List dZ} (hp:V.aE a=true) (hs:iX X μ rs a v) (h:j0 X μ r0 (i+1) as vs rs' ws):
    j0 X μ r0 i (a::as) (v::vs) (rs++rs') ws
 | sl {i r g off len:Nat} {es:List V} {v:Value} {rs:List Nat} {as:List V} {vs:List Value} {ws:List dZ} (bQ: (μ.O r).es=some es) (gK: (μ.O r).fz=false) (cD: (μ.O r).gen=g) (mF:V.aq es=true)
    (gO:off+len≤es.length) (hv:al X μ (.sl r g off len) v) (h:j0 X μ r0 (i+1) as vs rs ws):j0 X μ r0 i (.msl (μ.O r).sz es off len::as) (v::vs) rs (⟨i,r,none⟩::ws)
 | ptr {i r g idx off:Nat} {es:List V} {v:Value} {rs:List Nat} {as:List V} {vs:List Value} {ws:List dZ} (bQ: (μ.O r).es=some es) (gK: (μ.O r).fz=false) (cD: (μ.O r).gen=g) (mF:V.aq es=true)
    (hv:al X μ (.ptr r g idx off) v) (h:j0 X μ r0 (i+1) as vs rs ws):j0 X μ r0 i (.mptr (μ.O r).sz es idx off::as) (v::vs) rs (⟨i,r,none⟩::ws)
 | fresh {i sz:Nat} {v:Value} {rs:List Nat} {as:List V} {vs:List Value} {ws:List dZ} (cP:0 <sz) (hv: ∃a,v= .slice a 0 0) (h:j0 X μ r0 (i+1) as vs rs ws):
    j0 X μ r0 i (.msl sz [] 0 0::as) (v::vs) rs (⟨i,r0+i,some sz⟩::ws)
theorem eS (ho:br X μ) {r0:Nat}: ∀ {vs:List V} {ms:List (Option Nat)} {i:Nat} {k:List V→List Nat→List dZ→Act} {vals:List Value} {p:V×St},ak X μ vs vals→
   (dx r0 vs ms i k).run C ⟨T,μ.O⟩=some p→ ∃as rs ws,(k as rs ws).run C ⟨T,μ.O⟩=some p∧j0 X μ r0 i as vals rs ws
 | [],ms,i,k,[],p,_,aj=> ⟨[],[],[],by simpa [dx] using aj,.nil i⟩
 | [],_,_,_,_::_,_,h,_=>by simp[ak] at h
 | _::_,_,_,_,[],_,h,_=>by simp[ak] at h
 | v::vs,[],i,k,val::vals,p,h,aj=>by
   simp only[ak] at h
   simp only[dx,snap] at aj
   obtain⟨v',rs,h1,h2,h3,_,_⟩:=km ho 5 h.1 aj
   obtain⟨as,rs',ws,k1,k2⟩:=eS ho h.2 h1
   exact⟨_,_,_,k1,.plain h2 h3 k2⟩
 | v::vs,m::ms,i,k,val::vals,p,h,aj=>by
   simp only[ak] at h
   simp only[dx] at aj
   split at aj
   · split at aj
     · split at aj
       · rename_i cP
         obtain⟨as,rs',ws,k1,k2⟩:=eS ho h.2 aj
         have h1:=h.1
         simp only[al] at h1
         exact⟨_,_,_,k1,.fresh cP h1 k2⟩
       · exact absurd aj au
     · rename_i r g off len
       simp only[Act.run] at aj
       split at aj
       · rename_i es bQ
         split at aj
         · rename_i hc
           obtain⟨c1,c2,c3,c4,c5⟩:=hc
           obtain⟨as,rs',ws,k1,k2⟩:=eS ho h.2 aj
           rw[←c3] at k1
           exact⟨_,_,_,k1,.sl bQ c2 c1 c5 c4 h.1 k2⟩
         · exact absurd aj au
       · exact absurd aj au
     · rename_i r g idx off
       simp only[Act.run] at aj
       split at aj
       · rename_i es bQ
         split at aj
         · rename_i hc
           obtain⟨c1,c2,c3,c4⟩:=hc
           obtain⟨as,rs',ws,k1,k2⟩:=eS ho h.2 aj
           rw[←c3] at k1
           exact⟨_,_,_,k1,.ptr bQ c2 c1 c4 h.1 k2⟩
         · exact absurd aj au
       · exact absurd aj au
     · exact absurd aj au
   · simp only[snap] at aj
     obtain⟨v',rs,h1,h2,h3,_,_⟩:=km ho 5 h.1 aj
     obtain⟨as,rs',ws,k1,k2⟩:=eS ho h.2 h1
     exact⟨_,_,_,k1,.plain h2 h3 k2⟩
end
theorem iY {X:Ctx} {C:bl} {T:Nat→V} {w:World} {φ:Nat→Row}: ∀ (rs:List Nat) {O:Nat→Obj} {k:Act} {p:V×St},br X ⟨w,φ,O⟩→(cA rs k).run C ⟨T,O⟩=some p→
   ∃O',k.run C ⟨T,O'⟩=some p∧Le ⟨w,φ,O⟩ ⟨w,φ,O'⟩∧br X ⟨w,φ,O'⟩∧(∀r,r ∉ rs→O' r=O r)∧(∀r,r ∈ rs→O' r={O r with fz:=true})
 | [],O,k,p,ho,h=> ⟨O,h,Le.refl _,ho,fun _ _=>rfl,fun r hr=>by simp at hr⟩
 | q::rs,O,k,p,ho,h=>by
   simp only[cA,Act.run] at h
   obtain⟨l1,o1⟩:=pF ho q
   obtain⟨O',h1,h2,h3,h4,h5⟩:=iY rs o1 h
   refine⟨O',h1,l1.trans h2,h3,fun r hr=> ?_,fun r hr=> ?_⟩
   · have rN:r≠q∧r ∉ rs:=by simpa using hr
     rw[h4 r rN.2,aY _ _ rN.1]
   · by_cases hm:r ∈ rs
     · rw[h5 r hm]
       by_cases e:r=q
       · subst e;simp[aD]
       · simp[aY _ _ e]
     · have e:r=q:=by
        rcases List.mem_cons.1 hr with e| hr
        · exact e
        · exact absurd hr hm
       subst e
       rw[h4 r hm,aD]
theorem zf {X:Ctx} {C:bl} {T:Nat→V} {μ:Mu} (ho:br X μ) {v:V} {val:Value} {p:V×St} (hv:al X μ v val) (aj: (snap v fun v' rs=>cA rs (.done v')).run C ⟨T,μ.O⟩=some p):
   ∃c' O',(Act.done c').run C ⟨T,O'⟩=some p∧al X ⟨μ.w,μ.φ,O'⟩ c' val∧Le μ ⟨μ.w,μ.φ,O'⟩∧br X ⟨μ.w,μ.φ,O'⟩:=by
 obtain⟨v',rs,h1,_,h3,_,_⟩:=km ho 5 hv aj
 obtain⟨O',k1,k2,k3,k4,k5⟩:=iY (w:=μ.w) (φ:=μ.φ) rs ho h1
 refine⟨v',O',k1,?_,k2,k3⟩
 refine h3 X.IU ⟨μ.w,μ.φ,O'⟩ rfl fun b hb=> ?_
 rcases hb with⟨r',q1,q2,q3,q4⟩ | hb
 · simp only at q1 q2 q3 q4
   by_cases hm:r' ∈ rs
   · rw[k5 r' hm] at q2;simp at q2
   · rw[k4 r' hm] at q1 q2
     refine⟨.inl ⟨r',q1,q2,q3,q4⟩,fun r hr hs hc e=> ?_⟩
     exact ho.inj r' r (fun e'=>hm (e' ▸ hr)) q1 hs q3 hc (q4.trans e)
 · exact⟨.inr hb,fun r hr hs hc e=>ho.sx r hs hc (e ▸ hb)⟩
end Go.AM
namespace Go.AM
open Go Go.RowKit Go.MapKept
section
variable {X:Ctx} {E:Env} {C:bl} {o:Oper} {a:Go.Act} {T:Nat→V} {μ:Mu} {v:V} {σ':St}
def GI (e:MapEntry):Value:= .tuple #[e.key,e.val]
def iA (q:Option IntKind) (d:TypeDesc):Prop:=match q with
 | some q=>d= .int q
 | none=>d= .string
theorem FQ {q:Option IntKind} {d:TypeDesc} {k:V} {kv:Value} (hd:iA q d) (hk:isKey q k=true) (hv:al X μ k kv):IsKey d kv:=by
 unfold isKey at hk
 unfold iA at hd
 split at hk
 · simp only[al] at hv
   subst hv;subst hd
   simpa [IsKey] using hk
 · simp only[al] at hv
   obtain⟨bs,rfl,_⟩:=hv
   subst hd
   simp[IsKey]
 · simp at hk
theorem om {q:Option IntKind} {d:TypeDesc} {k k':V} {kv TJ:Value} {b:Bool} (hd:iA q d) (hk:isKey q k=true) (h1:al X μ k kv) (h2:al X μ k' TJ) (h:vT k k'=some b):
   Instr.sameNow d kv TJ=some b∧(b=true→TJ=kv):=by
 unfold vT at h
 split at h
 · simp only[al] at h1 h2
   subst h1;subst h2
   split at h
   · rename_i e
     subst e
     injection h with h
     subst h
     have: ∃q',d= .int q':=by
       unfold isKey at hk
       unfold iA at hd
       cases q<;>simp_all
     obtain⟨q',rfl⟩:=this
     refine⟨by simp[Instr.sameNow],fun hb=> ?_⟩
     simp only[beq_iff_eq] at hb
     rw[hb]
   · simp at h
 · simp only[al] at h1 h2
   obtain⟨x,rfl,rfl⟩:=h1
   obtain⟨y,rfl,rfl⟩:=h2
   injection h with h
   subst h
   have:d= .string:=by
     unfold isKey at hk
     unfold iA at hd
     cases q<;>simp_all
   subst this
   have D6: (x==y)=decide (x.data.toList=y.data.toList):=by
     rw[Bool.eq_iff_iff,bytes_beq,decide_eq_true_eq]
     constructor
     · rintro rfl;rfl
     · intro h
       cases x;cases y
       simp only[ByteArray.mk.injEq]
       exact Array.toList_inj.1 h
   refine⟨by simp[Instr.sameNow,D6],fun hb=> ?_⟩
   rw[←D6,bytes_beq] at hb
   rw[hb]
 · simp at h
theorem B6 {e:V} {me:MapEntry} (h:al X μ e (GI me)) {k v:V} (he:e= .tuple [k,v]):al X μ k me.key∧al X μ v me.val:=by
 subst he
 simp only[GI,al] at h
 obtain⟨vs,h1,h2⟩:=h
 injection h1 with h1
 subst h1
 simpa [ak] using h2
theorem xx {k v:V} {me:MapEntry} (h1:al X μ k me.key) (h2:al X μ v me.val):al X μ (.tuple [k,v]) (GI me):=by
 simp only[GI,al]
 exact⟨_,rfl,by simp[ak,h1,h2]⟩
theorem nr {q:Option IntKind} {d:TypeDesc} {k:V} {kv:Value} (hd:iA q d) (hk:isKey q k=true) (h1:al X μ k kv): ∀ {es:List V} {ents:List MapEntry} {i:Nat} {r:Option V},ak X μ es (ents.map GI)→cB k es=some r→
   (r=none∧Instr.findNow d kv ents i=some none)∨ ∃v j e,r=some v∧Instr.findNow d kv ents i=some (some (j,e))∧al X μ v e
 | [],[],i,r,_,h=>by simp[cB] at h;subst h;exact .inl ⟨rfl,rfl⟩
 | [],_::_,_,_,h,_=>by simp[ak] at h
 | _::_,[],_,_,h,_=>by simp[ak] at h
 | e::es,m::ents,i,r,hr,h=>by
   simp only[List.map_cons,ak] at hr
   unfold cB at h
   split at h
   · rename_i heq;simp at heq
   · rename_i k' v' es' heq
     injection heq with e1 e2
     subst e2
     obtain⟨t1,t2⟩:=B6 hr.1 e1
     split at h
     · rename_i hq
       injection h with h
       subst h
       obtain⟨s1,_⟩:=om hd hk h1 t1 hq
       exact .inr ⟨v',i,m.val,rfl,by simp[Instr.findNow,s1],t2⟩
     · rename_i hq
       obtain⟨s1,_⟩:=om hd hk h1 t1 hq
       rcases nr hd hk h1 (i:=i+1) hr.2 h with⟨g1,g2⟩ | ⟨v,j,x,g1,g2,g3⟩
       · exact .inl ⟨g1,by simp[Instr.findNow,s1,g2]⟩
       · exact .inr ⟨v,j,x,g1,by simp[Instr.findNow,s1,g2],g3⟩
     · simp at h
   · simp at h
theorem uP {q:Option IntKind} {d:TypeDesc} {k u:V} {kv val:Value} (hd:iA q d) (hk:isKey q k=true) (h1:al X μ k kv) (h2:al X μ u val): ∀ {es es':List V} {ents:List MapEntry} {i:Nat},ak X μ es (ents.map GI)→jD k u es=some es'→
   (Instr.findNow d kv ents i=some none∧ ∀c,ak X μ es' ((ents++[({key:=kv,val:=val,born:=c}:MapEntry)]).map GI))∨
   ∃j e,Instr.findNow d kv ents i=some (some (i+j,e.val))∧ents[j]? =some e∧e.key=kv∧ak X μ es' ((ents.set j ({key:=kv,val:=val,born:=e.born}:MapEntry)).map GI)
 | [],es',[],i,_,h=>by
   simp[jD] at h;subst h
   exact .inl ⟨rfl,fun c=>by simp only[List.nil_append,List.map_cons,List.map_nil,ak];exact⟨xx (me:={key:=kv,val:=val,born:=c}) h1 h2,trivial⟩⟩
 | [],_,_::_,_,h,_=>by simp[ak] at h
 | _::_,_,[],_,h,_=>by simp[ak] at h
 | e::es,es',m::ents,i,hr,h=>by
   simp only[List.map_cons,ak] at hr
   unfold jD at h
   split at h
   · rename_i heq;simp at heq
   · rename_i k' v' PU heq
     injection heq with e1 e2
     subst e2
     obtain⟨t1,t2⟩:=B6 hr.1 e1
     split at h
     · rename_i hq
       injection h with h
       subst h
       obtain⟨s1,s2⟩:=om hd hk h1 t1 hq
       exact .inr ⟨0,m,by simp[Instr.findNow,s1],rfl,s2 rfl,by simp only[List.set_cons_zero,List.map_cons,ak];exact⟨xx (me:={key:=kv,val:=val,born:=m.born}) h1 h2,hr.2⟩⟩
     · rename_i hq
       obtain⟨s1,_⟩:=om hd hk h1 t1 hq
       rw[Option.map_eq_some_iff] at h
       obtain⟨Yf,g0,rfl⟩:=h
       rcases uP hd hk h1 h2 (i:=i+1) hr.2 g0 with⟨g1,g2⟩ | ⟨j,x,g1,g2,g3,g4⟩
       · exact .inl ⟨by simp[Instr.findNow,s1,g1],fun c=>by simp only[List.cons_append,List.map_cons,ak];exact⟨xx t1 t2,g2 c⟩⟩
       · exact .inr ⟨j+1,x,by simp[Instr.findNow,s1,g1];omega,by simpa using g2,g3,by simp only[List.set_cons_succ,List.map_cons,ak];exact⟨xx t1 t2,g4⟩⟩
     · simp at h
   · simp at h
theorem FR {t:TypeId} {rs:Option Operand} {r:Nat} (hr:Rel X T a μ) (ho:o.op= .makeMap t rs) (TK:rs=none) (aj: (av E (.mkMap r)).run C ⟨T,μ.O⟩=some (v,σ')):σ'.T=T∧cM X o a μ σ'.O v:=by
 subst TK
 simp only[av,Act.run,Option.some.injEq,Prod.mk.injEq] at aj
 obtain⟨rfl,rfl⟩:=aj
 obtain⟨le,fI⟩:=qH hr.bd r (.map #[] 0) [] (.inl ⟨#[],0,rfl,by simp[ak],by simp[uy]⟩)
 refine⟨rfl,.map (some μ.w.heap.size),_,_,.inl ?_,?_,le,fI⟩
 · simp only[execOp,ho]
   refine cq ?_
   simp[Instr.makeMap,Sem.run_bind]
 · simp only[al,aD]
   exact⟨_,rfl,Nat.le_refl _,fun _=> ⟨trivial,rfl⟩⟩
theorem DB {  t kt et:TypeId} {d:TypeDesc} {x i:Operand} {x' i':aT} {ok:Bool} {q:Option IntKind} {z:V} (hr:Rel X T a μ) (ho:o.op= .lookup t x i ok) (ht:bq X t=some (.map kt et)) (FT:bq X kt=some d) (hd:iA q d)
   (hz:ez X et=some z) (h1:cZ X x=some x') (h2:cZ X i=some i') (aj: (av E (.iN q ok z x' i')).run C ⟨T,μ.O⟩=some (v,σ')):σ'.T=T∧cM X o a μ σ'.O v:=by
 simp only[av,bD] at aj
 have hx:=aS hr h1 μ.O
 have hi:=aS hr h2 μ.O
 have ky:X.P.underlying t=some (.map kt et):=ht
 have rY:X.P.underlying kt=some d:=FT
 obtain⟨zv,vh,wq⟩:=gL hz μ.w
 obtain⟨uH,FC⟩:=eG (X:=X) (μ:=μ) wq
 split at aj
 · rename_i DC
   have vz:=FQ hd DC hi
   have main: ∀ {es:List V} {ents:Array MapEntry} {m:Option Nat},ak X μ es (ents.toList.map GI)→(eE ok z es (bn ⟨T,μ.O⟩ i')).run C ⟨T,μ.O⟩=some (v,σ')→a.eval x= .map m→
       (match m with| none=>ents= #[] | some r=> ∃clock,μ.w.heap[r]? =some (.map ents clock))→σ'.T=T∧cM X o a μ σ'.O v:=by
     intro es ents m bV ns hm hb
     have fin: ∀ (u:Value) (b:Bool),(match Instr.findNow d (a.eval i) ents.toList 0 with
         | some (some (_,v))=>u=v∧b=true
         | some none=>u=zv∧b=false
         | none=>False)→(execOp a.eval o).run X.P μ.w= .ok (.value (if ok then .tuple #[u,.bool b] else u)) μ.w:=by
       intro u b hf
       simp only[execOp,ho]
       refine cq ?_
       cases ra:Instr.findNow d (a.eval i) ents.toList 0 with
       | none=>rw[ra] at hf;exact hf.elim
       | some r=>
         rw[ra] at hf
         cases m with
         | none=>
           simp only at hb
           subst hb
           cases r with
           | none=>
             simp only at hf;obtain⟨rfl,rfl⟩:=hf
             cases ok<;>simp[Instr.lookup,Sem.run_bind,run_underlying ky,Result.andThen,hm,Go.MapKept.run_checkKey rY vz,Go.MapKept.run_findKey (l:=[]) rY (by simpa using ra),vh]
           | some p=>
             obtain⟨j,y⟩:=p
             simp only at hf;obtain⟨rfl,rfl⟩:=hf
             cases ok<;>simp[Instr.lookup,Sem.run_bind,run_underlying ky,Result.andThen,hm,Go.MapKept.run_checkKey rY vz,Go.MapKept.run_findKey (l:=[]) rY (by simpa using ra)]
         | some rr=>
           obtain⟨clock,hb⟩:=hb
           cases r with
           | none=>
             simp only at hf;obtain⟨rfl,rfl⟩:=hf
             cases ok<;>simp[Instr.lookup,Sem.run_bind,run_underlying ky,Result.andThen,hm,Go.MapKept.run_getObj_map hb,Go.MapKept.run_checkKey rY vz,Go.MapKept.run_findKey rY ra,vh]
           | some p=>
             obtain⟨j,y⟩:=p
             simp only at hf;obtain⟨rfl,rfl⟩:=hf
             cases ok<;>simp[Instr.lookup,Sem.run_bind,run_underlying ky,Result.andThen,hm,Go.MapKept.run_getObj_map hb,Go.MapKept.run_checkKey rY vz,Go.MapKept.run_findKey rY ra]
     unfold eE at ns
     split at ns
     · rename_i y hy
       obtain⟨rfl,rfl⟩:=aX ns
       rcases nr hd DC hi (i:=0) bV hy with⟨g1,_⟩ | ⟨v0,j,e,g1,g2,g3⟩
       · cases g1
       · injection g1 with g1
         subst g1
         refine⟨rfl,aM hr.bd (fin e true (by rw[g2];exact⟨rfl,rfl⟩)) ?_⟩
         cases ok
         · simpa using g3
         · simp only[if_true,al];exact⟨_,rfl,by simp[ak,al,g3]⟩
     · rename_i hy
       obtain⟨rfl,rfl⟩:=aX ns
       rcases nr hd DC hi (i:=0) bV hy with⟨_,g2⟩ | ⟨v0,j,e,g1,g2,g3⟩
       · refine⟨rfl,aM hr.bd (fin zv false (by rw[g2];exact⟨rfl,rfl⟩)) ?_⟩
         cases ok
         · simpa using uH
         · simp only[if_true,al];exact⟨_,rfl,by simp[ak,al,uH]⟩
       · cases g1
     · exact absurd ns au
   split at aj
   · rename_i r g e
     rw[e] at hx
     simp only[al] at hx
     obtain⟨b,hp,wk,cK⟩:=hx
     simp only[Act.run] at aj
     split at aj
     · rename_i es bQ
       split at aj
       · rename_i hc
         obtain⟨k0,rfl⟩:=cK hc.1
         rcases hr.bd.ents r es bQ hc.2 with⟨ed,ents,clock,hm,bV,_⟩ | ⟨_,s,pos,_,rfl⟩ | ⟨mC,rfl⟩
         · exact main bV aj hp ⟨clock,hm⟩
         · exact absurd (by simpa [eE,cB] using aj) au
         · exact absurd (by simpa [eE,cB] using aj) au
       · exact absurd aj au
     · exact absurd aj au
   · rename_i es e
     rw[e] at hx
     simp only[al] at hx
     obtain⟨_,⟨rfl,hp⟩ | ⟨b,ents,clock,hp,_,_,⟨hm,_⟩,bV⟩⟩:=hx
     · exact main (ents:= #[]) (by simp[ak]) aj hp rfl
     · exact main bV aj hp ⟨clock,hm⟩
   · exact absurd aj au
 · exact absurd aj au
theorem DD {ents:Array MapEntry} {clock:Nat} (h:uy ents clock) (e:MapEntry) (he:e.born=clock):uy (ents.push e) (clock+1):=by
 obtain⟨h1,h2⟩:=h
 refine⟨fun x hx=> ?_,?_⟩
 · rw[Array.toList_push,List.mem_append,List.mem_singleton] at hx
   rcases hx with hx| rfl
   · have:=h1 x hx;omega
   · omega
 · rw[Array.toList_push,List.map_append,List.nodup_append]
   refine⟨h2,by simp,fun a ha b hb=> ?_⟩
   simp only[List.map_cons,List.map_nil,List.mem_singleton] at hb
   obtain⟨x,hx,rfl⟩:=List.mem_map.1 ha
   have:=h1 x hx
   omega
theorem zg {ents:Array MapEntry} {clock:Nat} (h:uy ents clock) (j:Nat) {f:MapEntry→MapEntry} (hf: ∀e,(f e).born=e.born):uy (ents.modify j f) clock:=by
 have hm: (ents.modify j f).toList.map (·.born)=ents.toList.map (·.born):=by
  apply List.ext_getElem?
  intro n
  simp only[List.getElem?_map,Array.toList_modify,List.getElem?_modify]
  cases ents.toList[n]? with
  | none=>rfl
  | some x=>
    simp only[Option.map_some]
    split
    · simp[hf]
    · rfl
 refine⟨fun x hx=> ?_,by rw[hm];exact h.2⟩
 have:x.born ∈ (ents.modify j f).toList.map (·.born):=List.mem_map.2 ⟨x,hx,rfl⟩
 rw[hm] at this
 obtain⟨y,hy,e⟩:=List.mem_map.1 this
 rw[←e];exact h.1 y hy
theorem wB {     t kt et:TypeId} {d:TypeDesc} {x i y:Operand} {x' i' y':aT} {q:Option IntKind} (hr:Rel X T a μ) (ho:o.op= .mapUpdate t x i y∨o.op= .insert t x i y) (ht:bq X t=some (.map kt et)) (FT:bq X kt=some d) (hd:iA q d)
   (h1:cZ X x=some x') (h2:cZ X i=some i') (h3:cZ X y=some y') (aj: (av E (.pk q x' i' y')).run C ⟨T,μ.O⟩=some (v,σ')):σ'.T=T∧cM X o a μ σ'.O v:=by
 simp only[av,bD] at aj
 have hx:=aS hr h1 μ.O
 have hi:=aS hr h2 μ.O
 have hy:=aS hr h3 μ.O
 have ky:X.P.underlying t=some (.map kt et):=ht
 have rY:X.P.underlying kt=some d:=FT
 split at aj
 · rename_i r g e
   rw[e] at hx
   simp only[bD] at aj
   obtain⟨u,O1,k1,k2,k3,k4⟩:=kR (μ:=μ) hr.bd hy aj
   have R4:=al.mono k3 hx
   have va:=al.mono k3 hi
   simp only[Act.run] at k1
   split at k1
   · rename_i es bQ
     split at k1
     · rename_i hc
       obtain⟨cD,cP,gK,DC,kS⟩:=hc
       split at k1
       · rename_i es' gZ
         simp only[Act.run,Option.some.injEq,Prod.mk.injEq] at k1
         obtain⟨rfl,rfl⟩:=k1
         simp only[al] at R4
         obtain⟨b,hp,wk,cK⟩:=R4
         obtain⟨_,rfl⟩:=cK cD
         obtain⟨ed,ents,clock,hm,bV,kQ⟩: (μ.φ r).cap≠0∧ ∃ents clock,μ.w.heap[(μ.φ r).cO]? =some (.map ents clock)∧ak X ⟨μ.w,μ.φ,O1⟩ es (ents.toList.map GI)∧uy ents clock:=by
           rcases k4.ents r es bQ cP with h| ⟨_,s,pos,_,rfl⟩ | ⟨mC,rfl⟩
           · exact h
           · simp[jD] at gZ
           · simp[jD] at gZ
         have vz:=FQ hd DC va
         have fin: ∀w',(Instr.mapUpdate t (.map (some (μ.φ r).cO)) (a.eval i) (a.eval y)).run X.P μ.w= .ok () w'→(execOp a.eval o).run X.P μ.w= .ok .skip w':=fun w' hw=>by
           rcases ho with ho| ho
           · simp only[execOp,ho,hp];exact Fm hw
           · simp only[execOp,ho,hp];exact Fm hw
         rcases uP hd DC va k2 (i:=0) bV gZ with⟨g1,g2⟩ | ⟨j,e,g1,g2,g3,g4⟩
         · obtain⟨le,fI⟩:=pG (μ:=⟨μ.w,μ.φ,O1⟩) k4 r (es':=es') (ob':= .map (ents.push {key:=a.eval i,val:=a.eval y,born:=clock}) (clock+1)) bQ gK cP hm ed (.inl ⟨ents,clock,rfl,bV,kQ⟩) (.inl ⟨_,_,rfl,by
            have:=g2 clock
            have e1: (ents.push ({key:=a.eval i,val:=a.eval y,born:=clock}:MapEntry)).toList=ents.toList++[({key:=a.eval i,val:=a.eval y,born:=clock}:MapEntry)]:=by simp
            rw[e1];exact this,DD kQ _ rfl⟩)
           refine⟨rfl,undef,_,_,.inr ⟨fin _ ?_,rfl⟩,by simp only[al];exact⟨#[],rfl,by simp[ak]⟩,k3.trans le,fI⟩
           simp[Instr.mapUpdate,run_underlying ky,Go.MapKept.run_getObj_map hm,Go.MapKept.run_checkKey rY vz,Go.MapKept.run_findKey rY g1,Go.MapKept.run_setObj_map _ hm,Result.andThen,Sem.run_bind]
         · rw[Nat.zero_add] at g1
           have WI:ents[j]? =some e:=by simpa using g2
           obtain⟨le,fI⟩:=pG (μ:=⟨μ.w,μ.φ,O1⟩) k4 r (es':=es') (ob':= .map (ents.modify j fun e=> {e with key:=a.eval i,val:=a.eval y}) (clock)) bQ gK cP hm ed (.inl ⟨ents,clock,rfl,bV,kQ⟩) (.inl ⟨_,_,rfl,by
            have hl: (ents.modify j fun e=> {e with key:=a.eval i,val:=a.eval y}).toList=ents.toList.set j {e with key:=a.eval i,val:=a.eval y}:=by
              apply List.ext_getElem?
              intro n
              rw[Array.toList_modify,List.getElem?_modify,List.getElem?_set]
              by_cases hn:j=n
              · subst hn
                have bk:=(List.getElem?_eq_some_iff.1 g2).1
                simp only[if_true,bk,g2,Option.map_some,and_self]
                rfl
              · simp[hn]
            rw[hl];exact g4,zg kQ j fun _=>rfl⟩)
           refine⟨rfl,undef,_,_,.inr ⟨fin _ ?_,rfl⟩,by simp only[al];exact⟨#[],rfl,by simp[ak]⟩,k3.trans le,fI⟩
           simp[Instr.mapUpdate,run_underlying ky,Go.MapKept.run_getObj_map hm,Go.MapKept.run_checkKey rY vz,Go.MapKept.run_findKey rY g1,WI,g3,Go.MapKept.run_keyThatStays vz,Go.MapKept.run_setObj_map _ hm,Result.andThen,Sem.run_bind]
       · exact absurd k1 au
     · exact absurd k1 au
   · exact absurd k1 au
 · exact absurd aj au
theorem mn {P:Program} {w:World} {r:Nat} {s:ByteArray} {pos:Nat} (hb:w.heap[r]? =some (.stringIter s pos)): (getObj r).run P w= .ok (.stringIter s pos) w:=by
 simp[getObj,Sem.run,hb]
theorem mq {P:Program} {w:World} {r:Nat} {s:ByteArray} {pos:Nat} (o:Go.Obj) (hb:w.heap[r]? =some (.stringIter s pos)): (setObj r o).run P w= .ok () {w with heap:=w.heap.setIfInBounds r o}:=by
 simp[setObj,Sem.run,hb]
theorem AZ {t:TypeId} {x:Operand} {y:aT} {r:Nat} (hr:Rel X T a μ) (ho:o.op= .range t x) (ht:bq X t=some .string) (h1:cZ X x=some y) (aj: (av E (.qj r y)).run C ⟨T,μ.O⟩=some (v,σ')):σ'.T=T∧cM X o a μ σ'.O v:=by
 simp only[av,bD] at aj
 have hx:=aS hr h1 μ.O
 have ky:X.P.underlying t=some .string:=ht
 split at aj
 · rename_i s e
   rw[e] at hx
   simp only[al] at hx
   obtain⟨bs,hp,rfl⟩:=hx
   simp only[Act.run,Option.some.injEq,Prod.mk.injEq] at aj
   obtain⟨rfl,rfl⟩:=aj
   obtain⟨le,fI⟩:=qH hr.bd r (.stringIter bs 0) [.str bs.data.toList,.int .i64 0] (.inr (.inl ⟨bs,0,rfl,rfl⟩))
   refine⟨rfl,.pointer (some ⟨μ.w.heap.size,0,none⟩),_,_,.inl ?_,?_,le,fI⟩
   · simp only[execOp,ho]
     refine cq ?_
     simp[Instr.range,Sem.run_bind,run_underlying ky,hp,Result.andThen]
   · simp only[al,aD]
     exact⟨_,rfl,Nat.le_refl _,fun _=> ⟨trivial,rfl⟩⟩
 · exact absurd aj au
theorem A0 {t kt et:TypeId} {x:Operand} {y:aT} {r:Nat} (hr:Rel X T a μ) (ho:o.op= .range t x) (ht:bq X t=some (.map kt et)) (h1:cZ X x=some y) (aj: (av E (.mapIter r y)).run C ⟨T,μ.O⟩=some (v,σ')):σ'.T=T∧cM X o a μ σ'.O v:=by
 simp only[av,bD] at aj
 have hx:=aS hr h1 μ.O
 have ky:X.P.underlying t=some (.map kt et):=ht
 split at aj
 · rename_i es e
   rw[e] at hx
   simp only[al] at hx
   simp only[Act.run,Option.some.injEq,Prod.mk.injEq] at aj
   obtain⟨rfl,rfl⟩:=aj
   obtain⟨_,⟨rfl,hp⟩ | ⟨b,ents,clock,hp,kf,bk,⟨hm,kQ⟩,bV⟩⟩:=hx
   · obtain⟨le,fI⟩:=qH hr.bd r (.mapIter none 0 #[] 0) [.mlit []] (.inr (.inr ⟨none,0,[],rfl,rfl,.inl ⟨rfl,rfl⟩⟩))
     refine⟨rfl,.pointer (some ⟨μ.w.heap.size,0,none⟩),_,_,.inl ?_,?_,le,fI⟩
     · simp only[execOp,ho]
       refine cq ?_
       simp[Instr.range,Sem.run_bind,run_underlying ky,hp,Result.andThen]
     · simp only[al,aD]
       exact⟨_,rfl,Nat.le_refl _,fun _=> ⟨trivial,rfl⟩⟩
   · obtain⟨le,fI⟩:=qH hr.bd r (.mapIter (some b) clock #[] clock) [.mlit es] (.inr (.inr ⟨some b,clock,es,rfl,rfl,.inr ⟨b,ents,rfl,kf,bk,hm,kQ,bV⟩⟩))
     refine⟨rfl,.pointer (some ⟨μ.w.heap.size,0,none⟩),_,_,.inl ?_,?_,le,fI⟩
     · simp only[execOp,ho]
       refine cq ?_
       simp[Instr.range,Sem.run_bind,run_underlying ky,hp,Result.andThen,Go.MapKept.run_getObj_map hm]
     · simp only[al,aD]
       exact⟨_,rfl,Nat.le_refl _,fun _=> ⟨trivial,rfl⟩⟩
 · exact absurd aj au
theorem A3 {  x:Operand} {y:aT} (hr:Rel X T a μ) (ho:o.op= .next x true) (h1:cZ X x=some y) (aj: (av E (.qk y)).run C ⟨T,μ.O⟩=some (v,σ')):σ'.T=T∧cM X o a μ σ'.O v:=by
 simp only[av,bD] at aj
 have hx:=aS hr h1 μ.O
 split at aj
 · rename_i r g e
   rw[e] at hx
   simp only[al] at hx
   obtain⟨b,hp,wk,cK⟩:=hx
   simp only[Act.run] at aj
   split at aj
   · rename_i s p bQ
     split at aj
     · rename_i hc
       obtain⟨cD,cP,gK⟩:=hc
       obtain⟨_,rfl⟩:=cK cD
       rcases hr.bd.ents r _ bQ cP with⟨ed,ents,clock,hm,bV,_⟩ | ⟨ed,bs,pos,hm,hs⟩ | ⟨mC,hs⟩
       · exfalso
         cases he:ents.toList with
         | nil=>simp[he,ak] at bV
         | cons e es=>simp[he,ak,al] at bV
       · simp only[List.cons.injEq,V.str.injEq,V.int.injEq,true_and,and_true] at hs
         obtain⟨rfl,rfl⟩:=hs
         simp only[Int.toNat_natCast] at aj
         have hlen:bs.data.toList.length=bs.size:=by rw[Array.length_toList];rfl
         have AS: (⟨bs.data.toList.toArray⟩:ByteArray)=bs:=by cases bs;simp
         rw[hlen,AS] at aj
         split at aj
         · rename_i bk
           simp only[Act.run,Option.some.injEq,Prod.mk.injEq] at aj
           obtain⟨rfl,rfl⟩:=aj
           obtain⟨le,fI⟩:=pG hr.bd r (es':=[.str bs.data.toList,.int .i64 ((pos+(Utf8.decode bs pos).2:Nat):Int)]) (ob':= .stringIter bs (pos+(Utf8.decode bs pos).2)) bQ gK cP hm ed (.inr (.inl ⟨bs,pos,rfl,rfl⟩)) (.inr (.inl ⟨bs,_,rfl,rfl⟩))
           refine⟨rfl,.tuple #[.bool true,goInt pos,.int .i32 ((Utf8.decode bs pos).1:Int)],_,_,.inl ?_,?_,le,fI⟩
           · simp only[execOp,ho]
             refine cq ?_
             simp[Instr.next,Sem.run_bind,hp,Result.andThen,mn hm,mq _ hm,bk,-bind_pure_comp]
           · simp only[al]
             exact⟨_,rfl,by simp[ak,al,goInt]⟩
         · rename_i bk
           obtain⟨rfl,rfl⟩:=aX aj
           refine⟨rfl,aM hr.bd (val:= .tuple #[.bool false]) ?_ ?_⟩
           · simp only[execOp,ho]
             refine cq ?_
             simp[Instr.next,Sem.run_bind,hp,Result.andThen,mn hm,mq _ hm,bk,-bind_pure_comp]
           · simp only[al]
             exact⟨_,rfl,by simp[ak,al]⟩
       · simp at hs
     · exact absurd aj au
   · exact absurd aj au
 · exact absurd aj au
theorem B7 {x:Operand} {y:aT} (hr:Rel X T a μ) (ho:o.op= .move x∨o.op= .assign x) (ht:cZ X x=some y) (aj: (av E (.wX y)).run C ⟨T,μ.O⟩=some (v,σ')):σ'.T=T∧cM X o a μ σ'.O v:=by
 simp only[av,bD] at aj
 have kj: (execOp a.eval o).run X.P μ.w= .ok (.value (a.eval x)) μ.w:=by rcases ho with ho| ho<;>simp[execOp,ho]
 obtain⟨u,O1,k1,k2,k3,k4⟩: ∃c' O',(Act.done c').run C ⟨T,O'⟩=some (v,σ')∧al X ⟨μ.w,μ.φ,O'⟩ c' (a.eval x)∧Le μ ⟨μ.w,μ.φ,O'⟩∧br X ⟨μ.w,μ.φ,O'⟩:=by
  split at aj
  · exact zf hr.bd (aS hr ht μ.O) aj
  · exact kR (μ:=μ) hr.bd (aS hr ht μ.O) aj
 obtain⟨rfl,rfl⟩:=aX k1
 exact⟨rfl,a.eval x,μ.w,μ.φ,.inl kj,k2,k3,k4⟩
end
end Go.AM
namespace Go.AM
open Go Go.RowKit
def q9.ig:q9→Bool
 | .call .. =>true
 | _=>false
section
variable {X:Ctx} {E:Env} {C:bl} {o:Oper} {a:Go.Act} {T:Nat→V} {μ:Mu} {v:V} {σ':St}
theorem H4 {p:V×St} {σ:St}: (av E .bad).run C σ≠some p:=by simp[av,Act.run]
theorem A4 {h:Hints} {dst:Nat} {c:Call} {oC:q9} (hr:Rel X T a μ) (ho:o.op= .call c) (aP:uw X h dst c=some oC) (AX:oC.ig=false)
   (aj: (av E oC).run C ⟨T,μ.O⟩=some (v,σ')):σ'.T=T∧cM X o a μ σ'.O v:=by
 unfold uw at aP
 split at aP
 · split at aP
   · injection aP with aP;subst aP;simp[q9.ig] at AX
   · simp at aP
 · simp at aP
 · rename_i b hc
   have iV: ∀ {α:Type} (l:Array α) (m:List α),l.toList=m→l=m.toArray:=fun l m e=>by rw[←e]
   split at aP
   · rename_i x t h1 h2
     have e1:=iV _ _ h1;have e2:=iV _ _ h2
     split at aP
     · rename_i x' e hx hd
       injection aP with aP;subst aP
       exact LY hr ho hc e1 e2 hd hx aj
     · rename_i x' hx hd
       injection aP with aP;subst aP
       exact Dr hr ho hc e1 e2 hd hx aj
     · rename_i x' n e hx hd
       injection aP with aP;subst aP
       exact Dt hr ho hc e1 e2 hd aj
     · simp at aP
   · rename_i xs _
     simp only[Option.map_eq_some_iff] at aP
     obtain⟨as,h1,rfl⟩:=aP
     exact LZ hr ho hc h1 aj
   · rename_i xs _
     simp only[Option.map_eq_some_iff] at aP
     obtain⟨as,h1,rfl⟩:=aP
     exact L0 hr ho hc h1 aj
   · rename_i s x t t' h1 h2
     have e1:=iV _ _ h1;have e2:=iV _ _ h2
     split at aP
     · rename_i s' x' e d hs hx hd Ea
       split at aP
       · rename_i sz i z e' hn hi hz
         split at aP<;>simp at aP
         rename_i hb
         subst aP
         split at aj
         · exact uO hr ho hc e1 e2 hd Ea (by simp) hn hi hz hb hs hx aj
         · exact wA hr ho hc e1 e2 hd Ea (by simp) hn hi hz hb hs hx aj
       · rename_i sz i z hn hi hz
         split at aP<;>simp at aP
         rename_i hb
         subst aP
         split at aj
         · exact uO hr ho hc e1 e2 hd Ea (by simp) hn hi hz hb hs hx aj
         · exact wA hr ho hc e1 e2 hd Ea (by simp) hn hi hz hb hs hx aj
       · simp at aP
     · simp at aP
   · rename_i d s t t' h1 h2
     have e1:=iV _ _ h1;have e2:=iV _ _ h2
     split at aP
     · rename_i d' s' e hd hs ht
       simp only[Option.map_eq_some_iff] at aP
       obtain⟨sz,hn,rfl⟩:=aP
       exact H3 hr ho hc e1 e2 ht hn hd hs aj
     · simp at aP
   · rename_i x t h1 h2
     have e1:=iV _ _ h1;have e2:=iV _ _ h2
     split at aP
     · rename_i x' e hx hd
       split at aP
       · rename_i sz z hn hz
         injection aP with aP;subst aP
         exact FP hr ho hc e1 e2 hd hz hx aj
       · simp at aP
     · simp at aP
   · simp at aP
theorem lS {kt:TypeId} {q:Option IntKind} (h:qD X kt=some q): ∃d,bq X kt=some d∧iA q d:=by
 unfold qD at h
 split at h
 · rename_i k hk
   injection h with h;subst h
   exact⟨_,hk,rfl⟩
 · rename_i hk
   injection h with h;subst h
   exact⟨_,hk,rfl⟩
 · simp at h
theorem FU (mE: ∀t1 t2 k,X.iU t1=some k→X.iU t2=some k→t1=t2) {h:Hints} {dst:Nat} {oC:q9} (hr:Rel X T a μ) (aP:vy X h dst o.op=some oC) (AX:oC.ig=false)
  (aj: (av E oC).run C ⟨T,μ.O⟩=some (v,σ')):σ'.T=T∧cM X o a μ σ'.O v:=by
 cases dX:o.op<;>simp only[vy,dX] at aP<;>try (simp at aP;done)
 case move x=>
  split at aP
  · simp only[Option.map_eq_some_iff] at aP
    obtain⟨y,h1,rfl⟩:=aP
    exact B4 hr (.inl dX) h1 aj
  · split at aP
    ·  simp only[Option.map_eq_some_iff] at aP
       obtain⟨y,h1,rfl⟩:=aP
       exact B7 hr (.inl dX) h1 aj
    · exact IV hr (.inl dX) aP aj
 case assign x=>
  split at aP
  · simp only[Option.map_eq_some_iff] at aP
    obtain⟨y,h1,rfl⟩:=aP
    exact B4 hr (.inr dX) h1 aj
  · split at aP
    ·  simp only[Option.map_eq_some_iff] at aP
       obtain⟨y,h1,rfl⟩:=aP
       exact B7 hr (.inr dX) h1 aj
    · exact IV hr (.inr dX) aP aj
 case pick c p q=>
  split at aP
  · rename_i c' p' q' h1 h2 h3
    injection aP with aP;subst aP
    exact HU hr dX h1 h2 h3 aj
  · simp at aP
 case alloc t=>
  split at aP
  · rename_i sz z h1 h2
    injection aP with aP;subst aP
    exact FB _ hr dX h2 aj
  · simp at aP
 case box t x=>
  split at aP
  · rename_i sz y h1 h2
    injection aP with aP;subst aP
    exact L1 _ hr dX h2 aj
  · simp at aP
 case build t ps=>
  split at aP
  · rename_i z fs h1 h2
    split at aP
    · simp at aP
    ·  rename_i qm
       simp only[Option.map_eq_some_iff] at aP
       obtain⟨as,h3,rfl⟩:=aP
       exact Dv _ hr dX h1 h2 (by revert qm;cases fs.toList.all (fun f=> (bI X f.type).isSome) <;>simp) h3 aj
  · rename_i z n e h1 h2
    split at aP
    ·  rename_i s hs
       simp only[Option.map_eq_some_iff] at aP
       obtain⟨as,h3,rfl⟩:=aP
       exact Dw _ hr dX h1 h2 hs h3 aj
    · simp at aP
  · simp at aP
 case buildSlice t n ps=>
  split at aP
  · rename_i e hd
    split at aP
    ·  rename_i sz z as h1 h2 h3
       injection aP with aP;subst aP
       split at aj
       · exact uN hr dX hd h1 h2 h3 aj
       · split at aj
         · exact uM hr dX hd h1 h2 h3 aj
         · exact oW hr dX hd h1 h2 h3 aj
    · simp at aP
  · simp at aP
 case load t x=>
  split at aP
  · rename_i g sz y h1 h2 h3
    injection aP with aP;subst aP
    split at aj
    · exact B0 hr dX h3 h1 h2 aj
    · exact Fw _ hr dX h3 h1 h2 aj
  · simp at aP
 case store t x y=>
  split at aP
  · rename_i g sz x' y' h1 h2 h3 h4
    injection aP with aP;subst aP
    exact FE hr dX h3 h4 h2 aj
  · simp at aP
 case nilCheck x=>
  simp only[Option.map_eq_some_iff] at aP
  obtain⟨y,h1,rfl⟩:=aP
  exact yP hr dX h1 aj
 case binOp op t x y t2=>
  split at aP
  · rename_i x' y' h1 h2
    unfold BV at aP
    split at aP
    ·  rename_i heq
       have H5:op= .eql∨op= .neq:=by cases op<;>simp[Fk] at heq<;>simp
       split at aP
       · rename_i hd
         injection aP with aP;subst aP
         exact LU hr dX H5 hd h1 h2 rfl aj
       · injection aP with aP;subst aP
         exact AP hr dX h1 h2 aj
       · injection aP with aP;subst aP
         exact AP hr dX h1 h2 aj
       · rename_i ms hd
         injection aP with aP;subst aP
         exact LW hr dX H5 ⟨_,hd⟩ mE h1 h2 rfl aj
       · rename_i e hd
         split at aP
         · rename_i n cP
           injection aP with aP;subst aP
           exact LX hr dX H5 hd cP h1 h2 rfl aj
         · simp at aP
       · rename_i fs hd
         split at aP
         · rename_i hg
           simp only[Option.map_eq_some_iff] at aP
           obtain⟨ks,h3,rfl⟩:=aP
           exact LV hr dX H5 hg h3 ⟨_,hd⟩ h1 h2 rfl aj
         · simp at aP
       · simp at aP
    ·  injection aP with aP;subst aP
       exact AP hr dX h1 h2 aj
  · simp at aP
 case unOp op t x=>
  simp only[Option.map_eq_some_iff] at aP
  obtain⟨y,h1,rfl⟩:=aP
  exact PY hr dX h1 aj
 case convert s d x=>
  split at aP
  · rename_i k0 k y h1 h2 h3
    injection aP with aP;subst aP
    exact AQ hr dX h1 h2 h3 aj
  · rename_i k0 y h1 h2 h3
    injection aP with aP;subst aP
    exact Dn hr dX h1 h2 h3 aj
  · rename_i k y h1 h2 h3
    injection aP with aP;subst aP
    exact Dp hr dX h1 h2 h3 aj
  · rename_i y h1 h2 h3
    injection aP with aP;subst aP
    exact AR hr dX h1 h2 h3 aj
  · simp at aP
 case makeInterface t x=>
  split at aP
  · simp at aP
  · rename_i n y d cT h1 h2 h3
    injection aP with aP;subst aP
    exact rT hr dX h1 h2 ⟨_,h3,fun ms e=>cT ms e⟩ aj
  · simp at aP
 case typeAssert x t0 t ok=>
  split at aP
  · simp at aP
  · rename_i n y z d cT h1 h2 h3 h4
    injection aP with aP;subst aP
    exact Dx hr dX mE h1 h2 h3 ⟨_,h4,fun ms e=>cT ms e⟩ aj
  · simp at aP
 case makeFunc fn first caps=>
  cases fn<;>simp only at aP<;>try (simp at aP;done)
  split at aP
  · rename_i hf
    split at aP
    ·  rename_i n cs h1 h2
       injection aP with aP;subst aP
       exact yQ hr dX hf h1 h2 aj
    · simp at aP
  · simp at aP
 case makeSlice t l c=>
  split at aP
  · rename_i e hd
    split at aP
    ·  rename_i sz i z l' c' h1 h2 h3 h4 h5
       injection aP with aP;subst aP
       exact xq hr dX hd h1 h2 h3 h4 h5 aj
    · simp at aP
  · simp at aP
 case slice t x lo hi mx=>
  split at aP
  · rename_i e x' IX xP R7 hd h1 h2 h3 h4
    simp only[Option.map_eq_some_iff] at aP
    obtain⟨sz,hn,rfl⟩:=aP
    exact Fy hr dX hd hn h1 h2 h3 h4 aj
  · rename_i x' IX xP hd h1 h2 h3 h4
    injection aP with aP;subst aP
    have IY:mx=none:=by
       cases mx with
       | none=>rfl
       | some m=>simp[rQ] at h4
    subst IY
    exact yX hr dX hd h1 h2 h3 aj
  · simp at aP
 case fieldAddr s x i=>
  split at aP
  · rename_i fs y hd h1
    split at aP
    ·  rename_i f hf
       split at aP
       · rename_i n hn
         injection aP with aP;subst aP
         exact xm hr dX h1 hd hf hn aj
       · simp at aP
    · simp at aP
  · simp at aP
 case field s x i=>
  split at aP
  · rename_i fs y hd h1
    split at aP
    ·  rename_i f hf
       split at aP
       · rename_i g sz h2 h3
         injection aP with aP;subst aP
         exact Fq hr dX h1 hd hf h2 h3 aj
       · simp at aP
    · simp at aP
  · simp at aP
 case indexAddr t x i=>
  split at aP
  · rename_i e x' i' hd h1 h2
    simp only[Option.map_eq_some_iff] at aP
    obtain⟨sz,hn,rfl⟩:=aP
    exact xn hr dX hd hn h1 h2 aj
  · rename_i n e x' i' hd h1 h2
    simp only[Option.map_eq_some_iff] at aP
    obtain⟨sz,hn,rfl⟩:=aP
    exact yU hr dX hd hn h1 h2 aj
  · simp at aP
 case index t x i=>
  split at aP
  · rename_i x' i' hd h1 h2
    injection aP with aP;subst aP
    exact yV hr dX hd h1 h2 aj
  · rename_i n e x' i' hd h1 h2
    split at aP
    ·  rename_i g sz h3 h4
       injection aP with aP;subst aP
       exact yW hr dX hd h3 h4 h1 h2 aj
    · simp at aP
  · simp at aP
 case extract x i=>
  simp only[Option.map_eq_some_iff] at aP
  obtain⟨y,h1,rfl⟩:=aP
  exact AO hr dX h1 aj
 case makeMap t rs=>
  cases rs with
  | some _=>simp at aP
  | none=>
    injection aP with aP;subst aP
    exact FR hr dX rfl aj
 case range t x=>
  split at aP
  · rename_i x' hd h1
    injection aP with aP;subst aP
    exact AZ hr dX hd h1 aj
  · rename_i x' hd h1
    injection aP with aP;subst aP
    exact A0 hr dX hd h1 aj
  · simp at aP
 case next x isS=>
  cases isS with
  | false=>simp at aP
  | true=>
    simp only[Option.map_eq_some_iff] at aP
    obtain⟨y,h1,rfl⟩:=aP
    exact A3 hr dX h1 aj
 case lookup t x i ok=>
  split at aP
  · rename_i kt et x' i' hd h1 h2
    split at aP
    ·  rename_i q z hq hz
       injection aP with aP;subst aP
       obtain⟨d,FT,hk⟩:=lS hq
       exact DB hr dX hd FT hk hz h1 h2 aj
    · simp at aP
  · simp at aP
 case mapUpdate t m k v=>
  split at aP
  · rename_i kt et m' k' v' hd h1 h2 h3
    simp only[Option.map_eq_some_iff] at aP
    obtain⟨q,hq,rfl⟩:=aP
    obtain⟨d,FT,hk⟩:=lS hq
    exact wB hr (.inl dX) hd FT hk h1 h2 h3 aj
  · simp at aP
 case insert t m k v=>
  split at aP
  · rename_i kt et m' k' v' hd h1 h2 h3
    simp only[Option.map_eq_some_iff] at aP
    obtain⟨q,hq,rfl⟩:=aP
    obtain⟨d,FT,hk⟩:=lS hq
    exact wB hr (.inr dX) hd FT hk h1 h2 h3 aj
  · simp at aP
 case call c=>exact A4 hr dX aP AX aj
end
end Go.AM
namespace Go.AM
open Go Go.RowKit
def nu (X:Ctx) (E:Env) (C:bl):Prop:= ∀ (h:Hints) (dst:Nat) (o:Oper) (oC:q9) (a:Go.Act) (T:Nat→V) (μ:Mu) (v:V) (σ':St),Rel X T a μ→vy X h dst o.op=some oC→
 (av E oC).run C ⟨T,μ.O⟩=some (v,σ')→σ'.T=T∧ ∀ (next:Go.Act→World→Prop) (Q:Go.Exit→Go.Act→World→Prop),
   (∀val w' φ',al X ⟨w',φ',σ'.O⟩ v val→Le μ ⟨w',φ',σ'.O⟩→br X ⟨w',φ',σ'.O⟩→next (a.put o.dst val) w')→o.wp X.P a μ.w next Q
structure Fp where
 tm:Nat
 fl:Nat
 ro:Option Nat
def Marks (n:Fp) (w:World) (ds:List Deferred):Prop:=(n.fl≤w.heap.size∧ ∀l,n.ro=some l→ ∃L,w.heap[l]? =some (.loop L))∧ ∃Ds:List Nat,ds=Ds.map (fun D=> {target:= .collected D,args:= #[]})∧Ds.Nodup∧ ∀D ∈ Ds,n.fl≤D∧w.heap[D]? =some (.deferred (some []))
theorem Marks.nil {n:Fp} {w:World} (h:n.fl≤w.heap.size) (hl: ∀l,n.ro=some l→ ∃L,w.heap[l]? =some (.loop L)):Marks n w []:=⟨⟨h,hl⟩,[],rfl,.nil,by simp⟩
theorem ew {X:Ctx} {μ:Mu} (ho:br X μ) {D:Nat} {o:Go.Obj} (hD:μ.w.heap[D]? =some o) (h1:o.isCells=false) (h2:o.isWalk=false): ¬μ.own D:=by
 rintro⟨r,hr,_,hc,hb⟩
 obtain⟨es,bQ⟩:=Option.isSome_iff_exists.1 hr
 rcases ho.ok r es bQ with⟨_,_,_,h4⟩ | ⟨_,_,ob,h3,h4⟩
 · rcases h4 with h4| ⟨c,T,vs,k1,_⟩
   · exact hc h4
   · rw[hb,hD] at k1;injection k1 with k1;subst k1;simp[Obj.isCells] at h1
 · rw[hb,hD] at h3;injection h3 with h3;subst h3
   rcases h4 with⟨_,_,rfl,_⟩ | ⟨_,_,rfl,_⟩ | ⟨_,_,_,rfl,_⟩ <;>simp[Obj.isWalk] at h2
theorem Marks.le {X:Ctx} {μ μ':Mu} {n:Fp} {ds:List Deferred} (h:Marks n μ.w ds) (ho:br X μ) (le:Le μ μ'):Marks n μ'.w ds:=by
 obtain⟨⟨h0,jZ⟩,Ds,h1,h2,h3⟩:=h
 refine⟨⟨Nat.le_trans h0 le.size,fun l hl=>by
  obtain⟨L,k⟩:=jZ l hl
  exact⟨L,(le.cR l (Array.getElem?_eq_some_iff.1 k).1 (ew ho k rfl rfl)).1.trans k⟩⟩,Ds,h1,h2,fun D hD=> ⟨(h3 D hD).1,?_⟩⟩
 have k:=(h3 D hD).2
 rw[(le.cR D (Array.getElem?_eq_some_iff.1 k).1 (ew ho k rfl rfl)).1]
 exact k
structure jc (X:Ctx) (μ0:Mu) (n:Fp) (σ:St) (a:Go.Act) (w:World):Prop where
 defers:Marks n w a.defers
 size:a.tmps.size=n.1
 rel: ∃φ,Rel X σ.T a ⟨w,φ,σ.O⟩∧Le μ0 ⟨w,φ,σ.O⟩
section
variable {X:Ctx} {E:Env} {C:bl} {μ0:Mu} {n:Fp}
theorem oo {T:Nat→V} {a:Go.Act} {μ μ':Mu} {dst:Option Nat} {v:V} {val:Value} (hr:Rel X T a μ) (le:Le μ μ') (ho:br X μ') (hv:al X μ' v val) (hd:dst.all (· <a.tmps.size)=true) (O:Nat→Obj):
   Rel X (St.put ⟨T,O⟩ dst v).T (a.put dst val) μ':=by
 refine⟨fun t=> ?_,ho⟩
 cases dst with
 | none=>exact al.mono le (hr.tmps t)
 | some d=>
   simp at hd
   simp only[St.put,Go.Act.put,dm]
   split
   · rename_i e
     subst e
     have: (a.tmps.setIfInBounds t val).getD t undef=val:=by simp[hd]
     rw[this];exact hv
   · rename_i cT
     have: (a.tmps.setIfInBounds d val).getD t undef=a.tmps.getD t undef:=by
      simp[Array.getElem?_setIfInBounds_ne (fun e=>cT e.symm)]
     rw[this];exact al.mono le (hr.tmps t)
theorem kV (a:Go.Act) (dst:Option Nat) (v:Value): (a.put dst v).tmps.size=a.tmps.size:=by cases dst<;>simp[Go.Act.put]
theorem put_defers (a:Go.Act) (dst:Option Nat) (v:Value): (a.put dst v).defers=a.defers:=by cases dst<;>simp[Go.Act.put]
theorem rZ {μ:Mu}:al X μ dG undef:=by simp only[dG,al];exact⟨#[],rfl,by simp[ak]⟩
theorem pI (    H:nu X E C) {h:Hints} {ops:Array Oper} {i:Nat} {o:Oper} {ao:bF} {σ σ':St} {a:Go.Act} {w:World} {K:Go.Act→World→Prop} {Q:Go.Exit→Go.Act→World→Prop}
   (ho:ops[i]? =some o) (aP:na X h ops o=some ao) (hn:h.n=n.1) (hs:jc X μ0 n σ a w) (aj:eK E C ao σ=some σ') (hK: ∀a' w',jc X μ0 n σ' a' w'→K a' w'):
   wpOpIn (Fr n.ro) 0 X.P ops Q i K a w:=by
 obtain⟨jk,cP,φ,hr,hle⟩:=hs
 unfold na at aP
 simp only at aP
 split at aP
 · rename_i g hg TL
   injection aP with aP
   subst aP
   have hd:o.dst.all (· <a.tmps.size)=true:=by rw[cP,←hn];exact TL
   simp only[eK] at aj
   split at aj
   · rename_i v σ1 vB
     injection aj with aj
     subst aj
     have runs: (av E ((vy X h (o.dst.getD 0) o.op).getD .bad)).run C σ=some (v,σ1)→o.wpIn (Fr n.ro) 0 X.P a w K Q:=fun dX=>by
       cases FV:vy X h (o.dst.getD 0) o.op with
       | none=>rw[FV] at dX;exact absurd dX H4
       | some oC=>
         rw[FV] at dX
         obtain⟨hT,TM⟩:=H h _ o oC a σ.T ⟨w,φ,σ.O⟩ v σ1 hr FV dX
         refine tC (fun c e=>by rw[e] at FV;simp[vy] at FV) (TM K Q fun val w' φ' hv le fI=>hK _ _ ⟨by rw[put_defers];exact jk.le hr.bd le,by rw[kV];exact cP,φ',?_,?_⟩)
         · have:=oo hr le fI hv hd σ1.O
           rw[←hT] at this
           have e: (σ1.put o.dst v).O=σ1.O:=by cases o.dst<;>rfl
           rw[e];exact this
         · have e: (σ1.put o.dst v).O=σ1.O:=by cases o.dst<;>rfl
           rw[e];exact hle.trans le
     have I2:v=dG→σ1=σ→K (a.put o.dst undef) w:=fun hv hσ=>by
       subst hv;subst hσ
       refine hK _ _ ⟨by rw[put_defers];exact jk,by rw[kV];exact cP,φ,?_,?_⟩
       · have:=oo hr (Le.refl _) hr.bd rZ hd σ1.O
         have e: (σ1.put o.dst dG).O=σ1.O:=by cases o.dst<;>rfl
         rw[e];exact this
       · have e: (σ1.put o.dst dG).O=σ1.O:=by cases o.dst<;>rfl
         rw[e];exact hle
     simp only[wpOpIn,ho]
     cases vb:o.guard with
     | none=>
       rw[vb] at hg
       injection hg with hg
       subst hg
       rw[if_pos (by simp[Region.wanted,vb])]
       exact runs (by simpa [dJ] using vB)
     | some gw=>
       obtain⟨j,want⟩:=gw
       rw[vb] at hg
       simp only at hg
       split at hg
       · rename_i d Vl
         injection hg with hg
         subst hg
         simp only[dJ,Act.run] at vB
         have hv:=hr.tmps d
         split at vB
         · rename_i b hb
           rw[hb] at hv
           simp only[al] at hv
           have bk:d<a.tmps.size:=by
             rcases Nat.lt_or_ge d a.tmps.size with hl| hl
             · exact hl
             · simp[Array.getElem?_eq_none hl,undef] at hv
           have TN:a.tmps[d]? =some (.bool b):=by
             rw[Array.getElem?_eq_getElem bk]
             simp[Array.getElem?_eq_getElem bk] at hv
             rw[hv]
           have hy:yielded ops a.tmps j=some b:=by simp[yielded,Vl,TN]
           split at vB
           · rename_i MW
             rw[if_pos (by simp[Region.wanted,vb,hy,MW])]
             exact runs vB
           · rename_i MW
             rw[if_neg (by simp[Region.wanted,vb,hy,MW])]
             obtain⟨e1,e2⟩:=aX vB
             exact⟨fun _ _=>trivial,I2 e1.symm e2⟩
         · rename_i hb
           rw[hb] at hv
           simp only[al] at hv
           obtain⟨vs,rU,Vm⟩:=hv
           have hy:yielded ops a.tmps j=none:=by
             simp only[yielded,Vl,Option.bind_some]
             cases hq:a.tmps[d]? with
             | none=>rfl
             | some x=>
               have:x= .tuple vs:=by simpa [hq] using rU
               rw[this]
           rw[if_neg (by simp[Region.wanted,vb,hy])]
           obtain⟨e1,e2⟩:=aX vB
           exact⟨fun _ _=>trivial,I2 e1.symm e2⟩
         · exact absurd vB au
       · simp at hg
   · simp at aj
 · simp at aP
theorem kn {h:Hints} {ops:Array Oper}: ∀ {l:List Oper} {as:List bF},fL X h ops l=some as→as.length=l.length∧ ∀ (i:Nat) o,l[i]? =some o→ ∃ao,as[i]? =some ao∧na X h ops o=some ao
 | [],as,h'=>by simp[fL] at h';subst h';simp
 | o::l,as,h'=>by
   simp only[fL] at h'
   split at h'
   · rename_i ao Sa h1 h2
     injection h' with h';subst h'
     obtain⟨k1,k2⟩:=kn h2
     refine⟨by simp[k1],fun i o' hi=> ?_⟩
     cases i with
     | zero=>simp at hi;subst hi;exact⟨ao,by simp,h1⟩
     | succ i=>simpa using k2 i o' (by simpa using hi)
   · simp at h'
theorem DE {ao:bF} {σ:St} {p:List Nat}:eK E C {ao with pre:=p} σ=eK E C ao σ:=rfl
theorem eI (H:nu X E C) {h:Hints} {ops:Array Oper} {as:List bF} (hn:h.n=n.1) (aP:fL X h ops ops.toList=some as) {Q:Go.Exit→Go.Act→World→Prop}:
   ∀ (m k:Nat),k+m=ops.size→ ∀ {σ σ':St} {a:Go.Act} {w:World},jc X μ0 n σ a w→iL E C ((as.drop k).map fun o=> {o with pre:=[]}) σ=some σ'→
     (∀a' w',jc X μ0 n σ' a' w'→Q .normal a' w')→wpOpsIn (Fr n.ro) 0 X.P ops Q (List.range' k m) a w
 | 0,k,hk,σ,σ',a,w,hs,aj,hQ=>by
   obtain⟨hl,_⟩:=kn aP
   have:as.drop k=[]:=by simp at hl;simp;omega
   rw[this] at aj
   simp[iL] at aj
   subst aj
   simpa [wpOpsIn] using hQ a w hs
 | m+1,k,hk,σ,σ',a,w,hs,aj,hQ=>by
   obtain⟨hl,ns⟩:=kn aP
   have MH:k<ops.size:=by omega
   obtain⟨ao,DF,kW⟩:=ns k ops[k] (by simp[MH])
   have Vn:k<as.length:=by simp at hl;omega
   have hd:as.drop k=ao::as.drop (k+1):=by
     rw[List.drop_eq_getElem_cons Vn]
     rw[List.getElem?_eq_getElem Vn] at DF
     injection DF with DF;rw[DF]
   rw[hd] at aj
   simp only[List.map_cons,iL,DE] at aj
   split at aj
   · rename_i σ1 h1
     rw[List.range'_succ,wpOpsIn_cons]
     refine pI H (o:=ops[k]) (by simp[MH]) kW hn hs h1 fun a' w' dg=> ?_
     exact eI H hn aP m (k+1) (by omega) dg aj hQ
   · simp at aj
end
end Go.AM
namespace Go.AM
open Go Go.RowKit
inductive Cell where
 | v (x:V)
 | o (x:Obj)
def St.at (σ:St):Loc→Cell
 | .t n=> .v (σ.T n)
 | .o n=> .o (σ.O n)
theorem St.ext' {σ τ:St} (h: ∀l,σ.at l=τ.at l):σ=τ:=by
 cases σ;cases τ
 congr
 · funext n;have:=h (.t n);simpa [St.at] using this
 · funext n;have:=h (.o n);simpa [St.at] using this
theorem kX {C:bl}: ∀ (act:Act) {σ τ σ':St} {v:V},act.run C σ=some (v,σ')→(∀l ∈ (act.dY C σ).reads,σ.at l=τ.at l)→
   ∃τ',act.run C τ=some (v,τ')∧act.dY C τ=act.dY C σ∧ ∀l,(l ∈ (act.dY C σ).writes→τ'.at l=σ'.at l)∧(l ∉ (act.dY C σ).writes→τ'.at l=τ.at l∧σ'.at l=σ.at l)
 | .done u,σ,τ,σ',v,h,_=>by
   simp only[Act.run,Option.some.injEq,Prod.mk.injEq] at h
   obtain⟨rfl,rfl⟩:=h
   exact⟨τ,rfl,rfl,fun l=> ⟨fun hl=>by simp[Act.dY] at hl,fun _=> ⟨rfl,rfl⟩⟩⟩
 | .fail,_,_,_,_,h,_=>by simp[Act.run] at h
 | .my t k,σ,τ,σ',v,h,hr=>by
   simp only[Act.run] at h
   have e:σ.T t=τ.T t:=by have:=hr (.t t) (by simp[Act.dY]);simpa [St.at] using this
   obtain⟨τ',h1,h2,h3⟩:=kX (k (σ.T t)) h (fun l hl=>hr l (by simp[Act.dY,hl]))
   exact⟨τ',by simp only[Act.run,←e];exact h1,by simp only[Act.dY,←e,h2],by simpa [Act.dY] using h3⟩
 | .bY r k,σ,τ,σ',v,h,hr=>by
   simp only[Act.run] at h
   have e:σ.O r=τ.O r:=by have:=hr (.o r) (by simp[Act.dY]);simpa [St.at] using this
   obtain⟨τ',h1,h2,h3⟩:=kX (k (σ.O r)) h (fun l hl=>hr l (by simp[Act.dY,hl]))
   exact⟨τ',by simp only[Act.run,←e];exact h1,by simp only[Act.dY,←e,h2],by simpa [Act.dY] using h3⟩
 | .bJ r o k,σ,τ,σ',v,h,hr=>by
   simp only[Act.run] at h
   obtain⟨τ',h1,h2,h3⟩:=kX k (τ:={τ with O:=dm τ.O r o}) h (fun l hl=>by
     have:=hr l (by simp[Act.dY,hl])
     cases l with
     | t n=>simpa [St.at] using this
     | o n=>
       simp only[St.at,Cell.o.injEq] at this ⊢
       by_cases hn:n=r
       · subst hn;simp[aD]
       · simp[aY _ _ hn,this])
   refine⟨τ',by simp only[Act.run];exact h1,by simp only[Act.dY,h2],fun l=> ⟨fun hl=> ?_,fun hl=> ?_⟩⟩
   · simp only[Act.dY,List.mem_cons] at hl
     by_cases hw:l ∈ (k.dY C {σ with O:=dm σ.O r o}).writes
     · exact(h3 l).1 hw
     · obtain⟨e1,e2⟩:=(h3 l).2 hw
       rcases hl with rfl| hl
       · rw[e1,e2];simp[St.at,aD]
       · exact absurd hl hw
   · simp only[Act.dY,List.mem_cons,not_or] at hl
     obtain⟨e1,e2⟩:=(h3 l).2 hl.2
     rw[e1,e2]
     cases l with
     | t n=>simp[St.at]
     | o n=>
       have hn:n≠r:=fun e=>hl.1 (by rw[e])
       simp[St.at,aY _ _ hn]
 | .call f as k,σ,τ,σ',v,h,hr=>by
   simp only[Act.run] at h
   split at h
   · rename_i res mH
     obtain⟨τ',h1,h2,h3⟩:=kX (k res) h (fun l hl=>hr l (by simp[Act.dY,mH,hl]))
     exact⟨τ',by simp only[Act.run,mH];exact h1,by simp only[Act.dY,mH,h2],by simpa [Act.dY,mH] using h3⟩
   · simp at h
theorem FW (σ:St) (dst:Option Nat) (v:V) (l:Loc): (σ.put dst v).at l=if dst.any (fun d=>l= .t d) then .v v else σ.at l:=by
 cases dst with
 | none=>simp[St.put]
 | some d=>
   cases l with
   | t n=>
     simp only[St.put,St.at,dm,Option.any_some,Loc.t.injEq]
     by_cases h:n=d<;>simp[h]
   | o n=>simp[St.put,St.at]
theorem sG {E:Env} {C:bl} {o:bF} {σ τ σ':St} (h:eK E C o σ=some σ') (hr: ∀l ∈ (c7 E C o σ).reads,σ.at l=τ.at l):
   ∃τ',eK E C o τ=some τ'∧ ∀l,(l ∈ (c7 E C o σ).writes→τ'.at l=σ'.at l)∧(l ∉ (c7 E C o σ).writes→τ'.at l=τ.at l∧σ'.at l=σ.at l):=by
 simp only[eK] at h
 split at h
 · rename_i v σ1 vB
   injection h with h
   subst h
   obtain⟨τ1,h1,h2,h3⟩:=kX (dJ E o) vB hr
   refine⟨τ1.put o.dst v,by simp only[eK,h1],fun l=> ?_⟩
   rw[FW,FW]
   have hw: (c7 E C o σ).writes=(match o.dst with| some d=> [Loc.t d] | none=> [])++((dJ E o).dY C σ).writes:=rfl
   rw[hw]
   cases hd:o.dst with
   | none=>simpa using h3 l
   | some d=>
     by_cases hl:l= .t d
     · subst hl;simp
     · refine⟨fun hm=> ?_,fun hm=> ?_⟩
       · simp[hl] at hm
         simp[hl]
         exact(h3 l).1 hm
       · simp[hl] at hm
         simp[hl]
         exact(h3 l).2 hm
 · simp at h
structure Trace (E:Env) (C:bl) (as:List bF) (S:Nat→St) (F:Nat→eB) (W:Nat→List Nat):Prop where
 step: ∀ (i:Nat) ao,as[i]? =some ao→eK E C ao (S i)=some (S (i+1))∧F i=c7 E C ao (S i)∧W i=ao.pre++ao.pre.flatMap W∧(∀p ∈ ao.pre,p<i)∧
  ∀j,j<i→j ∈ W i∨(F j).mh (F i)=false
theorem zh {b7:List eB} {wait:List Nat} {f:eB}: ∀ {k:Nat},fits b7 wait f k=true→ ∀j,j<k→j ∈ wait∨(b7.getD j ⟨[],[]⟩).mh f=false
 | 0,_,j,hj=>by omega
 | k+1,h,j,hj=>by
   simp only[fits,Bool.and_eq_true,Bool.or_eq_true,Bool.not_eq_true'] at h
   by_cases e:j=k
   · subst e
     rcases h.1 with h1| h1
     · exact .inl (by simpa using h1)
     · exact .inr h1
   · exact zh h.2 j (by omega)
theorem nv {α β:Type} {f g:α→List β}: ∀ {l:List α},(∀x ∈ l,f x=g x)→l.flatMap f=l.flatMap g
 | [],_=>rfl
 | x::l,h=>by
   simp only[List.flatMap_cons]
   rw[h x (by simp),nv fun y hy=>h y (by simp[hy])]
theorem sH {  E:Env} {C:bl}: ∀ (l:List bF) (b7:List eB) (before:List (List Nat)) (σ σ':St),b7.length=before.length→dN E C l b7 before σ=some σ'→
   ∃ (S:Nat→St) (F:Nat→eB) (W:Nat→List Nat),S b7.length=σ∧S (b7.length+l.length)=σ'∧(∀k,k<b7.length→F k=b7.getD k ⟨[],[]⟩∧W k=before.getD k [])∧
     ∀ (i:Nat) ao,l[i]? =some ao→eK E C ao (S (b7.length+i))=some (S (b7.length+i+1))∧F (b7.length+i)=c7 E C ao (S (b7.length+i))∧
       W (b7.length+i)=ao.pre++ao.pre.flatMap W∧(∀p ∈ ao.pre,p<b7.length+i)∧ ∀j,j<b7.length+i→j ∈ W (b7.length+i)∨(F j).mh (F (b7.length+i))=false
 | [],b7,before,σ,σ',hl,h=>by
   simp only[dN,Option.some.injEq] at h
   subst h
   exact⟨fun _=>σ,fun k=>b7.getD k ⟨[],[]⟩,fun k=>before.getD k [],rfl,rfl,fun k _=> ⟨rfl,rfl⟩,fun i ao hi=>by simp at hi⟩
 | o::l,b7,before,σ,σ',hl,h=>by
   simp only[dN] at h
   split at h
   · rename_i hf
     simp only[Bool.and_eq_true,List.all_eq_true,decide_eq_true_eq] at hf
     split at h
     · rename_i σ1 h1
       obtain⟨S,F,W,s1,s2,s3,s4⟩:=sH l (b7++[c7 E C o σ]) (before++[closure before o.pre]) σ1 σ' (by simp[hl]) h
       simp only[List.length_append,List.length_singleton] at s1 s2 s3 s4
       let S':Nat→St:=fun k=>if k=b7.length then σ else S k
       have e1:S' (b7.length+1)=σ1:=by simp[S',s1]
       have e2: ∀k,b7.length<k→S' k=S k:=fun k hk=>by simp[S'];intro e;omega
       have Vo:F b7.length=c7 E C o σ:=by
         have:=(s3 b7.length (by omega)).1
         simpa using this
       have Vp:W b7.length=closure before o.pre:=by
         have:=(s3 b7.length (by omega)).2
         rw[hl] at this
         simpa [hl] using this
       have Qa: ∀k,k<b7.length→W k=before.getD k []:=fun k hk=>by
         have:=(s3 k (by omega)).2
         rw[this]
         simp[List.getElem?_append_left (show k<before.length by omega)]
       have Qb: ∀k,k<b7.length→F k=b7.getD k ⟨[],[]⟩:=fun k hk=>by
         have:=(s3 k (by omega)).1
         rw[this]
         simp[List.getElem?_append_left hk]
       refine⟨S',F,W,by simp[S'],?_,fun k hk=> ⟨Qb k hk,Qa k hk⟩,fun i ao hi=> ?_⟩
       · rw[e2 _ (by simp)]
         rw[←s2];congr 1;simp;omega
       · cases i with
         | zero=>
           simp at hi
           subst hi
           simp only[Nat.add_zero]
           have hS:S' b7.length=σ:=by simp[S']
           rw[hS,e1]
           refine⟨h1,Vo,?_,hf.2,fun j hj=> ?_⟩
           · rw[Vp,closure]
             congr 1
             apply nv
             intro p hp
             exact(Qa p (hf.2 p hp)).symm
           · rw[Vo,Vp,Qb j hj]
             exact zh hf.1 j hj
         | succ i=>
           have:=s4 i ao (by simpa using hi)
           have ea:b7.length+1+i=b7.length+(i+1):=by omega
           rw[ea] at this
           rw[e2 _ (by omega),e2 _ (by omega)]
           exact this
     · simp at h
   · simp at h
def lT (S:Nat→St) (F:Nat→eB) (D:Nat→Bool) (l:Loc):Nat→Cell
 | 0=> (S 0).at l
 | i+1=>if D i=true∧l ∈ (F i).writes then(S (i+1)).at l else lT S F D l i
theorem pJ {S:Nat→St} {F:Nat→eB} {D D':Nat→Bool} {l:Loc}: ∀ {n:Nat},(∀i,i<n→l ∈ (F i).writes→D i=D' i)→lT S F D l n=lT S F D' l n
 | 0,_=>rfl
 | n+1,h=>by
   simp only[lT]
   rw[pJ fun i hi=>h i (by omega)]
   by_cases hl:l ∈ (F n).writes
   · rw[h n (by omega) hl]
   · simp[hl]
theorem oq {  S:Nat→St} {F:Nat→eB} {D:Nat→Bool} {l:Loc} {m:Nat}: ∀ {n:Nat},m≤n→(∀i,m≤i→i<n→l ∈ (F i).writes→D i=false)→lT S F D l n=lT S F D l m
 | 0,h,_=>by have:m=0:=by omega
             subst this;rfl
 | n+1,h,hh=>by
   by_cases e:m=n+1
   · subst e;rfl
   · simp only[lT]
     rw[if_neg (by rintro⟨h1,h2⟩;have:=hh n (by omega) (by omega) h2;simp[this] at h1)]
     exact oq (by omega) fun i h1 h2=>hh i h1 (by omega)
theorem uQ {E:Env} {C:bl} {as:List bF} {S:Nat→St} {F:Nat→eB} {W:Nat→List Nat} (tr:Trace E C as S F W) {D:Nat→Bool} {l:Loc}:
   ∀ {n:Nat},n≤as.length→(∀i,i<n→D i=true)→lT S F D l n=(S n).at l
 | 0,_,_=>rfl
 | n+1,hn,hD=>by
   obtain⟨ao,DF⟩: ∃ao,as[n]? =some ao:=⟨as[n],List.getElem?_eq_getElem (by omega)⟩
   obtain⟨h1,h2,_⟩:=tr.step n ao DF
   simp only[lT,hD n (by omega),true_and]
   split
   · rfl
   · rename_i hl
     rw[uQ tr (by omega) fun i hi=>hD i (by omega)]
     obtain⟨_,_,h3⟩:=sG h1 (τ:=S n) fun _ _=>rfl
     rw[h2] at hl
     exact((h3 l).2 hl).2.symm
theorem uR {a b:eB} {l:Loc} (h: (l ∈ a.writes∧l ∈ b.writes)∨(l ∈ a.writes∧l ∈ b.reads)∨(l ∈ a.reads∧l ∈ b.writes)):a.mh b=true:=by
 simp only[eB.mh,meets,Bool.or_eq_true,List.any_eq_true,List.contains_iff_mem]
 rcases h with⟨h1,h2⟩ | ⟨h1,h2⟩ | ⟨h1,h2⟩
 · exact .inl (.inl ⟨l,h1,h2⟩)
 · exact .inl (.inr ⟨l,h1,h2⟩)
 · exact .inr ⟨l,h1,h2⟩
structure ny (S:Nat→St) (F:Nat→eB) (W:Nat→List Nat) (m:Nat) (D:Nat→Bool) (τ:St):Prop where
 closed: ∀i,D i=true→ ∀p ∈ W i,D p=true
 state: ∀l,τ.at l=lT S F D l m
theorem vC {E:Env} {C:bl} {as:List bF} {S:Nat→St} {F:Nat→eB} {W:Nat→List Nat} (tr:Trace E C as S F W) {D:Nat→Bool} {τ:St} (hA:ny S F W as.length D τ)
   {j:Nat} {ao:bF} (hj:as[j]? =some ao) (hD:D j=false) (zi: ∀p ∈ ao.pre,D p=true):
   ∃τ',eK E C ao τ=some τ'∧ny S F W as.length (fun i=>i==j || D i) τ':=by
 obtain⟨h1,h2,h3,h4,h5⟩:=tr.step j ao hj
 have bT:j<as.length:=(List.getElem?_eq_some_iff.1 hj).1
 have hW: ∀p ∈ W j,D p=true:=by
   rw[h3]
   intro p hp
   simp only[List.mem_append,List.mem_flatMap] at hp
   rcases hp with hp| ⟨q,hq,hp⟩
   · exact zi p hp
   · exact hA.closed q (zi q hq) p hp
 have key: ∀i,i≠j→i<as.length→(F i).mh (F j)=true∨(F j).mh (F i)=true→(D i=true↔i<j):=by
   intro i cT hi hc
   rcases Nat.lt_or_ge i j with bk| wk
   · refine⟨fun _=>bk,fun _=> ?_⟩
     rcases h5 i bk with h| h
     · exact hW i h
     · rcases hc with hc| hc
       · rw[h] at hc;cases hc
       · exfalso
         have: (F i).mh (F j)=true:=by
          simp only[eB.mh,Bool.or_eq_true,meets,List.any_eq_true,List.contains_iff_mem] at hc ⊢
          rcases hc with(⟨l,a,b⟩ | ⟨l,a,b⟩) | ⟨l,a,b⟩
          · exact .inl (.inl ⟨l,b,a⟩)
          · exact .inr ⟨l,b,a⟩
          · exact .inl (.inr ⟨l,b,a⟩)
         rw[h] at this;cases this
   · have WJ:j<i:=by omega
     refine⟨fun MY=> ?_,fun h=>by omega⟩
     obtain⟨TO,TP⟩: ∃TO,as[i]? =some TO:=⟨as[i],List.getElem?_eq_getElem hi⟩
     obtain⟨_,_,_,_,g5⟩:=tr.step i TO TP
     rcases g5 j WJ with h| h
     · have:=hA.closed i MY j h
       rw[hD] at this;cases this
     · exfalso
       rcases hc with hc| hc
       · have: (F j).mh (F i)=true:=by
          simp only[eB.mh,Bool.or_eq_true,meets,List.any_eq_true,List.contains_iff_mem] at hc ⊢
          rcases hc with(⟨l,a,b⟩ | ⟨l,a,b⟩) | ⟨l,a,b⟩
          · exact .inl (.inl ⟨l,b,a⟩)
          · exact .inr ⟨l,b,a⟩
          · exact .inl (.inr ⟨l,b,a⟩)
         rw[h] at this;cases this
       · rw[h] at hc;cases hc
 have agree: ∀l ∈ (F j).reads,(S j).at l=τ.at l:=by
   intro l hl
   rw[hA.state l]
   have e1:lT S F D l as.length=lT S F D l j:=oq (by omega) fun i va Dk hw=>by
     by_cases e:i=j
     · subst e;exact hD
     · have:=key i e Dk (.inl (uR (.inr (.inl ⟨hw,hl⟩))))
       cases MY:D i with
       | false=>rfl
       | true=>have:=this.1 MY;omega
   have e2:lT S F D l j=lT S F (fun i=>decide (i<j)) l j:=pJ fun i hi hw=>by
     have:=(key i (by omega) (by omega) (.inl (uR (.inr (.inl ⟨hw,hl⟩))))).2 hi
     simp[this,hi]
   rw[e1,e2]
   exact(uQ tr (by omega) fun i hi=>by simp[hi]).symm
 rw[h2] at agree
 obtain⟨τ',k1,k2⟩:=sG h1 agree
 rw[←h2] at k2
 refine⟨τ',k1,fun i hi p hp=> ?_,fun l=> ?_⟩
 · simp only[Bool.or_eq_true,beq_iff_eq] at hi ⊢
   rcases hi with rfl| hi
   · exact .inr (hW p hp)
   · exact .inr (hA.closed i hi p hp)
 · by_cases hl:l ∈ (F j).writes
   · rw[(k2 l).1 hl]
     have e1:lT S F (fun i=>i==j || D i) l as.length=lT S F (fun i=>i==j || D i) l (j+1):=oq (by omega) fun i va Dk hw=>by
       have cT:i≠j:=by omega
       have:=key i cT Dk (.inl (uR (.inl ⟨hw,hl⟩)))
       cases MY:D i with
       | false=>simp[cT,MY]
       | true=>have:=this.1 MY;omega
     rw[e1]
     simp[lT,hl]
   · rw[((k2 l).2 hl).1,hA.state l]
     exact pJ fun i _ hw=>by
       by_cases e:i=j
       · subst e;exact absurd hw hl
       · simp[e]
theorem xy {E:Env} {C:bl} {as:List bF} {S:Nat→St} {F:Nat→eB} {W:Nat→List Nat} (tr:Trace E C as S F W) {D:Nat→Bool} {τ:St} (hA:ny S F W as.length D τ)
  (qm: ∀i,i<as.length→D i=true):τ=S as.length:=
 St.ext' fun l=>by rw[hA.state l,uQ tr (Nat.le_refl _) qm]
section
variable {X:Ctx} {E:Env} {C:bl} {μ0:Mu} {n:Fp}
theorem FX {σ:St} {a:Go.Act} {w:World} (h:jc X μ0 n σ a w):jc X μ0 n σ a {w with drawn:=w.drawn+1}:=by
 obtain⟨h1,h2,φ,hr,hle⟩:=h
 obtain⟨P8,TG⟩:=Le.drew (X:=X) (μ:=⟨w,φ,σ.O⟩) hr.bd
 exact⟨h1,h2,φ,⟨fun t=>al.mono P8 (hr.tmps t),TG⟩,hle.trans P8⟩
theorem DG ( H:nu X E C) {h:Hints} {ops:Array Oper} {as:List bF} (hn:h.n=n.1) (aP:fL X h ops ops.toList=some as) {S:Nat→St} {F:Nat→eB} {W:Nat→List Nat}
   (tr:Trace E C as S F W) {Q:Go.Exit→Go.Act→World→Prop} (hQ: ∀a w,jc X μ0 n (S as.length) a w→Q .normal a w):
   ∀ (fuel:Nat) (bx:Array Bool) (τ:St) (a:Go.Act) (w:World),bx.size=ops.size→((List.range ops.size).filter fun i=> !bx.getD i true).length≤fuel→
     ny S F W as.length (fun i=>bx.getD i false) τ→jc X μ0 n τ a w→wpAnyIn (Fr n.ro) 0 X.P .any ops Q fuel bx a w:=by
 obtain⟨hlen,ns⟩:=kn aP
 have sE:as.length=ops.size:=by simpa using hlen
 have ready: ∀ (bx:Array Bool) (j:Nat),j ∈ Region.ready .any ops bx→ ∃o ao,ops[j]? =some o∧as[j]? =some ao∧na X h ops o=some ao∧bx.getD j true=false∧ ∀p ∈ ao.pre,bx.getD p false=true:=by
   intro bx j hj
   simp only[Region.ready,List.mem_filter,List.mem_range,Bool.and_eq_true,Bool.not_eq_true'] at hj
   obtain⟨bk,hl,hr⟩:=hj
   have ho:ops[j]? =some ops[j]:=by simp[bk]
   obtain⟨ao,DF,kW⟩:=ns j ops[j] (by simp[bk])
   refine⟨_,ao,ho,DF,kW,hl,fun p hp=> ?_⟩
   rw[ho] at hr
   simp only[Option.map_some,Option.getD_some] at hr
   have zi:ao.pre=(ops[j].after.toList.filter (Region.binds .any)).map (·.on):=by
     unfold na at kW
     simp only at kW
     split at kW
     · injection kW with kW;rw[←kW]
     · simp at kW
   rw[zi] at hp
   simp only[List.mem_map,List.mem_filter] at hp
   obtain⟨e,⟨WK,WL⟩,rfl⟩:=hp
   rw[Array.all_eq_true'] at hr
   have:=hr e (by simpa using WK)
   simpa [WL] using this
 have done: ∀ (bx:Array Bool),Region.ready .any ops bx=[]→bx.size=ops.size→ ∀i,i<as.length→bx.getD i false=true:=by
   intro bx yx cP i
   induction i using Nat.strongRecOn with
   | _ i ih=>
     intro hi
     cases hl:bx.getD i false with
     | true=>rfl
     | false=>
       exfalso
       have bk:i<ops.size:=by omega
       have fS:i<bx.size:=by omega
       have WM:bx.getD i true=false:=by simpa [fS] using hl
       obtain⟨ao,DF,kW⟩:=ns i ops[i] (by simp[bk])
       obtain⟨_,_,_,RZ,_⟩:=tr.step i ao DF
       have zi:ao.pre=(ops[i].after.toList.filter (Region.binds .any)).map (·.on):=by
         unfold na at kW
         simp only at kW
         split at kW
         · injection kW with kW;rw[←kW]
         · simp at kW
       have:i ∈ Region.ready .any ops bx:=by
         simp only[Region.ready,List.mem_filter,List.mem_range,Bool.and_eq_true,Bool.not_eq_true']
         refine⟨bk,WM,?_⟩
         have ho:ops[i]? =some ops[i]:=by simp[bk]
         rw[ho]
         simp only[Option.map_some,Option.getD_some]
         rw[Array.all_eq_true']
         intro e he
         cases hb:Region.binds .any e with
         | false=>simp
         | true=>
           have hm:e.on ∈ ao.pre:=by
            rw[zi];simp only[List.mem_map,List.mem_filter]
            exact⟨e,⟨by simpa using he,hb⟩,rfl⟩
           have h1:=RZ _ hm
           simpa using ih e.on h1 (by omega)
       rw[yx] at this
       cases this
 have finish: ∀ (bx:Array Bool) (τ:St) (a:Go.Act) (w:World),bx.size=ops.size→ny S F W as.length (fun i=>bx.getD i false) τ→jc X μ0 n τ a w→Region.ready .any ops bx=[]→Q .normal a w:=by
   intro bx τ a w cP hA hs yx
   have:=xy tr hA (done bx yx cP)
   exact hQ a w (this ▸ hs)
 intro fuel
 induction fuel with
 | zero=>
   intro bx τ a w cP hf hA hs
   have yx:Region.ready .any ops bx=[]:=by
     simp only[Nat.le_zero,List.length_eq_zero_iff,List.filter_eq_nil_iff,List.mem_range] at hf
     simp only[Region.ready,List.filter_eq_nil_iff,List.mem_range]
     intro i hi
     have:=hf i hi
     simp at this
     simp[this]
   exact⟨yx,finish bx τ a w cP hA hs yx⟩
 | succ fuel ih=>
   intro bx τ a w cP hf hA hs
   refine⟨finish bx τ a w cP hA hs,fun j hj=> ?_⟩
   obtain⟨o,ao,ho,DF,kW,hl,zi⟩:=ready bx j hj
   have bT:j<ops.size:=by rw[←sE];exact(List.getElem?_eq_some_iff.1 DF).1
   have WN:bx.getD j false=false:=by
     have h1:j<bx.size:=by omega
     simpa [h1] using hl
   obtain⟨τ',k1,k2⟩:=vC tr hA DF WN zi
   refine pI H ho kW hn hs k1 fun a' w' dg=>ih _ τ' a' w' (by simpa using cP) ?_ ?_ dg
   ·
     have E6: ∀ (L:List Nat),L.Nodup→j ∈ L→(L.filter fun i=> !(bx.setIfInBounds j true).getD i true).length+1≤(L.filter fun i=> !bx.getD i true).length:=by
       intro L
       induction L with
       | nil=>intro _ h;cases h
       | cons x L WO=>
         intro GJ hm
         have cT: ∀i,i≠j→(bx.setIfInBounds j true).getD i true=bx.getD i true:=fun i hi=>by
           simp[Array.getElem?_setIfInBounds_ne (fun e=>hi e.symm)]
         have WQ: (bx.setIfInBounds j true).getD j true=true:=by
           have h1:j<bx.size:=by omega
           simp[h1]
         by_cases e:x=j
         · subst e
           have yR: (L.filter fun i=> !(bx.setIfInBounds x true).getD i true)=L.filter fun i=> !bx.getD i true:=by
            apply List.filter_congr
            intro i hi
            have:i≠x:=fun e=>by rw[List.nodup_cons] at GJ;exact GJ.1 (e ▸ hi)
            rw[cT i this]
           simp only[List.filter_cons,WQ,hl,yR]
           simp
         · have H6:j ∈ L:=by
            rcases List.mem_cons.1 hm with h1| h1
            · exact absurd h1.symm e
            · exact h1
           have:=WO (List.nodup_cons.1 GJ).2 H6
           simp only[List.filter_cons,cT x e]
           split
           · simp only[List.length_cons];omega
           · omega
     have:=E6 (List.range ops.size) List.nodup_range (by simp[bT])
     omega
   · have TQ: (fun i=>i==j || bx.getD i false)=fun i=> (bx.setIfInBounds j true).getD i false:=by
       funext i
       have h1:j<bx.size:=by omega
       by_cases e:i=j
       · subst e;simp[h1]
       · simp[e,Array.getElem?_setIfInBounds_ne (fun e'=>e e'.symm)]
     rw[TQ] at k2
     exact k2
theorem zj (H:nu X E C) (hm:X.P.follows .mixedOrders=true) {h:Hints} {ops:Array Oper} {as:List bF} (hn:h.n=n.1) (aP:fL X h ops ops.toList=some as) {id:Nat}
   {σ σ':St} {a:Go.Act} {w:World} (hs:jc X μ0 n σ a w) (aj:dN E C as [] [] σ=some σ') {Q:Go.Exit→Go.Act→World→Prop} (hQ: ∀a' w',jc X μ0 n σ' a' w'→Q .normal a' w'):
   (Code.region id ops true).wpIn (Fr n.ro) 0 X.P Q a w:=by
 obtain⟨S,F,W,s1,s2,_,s4⟩:=sH as [] [] σ σ' rfl aj
 simp only[List.length_nil,Nat.zero_add] at s1 s2 s4
 have tr:Trace E C as S F W:=⟨fun i ao hi=>s4 i ao hi⟩
 refine wpIn_region_any hm ?_
 refine DG H hn aP tr (by rw[s2];exact hQ) ops.size _ σ _ _ (by simp) ?_ ?_ (FX hs)
 · exact Nat.le_trans (List.length_filter_le _ _) (by simp)
 · have FY: ∀i,(Array.replicate ops.size false).getD i false=false:=fun i=>by
    simp only[Array.getD_eq_getD_getElem?,Array.getElem?_replicate];split<;>rfl
   refine⟨(fun i hi=>by rw[FY i] at hi;cases hi),fun l=> ?_⟩
   rw[←s1]
   have:lT S F (fun i=> (Array.replicate ops.size false).getD i false) l as.length=lT S F (fun i=> (Array.replicate ops.size false).getD i false) l 0:=oq (Nat.zero_le _) fun i _ _ _=>FY i
   rw[this];rfl
end
end Go.AM
namespace Go.AM
open Go Go.RowKit
theorem FZ {P:Program} {w:World} {ty:TypeId} {bi bm since:Nat} {seen:Array Nat} {es:Array MapEntry} (hi:w.heap[bi]? =some (.mapIter (some bm) since seen since)) (hb:w.heap[bm]? =some (.map es since)) (hold: ∀x ∈ es.toList,x.born<since):
   ((leftOf es seen).size=0∧(Instr.next (.pointer (some ⟨bi,0,none⟩)) false ty).run P w= .ok (.tuple #[.bool false]) w)∨
   ∃e ∈ (leftOf es seen).toList,∃d,(Instr.next (.pointer (some ⟨bi,0,none⟩)) false ty).run P w= .ok (.tuple #[.bool true,e.key,e.val]) {w with drawn:=w.drawn+d,heap:=w.heap.setIfInBounds bi (.mapIter (some bm) since (seen.push e.born) since)}:=by
 simp only[Instr.next,getObj,Sem.run_bind,Sem.run,hi,hb,Result.andThen,next_test_false seen es since since hold (Nat.le_refl _),Bool.false_eq_true,if_false]
 unfold leftOf
 have jL: ∀x ∈ (Array.filter (fun e=> !seen.contains e.born) es).toList,x.born<since:=fun x hx=>hold x (by simp at hx ⊢;exact hx.1)
 generalize Array.filter (fun e=> !seen.contains e.born) es=L at jL ⊢
 have e1:L.filter (fun x=>decide (x.born<since))=L:=Array.filter_eq_self.2 (fun x hx=>by simpa using jL x (by simpa using hx))
 have e2:L.filter (fun x=>decide (x.born≥since))= #[]:=by
   rw[Array.filter_eq_empty_iff]
   intro x hx
   have:=jL x (by simpa using hx)
   simp
   omega
 simp only[e1,e2,Array.append_empty]
 by_cases h0:L.size=0
 · left
   have:L= #[]:=Array.eq_empty_of_size_eq_zero h0
   subst this
   refine⟨rfl,?_⟩
   simp[choose,Sem.run,Question.forced]
 · right
   have cT:L.isEmpty=false:=by simp[Array.isEmpty,h0]
   simp only[cT,Bool.false_eq_true,if_false,Array.empty_append,Array.size_map]
   have TF: ∃ (j d:Nat),j<L.size∧(choose (Question.mapNext L.size)).run P w= .ok j {w with drawn:=w.drawn+d}:=by
    by_cases hf:L.size≤1
    · exact⟨0,0,by omega,by simp[choose,Sem.run,Question.forced,hf]⟩
    · exact⟨w.tape w.drawn (Question.mapNext L.size) % L.size,1,Nat.mod_lt _ (by omega),by
       simp only[choose,Sem.run,Question.forced,decide_eq_true_eq,hf,if_false,Question.cut]⟩
   obtain⟨j,d,hj,aj⟩:=TF
   refine⟨L[j],by simp,d,?_⟩
   have jG: ∀ (o':Go.Obj),(setObj bi o').run P {w with drawn:=w.drawn+d}= .ok () {w with drawn:=w.drawn+d,heap:=w.heap.setIfInBounds bi o'}:=fun o'=>by
    simp only[setObj,Sem.run,hi]
   simp only[aj,Array.getElem?_map,Array.getElem?_eq_getElem hj,Option.map_some,Sem.run_bind,jG,Result.andThen]
   rfl
theorem F0 {P:Program} {w:World} {ty:TypeId} {bi a b:Nat} {s:Array Nat} (hi:w.heap[bi]? =some (.mapIter none a s b)):
  (Instr.next (.pointer (some ⟨bi,0,none⟩)) false ty).run P w= .ok (.tuple #[.bool false]) w:=by
 simp only[Instr.next,getObj,Sem.run_bind,Sem.run,hi,Result.andThen]
 rfl
structure iZ (X:Ctx) (μ:Mu) (w':World):Prop where
 cell: ∀a c,μ.w.cell? a=some c→w'.cell? a=some c
 map: ∀ (a:Nat) ents clock,μ.w.heap[a]? =some (.map ents clock)→w'.heap[a]? =some (.map ents clock)
 size:μ.w.heap.size≤w'.heap.size
section
variable {X:Ctx} {μ:Mu} {w':World}
theorem iZ.row (h:iZ X μ w') {b off sz:Nat} {vs:List Value} (hr:dW μ.w b off sz vs):dW w' b off sz vs:=
 fun i v hv=> ⟨(hr i v hv).1,fun j c hc=>h.cell _ _ ((hr i v hv).2 j c hc)⟩
mutual
theorem al.cE (h:iZ X μ w'): ∀ {x:V} {v:Value},al X μ x v→al X ⟨w',μ.φ,μ.O⟩ x v
 | .bool _,_,k| .int ..,_,k| .float _,_,k| .str _,_,k| .nilp,_,k| .nilfn,_,k| .nili,_,k| .nils,_,k| .sl ..,_,k| .ptr ..,_,k| .mp ..,_,k| .it ..,_,k=>by simpa [al] using k
 | .any,_,_=>by simp[al]
 | .own ..,_,k| .msl ..,_,k| .mptr ..,_,k=>by simp[al] at k
 | .agg cs,_,k=>by
   simp only[al] at k ⊢
   obtain⟨h1,vs,rfl,h2⟩:=k
   exact⟨h1,vs,rfl,ak.cE h h2⟩
 | .tuple cs,_,k=>by
   simp only[al] at k ⊢
   obtain⟨vs,rfl,h2⟩:=k
   exact⟨vs,rfl,ak.cE h h2⟩
 | .fn f cs,_,k=>by
   simp only[al] at k ⊢
   obtain⟨F,cv,rfl,h1,h2⟩:=k
   exact⟨F,cv,rfl,h1,ak.cE h h2⟩
 | .iface t x,_,k=>by
   simp only[al] at k ⊢
   obtain⟨F,y,rfl,h1,h2⟩:=k
   exact⟨F,y,rfl,h1,al.cE h h2⟩
 | .lit sz xs,_,k=>by
   simp only[al] at k ⊢
   obtain⟨h0,jZ,a,cap,vs,rfl,h1,h2,h3⟩:=k
   refine⟨h0,jZ,a,cap,vs,rfl,h1,ak.cE h h2,h3.imp id ?_⟩
   rintro⟨b,o,rfl,hb,hs,hr⟩
   exact⟨b,o,rfl,hb,Nat.lt_of_lt_of_le hs h.size,h.row hr⟩
 | .litk sz xs,_,k=>by
   simp only[al] at k ⊢
   obtain⟨h0,jZ,a,cap,vs,rfl,h1,h2,h3⟩:=k
   refine⟨h0,jZ,a,cap,vs,rfl,h1,ak.cE h h2,h3.imp id ?_⟩
   rintro⟨rfl,hb,hs,hr⟩
   exact⟨rfl,hb,Nat.lt_of_lt_of_le hs h.size,h.row hr⟩
 | .eptr e off,_,k=>by
   simp only[al] at k ⊢
   obtain⟨h0,jZ,b,o,sz,x,rfl,hb,hs,h1,hr⟩:=k
   exact⟨h0,jZ,b,o,sz,x,rfl,hb,Nat.lt_of_lt_of_le hs h.size,al.cE h h1,h.row hr⟩
 | .epk i sz e off,_,k=>by
   simp only[al] at k ⊢
   obtain⟨h0,jZ,x,rfl,hb,hs,h1,hr⟩:=k
   exact⟨h0,jZ,x,rfl,hb,Nat.lt_of_lt_of_le hs h.size,al.cE h h1,h.row hr⟩
 | .mlit es,_,k=>by
   simp only[al] at k ⊢
   obtain⟨h0,k⟩:=k
   refine⟨h0,k.imp id ?_⟩
   rintro⟨a,ents,clock,rfl,hb,hs,h1,h2⟩
   exact⟨a,ents,clock,rfl,hb,Nat.lt_of_lt_of_le hs h.size,⟨h.map _ _ _ h1.1,h1.2⟩,ak.cE h h2⟩
theorem ak.cE (h:iZ X μ w'): ∀ {xs:List V} {vs:List Value},ak X μ xs vs→ak X ⟨w',μ.φ,μ.O⟩ xs vs
 | [],[],_=>by simp[ak]
 | [],_::_,k=>by simp[ak] at k
 | _::_,[],k=>by simp[ak] at k
 | x::xs,v::vs,k=>by
   simp only[ak] at k ⊢
   exact⟨al.cE h k.1,ak.cE h k.2⟩
end
theorem br.cE (h:iZ X μ w') (ho:br X μ) (hb: ∀r,(μ.O r).es.isSome=true→(μ.φ r).cap≠0→w'.heap[(μ.φ r).cO]? =μ.w.heap[(μ.φ r).cO]?):br X ⟨w',μ.φ,μ.O⟩ where
 ok:=fun r es bQ=>by
  have L7: (μ.O r).es.isSome=true:=by rw[bQ];rfl
  rcases ho.ok r es bQ with⟨h1,h2,h3,h4⟩ | ⟨h1,h2,ob,h3,h4⟩
  · refine .inl ⟨h1,h2,h3,?_⟩
    rcases h4 with h4| ⟨c,T,vs,k1,k2,k3,k4⟩
    · exact .inl h4
    · by_cases hc: (μ.φ r).cap=0
      · exact .inl hc
      · exact .inr ⟨c,T,vs,by show w'.heap[(μ.φ r).cO]? =_;rw[hb r L7 hc];exact k1,k2,ak.cE h k3,h.row k4⟩
  · refine .inr ⟨h1,h2,ob,by show w'.heap[(μ.φ r).cO]? =_;rw[hb r L7 h2];exact h3,?_⟩
    rcases h4 with⟨ents,clock,k1,k2,k3⟩ | k| ⟨mo,since,mC,k1,k2,k3⟩
    · exact .inl ⟨ents,clock,k1,ak.cE h k2,k3⟩
    · exact .inr (.inl k)
    · refine .inr (.inr ⟨mo,since,mC,k1,k2,k3.imp id ?_⟩)
      rintro⟨m,ents,l1,l2,l3,l4,l5,l6⟩
      exact⟨m,ents,l1,l2,Nat.lt_of_lt_of_le l3 h.size,h.map _ _ _ l4,l5,ak.cE h l6⟩
 inj:=ho.inj
 sx:=ho.sx
 blt:=fun b pR=>Nat.lt_of_lt_of_le (ho.blt b pR) h.size
end
theorem wC {X:Ctx} {w:World} {φ:Nat→Row} {O O':Nat→Obj} (ho:br X ⟨w,φ,O⟩) (h: ∀r,O' r=O r∨(O' r).es=none∧((O r).gen< (O' r).gen∨(O' r).gen=(O r).gen∧(O' r).sz=(O r).sz)):
   Le ⟨w,φ,O⟩ ⟨w,φ,O'⟩∧br X ⟨w,φ,O'⟩:=by
 have I3: ∀r es,(O' r).es=some es→O' r=O r:=fun r es bQ=>by
   rcases h r with h| ⟨h,_⟩
   · exact h
   · rw[h] at bQ;simp at bQ
 have L7: ∀r,(O' r).es.isSome=true→O' r=O r:=fun r hr=>by
   obtain⟨es,bQ⟩:=Option.isSome_iff_exists.1 hr
   exact I3 r es bQ
 have ib: ∀b,(Mu.mk w φ O').own b→(Mu.mk w φ O).own b:=by
   rintro b ⟨r,h1,h2,h3,h4⟩
   have e:=L7 r h1
   have xV: (O' r).es.isSome=true:=h1
   have Fo: (O' r).fz=false:=h2
   rw[e] at xV Fo
   exact⟨r,xV,Fo,h3,h4⟩
 have le:Le ⟨w,φ,O⟩ ⟨w,φ,O'⟩:=by
   refine⟨Nat.le_refl _,fun b _ hn=> ⟨rfl,fun h'=>hn (ib b h')⟩,fun r=> ?_,fun r e=> ?_,rfl,rfl,rfl,fun _ _=>rfl⟩
   · show (O r).gen≤(O' r).gen
     rcases h r with h| ⟨_,h| ⟨h,_⟩⟩
     · rw[h];exact Nat.le_refl _
     · omega
     · omega
   · have e': (O' r).gen=(O r).gen:=e
     refine⟨rfl,?_⟩
     show (O' r).sz=(O r).sz
     rcases h r with h| ⟨_,h| ⟨_,h⟩⟩
     · rw[h]
     · omega
     · exact h
 refine⟨le,fun r es bQ=> ?_,fun r r' cT h1 h2 h3 h4=> ?_,fun r h1 h2=> ?_,ho.blt⟩
 · have e:=I3 r es bQ
   have fF: (O r).es=some es:=by rw[←e];exact bQ
   exact fE.cR (r:=r) (r':=r) le (ho.ok r es fF) (by show (O' r).sz=(O r).sz;rw[e]) rfl fun _=>rfl
 · have xV: (O' r).es.isSome=true:=h1
   have Fo: (O' r').es.isSome=true:=h2
   rw[L7 r xV] at xV
   rw[L7 r' Fo] at Fo
   exact ho.inj r r' cT xV Fo h3 h4
 · have xV: (O' r).es.isSome=true:=h1
   rw[L7 r xV] at xV
   exact ho.sx r xV h2
def gT (Z:List (V×MapEntry)) (seen:Array Nat):List (V×MapEntry):=Z.filter fun z=> !seen.contains z.2.born
theorem wD {Z:List (V×MapEntry)} {ents:Array MapEntry} (h:Z.map (·.2)=ents.toList) (seen:Array Nat): (gT Z seen).map (·.2)=(leftOf ents seen).toList:=by
 unfold gT leftOf
 rw[Array.toList_filter,←h,List.filter_map]
 rfl
theorem sI {α:Type} (f:α→Nat): ∀ {l:List α} {z:α},z ∈ l→(l.map f).Nodup→l.Perm (z::l.filter fun x=> !(f x==f z))
 | a::l,z,hz,hn=>by
   rw[List.map_cons,List.nodup_cons] at hn
   rcases List.mem_cons.1 hz with rfl| hz
   · have:l.filter (fun x=> !(f x==f z))=l:=List.filter_eq_self.2 fun x hx=>by
      have:f x≠f z:=fun e=>hn.1 (e ▸ List.mem_map.2 ⟨x,hx,rfl⟩)
      simpa using this
     simp[this]
   · have cT: ¬ (f a=f z):=fun e=>hn.1 (e ▸ List.mem_map.2 ⟨z,hz,rfl⟩)
     have ih:=sI f hz hn.2
     have: (a::l).filter (fun x=> !(f x==f z))=a::l.filter (fun x=> !(f x==f z)):=by
      rw[List.filter_cons_of_pos (by simpa using cT)]
     rw[this]
     exact(ih.cons a).trans (.swap z a _)
theorem A5 {Z:List (V×MapEntry)} {seen:Array Nat} (hn: (Z.map fun z=>z.2.born).Nodup) {z:V×MapEntry} (hz:z ∈ gT Z seen): (gT Z seen).Perm (z::gT Z (seen.push z.2.born)):=by
 have h1: ((gT Z seen).map fun z=>z.2.born).Nodup:=hn.sublist (List.filter_sublist.map _)
 have h2:=sI (fun z:V×MapEntry=>z.2.born) hz h1
 have h3: (gT Z seen).filter (fun x=> !(x.2.born==z.2.born))=gT Z (seen.push z.2.born):=by
  unfold gT
  rw[List.filter_filter]
  refine List.filter_congr fun x _=> ?_
  rw[contains_push]
  cases seen.contains x.2.born<;>cases (x.2.born==z.2.born) <;>rfl
 rw[h3] at h2
 exact h2
theorem zk {X:Ctx} {μ:Mu}: ∀ {es:List V} {l:List MapEntry},ak X μ es (l.map fun e=>Value.tuple #[e.key,e.val])→ ∃Z:List (V×MapEntry),Z.map (·.1)=es∧Z.map (·.2)=l∧ ∀z ∈ Z,al X μ z.1 (.tuple #[z.2.key,z.2.val])
 | [],[],_=> ⟨[],rfl,rfl,by simp⟩
 | [],_::_,h=>by simp[ak] at h
 | _::_,[],h=>by simp[ak] at h
 | x::es,e::l,h=>by
   simp only[List.map_cons,ak] at h
   obtain⟨Z,h1,h2,h3⟩:=zk h.2
   refine⟨(x,e)::Z,by simp[h1],by simp[h2],fun z hz=> ?_⟩
   rcases List.mem_cons.1 hz with rfl| hz
   · exact h.1
   · exact h3 z hz
section
variable {X:Ctx} {E:Env} {n:Fp}
def xz (X:Ctx) (n:Fp) (ops:Array Oper) (y:Code) (rec:az→St→Option (aW×St)) (tb:az):Prop:=
 ∀ (σ σ':St) (e:aW) (μ0:Mu) (a:Go.Act) (w:World) (Q K:Go.Exit→Go.Act→World→Prop),rec tb σ=some (e,σ')→jc X μ0 n σ a w→(∀a' w',jc X μ0 n σ' a' w'→Q (match e with| .normal=> .normal| .exit id=> .exit id| .ret=> .ret) a' w')→
  (∀a' w',y.wpIn (Fr n.ro) 0 X.P Q a' w'→K .normal a' w')→wpOpsIn (Fr n.ro) 0 X.P ops K (List.range' 1 (ops.size - 1)) a w
def A6 (X:Ctx) (n:Fp) (ops:Array Oper) (z:Code) (b1:Nat) (rec:az→St→Option (aW×St)) (tm:az):Prop:=
 ∀ (σ σ':St) (μ0:Mu) (a:Go.Act) (w:World) (Q:Go.Exit→Go.Act→World→Prop),rec tm σ=some (.normal,σ')→jc X μ0 n σ a w→(∀a' w',jc X μ0 n σ' a' w'→Q .normal a' w')→
  wpOpsIn (Fr n.ro) 0 X.P ops (Exit.then (z.wpIn (Fr n.ro) 0 X.P (Exit.inBlock b1 Q)) (Exit.inBlock b1 Q)) (List.range' 1 (ops.size - 1)) a w
abbrev nz (i0:Nat) (ops:Array Oper) (y:Code) (b1 i5:Nat) (gJ:Array Oper) (z5:Code):Code:= .seq (.region i0 ops false) (.seq y (.block b1 (.seq (.region i5 gJ false) z5)))
theorem DH {P:Program} {w:World} {bi bm since:Nat} {seen:Array Nat} {ents:Array MapEntry} {e:MapEntry} (hi:w.heap[bi]? =some (.mapIter (some bm) since (seen.push e.born) since)) (hb:w.heap[bm]? =some (.map ents since)) (he:e ∈ ents.toList) (hn: (ents.toList.map (·.born)).Nodup):
  (Instr.entry (.pointer (some ⟨bi,0,none⟩))).run P w= .ok (.tuple #[e.key,e.val]) w:=by
 have hf:ents.find? (·.born==e.born)=some e:=by
  rw[←Array.find?_toList]
  generalize ents.toList=l at he hn
  induction l with
  | nil=>simp at he
  | cons x l ih=>
    rw[List.map_cons,List.nodup_cons] at hn
    rw[List.find?_cons]
    rcases List.mem_cons.1 he with rfl| he
    · simp
    · have cT: ¬ (x.born==e.born)=true:=by
       intro h
       exact hn.1 (List.mem_map.2 ⟨e,he,(by simpa using h:x.born=e.born).symm⟩)
      simp only[cT]
      exact ih he hn.2
 simp only[Instr.entry,getObj,Sem.run_bind,Sem.run,hi,hb,Result.andThen,Array.back?_push,bne_self_eq_false,Bool.false_eq_true,if_false,hf]
 rfl
structure xA (X:Ctx) (n:Fp) (μ0:Mu) (rec:az→St→Option (aW×St)) (tl:az) (Good:St→Prop) (a:Go.Act) (w:World):Prop where
 h: ∃σe σp,jc X μ0 n σe a w∧rec tl σe=some (.normal,σp)∧Good σp
variable {ops gJ:Array Oper} {o1 o5:Oper} {y z5:Code} {it nx ne id b1 r g:Nat} {μ0:Mu} {rec:az→St→Option (aW×St)} {tb tm tl:az} {Good:St→Prop} {i0 i5:Nat}
theorem uS (h0:ops[0]? =some o1) (hd: ∀c,o1.op≠ .defer c) (hg:o1.guard=none) {a:Go.Act} {w w1:World} {v:Value} (kj: (execOp a.eval o1).run X.P w= .ok (.value v) w1) {Q:Go.Exit→Go.Act→World→Prop}
  (h:wpOpsIn (Fr n.ro) 0 X.P ops Q (List.range' 1 (ops.size - 1)) (a.put o1.dst v) w1): (Code.region i0 ops false).wpIn (Fr n.ro) 0 X.P Q a w:=by
 refine wpIn_region ?_
 have cP:0 <ops.size:=(Array.getElem?_eq_some_iff.1 h0).1
 have hr:List.range ops.size=0::List.range' 1 (ops.size - 1):=by
  rw[List.range_eq_range']
  obtain⟨k,hk⟩: ∃k,ops.size=k+1:=⟨ops.size - 1,by omega⟩
  rw[hk,List.range'_succ]
  rfl
 rw[hr,wpOpsIn_cons]
 simp only[wpOpIn,h0]
 rw[if_pos (by simp[Region.wanted,hg])]
 refine tC hd ?_
 unfold Oper.wp
 rw[kj,Oper.upon_value]
 exact h
theorem wE (dX:o1.op= .next (.tmp it) false) {a:Go.Act} {w w1:World} {v:Value} (aj: (Instr.next (a.eval (.tmp it)) false o1.type).run X.P w= .ok v w1): (execOp a.eval o1).run X.P w= .ok (.value v) w1:=by
 simp only[execOp,dX]
 exact cq aj
theorem A7 (dX:o5.op= .entry (.tmp it)) {a:Go.Act} {w w1:World} {v:Value} (aj: (Instr.entry (a.eval (.tmp it))).run X.P w= .ok v w1): (execOp a.eval o5).run X.P w= .ok (.value v) w1:=by
 simp only[execOp,dX]
 exact cq aj
theorem wF {Q:Go.Exit→Go.Act→World→Prop} (hQ: ∀a w,xA X n μ0 rec tl Good a w→Q (.exit id) a w) (hB:xz X n ops y rec tb) (h0:ops[0]? =some o1) (dX:o1.op= .next (.tmp it) false) (hd:o1.dst=some nx) (hg:o1.guard=none) (xb:nx<n.1)
   {σ σp:St} {a:Go.Act} {w:World} (hs:jc X μ0 n σ a w) (aj: (Instr.next (a.eval (.tmp it)) false o1.type).run X.P w= .ok (.tuple #[.bool false]) w)
   (hk:runK rec it r g nx ne id tb tm tl [] σ=some σp) (zl:Good σp) (m:Nat):
   Code.roundsIn (Fr n.ro) 0 X.P (nz i0 ops y b1 i5 gJ z5) Q (m+1) a w:=by
 rw[roundsIn_succ]
 simp only[runK] at hk
 split at hk
 · split at hk
   · rename_i jV σe iJ
     split at hk
     · rename_i RX
       subst RX
       split at hk
       · rename_i σ'' B1
         injection hk with hk;subst hk
         refine wpIn_seq (uS (X:=X) h0 (by rw[dX];simp) hg (wE dX aj) ?_)
         obtain⟨jk,cP,φ,hr,hle⟩:=hs
         have B3:jc X μ0 n (σ.put (some nx) (.tuple [.bool false])) (a.put o1.dst (.tuple #[.bool false])) w:=by
          rw[hd]
          exact⟨by rw[put_defers];exact jk,by rw[kV];exact cP,φ,oo hr (Le.refl _) hr.bd (by simp only[al];exact⟨_,rfl,by simp[ak,al]⟩) (by simp;omega) σ.O,hle⟩
         exact hB _ _ _ _ _ _ (Exit.then (Code.wpIn (Fr n.ro) 0 X.P (.block b1 (.seq (.region i5 gJ false) z5)) (Exit.then (Code.roundsIn (Fr n.ro) 0 X.P (nz i0 ops y b1 i5 gJ z5) Q m) Q)) (Exit.then (Code.roundsIn (Fr n.ro) 0 X.P (nz i0 ops y b1 i5 gJ z5) Q m) Q)) _ iJ B3 (fun a' w' dg=>hQ _ _ ⟨σe,σ'',dg,B1,zl⟩) fun a' w' h=>wpIn_seq h
       · simp at hk
     · simp at hk
   · simp at hk
 · simp at hk
theorem uT {σ:St} (h:sS it r g σ=true):σ.T it= .it r g∧(σ.O r).gen=g:=by
 unfold sS at h
 split at h
 · rename_i r' g' e
   simp only[Bool.and_eq_true,Nat.beq_eq] at h
   obtain⟨rfl,rfl,h⟩:=h
   exact⟨e,h⟩
 · simp at h
theorem qR { Q:Go.Exit→Go.Act→World→Prop} (hQ: ∀a w,xA X n μ0 rec tl Good a w→Q (.exit id) a w) (hB:xz X n ops y rec tb) (hM:A6 X n gJ z5 b1 rec tm) (h0:ops[0]? =some o1) (dX:o1.op= .next (.tmp it) false) (hd:o1.dst=some nx) (hg:o1.guard=none) (xb:nx<n.1)
   (k0:gJ[0]? =some o5) (TR:o5.op= .entry (.tmp it)) (kd:o5.dst=some ne) (kg:o5.guard=none) (cT:ne<n.1)
   {bi bm since:Nat} {ents:Array MapEntry} {Z:List (V×MapEntry)} (hZ:Z.map (·.2)=ents.toList) (kQ:uy ents since):
   ∀ (m:Nat) (seen:Array Nat) (σ:St) (a:Go.Act) (w:World) (φ:Nat→Row),(gT Z seen).length=m→Marks n w a.defers→a.tmps.size=n.1→Rel X σ.T a ⟨w,φ,σ.O⟩→Le μ0 ⟨w,φ,σ.O⟩→
    (φ r).cO=bi→w.heap[bi]? =some (.mapIter (some bm) since seen since)→ ¬ (Mu.mk w φ σ.O).own bi→(bi<μ0.w.heap.size→μ0.own bi)→
    (∀r',(σ.O r').es.isSome=true→(φ r').cap≠0→(φ r').cO≠bi)→w.heap[bm]? =some (.map ents since)→ ¬Own X ⟨w,φ,σ.O⟩ bm→
    (∀z ∈ Z,al X ⟨w,φ,σ.O⟩ z.1 (.tuple #[z.2.key,z.2.val]))→
    (∀p,p.Perm ((gT Z seen).map (·.1))→ ∃σp,runK rec it r g nx ne id tb tm tl p σ=some σp∧Good σp)→
    Code.roundsIn (Fr n.ro) 0 X.P (nz i0 ops y b1 i5 gJ z5) Q (m+1) a w
 | m,seen,σ,a,w,φ,hm,jk,cP,hr,hle,hφ,I4,kf,rL,fI,MZ,xZ,bV,uU=>by
   have vP:sS it r g σ=true:=by
    obtain⟨σp,hk,_⟩:=uU _ (.refl _)
    cases hl: (gT Z seen).map (·.1) with
    | nil=>
      rw[hl] at hk
      simp only[runK] at hk
      split at hk
      · rename_i h;exact h
      · simp at hk
    | cons e p=>
      rw[hl] at hk
      simp only[runK] at hk
      split at hk
      · split at hk
        · rename_i h;exact h
        · simp at hk
      · simp at hk
   obtain⟨hT,cD⟩:=uT vP
   have C6:a.eval (.tmp it)= .pointer (some ⟨bi,0,none⟩):=by
    have:=hr.tmps it
    rw[hT] at this
    simp only[al] at this
    obtain⟨a0,h1,_,h2⟩:=this
    obtain⟨_,rfl⟩:=h2 cD
    show a.tmps.getD it undef=_
    rw[h1,hφ]
   have kY:jc X μ0 n σ a w:=⟨jk,cP,φ,hr,hle⟩
   have bk:bi<w.heap.size:=(Array.getElem?_eq_some_iff.1 I4).1
   rcases FZ (P:=X.P) (ty:=o1.type) I4 MZ kQ.1 with⟨hz,aj⟩ | ⟨e,he,d,aj⟩
   ·
    have hl:gT Z seen=[]:=by
      have:=wD hZ seen
      rw[Array.eq_empty_of_size_eq_zero hz] at this
      exact List.map_eq_nil_iff.1 this
    obtain⟨σp,hk,zl⟩:=uU [] (by rw[hl];exact .refl _)
    exact wF hQ hB h0 dX hd hg xb kY (by rw[C6];exact aj) hk zl m
   ·
    rw[←wD hZ seen] at he
    obtain⟨z,hz,rfl⟩:=List.mem_map.1 he
    have GJ: (Z.map fun z=>z.2.born).Nodup:=by
      have:=kQ.2
      rw[←hZ,List.map_map] at this
      exact this
    have B8:=A5 GJ hz
    obtain⟨m',rfl⟩: ∃m',m=m'+1:=by
      have:=B8.length_eq
      simp only[List.length_cons] at this
      exact⟨_,by rw[←hm];exact this⟩
    have Vq:z ∈ Z:=(List.mem_filter.1 hz).1
    have uH:=bV z Vq
    obtain⟨σp1,vu,_⟩:=uU (z.1:: (gT Z (seen.push z.2.born)).map (·.1)) (by have:=(B8.map (·.1)).symm;simpa using this)
    obtain⟨ k,v,σm,σ',Vr,F1,H7,iJ⟩: ∃k v σm σ',z.1= .tuple [k,v]∧rec tb (σ.put (some nx) (.tuple [.bool true,k,v]))=some (.normal,σm)∧sS it r g σm=true∧rec tm (σm.put (some ne) (.tuple [k,v]))=some (.normal,σ'):=by
      simp only[runK] at vu
      split at vu
      · rename_i k v M0
        rw[if_pos vP] at vu
        split at vu
        · rename_i σm hb
          split at vu
          · rename_i H7
            split at vu
            · rename_i σ' pR;exact⟨k,v,σm,σ',M0,hb,H7,pR⟩
            · simp at vu
          · simp at vu
        · simp at vu
      · simp at vu
    have M0:al X ⟨w,φ,σ.O⟩ k z.2.key∧al X ⟨w,φ,σ.O⟩ v z.2.val:=by
      rw[Vr] at uH
      simp only[al] at uH
      obtain⟨vs,h1,h2⟩:=uH
      injection h1 with h1
      subst h1
      simpa [ak] using h2
    rw[roundsIn_succ]
    refine wpIn_seq (uS (X:=X) h0 (by rw[dX];simp) hg (wE dX (by rw[C6];exact aj)) ?_)
    generalize zN: ({w with drawn:=w.drawn+d,heap:=w.heap.setIfInBounds bi (.mapIter (some bm) since (seen.push z.2.born) since)}:World)=w2
    have iI: ∀b,b≠bi→w2.heap[b]? =w.heap[b]? :=fun b hb=>by
      rw[←zN];exact Array.getElem?_setIfInBounds_ne (fun e=>hb e.symm)
    have L8:w2.heap[bi]? =some (.mapIter (some bm) since (seen.push z.2.born) since):=by
      rw[←zN];simp[bk]
    have qG:w2.heap.size=w.heap.size:=by rw[←zN];simp
    have st:iZ X ⟨w,φ,σ.O⟩ w2:=by
      refine⟨fun ad c hc=> ?_,fun b es cl hb=> ?_,by show w.heap.size≤w2.heap.size;omega⟩
      · have cT:ad.block≠bi:=fun e=>by
          have zL:w.cell? ad=some c:=hc
          simp[World.cell?,e,I4] at zL
        have zL:w.cell? ad=some c:=hc
        simp only[World.cell?,iI _ cT] at zL ⊢
        exact zL
      · have pR:w.heap[b]? =some (.map es cl):=hb
        rw[iI b (fun e=>by rw[e,I4] at pR;simp at pR)]
        exact pR
    have Qc:br X ⟨w2,φ,σ.O⟩:=hr.bd.cE st fun r' h1 h2=>iI _ (fI r' h1 h2)
    have L9:Le μ0 ⟨w2,φ,σ.O⟩:=by
      refine⟨by have:=hle.size;show μ0.w.heap.size≤w2.heap.size;have h2:μ0.w.heap.size≤w.heap.size:=this;omega,fun b hb hn=> ?_,hle.gen,hle.row,?_,?_,?_,fun ad Ma=> ?_⟩
      · have cT:b≠bi:=fun e=>by subst e;exact hn (rL hb)
        obtain⟨k1,k2⟩:=hle.cR b hb hn
        exact⟨(iI b cT).trans k1,k2⟩
      · rw[←hle.os,←zN]
      · rw[←hle.output,←zN]
      · rw[←hle.tape,←zN]
      · have k1:w.frozen? ad=μ0.w.frozen? ad:=hle.frozen ad Ma
        show w2.frozen? ad=_
        rw[←k1]
        by_cases e:ad.block=bi
        · simp only[World.frozen?,e,I4,L8]
        · simp only[World.frozen?,iI _ e]
    have oY:Rel X σ.T a ⟨w2,φ,σ.O⟩:=⟨fun t=>al.cE st (hr.tmps t),Qc⟩
    have F3:Marks n w2 a.defers:=by
      obtain⟨⟨m0,WR⟩,Ds,m1,m2,m3⟩:=jk
      exact⟨⟨by omega,fun l hl=>by
        obtain⟨L,k⟩:=WR l hl
        exact⟨L,(iI l (fun e=>by rw[e,I4] at k;simp at k)).trans k⟩⟩,Ds,m1,m2,fun D hD=> ⟨(m3 D hD).1,(iI D (fun e=>by have:=(m3 D hD).2;rw[e,I4] at this;simp at this)).trans (m3 D hD).2⟩⟩
    have DA:jc X ⟨w2,φ,σ.O⟩ n (σ.put (some nx) (.tuple [.bool true,k,v])) (a.put o1.dst (.tuple #[.bool true,z.2.key,z.2.val])) w2:=by
      rw[hd]
      refine⟨by rw[put_defers];exact F3,by rw[kV];exact cP,φ,oo oY (Le.refl _) Qc ?_ (by simp;omega) σ.O,Le.refl _⟩
      simp only[al]
      exact⟨_,rfl,by simp only[ak,al];exact⟨trivial,al.cE st M0.1,al.cE st M0.2,trivial⟩⟩
    refine hB _ _ _ _ _ _ (Exit.then (Code.wpIn (Fr n.ro) 0 X.P (.block b1 (.seq (.region i5 gJ false) z5)) (Exit.then (Code.roundsIn (Fr n.ro) 0 X.P (nz i0 ops y b1 i5 gJ z5) Q (m'+1)) Q)) (Exit.then (Code.roundsIn (Fr n.ro) 0 X.P (nz i0 ops y b1 i5 gJ z5) Q (m'+1)) Q)) _ F1 DA (fun am wm Vs=> ?_) fun a' w' h=>wpIn_seq h
    have fS:bi<w2.heap.size:=by omega
    have I5:bm<w2.heap.size:=by rw[qG];exact(Array.getElem?_eq_some_iff.1 MZ).1
    have I6:bm≠bi:=fun e=>by rw[e,I4] at MZ;simp at MZ
    obtain⟨TS,I7⟩:=uT H7
    have WS:=Vs
    obtain⟨Qd,TU,φm,TW,DI⟩:=Vs
    have WT:φm r=φ r:=(DI.row r (by show (σm.O r).gen=(σ.O r).gen;rw[I7,cD])).1
    have TX:wm.heap[bi]? =some (.mapIter (some bm) since (seen.push z.2.born) since):=(DI.cR bi fS kf).1.trans L8
    have TY:wm.heap[bm]? =some (.map ents since):=(DI.cR bm I5 (fun h=>xZ (.inl h))).1.trans ((iI bm I6).trans MZ)
    have TZ:am.eval (.tmp it)= .pointer (some ⟨bi,0,none⟩):=by
      have:=TW.tmps it
      rw[TS] at this
      simp only[al] at this
      obtain⟨a0,h1,_,h2⟩:=this
      obtain⟨_,rfl⟩:=h2 I7
      show am.tmps.getD it undef=_
      rw[h1,WT,hφ]
    have WU:z.2 ∈ ents.toList:=by rw[←hZ];exact List.mem_map.2 ⟨z,Vq,rfl⟩
    refine wpIn_block (wpIn_seq (uS (X:=X) k0 (by rw[TR];simp) kg (A7 TR (by rw[TZ];exact DH TX TY WU kQ.2)) ?_))
    have BN:jc X ⟨w2,φ,σ.O⟩ n (σm.put (some ne) (.tuple [k,v])) (am.put o5.dst (.tuple #[z.2.key,z.2.val])) wm:=by
      rw[kd]
      refine⟨by rw[put_defers];exact Qd,by rw[kV];exact TU,φm,oo TW (Le.refl _) TW.bd ?_ (by simp;omega) σm.O,DI⟩
      simp only[al]
      exact⟨_,rfl,by simp only[ak];exact⟨al.mono DI (al.cE st M0.1),al.mono DI (al.cE st M0.2),trivial⟩⟩
    refine hM _ _ _ _ _ _ iJ BN fun a' w' dg=> ?_
    obtain⟨Qe,HX,φ',rN,qS⟩:=dg
    have F4: ∀p,p.Perm ((gT Z (seen.push z.2.born)).map (·.1))→ ∃σp,runK rec it r g nx ne id tb tm tl p σ'=some σp∧Good σp:=fun p hp=>by
      obtain⟨σp,hk,vb⟩:=uU (z.1::p) ((hp.cons z.1).trans (by have:=(B8.map (·.1)).symm;simpa using this))
      refine⟨σp,?_,vb⟩
      rw[Vr] at hk
      simp only[runK,vP,H7,if_true,F1,iJ] at hk
      exact hk
    have T3:sS it r g σ'=true:=by
      obtain⟨σp,hk,_⟩:=F4 _ (.refl _)
      cases hl: (gT Z (seen.push z.2.born)).map (·.1) with
      | nil=>
        rw[hl] at hk
        simp only[runK] at hk
        split at hk
        · rename_i h;exact h
        · simp at hk
      | cons e p=>
        rw[hl] at hk
        simp only[runK] at hk
        split at hk
        · split at hk
          · rename_i h;exact h
          · simp at hk
        · simp at hk
    have uV: (σ'.O r).gen=g:=(uT T3).2
    obtain⟨WV,WW⟩:=qS.cR bi fS kf
    obtain⟨WX,WY⟩:=qS.cR bm I5 (fun h=>xZ (.inl h))
    have Mb:w'.heap[bi]? =some (.mapIter (some bm) since (seen.push z.2.born) since):=WV.trans L8
    have hlen: (gT Z (seen.push z.2.born)).length=m':=by
      have:=B8.length_eq
      rw[hm,List.length_cons] at this
      omega
    refine qR hQ hB hM h0 dX hd hg xb k0 TR kd kg cT hZ kQ m' (seen.push z.2.born) σ' a' w' φ' hlen Qe HX rN (L9.trans qS) ?_ Mb WW rL ?_ (WX.trans ((iI bm I6).trans MZ)) ?_ (fun x hx=>al.mono qS (al.cE st (bV x hx))) F4
    · have:=(qS.row r (by show (σ'.O r).gen=(σ.O r).gen;rw[uV,cD])).1
      rw[show φ' r=φ r from this];exact hφ
    · intro r' h1 h2 hb
      obtain⟨es,bQ⟩:=Option.isSome_iff_exists.1 h1
      rcases rN.bd.ok r' es bQ with⟨_,_,_,h4⟩ | ⟨_,_,ob,h3,h4⟩
      · rcases h4 with h4| ⟨c,T,vs,k1,_⟩
        · exact h2 h4
        · have Vt:w'.heap[(φ' r').cO]? =some (.cells c T (0,0)):=k1
          rw[hb,Mb] at Vt;simp at Vt
      · have M1:w'.heap[(φ' r').cO]? =some ob:=h3
        rw[hb,Mb] at M1
        injection M1 with M1
        rcases h4 with⟨_,_,k1,_⟩ | ⟨_,_,k1,_⟩ | ⟨_,_,_,k1,_⟩
        · rw[←M1] at k1;simp at k1
        · rw[←M1] at k1;simp at k1
        · rw[←M1] at k1
          injection k1 with _ _ k1 _
          have:=congrArg Array.size k1
          simp at this
    · rintro(h| h)
      · exact WY h
      · exact xZ (.inr h)
termination_by m=>m
theorem uW {      kT kO:List Nat} (hB:xz X n ops y rec tb) (hM:A6 X n gJ z5 b1 rec tm) (h0:ops[0]? =some o1) (dX:o1.op= .next (.tmp it) false) (hd:o1.dst=some nx) (hg:o1.guard=none) (xb:nx<n.1)
   (l0:gJ[0]? =some o5) (WZ:o5.op= .entry (.tmp it)) (ld:o5.dst=some ne) (lg:o5.guard=none) (cT:ne<n.1)
   {C:bl} {σ σ2:St} {e:aW} {a:Go.Act} {w:World} (aj:aJ E C rec (.keys it nx ne id kT kO tb tm tl) σ=some (e,σ2)) (hs:jc X μ0 n σ a w):
   e= .normal∧(Code.block id (.loop (nz i0 ops y b1 i5 gJ z5))).wpIn (Fr n.ro) 0 X.P (fun ex a' w'=>ex= .normal∧ ∃σe σp,jc X μ0 n σe a' w'∧rec tl σe=some (.normal,σp)∧ ∀DJ B9,jc X μ0 n σp DJ B9→jc X μ0 n σ2 DJ B9) a w:=by
 simp only[aJ] at aj
 split at aj
 · rename_i r g hT
   split at aj
   · rename_i es hO
     split at aj
     · rename_i hc
       obtain⟨cD,Qf,gK⟩:=hc
       split at aj
       · rename_i σ1 σs qm
         split at aj
         · rename_i Mc
           simp only[Option.some.injEq,Prod.mk.injEq] at aj
           obtain⟨rfl,rfl⟩:=aj
           refine⟨rfl,?_⟩
           let Good:St→Prop:=fun σp=> ∀DJ B9,jc X μ0 n σp DJ B9→jc X μ0 n (forget kT kO σ1 σs) DJ B9
           have zl: ∀σp ∈ σ1::σs,Good σp:=by
            rintro σp hp DJ B9 ⟨jk,cP,φ,hr,hle⟩
            have Ju:agree kT kO σ1 σp=true∨σp=σ1:=by
              rcases List.mem_cons.1 hp with h| h
              · exact .inr h
              · exact .inl (List.all_eq_true.1 Mc σp h)
            have W2: ∀t,t ∈ kT→σp.T t=σ1.T t:=fun t ht=>by
              rcases Ju with h| h
              · simp only[agree,Bool.and_eq_true,List.all_eq_true] at h
                exact V.beq_eq (h.1 t ht)
              · rw[h]
            have W4: ∀x,x ∈ kO→σp.O x=σ1.O x:=fun x hx=>by
              rcases Ju with h| h
              · simp only[agree,Bool.and_eq_true,List.all_eq_true] at h
                exact Obj.beq_eq (h.2 x hx)
              · rw[h]
            have Ec:=wC (O':=(forget kT kO σ1 σs).O) hr.bd fun x=>by
              simp only[forget]
              by_cases hx:kO.contains x=true
              · rw[if_pos hx]
                exact .inl (W4 x (by simpa using hx)).symm
              · rw[if_neg hx]
                refine .inr ⟨rfl,.inl ?_⟩
                have:=qq (fun σ:St=> (σ.O x).gen) hp
                show (σp.O x).gen<_+1
                omega
            refine⟨jk,cP,φ,⟨fun t=> ?_,Ec.2⟩,hle.trans Ec.1⟩
            simp only[forget]
            split
            · rename_i ht
              rw[←W2 t (by simpa using ht)]
              exact al.mono Ec.1 (hr.tmps t)
            · simp[al]
           have uU: ∀p,p.Perm es→ ∃σp,runK rec it r g nx ne id tb tm tl p ⟨σ.T,dm σ.O r ⟨g,0,false,false,none⟩⟩=some σp∧Good σp:=fun p hp=>by
            obtain⟨σp,h1,h2⟩:=si qm p (mT hp)
            exact⟨σp,h2,zl σp h1⟩
           obtain⟨jk,cP,φ,hr,hle⟩:=hs
           have Ec:=wC (O':=dm σ.O r ⟨g,0,false,false,none⟩) hr.bd fun x=>by
            by_cases hx:x=r
            · subst hx
              rw[aD]
              exact .inr ⟨rfl,.inr ⟨cD.symm,Qf.symm⟩⟩
            · rw[aY _ _ hx];exact .inl rfl
           have oY:Rel X σ.T a ⟨w,φ,dm σ.O r ⟨g,0,false,false,none⟩⟩:=⟨fun t=>al.mono Ec.1 (hr.tmps t),Ec.2⟩
           obtain⟨_,ed,ob,BX,hh⟩:=hr.bd.map r _ hO Qf
           have ib: (Mu.mk w φ σ.O).own (φ r).cO:=⟨r,by show (σ.O r).es.isSome=true;rw[hO];rfl,gK,ed,rfl⟩
           have kf: ¬ (Mu.mk w φ (dm σ.O r ⟨g,0,false,false,none⟩)).own (φ r).cO:=by
            rintro⟨r',h1,h2,h3,h4⟩
            by_cases hx:r'=r
            · subst hx;simp[aD] at h1
            · have xV: (σ.O r').es.isSome=true:=by have:=h1;simp only[aY _ _ hx] at this;exact this
              exact hr.bd.inj r' r hx xV (by show (σ.O r).es.isSome=true;rw[hO];rfl) h3 ed h4
           have rL: (φ r).cO<μ0.w.heap.size→μ0.own (φ r).cO:=fun bk=>Classical.byContradiction fun hn=> (hle.cR _ bk hn).2 ib
           have fI: ∀r',((dm σ.O r ⟨g,0,false,false,none⟩) r').es.isSome=true→(φ r').cap≠0→(φ r').cO≠(φ r).cO:=fun r' h1 h2 h4=>by
            by_cases hx:r'=r
            · subst hx;simp[aD] at h1
            · have xV: (σ.O r').es.isSome=true:=by have:=h1;simp only[aY _ _ hx] at this;exact this
              exact hr.bd.inj r' r hx xV (by show (σ.O r).es.isSome=true;rw[hO];rfl) h2 ed h4
           have hQ: ∀a' w',xA X n μ0 rec tl Good a' w'→Exit.inBlock id (fun ex a' w'=>ex= .normal∧ ∃σe σp,jc X μ0 n σe a' w'∧rec tl σe=some (.normal,σp)∧ ∀DJ B9,jc X μ0 n σp DJ B9→jc X μ0 n (forget kT kO σ1 σs) DJ B9) (.exit id) a' w':=by
            rintro a' w' ⟨σe,σp,q1,q2,q3⟩
            simp only[Go.Exit.inBlock,if_true]
            exact⟨trivial,σe,σp,q1,q2,q3⟩
           have key: ∃m,Code.roundsIn (Fr n.ro) 0 X.P (nz i0 ops y b1 i5 gJ z5) (Exit.inBlock id (fun ex a' w'=>ex= .normal∧ ∃σe σp,jc X μ0 n σe a' w'∧rec tl σe=some (.normal,σp)∧ ∀DJ B9,jc X μ0 n σp DJ B9→jc X μ0 n (forget kT kO σ1 σs) DJ B9)) (m+1) a w:=by
            rcases hh with⟨ents,clock,k1,hh,_⟩ | ⟨s,pos,_,hh⟩ | ⟨mo,since,mC,h1,h2,h3⟩
            · exfalso
              cases he:ents.toList with
              | nil=>rw[he] at hh;simp[ak] at hh
              | cons x xs=>rw[he] at hh;simp[ak,al] at hh
            · simp at hh
            · simp only[List.cons.injEq,V.mlit.injEq,and_true] at h2
              subst h2
              subst h1
              rcases h3 with⟨rfl,rfl⟩ | ⟨bm,ents,rfl,k2,k3,k4,k5,k6⟩
              · obtain⟨σp,hk,vb⟩:=uU [] (.refl _)
                have vP:a.eval (.tmp it)= .pointer (some ⟨(φ r).cO,0,none⟩):=by
                  have:=hr.tmps it
                  rw[hT] at this
                  simp only[al] at this
                  obtain⟨a0,e1,_,e2⟩:=this
                  obtain⟨_,rfl⟩:=e2 cD
                  exact e1
                exact⟨0,wF hQ hB h0 dX hd hg xb ⟨jk,cP,φ,oY,hle.trans Ec.1⟩ (by rw[vP];exact F0 BX) hk vb 0⟩
              · obtain⟨Z,z1,z2,z3⟩:=zk k6
                have qP:gT Z #[]=Z:=List.filter_eq_self.2 fun z _=>by simp
                refine⟨_,qR (r:=r) (g:=g) hQ hB hM h0 dX hd hg xb l0 WZ ld lg cT z2 k5 _ #[] ⟨σ.T,dm σ.O r ⟨g,0,false,false,none⟩⟩ a w φ rfl jk cP oY (hle.trans Ec.1) rfl BX kf rL fI k4 ?_ (fun z hz=>al.mono Ec.1 (z3 z hz)) ?_⟩
                · rintro(⟨r',h1,h2,h3,h4⟩ | h)
                  · refine k2 (.inl ⟨r',?_,?_,h3,h4⟩)
                    · by_cases hx:r'=r
                      · subst hx;simp[aD] at h1
                      · have:=h1;simp only[aY _ _ hx] at this;exact this
                    · by_cases hx:r'=r
                      · subst hx;exact gK
                      · have:=h2;simp only[aY _ _ hx] at this;exact this
                  · exact k2 (.inr h)
                · rw[qP,z1];exact uU
           obtain⟨m,hm⟩:=key
           exact wpIn_block (wpIn_loop_rounds (m+1) hm)
         · simp at aj
       · simp at aj
     · simp at aj
   · simp at aj
 · simp at aj
end
end Go.AM
namespace Go.AM
open Go Go.RowKit
theorem F5 {X:Ctx} {μ:Mu} (ho:br X μ) {D:Nat} {o:Go.Obj} (hD:μ.w.heap[D]? =some o) (h1:o.isCells=false) (h2:o.isWalk=false) {r:Nat} (hr: (μ.O r).es.isSome=true) (hc: (μ.φ r).cap≠0): (μ.φ r).cO≠D:=fun hb=>by
 obtain⟨es,bQ⟩:=Option.isSome_iff_exists.1 hr
 rcases ho.ok r es bQ with⟨_,_,_,h4⟩ | ⟨_,_,ob,h3,h4⟩
 · rcases h4 with h4| ⟨c,T,vs,k1,_⟩
   · exact hc h4
   · rw[hb,hD] at k1;injection k1 with k1;subst k1;simp[Obj.isCells] at h1
 · rw[hb,hD] at h3;injection h3 with h3;subst h3
   rcases h4 with⟨_,_,rfl,_⟩ | ⟨_,_,rfl,_⟩ | ⟨_,_,_,rfl,_⟩ <;>simp[Obj.isWalk] at h2
theorem jO {X:Ctx} {μ:Mu} {D:Nat} {o o':Go.Obj} (hD:μ.w.heap[D]? =some o) (h1:o.isCells=false) (h2:o.isWalk=false):iZ X μ (μ.w.putObj D o'):=by
 refine⟨fun ad c hc=> ?_,fun b es cl hb=> ?_,by simp[World.putObj]⟩
 · have cT:ad.block≠D:=fun e=>by
    simp only[World.cell?,e,hD] at hc
    cases o<;>simp_all[Obj.isCells]
   simp only[World.cell?,World.putObj_heap_other cT] at hc ⊢
   exact hc
 · rw[World.putObj_heap_other (fun e=>by rw[e,hD] at hb;injection hb with hb;subst hb;simp[Obj.isWalk] at h2)]
   exact hb
theorem A8 {μ0:Mu} {w:World} {φ:Nat→Row} {O:Nat→Obj} (le:Le μ0 ⟨w,φ,O⟩) {D:Nat} {o':Go.Obj} (hf:μ0.w.heap.size≤D):Le μ0 ⟨w.putObj D o',φ,O⟩:=by
 refine⟨by have:=le.size;simpa [World.putObj] using this,fun b hb hn=> ?_,le.gen,le.row,le.os,le.output,le.tape,fun ad Ma=> ?_⟩
 · have cT:b≠D:=by omega
   exact⟨(World.putObj_heap_other cT).trans (le.cR b hb hn).1,(le.cR b hb hn).2⟩
 · have cT:ad.block≠D:=by omega
   have:=le.frozen ad Ma
   simp only[World.frozen?] at this ⊢
   show (match (w.putObj D o').heap[ad.block]? with| some (.cells _ _ (lo,hi))=>_| _=>false)=_
   rw[World.putObj_heap_other cT]
   exact this
theorem wG {X:Ctx} {w:World} {φ:Nat→Row} {O:Nat→Obj} (ho:br X ⟨w,φ,O⟩) {D:Nat} (h2:w.heap[D]? =some (.deferred (some []))):br X ⟨w.putObj D (.deferred none),φ,O⟩:=
 ho.cE (jO (μ:=⟨w,φ,O⟩) h2 rfl rfl) fun r h3 h4=>World.putObj_heap_other (F5 ho h2 rfl rfl h3 h4)
def Kept (μ:Mu) (W W':World):Prop:= ∀b,b<μ.w.heap.size→ ¬μ.own b→W'.heap[b]? =W.heap[b]?
def Abides (J:Nat→World→Prop):Prop:= ∀k A B,J k A→A.grownBy B none→J k B
structure tD (X:Ctx) (μ:Mu) (gf:Nat) (lb:Array Value) (xs:List (List V)):Prop where
 enters: ∀args w,(callFunc gf args).run X.P w= .ok (.enter gf args) w
 ex: ∃M3:List (Array Value),M3.length=xs.length∧(∀ (i:Nat) x v,xs[i]? =some x→M3[i]? =some v→ak X μ x v.toList)∧
  ∀ (l:Nat) (J Jx:Nat→World→Prop) (W0:World),Below μ.w.heap.size μ.w W0→Abides J→Abides Jx→
   (∀ (k:Nat) W1 v,M3[k]? =some v→J k W1→YieldAt (Fr none) 0 X.P l v W1 fun e W'=> (e= .returned (.bool true)∧J (k+1) W'∧Kept μ W1 W')∨(e= .returned (.bool false)∧Jx (k+1) W'))→
   J 0 W0→CallsIn (Fr none) 0 X.P gf (#[.func (.yield l) #[] #[]]++lb) W0 fun e W'=> (∃v,e= .returned v)∧(J M3.length W'∨ ∃k,k≤M3.length∧Jx k W')
theorem sJ {X:Ctx} {μ:Mu} {W':World} (h:μ.w.grownBy W' none):iZ X μ W':=by
 have hb: ∀k,k<μ.w.heap.size→W'.heap[k]? =μ.w.heap[k]? :=fun k hk=>h.block k hk (by simp)
 refine⟨fun ad c hc=> ?_,fun b es cl hc=> ?_,h.size⟩
 · have bk:ad.block<μ.w.heap.size:=by
    rcases Nat.lt_or_ge ad.block μ.w.heap.size with hl| hl
    · exact hl
    · simp[World.cell?,Array.getElem?_eq_none hl] at hc
   simp only[World.cell?,hb _ bk] at hc ⊢
   exact hc
 · rw[hb _ (Array.getElem?_eq_some_iff.1 hc).1];exact hc
theorem F6 {X:Ctx} {μ:Mu} (ho:br X μ) {r:Nat} (hr: (μ.O r).es.isSome=true) (hc: (μ.φ r).cap≠0): (μ.φ r).cO<μ.w.heap.size:=by
 obtain⟨es,bQ⟩:=Option.isSome_iff_exists.1 hr
 rcases ho.ok r es bQ with⟨_,_,_,h4⟩ | ⟨_,_,ob,h3,h4⟩
 · rcases h4 with h4| ⟨c,T,vs,k1,_⟩
   · exact absurd h4 hc
   · exact(Array.getElem?_eq_some_iff.1 k1).1
 · exact(Array.getElem?_eq_some_iff.1 h3).1
structure fG (X:Ctx) (μb:Mu) (T:Nat→V) (a:Go.Act) (l:Nat) (Dq:Option Nat) (L:Loop) (O:Nat→Obj) (φ:Nat→Row) (W:World):Prop where
 rel:Rel X T a ⟨W,φ,O⟩
 le:Le μb ⟨W,φ,O⟩
 xB:W.heap[l]? =some (.loop L)
 Md: ∀D,Dq=some D→W.heap[D]? =some (.deferred (some []))
section
variable {X:Ctx} {μb:Mu} {T:Nat→V} {a:Go.Act} {l:Nat} {Dq:Option Nat} {L L':Loop} {O:Nat→Obj} {φ:Nat→Row} {W W':World}
theorem fG.grow (h:fG X μb T a l Dq L O φ W) (hg:W.grownBy W' none):fG X μb T a l Dq L O φ W':=by
 have st:iZ X ⟨W,φ,O⟩ W':=sJ (μ:=⟨W,φ,O⟩) hg
 have hb: ∀k,k<W.heap.size→W'.heap[k]? =W.heap[k]? :=fun k hk=>hg.block k hk (by simp)
 refine⟨⟨fun t=>al.cE st (h.rel.tmps t),h.rel.bd.cE st fun r h1 h2=>hb _ (F6 h.rel.bd h1 h2)⟩,?_,(hb _ (Array.getElem?_eq_some_iff.1 h.xB).1).trans h.xB,fun D hD=> (hb _ (Array.getElem?_eq_some_iff.1 (h.Md D hD)).1).trans (h.Md D hD)⟩
 have le:=h.le
 have cP:μb.w.heap.size≤W.heap.size:=le.size
 exact⟨Nat.le_trans cP hg.size,fun b pR hn=> ⟨(hb b (by omega)).trans (le.cR b pR hn).1,(le.cR b pR hn).2⟩,le.gen,le.row,hg.os.trans le.os,hg.output.trans le.output,hg.tape.trans le.tape,fun ad Ma=>by
  have:=le.frozen ad Ma
  rw[←this]
  show W'.frozen? ad=W.frozen? ad
  simp only[World.frozen?,hb ad.block (by omega)]⟩
theorem fG.put (h:fG X μb T a l Dq L O φ W) (hl:μb.w.heap.size≤l) (hD: ∀D,Dq=some D→D≠l):fG X μb T a l Dq L' O φ (W.putObj l (.loop L')):=by
 have st:iZ X ⟨W,φ,O⟩ (W.putObj l (.loop L')):=jO (μ:=⟨W,φ,O⟩) h.xB rfl rfl
 refine⟨⟨fun t=>al.cE st (h.rel.tmps t),h.rel.bd.cE st fun r h3 h4=>World.putObj_heap_other (F5 h.rel.bd h.xB rfl rfl h3 h4)⟩,A8 h.le hl,World.putObj_heap_same (Array.getElem?_eq_some_iff.1 h.xB).1,fun D hd=> (World.putObj_heap_other (hD D hd)).trans (h.Md D hd)⟩
end
def aW.conv:aW→Go.Exit
 | .normal=> .normal
 | .exit id=> .exit id
 | .ret=> .ret
def F7 (X:Ctx) (n:Fp) (c:Code) (rec:az→St→Option (aW×St)) (tc:az):Prop:=
 ∀ (σ σ':St) (e:aW) (μ0:Mu) (a:Go.Act) (w:World),rec tc σ=some (e,σ')→jc X μ0 n σ a w→c.wpIn (Fr n.ro) 0 X.P (fun ex a' w'=>ex=e.conv∧jc X μ0 n σ' a' w') a w
theorem Ca {X:Ctx} {μ:Mu}: ∀ {ps:List Nat} {x:List V} {vs:List Value} {T:Nat→V} {tmps:Array Value},ak X μ x vs→(∀t,al X μ (T t) (tmps.getD t undef))→(∀p ∈ ps,p<tmps.size)→
   (∀t,al X μ (mS T ps x t) (((ps.zip vs).foldl (fun t p=>t.setIfInBounds p.1 p.2) tmps).getD t undef))∧((ps.zip vs).foldl (fun t p=>t.setIfInBounds p.1 p.2) tmps).size=tmps.size
 | [],x,vs,T,tmps,_,h,_=> ⟨by simpa [mS] using h,rfl⟩
 | p::ps,[],[],T,tmps,_,h,_=> ⟨by simpa [mS] using h,rfl⟩
 | p::ps,[],_::_,T,tmps,hx,_,_=>by simp[ak] at hx
 | p::ps,_::_,[],T,tmps,hx,_,_=>by simp[ak] at hx
 | p::ps,x::xs,v::vs,T,tmps,hx,h,hp=>by
   simp only[ak] at hx
   have bk:=hp p (by simp)
   obtain⟨k1,k2⟩:=Ca (ps:=ps) (T:=dm T p x) (tmps:=tmps.setIfInBounds p v) hx.2 (fun t=>by
    unfold dm
    split
    · rename_i e;subst e
      have: (tmps.setIfInBounds t v).getD t undef=v:=by simp[bk]
      rw[this];exact hx.1
    · rename_i cT
      have: (tmps.setIfInBounds p v).getD t undef=tmps.getD t undef:=by
       simp[Array.getElem?_setIfInBounds_ne (fun e=>cT e.symm)]
      rw[this];exact h t) (fun q hq=>by simpa using hp q (by simp[hq]))
   exact⟨k1,by simpa using k2⟩
theorem DK {P:Program} {w:World} (ro:Option Nat) (h: ∀l,ro=some l→ ∃L,w.heap[l]? =some (.loop L)) (fn:FuncId) (tmps:Array Value) (ps:Array Tmp) (assign body:Code):
   ∃ (l:Nat) (Dq:Option Nat) (dD:Nat) (W1:World),(Instr.enterLoop fn tmps ps assign body ro).run P w= .ok (l,Dq.toList.map fun D=> {target:= .collected D,args:= #[]}) W1∧w.grownBy W1 none∧w.heap.size≤l∧
     W1.heap[l]? =some (.loop {state:= .ready,pending:=none,fn,tmps,params:=ps,assign,body,defers:=dD})∧ ∀D,Dq=some D→w.heap.size≤D∧D≠l∧W1.heap[D]? =some (.deferred (some [])):=by
 cases ro with
 | none=>
   have cP: (w.alloc (.deferred (some []))).heap.size=w.heap.size+1:=World.size_alloc _ _
   refine⟨w.heap.size+1,some w.heap.size,w.heap.size,_,run_enterLoop_outer fn tmps ps assign body,?_,by omega,?_,?_⟩
   · have b1:Below w.heap.size w ((w.alloc (.deferred (some []))).alloc (.loop {state:= .ready,pending:=none,fn,tmps,params:=ps,assign,body,defers:=w.heap.size})):=((Below.refl _ w).alloc (Nat.le_refl _) _).alloc (by simp) _
     exact⟨b1.os,b1.tape,b1.output,b1.size,fun k hk _=>b1.block k hk⟩
   · have:=World.alloc_heap_new (w.alloc (.deferred (some []))) (.loop {state:= .ready,pending:=none,fn,tmps,params:=ps,assign,body,defers:=w.heap.size})
     rwa [cP] at this
   · rintro D hD
     injection hD with hD;subst hD
     exact⟨Nat.le_refl _,by omega,(Below.heap_alloc _ _ _ (by rw[cP];omega)).trans (World.alloc_heap_new w _)⟩
 | some l0=>
   obtain⟨L,hL⟩:=h l0 rfl
   refine⟨w.heap.size,none,L.defers,_,run_enterLoop_inner hL fn tmps ps assign body,?_,Nat.le_refl _,World.alloc_heap_new w _,by simp⟩
   have b1:Below w.heap.size w (w.alloc (.loop {state:= .ready,pending:=none,fn,tmps,params:=ps,assign,body,defers:=L.defers})):=(Below.refl _ w).alloc (Nat.le_refl _) _
   exact⟨b1.os,b1.tape,b1.output,b1.size,fun k hk _=>b1.block k hk⟩
theorem wH {X:Ctx} {μ0:Mu} {n:Fp} {T:Nat→V} {a:Go.Act} {w W:World} {φ φ':Nat→Row} {O0 O:Nat→Obj} {l:Nat} {Dq:Option Nat} {L:Loop} (jk:Marks n w a.defers) (cP:a.tmps.size=n.tm) (ho:br X ⟨w,φ,O0⟩) (hle:Le μ0 ⟨w,φ,O0⟩)
   (h:fG X ⟨w,φ,O0⟩ T a l Dq L O φ' W) (hD: ∀D,Dq=some D→w.heap.size≤D):jc X μ0 n ⟨T,O⟩ {a with defers:=(Dq.toList.map fun D=> {target:= .collected D,args:= #[]})++a.defers} W:=by
 refine⟨?_,cP,φ',⟨h.rel.tmps,h.rel.bd⟩,hle.trans h.le⟩
 obtain⟨h0,Ds,h1,h2,h3⟩:=jk.le ho h.le
 refine⟨h0,Dq.toList++Ds,by simp[h1],?_,fun D hd=> ?_⟩
 · cases Dq with
   | none=>simpa using h2
   | some D=>
     simp only[Option.toList_some,List.cons_append,List.nil_append,List.nodup_cons]
     refine⟨fun hm=> ?_,h2⟩
     obtain⟨_,W5,k1,_,k3⟩:=jk
     have:Ds=W5:=by
       rw[h1] at k1
       have mE:Function.Injective (fun D:Nat=> ({target:= .collected D,args:= #[]}:Deferred)):=fun x y e=>by injection e with e;injection e
       exact List.map_inj_right (fun x y e=>mE e) |>.1 k1
     subst this
     have:=(Array.getElem?_eq_some_iff.1 (k3 D hm).2).1
     have:=hD D rfl
     omega
 · rcases List.mem_append.1 hd with hd| hd
   · cases Dq with
     | none=>simp at hd
     | some D'=>
       simp at hd;subst hd
       exact⟨Nat.le_trans jk.1.1 (hD _ rfl),h.Md _ rfl⟩
   · exact h3 D hd
theorem zm {X:Ctx} {n:Fp} {g:Operand} {ps:Array Tmp} {assign body:Code} {rec:az→St→Option (aW×St)} {ta tb:az} (hA: ∀l,F7 X ⟨n.tm,0,some l⟩ assign rec ta) (hB: ∀l,F7 X ⟨n.tm,0,some l⟩ body rec tb)
   {μ0:Mu} {σ σ':St} {e:aW} {a:Go.Act} {w:World} (hs:jc X μ0 n σ a w) (ve: ∀p ∈ ps.toList,p<n.tm) {gf:Nat} {lb:Array Value} {xs:List (List V)} (hg:a.eval g= .func (.func gf) #[] lb)
   (hI: ∀φ,Rel X σ.T a ⟨w,φ,σ.O⟩→tD X ⟨w,φ,σ.O⟩ gf lb xs) (hlen: ∀x ∈ xs,x.length=ps.size) (aj:ql rec ps.toList ta tb σ.T xs σ.O=some (e,σ')):
   (Code.rangeFunc g ps assign body).wpIn (Fr n.ro) 0 X.P (fun ex a' w'=>ex=e.conv∧jc X μ0 n σ' a' w') a w:=by
 obtain⟨jk,cP,φ,hr,hle⟩:=hs
 obtain⟨enters,M3,AY,zR,Qg⟩:=hI φ hr
 refine wpIn_rangeFunc fun fn ra=> ?_
 obtain⟨l,Dq,dD,W1,T4,kU,hl,T5,Sd⟩:=DK (P:=X.P) n.ro jk.1.2 fn a.tmps ps assign body
 obtain⟨iK,kZ⟩: ∃iK:LoopState→Option Code→Loop,iK=fun st pe=> {state:=st,pending:=pe,fn,tmps:=a.tmps,params:=ps,assign,body,defers:=dD}:=⟨_,rfl⟩
 have cT: ∀D,Dq=some D→D≠l:=fun D hD=> (Sd D hD).2.1
 have T6:fG X ⟨w,φ,σ.O⟩ σ.T a l Dq (iK .ready none) σ.O φ W1:=by
   have st:iZ X ⟨w,φ,σ.O⟩ W1:=sJ (μ:=⟨w,φ,σ.O⟩) kU
   have hb: ∀k,k<w.heap.size→W1.heap[k]? =w.heap[k]? :=fun k hk=>kU.block k hk (by simp)
   refine⟨⟨fun t=>al.cE st (hr.tmps t),hr.bd.cE st fun r h1 h2=>hb _ (F6 hr.bd h1 h2)⟩,?_,by rw[kZ];exact T5,fun D hD=> (Sd D hD).2.2⟩
   exact⟨kU.size,fun b pR hn=> ⟨hb b pR,hn⟩,fun _=>Nat.le_refl _,fun _ _=> ⟨rfl,rfl⟩,kU.os,kU.output,kU.tape,fun ad Ma=>by simp only[World.frozen?,hb ad.block Ma]⟩
 refine⟨l,_,W1,{target:= .fn (.func gf) lb,args:= #[.func (.yield l) #[] #[]]},W1,gf,#[.func (.yield l) #[] #[]]++lb,W1,T4,?_,fun _ _=>trivial,?_,fun h=>by simp[Fr,Fence.wide] at h,?_⟩
 · simp only[resolve,hg]
   simp[go_sem]
 · simp[invoke,go_sem,enters]
 have key:=Qg l (fun k W=> ∃O φ',fG X ⟨w,φ,σ.O⟩ σ.T a l Dq (iK .ready none) O φ' W∧ql rec ps.toList ta tb σ.T (xs.drop k) O=some (e,σ'))
   (fun k W=> ∃O φ' c,fG X ⟨w,φ,σ.O⟩ σ.T a l Dq (iK .done (some c)) O φ' W∧σ'=⟨σ.T,O⟩∧(e= .ret∧c= .ret∨ ∃id,e= .exit id∧c= .exit id)) W1
   ⟨kU.os,kU.tape,kU.output,kU.size,fun k hk=>kU.block k hk (by simp)⟩
   (fun k A B ⟨O,φ',h1,h2⟩ hg=> ⟨O,φ',h1.grow hg,h2⟩) (fun k A B ⟨O,φ',c,h1,h2⟩ hg=> ⟨O,φ',c,h1.grow hg,h2⟩) ?round ⟨σ.O,φ,T6,by simpa using aj⟩
 case round=>
   rintro k W v hv ⟨O,φ',rL,sX⟩
   have hk:k<xs.length:=by rw[←AY];exact(List.getElem?_eq_some_iff.1 hv).1
   have hx:xs[k]? =some xs[k]:=List.getElem?_eq_getElem hk
   rw[List.drop_eq_getElem_cons hk] at sX
   generalize xs[k]=x at hx sX
   have sA:=zR k x v hx hv
   have vg:=hlen x (List.mem_of_getElem? hx)
   simp only[ql] at sX
   split at sX
   rotate_left
   · simp at sX
   rename_i σ1 h1
   have T7:=rL.le
   have T8:ak X ⟨W,φ',O⟩ x v.toList:=ak.mono T7 sA
   have rU:v.size=ps.size:=by
     have:=sA.length
     rw[←vg,this];simp
   have MG:=Ca (ps:=ps.toList) (T:=σ.T) (tmps:=a.tmps) T8 rL.rel.tmps (by rw[cP];exact ve)
   have T9: ((ps.zip v).foldl (fun tmps (p:Tmp×Value)=>tmps.setIfInBounds p.1 p.2) a.tmps)=(ps.toList.zip v.toList).foldl (fun t p=>t.setIfInBounds p.1 p.2) a.tmps:=by
     rw[←Array.foldl_toList,Array.toList_zip]
   have hy:=run_yield (P:=X.P) (args:=v) rL.xB (by rw[kZ];exact rU)
   rw[kZ] at hy
   refine⟨fn,_,assign,body,hy,roundIn_of_wpIn ra ?_⟩
   have kY:jc X ⟨W,φ',O⟩ ⟨n.tm,0,some l⟩ ⟨mS σ.T ps.toList x,O⟩ {tmps:=(ps.zip v).foldl (fun tmps (p:Tmp×Value)=>tmps.setIfInBounds p.1 p.2) a.tmps,defers:=[]} W:=by
     refine⟨Marks.nil (Nat.zero_le _) (fun l' xd=>by injection xd with xd;subst xd;exact⟨_,rL.xB⟩),by show Array.size _=n.tm;rw[T9,MG.2];exact cP,φ',⟨fun t=> ?_,rL.rel.bd⟩,Le.refl _⟩
     show al X _ _ (Array.getD _ t undef)
     rw[T9];exact MG.1 t
   refine wpIn_mono (hA l _ _ _ _ _ _ h1 kY) fun ex a1 w1 hq=> ?_
   obtain⟨rfl,Dl,vh,φ1,Qh,Me⟩:=hq
   have I8: ∀ {b:Nat} {o:Go.Obj},W.heap[b]? =some o→o.isCells=false→o.isWalk=false→w1.heap[b]? =some o:=fun {b o} hb i1 i2=>
     (Me.cR b (Array.getElem?_eq_some_iff.1 hb).1 (ew rL.rel.bd hb i1 i2)).1.trans hb
   have H8:fG X ⟨w,φ,σ.O⟩ σ.T a l Dq (iK .ready none) σ1.O φ1 w1:=⟨⟨fun t=>al.mono Me (rL.rel.tmps t),Qh.bd⟩,rL.le.trans Me,I8 rL.xB rfl rfl,fun D hD=>I8 (rL.Md D hD) rfl rfl⟩
   show ∃w₂,_∧_
   refine⟨_,run_beginRound H8.xB (by rw[kZ]),?_⟩
   have sY:fG X ⟨w,φ,σ.O⟩ σ.T a l Dq (iK .busy none) σ1.O φ1 (w1.putObj l (.loop (iK .busy none))):=H8.put hl cT
   have Qi: ({iK .ready none with state:= .busy}:Loop)=iK .busy none:=by rw[kZ]
   rw[Qi]
   have W6:iZ X ⟨w1,φ1,σ1.O⟩ (w1.putObj l (.loop (iK .busy none))):=jO (μ:=⟨w1,φ1,σ1.O⟩) H8.xB rfl rfl
   have I9:jc X ⟨w1.putObj l (.loop (iK .busy none)),φ1,σ1.O⟩ ⟨n.tm,0,some l⟩ σ1 a1 (w1.putObj l (.loop (iK .busy none))):=by
     refine⟨?_,vh,φ1,⟨fun t=>al.cE W6 (Qh.tmps t),sY.rel.bd⟩,Le.refl _⟩
     obtain⟨_,Ds,m1,m2,m3⟩:=Dl
     refine⟨⟨Nat.zero_le _,fun l' xd=>by injection xd with xd;subst xd;exact⟨_,sY.xB⟩⟩,Ds,m1,m2,fun D hD=> ⟨Nat.zero_le _,?_⟩⟩
     rw[World.putObj_heap_other (fun e=>by have:=(m3 D hD).2;rw[e,H8.xB] at this;simp at this)]
     exact(m3 D hD).2
   split at sX
   ·
     rename_i σ2 h2
     refine wpIn_mono (hB l _ _ _ _ _ _ h2 I9) fun ex a3 w3 hq=> ?_
     obtain⟨rfl,_,_,φ3,Ua,A9⟩:=hq
     have zn: ∀ {b:Nat} {o:Go.Obj},(w1.putObj l (.loop (iK .busy none))).heap[b]? =some o→o.isCells=false→o.isWalk=false→w3.heap[b]? =some o:=fun {b o} hb i1 i2=>
       (A9.cR b (Array.getElem?_eq_some_iff.1 hb).1 (ew sY.rel.bd hb i1 i2)).1.trans hb
     have DL:fG X ⟨w,φ,σ.O⟩ σ.T a l Dq (iK .busy none) σ2.O φ3 w3:=⟨⟨fun t=>al.mono A9 (sY.rel.tmps t),Ua.bd⟩,sY.le.trans A9,zn sY.xB rfl rfl,fun D hD=>zn (sY.Md D hD) rfl rfl⟩
     have F8:fG X ⟨w,φ,σ.O⟩ σ.T a l Dq (iK .ready none) σ2.O φ3 (w3.putObj l (.loop (iK .ready none))):=DL.put hl cT
     have e4: ({iK .busy none with state:=if (none:Option Code).isNone then .ready else .done,pending:=none}:Loop)=iK .ready none:=by rw[kZ];rfl
     refine⟨_,_,run_endRound none DL.xB,.inl ⟨rfl,⟨σ2.O,φ3,by rw[e4];exact F8,sX⟩,fun b hb hn=> ?_⟩⟩
     rw[e4]
     exact(F8.le.cR b hb hn).1.trans (rL.le.cR b hb hn).1.symm
   ·
     rename_i e2 σ2 uc h2
     simp only[Option.some.injEq,Prod.mk.injEq] at sX
     obtain⟨rfl,rfl⟩:=sX
     refine wpIn_mono (hB l _ _ _ _ _ _ h2 I9) fun ex a3 w3 hq=> ?_
     obtain⟨rfl,_,_,φ3,Ua,A9⟩:=hq
     have zn: ∀ {b:Nat} {o:Go.Obj},(w1.putObj l (.loop (iK .busy none))).heap[b]? =some o→o.isCells=false→o.isWalk=false→w3.heap[b]? =some o:=fun {b o} hb i1 i2=>
       (A9.cR b (Array.getElem?_eq_some_iff.1 hb).1 (ew sY.rel.bd hb i1 i2)).1.trans hb
     have DL:fG X ⟨w,φ,σ.O⟩ σ.T a l Dq (iK .busy none) σ2.O φ3 w3:=⟨⟨fun t=>al.mono A9 (sY.rel.tmps t),Ua.bd⟩,sY.le.trans A9,zn sY.xB rfl rfl,fun D hD=>zn (sY.Md D hD) rfl rfl⟩
     have F8: ∀c,fG X ⟨w,φ,σ.O⟩ σ.T a l Dq (iK .done (some c)) σ2.O φ3 (w3.putObj l (.loop (iK .done (some c)))):=fun c=>DL.put hl cT
     have e4: ∀c,({iK .busy none with state:=if (some c:Option Code).isNone then .ready else .done,pending:=some c}:Loop)=iK .done (some c):=fun c=>by rw[kZ];rfl
     cases e2 with
     | normal=>exact absurd rfl (uc ·)
     | exit id=>exact⟨_,_,run_endRound (some (.exit id)) DL.xB,.inr ⟨rfl,σ2.O,φ3,_,by rw[e4];exact F8 _,rfl,.inr ⟨id,rfl,rfl⟩⟩⟩
     | ret=>exact⟨_,_,run_endRound (some .ret) DL.xB,.inr ⟨rfl,σ2.O,φ3,_,by rw[e4];exact F8 _,rfl,.inl ⟨rfl,rfl⟩⟩⟩
   · simp at sX
 refine CallsIn.mono (show CallsIn (Fr n.ro) (0 - 1) X.P gf _ W1 _ from key) ?_
 rintro ending W' ⟨⟨v,rfl⟩,(⟨O,φ',rL,sX⟩ | ⟨k,_,O,φ',c,rL,hσ,hc⟩)⟩
 · rw[List.drop_of_length_le (by omega)] at sX
   simp only[ql,Option.some.injEq,Prod.mk.injEq] at sX
   obtain⟨rfl,rfl⟩:=sX
   exact⟨none,_,by have:=run_endLoop (P:=X.P) rL.xB (by rw[kZ];simp);rw[this,kZ],rfl,wH jk cP hr.bd hle (rL.put hl cT) fun D hD=> (Sd D hD).1⟩
 · subst hσ
   refine⟨some c,_,by have:=run_endLoop (P:=X.P) rL.xB (by rw[kZ];simp);rw[this,kZ],?_⟩
   have kY:=wH jk cP hr.bd hle (rL.put (L':=iK .exhausted (some c)) hl cT) fun D hD=> (Sd D hD).1
   rcases hc with⟨rfl,rfl⟩ | ⟨id,rfl,rfl⟩
   · refine wpIn_ret ⟨rfl,?_⟩
     rw[kZ] at kY;exact kY
   · refine wpIn_exit ⟨rfl,?_⟩
     rw[kZ] at kY;exact kY
end Go.AM
namespace Go.AM
open Go Go.RowKit
def Ends (X:Ctx) (μ0:Mu) (n:Fp) (e:aW) (σ:St):Go.Exit→Go.Act→World→Prop:=fun ex a w=>ex=e.conv∧jc X μ0 n σ a w
section
variable {X:Ctx} {E:Env} {μ0:Mu} {n:Fp}
theorem uX {σ:St} {a:Go.Act} {w:World} (hs:jc X μ0 n σ a w) {c:Operand} {c':aT} (hc:cZ X c=some c') {b:Bool} (hb:bn σ c'= .bool b):a.eval c= .bool b:=by
 obtain⟨_,_,φ,hr,_⟩:=hs
 have:=aS hr hc σ.O
 have e:bn ⟨σ.T,σ.O⟩ c'=bn σ c':=rfl
 rw[e,hb] at this
 simpa [al] using this
theorem kp {h:Hints} {i:Nat} {ops:Array Oper} {d:Bool} {b:Code} {ta tb:az}:yM h (.region i ops d) b ta tb= .seq ta tb:=by
 simp[yM,xk]
theorem DM {h:Hints} {c:Operand} {x y b:Code} {ta tb:az}:yM h (.cond c x y) b ta tb= .seq ta tb:=by
 simp[yM,xk]
theorem Ba {    h:Hints} {x y:Code} {ax ay:az}:yM h x y ax ay= .seq ax ay∨ ∃iR DN dR i0 ops cc cx cy b1 i5 gJ z5 id iS F9 dS rest it nx ne kT kO o1 o5 jV Qj as tc bs tz tR tS ux,
   x= .seq (.region iR DN dR) (.block id (.loop (.seq (.region i0 ops false) (.seq (.cond cc cx cy) (.block b1 (.seq (.region i5 gJ false) z5))))))∧y= .seq (.region iS F9 dS) rest∧(ops[0]? =some o1∧o1.op= .next (.tmp it) false∧o1.dst=some nx∧o1.guard=none∧nx<h.n)∧
   (gJ[0]? =some o5∧o5.op= .entry (.tmp it)∧o5.dst=some ne∧o5.guard=none∧ne<h.n)∧
   ax= .seq tR (.block jV (.loop (.seq (.region as) (.seq tc (.block Qj (.seq (.region bs) tz))))))∧ay= .seq tS ux∧yM h x y ax ay= .seq tR (.seq (.keys it nx ne id kT kO (.seq (.region (as.drop 1)) tc) (.block Qj (.seq (.region (bs.drop 1)) tz)) tS) ux):=by
 unfold yM
 split
 · rename_i it nx ne id kT kO tR jV as tc Qj bs tz tS ux hk hr
   right
   unfold xk at hk
   split at hk
   · rename_i iR DN dR W7 i0 ops cc cx cy b1 i5 gJ z5
     split at hk
     · rename_i o1 o5 ho Qk
       split at hk
       · rename_i Yg W8 W9 PT k1 k2 k3 k4 k5 k6
         split at hk
         · split at hk
           · rename_i hn
             simp only[Option.some.injEq,Prod.mk.injEq] at hk
             obtain⟨rfl,rfl,rfl,rfl,rfl,rfl⟩:=hk
             obtain⟨PZ,UZ,rfl⟩:=hn
             unfold yL at hr
             split at hr
             · rename_i iS F9 dS rest
               exact⟨iR,DN,dR,i0,ops,cc,cx,cy,b1,i5,gJ,z5,W7,iS,F9,dS,rest,W9,W8,PT,_,_,o1,o5,jV,Qj,as,tc,bs,tz,tR,tS,ux,rfl,rfl,⟨ho,k1,k2,k3,PZ⟩,⟨Qk,k4,k5,k6,UZ⟩,rfl,rfl,rfl⟩
             · simp at hr
           · simp at hk
         · simp at hk
       · simp at hk
     · simp at hk
   · simp at hk
 · exact .inl rfl
def H9 (X:Ctx) (E:Env):Prop:= ∀g F caps xs,E.iter g caps=some xs→X.jI F=some g→ ∀ (μ:Mu) (lb:Array Value),ak X μ caps lb.toList→br X μ→tD X μ F lb xs
theorem Bb (     hm:X.P.follows .mixedOrders=true) (vP:H9 X E) {h:Hints}: ∀ (fuel:Nat),(∀m,m<fuel→nu X E (dO E (exec E m)))→ ∀ {n:Fp} (hn:h.n=n.1) {μ0:Mu} (c:Code) (ac:az) (σ σ':St) (e:aW) (a:Go.Act) (w:World),
   cX X h c=some ac→exec E fuel ac σ=some (e,σ')→jc X μ0 n σ a w→c.wpIn (Fr n.ro) 0 X.P (Ends X μ0 n e σ') a w:=by
 intro fuel
 induction fuel using Nat.strongRecOn with
 | _ zo M4=>
   intro hH n hn μ0 c
   rcases Nat.eq_zero_or_pos zo with h0| DO
   · subst h0;intro ac σ σ' e a w _ aj;simp[exec] at aj
   obtain⟨fuel,rfl⟩: ∃f,zo=f+1:=⟨zo - 1,by omega⟩
   have Ef: ∀m,m<fuel→nu X E (dO E (exec E m)):=fun m H6=>hH m (by omega)
   have ih:=M4 fuel (by omega)
   have H:=hH fuel (by omega)
   cases c with
   | skip=>
     intro ac σ σ' e a w aP aj hs
     simp[cX] at aP;subst aP
     simp[exec,aJ] at aj
     obtain⟨rfl,rfl⟩:=aj
     exact wpIn_skip ⟨rfl,hs⟩
   | region id ops d=>
     intro ac σ σ' e a w aP aj hs
     cases d with
     | false=>
       simp only[cX,Option.map_eq_some_iff] at aP
       obtain⟨as,h1,rfl⟩:=aP
       simp only[exec,aJ,Option.map_eq_some_iff,Prod.mk.injEq] at aj
       obtain⟨σ1,h2,rfl,rfl⟩:=aj
       refine wpIn_region ?_
       rw[List.range_eq_range']
       exact eI H hn h1 ops.size 0 (by omega) hs (by simpa using h2) fun a' w' dg=> ⟨rfl,dg⟩
     | true=>
       simp only[cX,Option.map_eq_some_iff] at aP
       obtain⟨as,h1,rfl⟩:=aP
       simp only[exec,aJ,Option.map_eq_some_iff,Prod.mk.injEq] at aj
       obtain⟨σ1,h2,rfl,rfl⟩:=aj
       exact zj H hm hn h1 hs h2 fun a' w' dg=> ⟨rfl,dg⟩
   | seq x y=>
     intro ac σ σ' e a w aP aj hs
     simp only[cX] at aP
     split at aP
     · rename_i ax ay h1 h2
       injection aP with aP;subst aP
       rcases Ba (h:=h) (x:=x) (y:=y) (ax:=ax) (ay:=ay) with hk| hk
       rotate_left
       · obtain⟨iR,DN,dR,i0,ops,cc,cx,cy,b1,i5,gJ,z5,id,iS,F9,dS,rest,it,nx,ne,kT,kO,o1,o5,jV,Qj,as,tc,bs,tz,tR,tS,ux,rfl,rfl,⟨ho,k1,k2,k3,xb⟩,⟨Qk,k4,k5,k6,cT⟩,rfl,rfl,hk⟩:=hk
         rw[hk] at aj
         simp only[cX] at h1 h2
         split at h1
         rotate_left
         · simp at h1
         rename_i t1 t2 g1 g2
         rw[kp] at h1
         simp only[Option.some.injEq,az.seq.injEq] at h1
         obtain⟨rfl,rfl⟩:=h1
         split at h2
         rotate_left
         · simp at h2
         rename_i t3 t4 g3 g4
         rw[kp] at h2
         simp only[Option.some.injEq,az.seq.injEq] at h2
         obtain⟨rfl,rfl⟩:=h2
         rw[Option.map_eq_some_iff] at g2
         obtain⟨q1,g2,e2⟩:=g2
         rw[Option.map_eq_some_iff] at g2
         obtain⟨q2,g2,e1⟩:=g2
         subst e1
         simp only[az.block.injEq,az.loop.injEq] at e2
         obtain⟨rfl,e2⟩:=e2
         subst e2
         split at g2
         rotate_left
         · simp at g2
         rename_i t5 t6 g5 g6
         rw[kp] at g2
         simp only[Option.some.injEq,az.seq.injEq] at g2
         obtain⟨e3,e4⟩:=g2
         subst e3 e4
         rw[Option.map_eq_some_iff] at g5
         obtain⟨l,g5,e4⟩:=g5
         simp only[az.region.injEq] at e4
         subst e4
         split at g6
         rotate_left
         · simp at g6
         rename_i t7 t8 g7 g8
         rw[DM] at g6
         simp only[Option.some.injEq,az.seq.injEq] at g6
         obtain⟨e5,e6⟩:=g6
         subst e5 e6
         rw[Option.map_eq_some_iff] at g8
         obtain⟨q3,g8,e7⟩:=g8
         simp only[az.block.injEq] at e7
         obtain⟨rfl,e7⟩:=e7
         subst e7
         split at g8
         rotate_left
         · simp at g8
         rename_i t9 t10 g9 MJ
         rw[kp] at g8
         simp only[Option.some.injEq,az.seq.injEq] at g8
         obtain⟨e8,e9⟩:=g8
         subst e8 e9
         rw[Option.map_eq_some_iff] at g9
         obtain⟨l5,g9,Vu⟩:=g9
         simp only[az.region.injEq] at Vu
         subst Vu
         simp only[exec,aJ] at aj
         refine wpIn_seq (wpIn_seq ?_)
         split at aj
         rotate_left
         · rename_i r uB
           refine wpIn_mono (ih Ef hn (.region iR DN dR) _ σ σ' e a w (by simpa only[cX] using g1) aj hs) fun ex a' w' hq=> ?_
           obtain⟨rfl,dg⟩:=hq
           cases e with
           | normal=>exact absurd aj (uB σ')
           | exit id=>exact⟨rfl,dg⟩
           | ret=>exact⟨rfl,dg⟩
         rename_i σ1 hx
         refine wpIn_mono (ih Ef hn (.region iR DN dR) _ σ σ1 .normal a w (by simpa only[cX] using g1) hx hs) fun ex a' w' hq=> ?_
         obtain⟨rfl,B3⟩:=hq
         rcases Nat.eq_zero_or_pos fuel with hf| hf
         · subst hf;simp[exec] at aj
         obtain⟨f1,rfl⟩: ∃f,fuel=f+1:=⟨fuel - 1,by omega⟩
         simp only[exec,aJ] at aj
         rcases Nat.eq_zero_or_pos f1 with Se| Se
         · subst Se;simp[exec] at aj
         obtain⟨f2,rfl⟩: ∃f,f1=f+1:=⟨f1 - 1,by omega⟩
         have hB:xz X n ops (.cond cc cx cy) (exec E f2) (.seq (.region ((l.map fun o=> {o with pre:=[]}).drop 1)) t7):=by
           intro s s' e' μ1 a1 w1 Q K hb kY hQ hK
           rcases Nat.eq_zero_or_pos f2 with Ay| Ay
           · subst Ay;simp[exec] at hb
           obtain⟨f3,rfl⟩: ∃f,f2=f+1:=⟨f2 - 1,by omega⟩
           simp only[exec,aJ] at hb
           rcases Nat.eq_zero_or_pos f3 with Ql| Ql
           · subst Ql;simp[exec] at hb
           obtain⟨f4,rfl⟩: ∃f,f3=f+1:=⟨f3 - 1,by omega⟩
           have cP:0 <ops.size:=(Array.getElem?_eq_some_iff.1 ho).1
           split at hb
           rotate_left
           · rename_i r uB
             simp only[exec,aJ,Option.map_eq_some_iff,Prod.mk.injEq] at hb
             obtain⟨s1,h3,rfl,rfl⟩:=hb
             exact absurd (by simp only[exec,aJ,h3,Option.map_some]) (uB s1)
           rename_i s1 Ga
           simp only[exec,aJ,Option.map_eq_some_iff,Prod.mk.injEq,true_and] at Ga
           obtain⟨s2,h3,rfl⟩:=Ga
           refine eI (hH f4 (by omega)) hn g5 (ops.size - 1) 1 (by omega) kY (by rw[List.map_drop];exact h3) fun a2 w2 DA=>hK _ _ ?_
           refine wpIn_mono (M4 (f4+1) (by omega) (fun m H6=>hH m (by omega)) hn (.cond cc cx cy) t7 s2 s' e' a2 w2 (by simpa only[cX] using g7) hb DA) fun ex a3 w3 hq=> ?_
           obtain⟨rfl,BN⟩:=hq
           have:=hQ a3 w3 BN
           cases e'<;>exact this
         have hM:A6 X n gJ z5 b1 (exec E f2) (.block b1 (.seq (.region ((l5.map fun o=> {o with pre:=[]}).drop 1)) t10)):=by
           intro s s' μ1 a1 w1 Q hb kY hQ
           rcases Nat.eq_zero_or_pos f2 with Ay| Ay
           · subst Ay;simp[exec] at hb
           obtain⟨f3,rfl⟩: ∃f,f2=f+1:=⟨f2 - 1,by omega⟩
           simp only[exec,aJ] at hb
           rcases Nat.eq_zero_or_pos f3 with Ql| Ql
           · subst Ql;simp[exec] at hb
           obtain⟨f4,rfl⟩: ∃f,f3=f+1:=⟨f3 - 1,by omega⟩
           have cP:0 <gJ.size:=(Array.getElem?_eq_some_iff.1 Qk).1
           have inner: ∀e' (R:Go.Exit→Go.Act→World→Prop),exec E (f4+1) (.seq (.region ((l5.map fun o=> {o with pre:=[]}).drop 1)) t10) s=some (e',s')→(∀a' w',jc X μ1 n s' a' w'→R e'.conv a' w')→wpOpsIn (Fr n.ro) 0 X.P gJ (Exit.then (z5.wpIn (Fr n.ro) 0 X.P R) R) (List.range' 1 (gJ.size - 1)) a1 w1:=by
             intro e' R hb hR
             simp only[exec,aJ] at hb
             rcases Nat.eq_zero_or_pos f4 with Vv| Vv
             · subst Vv;simp[exec] at hb
             obtain⟨f5,rfl⟩: ∃f,f4=f+1:=⟨f4 - 1,by omega⟩
             split at hb
             rotate_left
             · rename_i r uB
               simp only[exec,aJ,Option.map_eq_some_iff,Prod.mk.injEq] at hb
               obtain⟨s1,h3,rfl,rfl⟩:=hb
               exact absurd (by simp only[exec,aJ,h3,Option.map_some]) (uB s1)
             rename_i s1 Ga
             simp only[exec,aJ,Option.map_eq_some_iff,Prod.mk.injEq,true_and] at Ga
             obtain⟨s2,h3,rfl⟩:=Ga
             refine eI (hH f5 (by omega)) hn g9 (gJ.size - 1) 1 (by omega) kY (by rw[List.map_drop];exact h3) fun a2 w2 DA=> ?_
             refine wpIn_mono (M4 (f5+1) (by omega) (fun m H6=>hH m (by omega)) hn z5 t10 s2 s' e' a2 w2 MJ hb DA) fun ex a3 w3 hq=> ?_
             obtain⟨rfl,BN⟩:=hq
             exact hR a3 w3 BN
           split at hb
           · rename_i jV s1 rL
             split at hb
             · rename_i heq
               simp only[Option.some.injEq,Prod.mk.injEq,true_and] at hb
               subst hb;subst heq
               exact inner _ _ rL fun a' w' dg=>by
                simp only[aW.conv,Go.Exit.inBlock,if_true]
                exact hQ a' w' dg
             · simp at hb
           · exact inner _ _ hb fun a' w' dg=>hQ a' w' dg
         split at aj
         rotate_left
         · rename_i r uB
           obtain⟨rfl,_⟩:=uW (μ0:=μ0) (i0:=i0) (i5:=i5) hB hM ho k1 k2 k3 (by rw[←hn];exact xb) Qk k4 k5 k6 (by rw[←hn];exact cT) aj B3
           exact absurd aj (uB σ')
         rename_i σ2 Ub
         obtain⟨_,TM⟩:=uW (μ0:=μ0) (i0:=i0) (i5:=i5) hB hM ho k1 k2 k3 (by rw[←hn];exact xb) Qk k4 k5 k6 (by rw[←hn];exact cT) Ub B3
         refine wpIn_mono TM fun ex a2 w2 hq=> ?_
         obtain⟨rfl,σe,σp,q1,q2,q3⟩:=hq
         refine wpIn_seq ?_
         refine wpIn_mono (M4 f2 (by omega) (fun m H6=>hH m (by omega)) hn (.region iS F9 dS) _ σe σp .normal a2 w2 (by simpa only[cX] using g3) q2 q1) fun ex a3 w3 hq=> ?_
         obtain⟨rfl,BN⟩:=hq
         exact M4 (f2+1) (by omega) (fun m H6=>hH m (by omega)) hn rest _ σ2 σ' e a3 w3 g4 aj (q3 a3 w3 BN)
       rw[hk] at aj
       simp only[exec,aJ] at aj
       refine wpIn_seq ?_
       split at aj
       · rename_i σ1 hx
         refine wpIn_mono (ih Ef hn x ax σ σ1 .normal a w h1 hx hs) fun ex a' w' hq=> ?_
         obtain⟨rfl,dg⟩:=hq
         exact ih Ef hn y ay σ1 σ' e a' w' h2 aj dg
       · rename_i r cT
         refine wpIn_mono (ih Ef hn x ax σ σ' e a w h1 aj hs) fun ex a' w' hq=> ?_
         obtain⟨rfl,dg⟩:=hq
         cases e with
         | normal=>exact absurd aj (cT σ')
         | exit id=>exact⟨rfl,dg⟩
         | ret=>exact⟨rfl,dg⟩
     · simp at aP
   | cond c x y=>
     intro ac σ σ' e a w aP aj hs
     simp only[cX] at aP
     split at aP
     · rename_i c' ax ay h0 h1 h2
       injection aP with aP;subst aP
       simp only[exec,aJ] at aj
       split at aj
       · rename_i hb
         exact wpIn_cond_true (uX hs h0 hb) (ih Ef hn x ax σ σ' e a w h1 aj hs)
       · rename_i hb
         exact wpIn_cond_false (uX hs h0 hb) (ih Ef hn y ay σ σ' e a w h2 aj hs)
       · simp at aj
     · simp at aP
   | block id b=>
     intro ac σ σ' e a w aP aj hs
     simp only[cX,Option.map_eq_some_iff] at aP
     obtain⟨ab,h1,rfl⟩:=aP
     simp only[exec,aJ] at aj
     refine wpIn_block ?_
     split at aj
     · rename_i jV σ1 hb
       refine wpIn_mono (ih Ef hn b ab σ σ1 (.exit jV) a w h1 hb hs) fun ex a' w' hq=> ?_
       obtain⟨rfl,dg⟩:=hq
       simp only[aW.conv,Go.Exit.inBlock]
       split at aj
       · rename_i heq
         simp only[Option.some.injEq,Prod.mk.injEq] at aj
         obtain⟨rfl,rfl⟩:=aj
         rw[if_pos heq]
         exact⟨rfl,dg⟩
       · rename_i cT
         simp only[Option.some.injEq,Prod.mk.injEq] at aj
         obtain⟨rfl,rfl⟩:=aj
         rw[if_neg cT]
         exact⟨rfl,dg⟩
     · rename_i r cT
       refine wpIn_mono (ih Ef hn b ab σ σ' e a w h1 aj hs) fun ex a' w' hq=> ?_
       obtain⟨rfl,dg⟩:=hq
       cases e with
       | normal=>exact⟨rfl,dg⟩
       | exit jV=>exact absurd aj (cT jV σ')
       | ret=>exact⟨rfl,dg⟩
   | loop b=>
     intro ac σ σ' e a w aP aj hs
     simp only[cX,Option.map_eq_some_iff] at aP
     obtain⟨ab,h1,rfl⟩:=aP
     have rounds: ∀ (k:Nat),k≤fuel+1→ ∀ (σ:St),exec E k (.loop ab) σ=some (e,σ')→ ∃m,∀a w,jc X μ0 n σ a w→Code.roundsIn (Fr n.ro) 0 X.P b (Ends X μ0 n e σ') m a w:=by
       intro k
       induction k with
       | zero=>intro _ σ hr;simp[exec] at hr
       | succ k Xa=>
         intro hk σ hr
         simp only[exec,aJ] at hr
         have body: ∀ (σ1:St) (e1:aW),exec E k ab σ=some (e1,σ1)→ ∀a w,jc X μ0 n σ a w→b.wpIn (Fr n.ro) 0 X.P (Ends X μ0 n e1 σ1) a w:=fun σ1 e1 hx a w hs=>
           M4 k (by omega) (fun m H6=>hH m (by omega)) hn b ab σ σ1 e1 a w h1 hx hs
         split at hr
         · rename_i σ1 hx
           obtain⟨m,Uc⟩:=Xa (by omega) σ1 hr
           refine⟨m+1,fun a w hs=> ?_⟩
           rw[roundsIn_succ]
           refine wpIn_mono (body σ1 .normal hx a w hs) fun ex a' w' hq=> ?_
           obtain⟨rfl,dg⟩:=hq
           exact Uc a' w' dg
         · rename_i r cT
           refine⟨1,fun a w hs=> ?_⟩
           rw[roundsIn_succ]
           refine wpIn_mono (body σ' e hr a w hs) fun ex a' w' hq=> ?_
           obtain⟨rfl,dg⟩:=hq
           cases e with
           | normal=>exact absurd hr (cT σ')
           | exit jV=>exact⟨rfl,dg⟩
           | ret=>exact⟨rfl,dg⟩
     obtain⟨m,H6⟩:=rounds (fuel+1) (Nat.le_refl _) σ aj
     exact wpIn_loop_rounds m (H6 a w hs)
   | exit id=>
     intro ac σ σ' e a w aP aj hs
     simp[cX] at aP;subst aP
     simp[exec,aJ] at aj
     obtain⟨rfl,rfl⟩:=aj
     exact wpIn_exit ⟨rfl,hs⟩
   | ret=>
     intro ac σ σ' e a w aP aj hs
     simp[cX] at aP;subst aP
     simp[exec,aJ] at aj
     obtain⟨rfl,rfl⟩:=aj
     exact wpIn_ret ⟨rfl,hs⟩
   | label l=>
     intro ac σ σ' e a w aP aj hs
     simp[cX] at aP;subst aP
     simp[exec,aJ] at aj
     obtain⟨rfl,rfl⟩:=aj
     exact wpIn_label ⟨rfl,hs⟩
   | scope b=>
     intro ac σ σ' e a w aP aj hs
     simp only[cX,Option.map_eq_some_iff] at aP
     obtain⟨ab,h1,rfl⟩:=aP
     simp only[exec,aJ] at aj
     refine Bc ?_
     refine wpIn_mono (ih Ef hn b ab σ σ' e a w h1 aj hs) fun ex a' w' hq=> ?_
     obtain⟨rfl,dg⟩:=hq
     cases e<;>exact⟨rfl,dg⟩
   | rangeFunc f ps x y=>
     intro ac σ σ' e a w aP aj hs
     simp only[cX] at aP
     split at aP
     rotate_left
     · simp at aP
     rename_i f' ax ay h0 h1 h2
     split at aP
     rotate_left
     · simp at aP
     rename_i ve
     injection aP with aP;subst aP
     simp only[exec,aJ] at aj
     split at aj
     · rename_i g caps ra
       split at aj
       · rename_i xs Bq
         split at aj
         · rename_i hlen
           obtain⟨jk,cP,φ,hr,hle⟩:=hs
           have hf:=aS hr h0 σ.O
           have D8:bn ⟨σ.T,σ.O⟩ f'= .fn g caps:=ra
           rw[D8] at hf
           simp only[al] at hf
           obtain⟨F,cv,hF,Mf,Ja⟩:=hf
           refine zm (lb:=cv) (xs:=xs) (rec:=exec E fuel) ?_ ?_ ⟨jk,cP,φ,hr,hle⟩ ?_ hF ?_ ?_ aj
           · intro l s s' e' m b v hb kY
             exact ih Ef (n:=⟨n.tm,0,some l⟩) hn x ax s s' e' b v h1 hb kY
           · intro l s s' e' m b v hb kY
             exact ih Ef (n:=⟨n.tm,0,some l⟩) hn y ay s s' e' b v h2 hb kY
           · intro p hp
             rw[List.all_eq_true] at ve
             have:=ve p hp
             rw[Nat.blt_eq] at this
             rw[hn] at this
             exact this
           · intro φ2 oY
             exact vP g F caps xs Bq Mf ⟨w,φ2,σ.O⟩ cv (by
               have Ay:=aS oY h0 σ.O
               have Ud:bn ⟨σ.T,σ.O⟩ f'= .fn g caps:=ra
               rw[Ud] at Ay
               simp only[al] at Ay
               obtain⟨F2,Yh,Vw,_,Mg⟩:=Ay
               rw[hF] at Vw
               injection Vw with _ _ e3
               rw[e3];exact Mg) oY.bd
           · intro x hx
             rw[List.all_eq_true] at hlen
             have:=hlen x hx
             rw[Nat.beq_eq] at this
             simpa using this
         · simp at aj
       · simp at aj
     · simp at aj
   | goto l=>
     intro ac σ σ' e a w aP aj hs
     simp[cX] at aP;subst aP
     simp[exec,aJ] at aj
   | refuse y=>
     intro ac σ σ' e a w aP aj hs
     simp[cX] at aP;subst aP
     simp[exec,aJ] at aj
end
end Go.AM
