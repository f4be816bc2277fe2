/-
  Texts of the proof, joined by program: AmOps8, AmOps9, AmCall1, AmMap, AmDisp, AmExec, AmDraw, AmLoopM, AmRange, AmCode. Own work.
-/
import Derived.Test.YtkdfnbahehdhmaaGreatOpsA
import Derived.Test.YtkdfnbahehdhmaaGreatTail
import Derived.Test.YtkdfnbahehdhmaaGreatDefs
import Derived.MapKept
import Derived.Scope
import Derived.Laws.IdiomRangeMap
set_option linter.unusedSimpArgs false
set_option linter.unusedVariables false
namespace Go.AM
open Go Go.RowKit
section
variable {X:Ctx} {E:Env} {C:bj} {o:Oper} {a:Go.Act} {T:Nat→V} {μ:Mu} {v:V} {σ':St}
theorem BQ (bs:List UInt8):flat (bs.map fun b=>Value.int .u8 b.toNat)=bs.map fun b=>Value.int .u8 b.toNat:=by
 induction bs with
 | nil=>rfl
 | cons b bs ih=>simp only[List.map_cons,flat,List.flatMap_cons] at ih ⊢;rw[ih];rfl
theorem aj.bytes (bs:List UInt8):aj X μ (bs.map fun b=>V.int .u8 b.toNat) (bs.map fun b=>Value.int .u8 b.toNat):=by
 induction bs with
 | nil=>simp[aj]
 | cons b bs ih=>simp only[List.map_cons,aj];exact⟨by simp[ak],ih⟩
theorem oZ {sz:Nat} {x:V} {xv:Value} {k:List V→Act} {p:V×St} (ho:bu X μ) (hx:ak X μ x xv) (ah: (content sz x k).run C ⟨T,μ.O⟩=some p):
  ∃ys us,(k ys).run C ⟨T,μ.O⟩=some p∧aj X μ ys us∧(Builtin.lenOf xv).run X.P μ.w= .ok ys.length μ.w∧
    ∀w',w'.heap=μ.w.heap→ ∀n,n≤ys.length→(Builtin.firstCells sz n xv).run X.P w'= .ok (flat (us.take n)).toArray w':=by
 cases x<;>simp only[content] at ah<;>try exact absurd ah au
 ·
  split at ah
  · rename_i s hs
    simp only[ak] at hx
    obtain⟨bs,rfl,rfl⟩:=hx
    refine⟨_,_,ah,aj.bytes _,?_,fun w' js n hn=> ?_⟩
    · simp only[Builtin.lenOf,Sem.run_pure,List.length_map];rw[b6];rfl
    · have: (bs.extract 0 n).data.map (fun b=>Value.int .u8 b.toNat)=(flat ((bs.data.toList.map fun b=>Value.int .u8 b.toNat).take n)).toArray:=by
        rw[←List.map_take,BQ]
        apply Array.ext'
        simp[ByteArray.data_extract,Array.toList_extract,List.extract_eq_take_drop]
      simp only[Builtin.firstCells,Sem.run_pure,this]
  · exact absurd ah au
 ·
  simp only[ak] at hx
  obtain⟨q,rfl⟩:=hx
  refine⟨[],[],ah,by simp[aj],by simp[Builtin.lenOf],fun w' js n hn=> ?_⟩
  have:n=0:=by simpa using hn
  subst this
  cases q<;>simp[Builtin.firstCells,loadCells,loadCellsFrom,flat]
 ·
  split at ah
  · rename_i sz' xs hs
    subst hs
    simp only[ak] at hx
    obtain⟨_,_,q,cap,vs,rfl,_,pZ,jU⟩:=hx
    refine⟨xs,vs,ah,pZ,by simp[Builtin.lenOf],fun w' js n hn=> ?_⟩
    rcases jU with rfl| ⟨b,q',rfl,_,_,cP⟩
    · have:n=0:=by simpa using hn
      subst this
      cases q<;>simp[Builtin.firstCells,loadCells,loadCellsFrom,flat]
    · simp only[Builtin.firstCells]
      exact r9 (cP.cD (by rw[js])) (by rw[←pZ.length];exact hn)
  · exact absurd ah au
 ·
  rename_i r g off len
  simp only[Act.run] at ah
  split at ah
  · rename_i es bR
    split at ah
    · rename_i hc
      obtain⟨zm,qC,SQ⟩:=hc
      simp only[ak] at hx
      obtain⟨q,cap,rfl,hle,_,cK⟩:=hx
      obtain⟨k0,k1,k2⟩:=cK zm
      have oP: (aN es off len).length=len:=by simp[aN];omega
      obtain⟨q1,q2,q3,q4⟩:=ho.row r es bR k0
      by_cases dz:cap=0
      · have zM:len=0:=by omega
        subst zM
        refine⟨_,[],ah,by simp[aN,aj],by simp[Builtin.lenOf,aN],fun w' js n hn=> ?_⟩
        have:n=0:=by simpa [aN] using hn
        subst this
        cases q<;>simp[Builtin.firstCells,loadCells,loadCellsFrom,flat]
      · rcases q4 with q4| ⟨cc,TT,vs,p1,p2,p3,p4⟩
        · omega
        · have IW:=k2.resolve_left dz
          subst IW
          refine⟨_,(vs.drop off).take len,ah,aj.take _ (aj.drop _ p3),by simp only[Builtin.lenOf,Sem.run_pure,oP],fun w' js n hn=> ?_⟩
          simp only[Builtin.firstCells]
          have oH:=(p4.drop off).take len
          rw[qC] at oH
          rw[qC]
          refine r9 (oH.cD (by rw[js])) ?_
          rw[oP] at hn
          have:=p3.length
          simp;omega
    · exact absurd ah au
  · exact absurd ah au
theorem xb (bS:Nat): ∀ (k c:Nat),c≤bS+(bS+768) / 4→Builtin.growBy bS k c≤bS+(bS+768) / 4
 | 0,c,h=>h
 | k+1,c,h=>by
   simp only[Builtin.growBy]
   split
   · exact h
   · exact xb bS k _ (by omega)
theorem BR {bS old:Nat} (h:old<bS):Builtin.nextslicecap bS old≤2*bS+192:=by
 unfold Builtin.nextslicecap
 split
 · omega
 · split
   · omega
   · have:=xb bS 4 old (by omega)
     omega
theorem Hi {bS old bytes:Nat} (h:old<bS) (hl:bS≤oQ bytes): ¬Builtin.nextslicecap bS old*bytes >2 ^ 48∧ ¬ ((bS:Int) >IntKind.i64.max):=by
 unfold oQ at hl
 rw[Nat.mul_comm,Nat.sub_mul_div] at hl
 have h1:=BR h
 have h2:bS+200≤140737488355328 / (bytes+1):=by omega
 have h3: (bS+200)*(bytes+1)≤140737488355328:=(Nat.le_div_iff_mul_le (by omega)).1 h2
 have h4:Builtin.nextslicecap bS old*bytes≤(2*(bS+200))*(bytes+1):=Nat.mul_le_mul (by omega) (by omega)
 have h5: (2*(bS+200))*(bytes+1)=2*((bS+200)*(bytes+1)):=by rw[Nat.mul_assoc]
 have h6: (2:Nat) ^ 48=281474976710656:=by decide
 have h7:bS+200≤(bS+200)*(bytes+1):=Nat.le_mul_of_pos_right _ (by omega)
 have h8:IntKind.i64.max=9223372036854775807:=by decide
 refine⟨by omega,by rw[h8];omega⟩
theorem jc {sT xT e:TypeId} {d:TypeDesc} {sz n sLen sCap:Nat} {base:Option Addr} {xv:Value} {new:Array Value} {w w':World} {ty:TypeId}
  (hd:X.P.underlying sT=some (.slice e)) (hx:X.P.underlying xT=some d) (EK: ∀k,d≠ .int k) (hn:bG X e=some sz) (hl: (Builtin.lenOf xv).run X.P w= .ok n w)
  (gV:sLen+n≤sCap) (pB: (Builtin.firstCells sz n xv).run X.P w= .ok new w)
  (mF:match base with| some p=> (storeCells (p.add (sLen*sz)) new.toList).run X.P w= .ok () w'| none=>w'=w):
  (Builtin.append_ #[sT,xT] ty #[.slice base sLen sCap,xv]).run X.P w= .ok (.slice base (sLen+n) sCap) w':=by
 have hm: (match d with| .int _=>true| _=>false)=false:=by
  cases d<;>first| rfl| exact absurd rfl (EK _)
 have KA: (#[sT,xT]:Array TypeId)[0]? =some sT:=rfl
 have KB: (#[sT,xT]:Array TypeId)[1]? =some xT:=rfl
 have IX: (#[Value.slice base sLen sCap,xv]:Array Value)[0]? =some (.slice base sLen sCap):=rfl
 have IY: (#[Value.slice base sLen sCap,xv]:Array Value)[1]? =some xv:=rfl
 simp only[Builtin.append_,KA,KB,IX,IY,Sem.run_bind,run_underlying hd,Result.andThen_ok,c9 hn,run_underlying hx,Sem.run_pure,hm,Bool.false_eq_true,if_false,hl]
 rw[if_pos gV]
 simp only[Bool.not_false,if_true,Sem.run_bind,pB,Result.andThen_ok]
 cases base with
 | none=>simp only at mF;subst mF;simp
 | some p=>simp only at mF;simp[Sem.run_bind,mF]
theorem mG {sT xT e:TypeId} {d:TypeDesc} {sz n sLen sCap:Nat} {base:Option Addr} {xv zv:Value} {old new:Array Value} {w:World} {ty:TypeId} {i:TypeInfo}
  (hd:X.P.underlying sT=some (.slice e)) (hx:X.P.underlying xT=some d) (EK: ∀k,d≠ .int k) (hn:bG X e=some sz) (hi:X.P.info? e=some i)
  (hz: ∀w,(zeroValue e).run X.P w= .ok zv w) (hl: (Builtin.lenOf xv).run X.P w= .ok n w) (lq:sCap<sLen+n) (yp:sLen+n≤oQ i.bytes)
  (hold: (Builtin.firstCells sz sLen (.slice base sLen sCap)).run X.P w.drew= .ok old w.drew) (pB: (Builtin.firstCells sz n xv).run X.P w.drew= .ok new w.drew):
  ∃newCap,sLen+n≤newCap∧(Builtin.append_ #[sT,xT] ty #[.slice base sLen sCap,xv]).run X.P w=
   .ok (.slice (some ⟨w.heap.size,0,none⟩) (sLen+n) newCap) (w.drew.alloc (.cells (old++new++Builtin.zeroCells zv.cells (newCap - (sLen+n))) e)):=by
 have hm: (match d with| .int _=>true| _=>false)=false:=by
  cases d<;>first| rfl| exact absurd rfl (EK _)
 have KA: (#[sT,xT]:Array TypeId)[0]? =some sT:=rfl
 have KB: (#[sT,xT]:Array TypeId)[1]? =some xT:=rfl
 have IX: (#[Value.slice base sLen sCap,xv]:Array Value)[0]? =some (.slice base sLen sCap):=rfl
 have IY: (#[Value.slice base sLen sCap,xv]:Array Value)[1]? =some xv:=rfl
 obtain⟨r1,r2⟩:=Hi lq yp
 refine⟨(Question.appendCap (sLen+n) sCap e).cut (w.tape w.drawn (.appendCap (sLen+n) sCap e)),by simp[Question.cut],?_⟩
 simp only[Builtin.append_,KA,KB,IX,IY,Sem.run_bind,run_underlying hd,Result.andThen_ok,c9 hn,run_underlying hx,Sem.run_pure,hm,Bool.false_eq_true,if_false,hl]
 rw[if_neg (by omega)]
 simp only[Sem.run_bind,run_typeInfo w hi,Result.andThen_ok]
 have c2: ¬ (((sLen+n:Nat):Int) >IntKind.i64.max∧(False∨i.bytes=0)):=fun h=>r2 h.1
 rw[if_neg c2]
 simp only[Sem.run_bind,run_typeInfo w hi,Result.andThen_ok]
 rw[if_neg r1]
 have hch: (choose (.appendCap (sLen+n) sCap e)).run X.P w= .ok ((Question.appendCap (sLen+n) sCap e).cut (w.tape w.drawn (.appendCap (sLen+n) sCap e))) w.drew:=by
  rw[run_choose];simp only[Question.forced,Bool.false_eq_true,if_false];rfl
 simp only[Sem.run_bind,hch,Result.andThen_ok,run_typeInfo w.drew hi,run_askRoom,hold,Bool.not_false,if_true,pB,hz,Sem.run_pure,newRow,run_newObj]
 rfl
theorem zY {us rest:List Value} {sz:Nat} (h: ∀u ∈ us,u.cells.size=sz):dA (flat us++rest) 0 sz us:=by
 intro i v hv
 have hm:=h v (List.mem_of_getElem? hv)
 refine⟨hm,fun j x hx=> ?_⟩
 have:=qU h hv hx
 have bl:i*sz+j< (flat us).length:=(List.getElem?_eq_some_iff.1 this).1
 rw[Nat.zero_add,List.getElem?_append_left bl];exact this
theorem zZ (us vs:List Value):flat (us++vs)=flat us++flat vs:=by simp[flat]
theorem nA {zv:Value} {sz n:Nat} (h:zv.cells.size=sz): (Builtin.zeroCells zv.cells n).size=n*sz:=by simp[Builtin.zeroCells,h]
theorem EL {α:Type} {n:Nat} {l:List α} (h:l.length≤n):l.take n=l:=List.take_of_length_le h
theorem z4 {O1:Nat→Obj} (hO:bu X ⟨μ.w,μ.φ,O1⟩) {r sz newCap:Nat} {olds ys:List V} {ous us:List Value} {zv:Value} {e:TypeId} {o0:Obj}
  (ho0:o0={gen:=o0.gen,sz:=sz,arr:=true,fz:=false,es:=some (olds++ys)}) (hg':o0.gen=(O1 r).gen+1)
  (cH:0 <sz) (h1:aj X ⟨μ.w,μ.φ,O1⟩ olds ous) (h2:aj X ⟨μ.w,μ.φ,O1⟩ ys us) (b1:olds.all (aS · sz)=true) (b2:ys.all (aS · sz)=true)
  (hz:zv.cells.size=sz) (dz:olds.length+ys.length≤newCap):
  let μ':Mu:=⟨μ.w.drew.alloc (.cells ((flat ous).toArray++(flat us).toArray++Builtin.zeroCells zv.cells (newCap - (olds.length+ys.length))) e),dn μ.φ r ⟨μ.w.heap.size,0,newCap⟩,dn O1 r o0⟩
  Le ⟨μ.w,μ.φ,O1⟩ μ'∧bu X μ':=by
 intro μ'
 obtain⟨XD,hod⟩:=Le.drew (X:=X) (μ:=⟨μ.w,μ.φ,O1⟩) hO
 have bU:aj X ⟨μ.w.drew,μ.φ,O1⟩ (olds++ys) (ous++us):=aj.mono XD (h1.append h2)
 have hs: ∀u ∈ ous++us,u.cells.size=sz:=((h1.append h2).sa (sz:=sz) (by simp only[List.all_append,b1,b2,Bool.and_self])).1
 have hl1:=h1.length
 have CZ:=h2.length
 have zT:=gh hs
 have qT: ((flat ous).toArray++(flat us).toArray++Builtin.zeroCells zv.cells (newCap - (olds.length+ys.length))).toList=flat (ous++us)++(Builtin.zeroCells zv.cells (newCap - (olds.length+ys.length))).toList:=by
  simp[zZ]
 have db:newCap*sz≤((flat ous).toArray++(flat us).toArray++Builtin.zeroCells zv.cells (newCap - (olds.length+ys.length))).size:=by
  rw[←b6,qT,List.length_append,zT,b6 (Builtin.zeroCells _ _),nA hz,←Nat.add_mul]
  apply Nat.mul_le_mul_right
  rw[List.length_append];omega
 have:=yi (X:=X) (μ:=⟨μ.w.drew,μ.φ,O1⟩) hod r sz newCap true (es:=olds++ys) (vs:=ous++us) (c:=(flat ous).toArray++(flat us).toArray++Builtin.zeroCells zv.cells (newCap - (olds.length+ys.length))) e cH
  (by simp;omega) (by simp only[List.all_append,b1,b2,Bool.and_self]) bU db (fun i u hu=>by
    have uP:=zY (rest:=(Builtin.zeroCells zv.cells (newCap - (olds.length+ys.length))).toList) hs
    rw[←qT] at uP
    obtain⟨m1,m2⟩:=uP i u hu
    refine⟨m1,fun j x hx=> ?_⟩
    have:=m2 j x hx
    rw[Nat.zero_add] at this
    rw[←Array.getElem?_toList];exact this)
 have heq: ({gen:=(O1 r).gen+1,sz:=sz,arr:=true,fz:=false,es:=some (olds++ys)}:Obj)=o0:=by rw[ho0,hg']
 simp only[heq] at this
 exact⟨XD.trans this.1,this.2⟩
theorem nB {sz:Nat} {p:Option Addr} {n m:Nat} {w:World}: (Builtin.firstCells sz 0 (.slice p n m)).run X.P w= .ok #[] w:=by
 cases p<;>simp[Builtin.firstCells,loadCells,loadCellsFrom]
theorem nC (       cD:Bool) {c:Call} {s x:Operand} {sT xT e:TypeId} {d:TypeDesc} {s' x':aW} {r sz:Nat} {i:TypeInfo} {z:V} (hr:Rel X T a μ) (ho:o.op= .call c) (hc:c.callee= .builtin .append)
   (jX:c.args= #[s,x]) (yq:c.argTypes= #[sT,xT]) (hd:bq X sT=some (.slice e)) (hx:bq X xT=some d) (EK: ∀k,d≠ .int k) (hn:bG X e=some sz) (hi:info X e=some i)
   (hz:eA X e=some z) (Hh:aS z sz=true) (h1:cR X s=some s') (h2:cR X x=some x')
   (ah: (content sz (bo ⟨T,μ.O⟩ x') fun ys=>match cD with| true=>zj r sz (oQ i.bytes) (bo ⟨T,μ.O⟩ s') ys| false=>gv ys fun ys=>zj r sz (oQ i.bytes) (bo ⟨T,μ.O⟩ s') ys).run C ⟨T,μ.O⟩=some (v,σ')):σ'.T=T∧cG X o a μ σ'.O v:=by
 have hs:=aT hr h1 μ.O
 have hxx:=aT hr h2 μ.O
 have mE:X.P.underlying sT=some (.slice e):=hd
 have vZ:X.P.underlying xT=some d:=hx
 have yg:X.P.info? e=some i:=hi
 obtain⟨ys0,us,k1,k2,k3,k4⟩:=oZ hr.bg hxx ah
 have gX: ∃ys O1,(zj r sz (oQ i.bytes) (bo ⟨T,μ.O⟩ s') ys).run C ⟨T,O1⟩=some (v,σ')∧aj X ⟨μ.w,μ.φ,O1⟩ ys us∧Le μ ⟨μ.w,μ.φ,O1⟩∧bu X ⟨μ.w,μ.φ,O1⟩:=by
   cases cD with
   | true=>exact⟨ys0,μ.O,k1,k2,Le.refl μ,hr.bg⟩
   | false=>exact u7 (μ:=μ) hr.bg k2 k1
 obtain⟨ys,O1,g1,g2,g3,g4⟩:=gX
 unfold zj at g1
 have hyl:ys.length=ys0.length:=by rw[g2.length,k2.length]
 rw[←hyl] at k3 k4
 have FR:us.length=ys.length:=g2.length.symm
 have Hj: ∀w',w'.heap=μ.w.heap→(Builtin.firstCells sz ys.length (a.eval x)).run X.P w'= .ok (flat us).toArray w':=fun w' js=>by
   have:=k4 w' js ys.length (Nat.le_refl _)
   rwa [EL (by omega)] at this
 have Hk:=Hj μ.w rfl
 have Hl:=Hj μ.w.drew rfl
 have tI:=ak.mono g3 hs
 have fin: ∀val w',(Builtin.append_ #[sT,xT] o.type #[a.eval s,a.eval x]).run X.P μ.w= .ok val w'→(execOp a.eval o).run X.P μ.w= .ok (.value val) w':=fun val w' hv=>by
   refine eB ho hc ?_
   simp only[builtin,jX,yq]
   refine cj ?_
   simpa using hv
 split at g1
 · rename_i hb
   simp only[Bool.and_eq_true,decide_eq_true_eq] at hb
   obtain⟨mf,cH⟩:=hb
   obtain⟨zv,sb,w5⟩:=gN hz μ.w
   have hzw: ∀w,(zeroValue e).run X.P w= .ok zv w:=fun w=>by
    obtain⟨zv',q1,q2⟩:=gN hz w
    have:zv'=zv:=by
      simp only[eA,info,Option.bind_eq_some_iff] at hz
      obtain⟨i0,e1,zq,e2,_⟩:=hz
      simp only[zeroValue,Sem.run_bind,run_typeInfo w e1,run_typeInfo μ.w e1,Result.andThen_ok,e2,Sem.run_pure] at q1 sb
      injection q1 with q1 _;injection sb with sb _
      rw[←q1,←sb]
    rw[←this];exact q1
   obtain⟨u6,Ms⟩:=eH (X:=X) (μ:=μ) w5
   have Kx:zv.cells.size=sz:=by rw[u6.dY Ms,(cf Hh).2]
   obtain⟨Hb,EG⟩:=g2.sa mf
   have zT:=gh Hb
   have ve:ys.length=0→ ∀ (p:Option Addr) (len cap:Nat),len≤cap→a.eval s= .slice p len cap→(execOp a.eval o).run X.P μ.w= .ok (.value (.slice p len cap)) μ.w:=fun h0 p len cap hle hp=>by
    have hu0:us=[]:=by
      have:us.length=0:=by omega
      simpa using this
    have tK:=jc (X:=X) (sT:=sT) (xT:=xT) (sLen:=len) (sCap:=cap) (base:=p) (ty:=o.type) (w':=μ.w) mE vZ EK hn k3 (by omega) Hk (by
        cases p with
        | none=>rfl
        | some q=>simp[hu0,flat,storeCells])
    rw[h0,Nat.add_zero] at tK
    exact fin _ _ (by rw[hp];exact tK)
   generalize bo ⟨T,μ.O⟩ s'=sv at g1 hs tI
   split at g1
   ·
    simp only[ak] at hs
    obtain⟨p,hp⟩:=hs
    split at g1
    · rename_i Hm
      obtain⟨rfl,rfl⟩:=aY g1
      have RF:ys.length=0:=by simpa [List.isEmpty_iff] using Hm
      exact⟨rfl,.slice p 0 0,μ.w,μ.φ,.inl (ve RF p 0 0 (Nat.le_refl _) hp),by simp[ak],g3,g4⟩
    · rename_i Hm
      split at g1
      · rename_i yp
        simp only[Act.run,Option.some.injEq,Prod.mk.injEq] at g1
        obtain⟨rfl,rfl⟩:=g1
        have XE:0 <ys.length:=by
          rcases Nat.eq_zero_or_pos ys.length with h0| h0
          · exact absurd (by simpa [List.isEmpty_iff] using h0) Hm
          · exact h0
        obtain⟨newCap,BS,tK⟩:=mG (X:=X) (sT:=sT) (xT:=xT) (sLen:=0) (sCap:=0) (base:=p) (ty:=o.type) (old:= #[]) mE vZ EK hn yg hzw k3 (by omega) (by simpa using yp) nB Hl
        obtain⟨RD,SU⟩:=z4 (X:=X) (μ:=μ) (O1:=O1) g4 (r:=r) (sz:=sz) (newCap:=newCap) (olds:=[]) (ous:=[]) (ys:=ys) (us:=us) (zv:=zv) (e:=e)
          (o0:={gen:=(O1 r).gen+1,sz:=sz,arr:=true,fz:=false,es:=some ys}) rfl rfl cH (by simp[aj]) g2 rfl mf Kx (by simpa using BS)
        have IQ: (flat ([]:List Value)).toArray= #[]:=rfl
        simp only[IQ,List.length_nil] at RD SU
        refine⟨rfl,.slice (some ⟨μ.w.heap.size,0,none⟩) (0+ys.length) newCap,_,dn μ.φ r ⟨μ.w.heap.size,0,newCap⟩,.inl (fin _ _ (by rw[hp];exact tK)),?_,g3.trans RD,SU⟩
        simp only[ak,aB]
        exact⟨_,newCap,by rw[Nat.zero_add],by omega,Nat.le_refl _,fun _=> ⟨by omega,by simp,by simp⟩⟩
      · exact absurd g1 au
   ·
    rename_i sz' xs
    split at g1
    · rename_i Hm
      obtain⟨rfl,rfl⟩:=aY g1
      have RF:ys.length=0:=by simpa [List.isEmpty_iff] using Hm
      have yZ:=hs
      simp only[ak] at yZ
      obtain⟨_,_,p,cap,_,hp,hle,_⟩:=yZ
      exact⟨rfl,a.eval s,μ.w,μ.φ,.inl (by rw[hp];exact ve RF p _ cap hle hp),tI,g3,g4⟩
    · exact absurd g1 au
   ·
    rename_i r' g off len
    simp only[Act.run] at g1
    split at g1
    · rename_i es bR
      split at g1
      · rename_i hc
        obtain⟨cu,jW,gX,fV,gV,yp⟩:=hc
        simp only[ak] at tI
        obtain⟨p,cap,hp,hle,sW,cK⟩:=tI
        obtain⟨a0,a1,a2⟩:=cK cu
        obtain⟨q1,q2,q3,q4⟩:=g4.row r' es bR a0
        simp only at q1 q2 q3 q4
        have fJ:O1 r'={O1 r' with es:=some es}:=by rw[←bR]
        split at g1
        · rename_i lH
          simp only[Act.run,Option.some.injEq,Prod.mk.injEq] at g1
          obtain⟨rfl,rfl⟩:=g1
          refine⟨rfl,?_⟩
          rcases Nat.eq_zero_or_pos ys.length with h0| h0
          ·
            have RF:ys=[]:=by simpa using h0
            have hov:overwrite es (off+len) ys=es:=by simp[overwrite,RF]
            have hO:dn O1 r' {O1 r' with es:=some (overwrite es (off+len) ys)}=O1:=by
              funext q
              by_cases hq:q=r'
              · subst hq;rw[aB,hov];exact fJ.symm
              · rw[a8 _ _ hq]
            simp only[hO]
            refine⟨.slice p len cap,μ.w,μ.φ,.inl (ve h0 p len cap hle hp),?_,g3,g4⟩
            rw[h0]
            simp only[ak]
            exact⟨p,cap,rfl,hle,sW,cK⟩
          · have dz:cap≠0:=by omega
            have nq: (μ.φ r').cap≠0:=by omega
            rcases q4 with q4| ⟨cc,T0,vs,p1,p2,p3,p4⟩
            · exact absurd q4 nq
            · have wZ:=a2.resolve_left dz
              subst wZ
              have BT:=p3.length
              have uP:dA cc.toList (μ.φ r').base sz vs:=by have:=iI p1 p4;rwa [fV] at this
              rw[fV] at p2
              have hmul: (off+len+ys.length)*sz≤(μ.φ r').cap*sz:=Nat.mul_le_mul_right _ (by omega)
              rw[Nat.add_mul] at hmul
              have hw:=uP.write (k:=off+len) (us:=us) (by omega) Hb (by rw[b6 cc,FR];omega)
              have mF:=iJ (P:=X.P) (w:=μ.w) (q:=(μ.φ r').base+(off+len)*sz) p1 (flat us) (by rw[zT,FR];omega) EG
              have tK:=jc (X:=X) (sT:=sT) (xT:=xT) (sLen:=len) (sCap:=cap) (ty:=o.type) (base:=some ⟨(μ.φ r').dc,(μ.φ r').base+off*(O1 r').sz,none⟩)
                (w':=μ.w.setRow (μ.φ r').dc (cI cc.toList ((μ.φ r').base+(off+len)*sz) (flat us)).toArray) mE vZ EK hn k3 (by omega) Hk (by
                  simp only[ft,fV]
                  have: (μ.φ r').base+off*sz+len*sz=(μ.φ r').base+(off+len)*sz:=by rw[Nat.add_mul];omega
                  rw[this];exact mF)
              have Mv:=oq (X:=X) (μ:=⟨μ.w,μ.φ,O1⟩) g4 r' bR gX p1 nq (c':=(cI cc.toList ((μ.φ r').base+(off+len)*sz) (flat us)).toArray)
                (by
                  have: (cI cc.toList ((μ.φ r').base+(off+len)*sz) (flat us)).length=cc.toList.length:=eT (by rw[b6 cc,zT,FR];omega)
                  simpa using this)
                (O1 r').gen (μ.φ r').base (μ.φ r').cap (es':=overwrite es (off+len) ys) (vs':=vs.take (off+len)++us++vs.drop (off+len+us.length)) (.inl ⟨rfl,rfl,rfl⟩) nq
                (by simp[overwrite];omega)
                (by
                  simp only[fV] at q3 ⊢
                  have t1:=jz (p:=(aS · sz)) (off+len) q3
                  have t2:=kY (p:=(aS · sz)) (off+len+ys.length) q3
                  simp only[overwrite,List.all_append,t1,mf,t2,Bool.and_self])
                (by
                  have:=((aj.take (off+len) p3).append g2).append (aj.drop (off+len+ys.length) p3)
                  rw[FR];exact this)
                (by rw[fV];exact p2)
                (fun j y hy=>by
                  obtain⟨m1,m2⟩:=hw j y hy
                  refine⟨by rw[fV];exact m1,fun l q hq=> ?_⟩
                  have:=m2 l q hq
                  simp only[fV]
                  simpa using this)
              refine⟨_,_,_,.inl (fin _ _ (by rw[hp];exact tK)),?_,g3.trans Mv.1,Mv.2⟩
              simp only[ak,aB]
              exact⟨_,cap,rfl,by omega,by omega,fun _=> ⟨a0,a1,.inr rfl⟩⟩
        · rename_i lH
          simp only[Act.run,Option.some.injEq,Prod.mk.injEq] at g1
          obtain⟨rfl,rfl⟩:=g1
          refine⟨rfl,?_⟩
          have XE:0 <ys.length:=by omega
          have oP: (aN es off len).length=len:=by simp[aN];omega
          have SV: (aN es off len).all (aS · sz)=true:=by
            rw[fV] at q3;exact jz _ (kY _ q3)
          by_cases wW:len+ys.length≤cap
          ·
            have dz:cap≠0:=by omega
            have nq: (μ.φ r').cap≠0:=by omega
            rcases q4 with q4| ⟨cc,T0,vs,p1,p2,p3,p4⟩
            · exact absurd q4 nq
            · have wZ:=a2.resolve_left dz
              subst wZ
              have BT:=p3.length
              have uP:dA cc.toList (μ.φ r').base sz vs:=by have:=iI p1 p4;rwa [fV] at this
              rw[fV] at p2
              have hmul: (off+len+ys.length)*sz≤(μ.φ r').cap*sz:=Nat.mul_le_mul_right _ (by omega)
              rw[Nat.add_mul] at hmul
              have hw:=uP.write (k:=off+len) (us:=us) (by omega) Hb (by rw[b6 cc,FR];omega)
              have mF:=iJ (P:=X.P) (w:=μ.w) (q:=(μ.φ r').base+(off+len)*sz) p1 (flat us) (by rw[zT,FR];omega) EG
              have tK:=jc (X:=X) (sT:=sT) (xT:=xT) (sLen:=len) (sCap:=cap) (ty:=o.type) (base:=some ⟨(μ.φ r').dc,(μ.φ r').base+off*(O1 r').sz,none⟩)
                (w':=μ.w.setRow (μ.φ r').dc (cI cc.toList ((μ.φ r').base+(off+len)*sz) (flat us)).toArray) mE vZ EK hn k3 (by omega) Hk (by
                  simp only[ft,fV]
                  have: (μ.φ r').base+off*sz+len*sz=(μ.φ r').base+(off+len)*sz:=by rw[Nat.add_mul];omega
                  rw[this];exact mF)
              have zn:dA (cI cc.toList ((μ.φ r').base+(off+len)*sz) (flat us)) ((μ.φ r').base+off*sz) sz ((vs.drop off).take len++us):=by
                have h3:=(hw.take (off+len+us.length)).drop off
                have e1: (List.take (off+len+us.length) (vs.take (off+len)++us++vs.drop (off+len+us.length))).drop off=(vs.drop off).take len++us:=by
                  have l1: (vs.take (off+len)).length=off+len:=by simp;omega
                  have l2: (vs.take (off+len)++us).length=off+len+us.length:=by rw[List.length_append,l1]
                  rw[←l2,List.take_left,List.drop_append_of_le_length (by omega),List.drop_take]
                  congr 2;omega
                rwa [e1] at h3
              have acS:off*sz+cap*sz=(μ.φ r').cap*sz:=by rw[←Nat.add_mul];congr 1;omega
              have Mv:=oq (X:=X) (μ:=⟨μ.w,μ.φ,O1⟩) g4 r' bR gX p1 nq (c':=(cI cc.toList ((μ.φ r').base+(off+len)*sz) (flat us)).toArray)
                (by
                  have: (cI cc.toList ((μ.φ r').base+(off+len)*sz) (flat us)).length=cc.toList.length:=eT (by rw[b6 cc,zT,FR];omega)
                  simpa using this)
                (g+1) ((μ.φ r').base+off*sz) cap (es':=aN es off len++ys) (vs':=(vs.drop off).take len++us) (.inr (by simp only;omega)) dz
                (by rw[List.length_append,oP];omega)
                (by
                  simp only[fV]
                  simp only[List.all_append,SV,mf,Bool.and_self])
                ((aj.take len (aj.drop off p3)).append g2)
                (by simp only[fV];omega)
                (fun j y hy=>by
                  obtain⟨m1,m2⟩:=zn j y hy
                  refine⟨by rw[fV];exact m1,fun l q hq=> ?_⟩
                  have:=m2 l q hq
                  simp only[fV]
                  simpa using this)
              refine⟨_,_,_,.inl (fin _ _ (by rw[hp];exact tK)),?_,g3.trans Mv.1,Mv.2⟩
              simp only[ak,aB]
              exact⟨_,cap,rfl,by omega,Nat.le_refl _,fun _=> ⟨a0,by omega,.inr (by simp[fV])⟩⟩
          ·
            have hold: ∃ous,aj X ⟨μ.w,μ.φ,O1⟩ (aN es off len) ous∧(Builtin.firstCells sz len (.slice p len cap)).run X.P μ.w.drew= .ok (flat ous).toArray μ.w.drew:=by
              by_cases dz:cap=0
              · have zM:len=0:=by omega
                subst zM
                exact⟨[],by simp[aN,aj],nB⟩
              · rcases q4 with q4| ⟨cc,T0,vs,p1,p2,p3,p4⟩
                · omega
                · have wZ:=a2.resolve_left dz
                  subst wZ
                  have BT:=p3.length
                  refine⟨(vs.drop off).take len,aj.take _ (aj.drop _ p3),?_⟩
                  have oH:=(p4.drop off)
                  rw[fV] at oH ⊢
                  have:=r9 (P:=X.P) (oH.cD (w':=μ.w.drew) rfl) (n:=len) (by simp;omega)
                  simpa [Builtin.firstCells] using this
            obtain⟨ous,SW,SU⟩:=hold
            obtain⟨newCap,BS,tK⟩:=mG (X:=X) (sT:=sT) (xT:=xT) (sLen:=len) (sCap:=cap) (base:=p) (ty:=o.type) mE vZ EK hn yg hzw k3 (by omega) yp SU Hl
            obtain⟨RD,ho3⟩:=z4 (X:=X) (μ:=μ) (O1:=O1) g4 (r:=r') (sz:=sz) (newCap:=newCap) (olds:=aN es off len) (ous:=ous) (ys:=ys) (us:=us) (zv:=zv) (e:=e)
              (o0:={gen:=g+1,sz:=sz,arr:=true,fz:=false,es:=some (aN es off len++ys)}) rfl (by simp only;omega) cH SW g2 SV mf Kx (by rw[oP];exact BS)
            have hO:dn O1 r' {O1 r' with gen:=g+1,es:=some (aN es off len++ys)}=dn O1 r' {gen:=g+1,sz:=sz,arr:=true,fz:=false,es:=some (aN es off len++ys)}:=by
              have: ({O1 r' with gen:=g+1,es:=some (aN es off len++ys)}:Obj)={gen:=g+1,sz:=sz,arr:=true,fz:=false,es:=some (aN es off len++ys)}:=by
                rw[←fV,←jW,←gX]
              rw[this]
            simp only[hO]
            rw[oP] at RD ho3
            refine⟨_,_,dn μ.φ r' ⟨μ.w.heap.size,0,newCap⟩,.inl (fin _ _ (by rw[hp];exact tK)),?_,g3.trans RD,ho3⟩
            simp only[ak,aB]
            exact⟨_,newCap,rfl,by omega,Nat.le_refl _,fun _=> ⟨by omega,by simp,by simp⟩⟩
      · exact absurd g1 au
    · exact absurd g1 au
   · exact absurd g1 au
 · exact absurd g1 au
theorem xd {c:Call} {s x:Operand} {sT xT e:TypeId} {d:TypeDesc} {s' x':aW} {r sz:Nat} {i:TypeInfo} {z:V} (hr:Rel X T a μ) (ho:o.op= .call c) (hc:c.callee= .builtin .append)
  (jX:c.args= #[s,x]) (yq:c.argTypes= #[sT,xT]) (hd:bq X sT=some (.slice e)) (hx:bq X xT=some d) (EK: ∀k,d≠ .int k) (hn:bG X e=some sz) (hi:info X e=some i)
  (hz:eA X e=some z) (Hh:aS z sz=true) (h1:cR X s=some s') (h2:cR X x=some x')
  (ah: (av E (.append r sz (oQ i.bytes) s' x')).run C ⟨T,μ.O⟩=some (v,σ')):σ'.T=T∧cG X o a μ σ'.O v:=by
 refine nC (C:=C) (v:=v) false (r:=r) hr ho hc jX yq hd hx EK hn hi hz Hh h1 h2 ?_
 simp only[av,bB] at ah
 exact ah
theorem vf {c:Call} {s x:Operand} {sT xT e:TypeId} {d:TypeDesc} {s' x':aW} {r sz:Nat} {i:TypeInfo} {z:V} (hr:Rel X T a μ) (ho:o.op= .call c) (hc:c.callee= .builtin .append)
  (jX:c.args= #[s,x]) (yq:c.argTypes= #[sT,xT]) (hd:bq X sT=some (.slice e)) (hx:bq X xT=some d) (EK: ∀k,d≠ .int k) (hn:bG X e=some sz) (hi:info X e=some i)
  (hz:eA X e=some z) (Hh:aS z sz=true) (h1:cR X s=some s') (h2:cR X x=some x')
  (ah: (av E (.lS r sz (oQ i.bytes) s' x')).run C ⟨T,μ.O⟩=some (v,σ')):σ'.T=T∧cG X o a μ σ'.O v:=by
 refine nC (C:=C) (v:=v) true (r:=r) hr ho hc jX yq hd hx EK hn hi hz Hh h1 h2 ?_
 simp only[av,bB] at ah
 exact ah
end
end Go.AM
namespace Go.AM
open Go Go.RowKit
section
variable {X:Ctx} {E:Env} {C:bj} {o:Oper} {a:Go.Act} {T:Nat→V} {μ:Mu} {v:V} {σ':St}
theorem s9 (ho:bu X μ) {r g off len sz:Nat} {es ys:List V} {us:List Value} {p:Option Addr} {cap:Nat} (bR: (μ.O r).es=some es) (gX: (μ.O r).fz=false) (fV: (μ.O r).sz=sz)
   (cu: (μ.O r).gen=g) (hle:len≤cap) (a0:0 < (μ.O r).sz) (a1:cap+off=(μ.φ r).cap) (a2:cap=0∨p=some ⟨(μ.φ r).dc,(μ.φ r).base+off*(μ.O r).sz,none⟩)
   (gV:off+len≤es.length) (hy:ys.length≤len) (bU:aj X μ ys us) (mf:ys.all (aS · sz)=true):
   ∃w',(match p with| some q=> (storeCells q (flat us)).run X.P μ.w= .ok () w'| none=>w'=μ.w∧flat us=[])∧
     ∃φ',φ' r=μ.φ r∧Le μ ⟨w',φ',dn μ.O r {μ.O r with es:=some (overwrite es off ys)}⟩∧bu X ⟨w',φ',dn μ.O r {μ.O r with es:=some (overwrite es off ys)}⟩:=by
 have FR:us.length=ys.length:=bU.length.symm
 obtain⟨Hb,EG⟩:=bU.sa mf
 have zT:=gh Hb
 have fJ:μ.O r={μ.O r with es:=some es}:=by rw[←bR]
 rcases Nat.eq_zero_or_pos ys.length with h0| h0
 · have RF:ys=[]:=by simpa using h0
   have hu0:us=[]:=List.length_eq_zero_iff.1 (by omega)
   have hov:overwrite es off ys=es:=by simp[overwrite,RF]
   have hO:dn μ.O r {μ.O r with es:=some (overwrite es off ys)}=μ.O:=by
     funext q
     by_cases hq:q=r
     · subst hq;rw[aB,hov];exact fJ.symm
     · rw[a8 _ _ hq]
   rw[hO]
   refine⟨μ.w,?_,μ.φ,rfl,Le.refl μ,ho⟩
   cases p with
   | none=>simp[hu0,flat]
   | some q=>simp[hu0,flat,storeCells]
 · obtain⟨q1,q2,q3,q4⟩:=ho.row r es bR a0
   have dz:cap≠0:=by omega
   have nq: (μ.φ r).cap≠0:=by omega
   rcases q4 with q4| ⟨cc,T0,vs,p1,p2,p3,p4⟩
   · exact absurd q4 nq
   · have wZ:=a2.resolve_left dz
     subst wZ
     have BT:=p3.length
     have uP:dA cc.toList (μ.φ r).base sz vs:=by have:=iI p1 p4;rwa [fV] at this
     rw[fV] at p2
     have hmul: (off+ys.length)*sz≤(μ.φ r).cap*sz:=Nat.mul_le_mul_right _ (by omega)
     rw[Nat.add_mul] at hmul
     have hw:=uP.write (k:=off) (us:=us) (by omega) Hb (by rw[b6 cc,FR];omega)
     have mF:=iJ (P:=X.P) (w:=μ.w) (q:=(μ.φ r).base+off*sz) p1 (flat us) (by rw[zT,FR];omega) EG
     have Mv:=oq (X:=X) (μ:=μ) ho r bR gX p1 nq (c':=(cI cc.toList ((μ.φ r).base+off*sz) (flat us)).toArray)
      (by
        have: (cI cc.toList ((μ.φ r).base+off*sz) (flat us)).length=cc.toList.length:=eT (by rw[b6 cc,zT,FR];omega)
        simpa using this)
      (μ.O r).gen (μ.φ r).base (μ.φ r).cap (es':=overwrite es off ys) (vs':=vs.take off++us++vs.drop (off+us.length)) (.inl ⟨rfl,rfl,rfl⟩) nq
      (by simp[overwrite];omega)
      (by
        simp only[fV] at q3 ⊢
        have t1:=jz (p:=(aS · sz)) off q3
        have t2:=kY (p:=(aS · sz)) (off+ys.length) q3
        simp only[overwrite,List.all_append,t1,mf,t2,Bool.and_self])
      (by
        have:=((aj.take off p3).append bU).append (aj.drop (off+ys.length) p3)
        rw[FR];exact this)
      (by rw[fV];exact p2)
      (fun j y hy=>by
        obtain⟨m1,m2⟩:=hw j y hy
        refine⟨by rw[fV];exact m1,fun l q hq=> ?_⟩
        have:=m2 l q hq
        simp only[fV]
        simpa using this)
     refine⟨_,?_,_,?_,Mv.1,Mv.2⟩
     · simp only[fV];exact mF
     · rw[aB]
theorem KC {c:Call} {d s:Operand} {dT sT e:TypeId} {d' s':aW} {sz:Nat} (hr:Rel X T a μ) (ho:o.op= .call c) (hc:c.callee= .builtin .copy)
   (jX:c.args= #[d,s]) (yq:c.argTypes= #[dT,sT]) (hd:bq X dT=some (.slice e)) (hn:bG X e=some sz) (h1:cR X d=some d') (h2:cR X s=some s')
   (ah: (av E (.copy sz d' s')).run C ⟨T,μ.O⟩=some (v,σ')):σ'.T=T∧cG X o a μ σ'.O v:=by
 simp only[av,bB] at ah
 have FN:=aT hr h1 μ.O
 have hss:=aT hr h2 μ.O
 have mE:X.P.underlying dT=some (.slice e):=hd
 obtain⟨ys,us,k1,k2,k3,k4⟩:=oZ hr.bg hss ah
 have fin: ∀ (p:Option Addr) (len cap:Nat) (w':World),a.eval d= .slice p len cap→
     (match p with| some q=> (storeCells q (flat (us.take (min ys.length len)))).run X.P μ.w= .ok () w'| none=>w'=μ.w∧flat (us.take (min ys.length len))=[])→
     (execOp a.eval o).run X.P μ.w= .ok (.value (goInt ((min ys.length len:Nat):Int))) w':=fun p len cap w' hp mF=>by
   refine eB ho hc ?_
   simp only[builtin,jX,yq]
   refine cj ?_
   have KA: (#[dT,sT]:Array TypeId)[0]? =some dT:=rfl
   have Hn:Array.map a.eval #[d,s]= #[a.eval d,a.eval s]:=by simp
   rw[Hn,hp]
   have IX: (#[Value.slice p len cap,a.eval s]:Array Value)[0]? =some (Value.slice p len cap):=rfl
   have IY: (#[Value.slice p len cap,a.eval s]:Array Value)[1]? =some (a.eval s):=rfl
   have hfc:=k4 μ.w rfl (min ys.length len) (Nat.min_le_left _ _)
   simp only[Builtin.copy_,KA,IX,IY,Sem.run_bind,run_underlying mE,Result.andThen_ok,k3,c9 hn,Nat.min_def] at hfc ⊢
   rw[hfc]
   simp only[Result.andThen_ok]
   simp only[Nat.min_def] at mF
   cases p with
   | none=>simp only at mF;obtain⟨rfl,_⟩:=mF;simp
   | some q=>simp only at mF;simp[Sem.run_bind,mF]
 generalize bo ⟨T,μ.O⟩ d'=dv at k1 FN
 split at k1
 · obtain⟨rfl,rfl⟩:=aY k1
   simp only[ak] at FN
   obtain⟨p,hp⟩:=FN
   have h0:min ys.length 0=0:=Nat.min_eq_right (Nat.zero_le _)
   have:=fin p 0 0 μ.w hp (by rw[h0];cases p<;>simp[flat,storeCells])
   rw[h0] at this
   exact⟨rfl,aO (val:=goInt 0) hr.bg (by simpa using this) (by simp[ak,goInt])⟩
 · rename_i r g off len
   simp only[Act.run] at k1
   split at k1
   · rename_i es bR
     split at k1
     · rename_i Je
       obtain⟨cu,jW,gX,fV,gV,mf⟩:=Je
       simp only[Act.run,Option.some.injEq,Prod.mk.injEq] at k1
       obtain⟨rfl,rfl⟩:=k1
       simp only[ak] at FN
       obtain⟨p,cap,hp,hle,sW,cK⟩:=FN
       obtain⟨a0,a1,a2⟩:=cK cu
       obtain⟨w',mF,φ',hφ,le,fJ⟩:=s9 (X:=X) hr.bg (us:=us.take len) bR gX fV cu hle a0 a1 a2 gV (ys:=ys.take len) (by simp;omega) (aj.take _ k2) mf
       have abF:us.take (min ys.length len)=us.take len:=by
        have hl:=k2.length
        rcases Nat.le_total ys.length len with h| h
        · rw[Nat.min_eq_left h,hl,List.take_length,List.take_of_length_le (by omega)]
        · rw[Nat.min_eq_right h]
       refine⟨rfl,goInt ((min ys.length len:Nat):Int),w',φ',.inl (fin p len cap w' hp (by rw[abF];exact mF)),?_,le,fJ⟩
       simp only[ak,goInt,List.length_take]
       rw[Nat.min_comm]
     · exact absurd k1 au
   · exact absurd k1 au
 · exact absurd k1 au
theorem nD {zv:Value} {sz n:Nat} (hz:zv.cells.size=sz) (cH:0 <sz): (Builtin.zeroCells zv.cells n).toList=flat (List.replicate n zv):=by
 have hs: ∀u ∈ List.replicate n zv,u.cells.size=sz:=fun u hu=>by rw[(List.mem_replicate.1 hu).2];exact hz
 have zT:=gh hs
 rw[List.length_replicate] at zT
 apply List.ext_getElem?
 intro q
 by_cases hq:q<n*sz
 · have hi:q / sz<n:=Nat.div_lt_of_lt_mul (by rw[Nat.mul_comm];exact hq)
   have wZ:q / sz*sz+q % sz=q:=by rw[Nat.mul_comm];exact Nat.div_add_mod q sz
   have hm:q % sz<zv.cells.size:=by rw[hz];exact Nat.mod_lt _ cH
   have hc:zv.cells[q % sz]? =some zv.cells[q % sz]:=Array.getElem?_eq_getElem hm
   have hv: (List.replicate n zv)[q / sz]? =some zv:=by rw[List.getElem?_replicate];simp[hi]
   have g1:=qU hs hv hc
   rw[wZ] at g1
   rw[g1,Array.getElem?_toList]
   have hr: (Array.range (n*sz))[q]? =some q:=by simp[hq]
   simp only[Builtin.zeroCells,Array.getElem?_map,hz,hr,Option.map_some]
   rw[getElem!_def,hc]
 · rw[List.getElem?_eq_none (by rw[b6 (Builtin.zeroCells _ _),nA hz];omega),List.getElem?_eq_none (by omega)]
theorem Ho {c:Call} {x:Operand} {t e:TypeId} {x':aW} {sz:Nat} {z:V} (hr:Rel X T a μ) (ho:o.op= .call c) (hc:c.callee= .builtin .clear)
   (jX:c.args= #[x]) (yq:c.argTypes= #[t]) (hd:bq X t=some (.slice e)) (hz:eA X e=some z) (h1:cR X x=some x')
   (ah: (av E (.clear sz z x')).run C ⟨T,μ.O⟩=some (v,σ')):σ'.T=T∧cG X o a μ σ'.O v:=by
 simp only[av,bB] at ah
 have hx:=aT hr h1 μ.O
 have mE:X.P.underlying t=some (.slice e):=hd
 have fin: ∀w',(Builtin.clear_ #[t] o.type #[a.eval x]).run X.P μ.w= .ok (.tuple #[]) w'→(execOp a.eval o).run X.P μ.w= .ok (.value (.tuple #[])) w':=fun w' hv=>by
   refine eB ho hc ?_
   simp only[builtin,jX,yq]
   refine cj ?_
   simpa using hv
 have KA: (#[t]:Array TypeId)[0]? =some t:=rfl
 have IX: ∀y:Value,(#[y]:Array Value)[0]? =some y:=fun _=>rfl
 split at ah
 · rename_i ex
   obtain⟨rfl,rfl⟩:=aY ah
   rw[ex] at hx;simp only[ak] at hx
   obtain⟨p,hp⟩:=hx
   refine⟨rfl,aO (val:= .tuple #[]) hr.bg (fin _ ?_) (by simp only[ak];exact⟨#[],rfl,by simp[aj]⟩)⟩
   cases p<;>simp[Builtin.clear_,Sem.run_bind,run_underlying mE,hp]
 · rename_i r g off len ex
   rw[ex] at hx
   simp only[Act.run] at ah
   split at ah
   · rename_i es bR
     split at ah
     · rename_i Je
       obtain⟨cu,jW,gX,fV,gV,Hh⟩:=Je
       simp only[Act.run,Option.some.injEq,Prod.mk.injEq] at ah
       obtain⟨rfl,rfl⟩:=ah
       simp only[ak] at hx
       obtain⟨p,cap,hp,hle,sW,cK⟩:=hx
       obtain⟨a0,a1,a2⟩:=cK cu
       obtain⟨zv,sb,w5⟩:=gN hz μ.w
       obtain⟨u6,Ms⟩:=eH (X:=X) (μ:=μ) w5
       have Kx:zv.cells.size=sz:=by rw[u6.dY Ms,(cf Hh).2]
       have cH:0 <sz:=fV ▸ a0
       obtain⟨w',mF,φ',hφ,le,fJ⟩:=s9 (X:=X) hr.bg (us:=List.replicate len zv) bR gX fV cu hle a0 a1 a2 gV (ys:=List.replicate len z) (by simp) (aj.replicate u6 len)
         (by simp only[List.all_eq_true,List.mem_replicate];rintro y ⟨_,rfl⟩;exact Hh)
       refine⟨rfl,.tuple #[],w',φ',.inl (fin _ ?_),by simp only[ak];exact⟨#[],rfl,by simp[aj]⟩,le,fJ⟩
       rw[←nD Kx cH] at mF
       rw[hp]
       simp only[Builtin.clear_,KA,IX,Sem.run_bind,run_underlying mE,Result.andThen_ok]
       rcases Nat.eq_zero_or_pos len with h0| h0
       · subst h0
         have SM: (Builtin.zeroCells zv.cells 0).toList=[]:=by rw[nD Kx cH];rfl
         rw[SM] at mF
         have hw:w'=μ.w:=by
           cases p with
           | none=>exact mF.1
           | some q=>simp[storeCells] at mF;exact mF.symm
         subst hw
         cases p<;>simp
       · cases p with
         | none=>
           have dz:cap≠0:=by omega
           exact absurd (a2.resolve_left dz) (by simp)
         | some q=>
           obtain⟨n,rfl⟩: ∃n,len=n+1:=⟨len - 1,by omega⟩
           simp only at mF
           simp[Sem.run_bind,sb,mF]
     · exact absurd ah au
   · exact absurd ah au
 · exact absurd ah au
theorem Dh {x:Operand} {y:aW} (hr:Rel X T a μ) (ho:o.op= .move x∨o.op= .assign x) (ht:cR X x=some y) (ah: (av E (.deep y)).run C ⟨T,μ.O⟩=some (v,σ')):
   σ'.T=T∧cG X o a μ σ'.O v:=by
 simp only[av,bB] at ah
 have bU:=aT hr ht μ.O
 have ku: (execOp a.eval o).run X.P μ.w= .ok (.value (a.eval x)) μ.w:=by rcases ho with ho| ho<;>simp[execOp,ho]
 unfold lT at ah
 split at ah
 · rename_i r g off len he
   rw[he] at bU
   simp only[Act.run] at ah
   split at ah
   · rename_i es bR
     split at ah
     rotate_left
     · exact absurd ah au
     rename_i cu
     have Mw:=bU
     simp only[ak] at Mw
     obtain⟨_,_,_,_,_,cK⟩:=Mw
     obtain⟨q1,q2,q3,q4⟩:=hr.bg.row r es bR (cK cu).1
     obtain⟨vs,pZ,jU⟩: ∃vs,aj X μ es vs∧((μ.φ r).cap=0∨ ∃c T,μ.w.heap[(μ.φ r).dc]? =some (.cells c T (0,0))∧(μ.φ r).base+(μ.φ r).cap*(μ.O r).sz≤c.size∧
         di μ.w (μ.φ r).dc (μ.φ r).base (μ.O r).sz vs):=by
       rcases q4 with q4| ⟨c,T0,vs,p1,p2,p3,p4⟩
       · have:es=[]:=by
          have:es.length=0:=by omega
          simpa using this
         subst this
         exact⟨[],by simp[aj],.inl q4⟩
       · exact⟨vs,p3,.inr ⟨c,T0,p1,p2,p4⟩⟩
     obtain⟨es',O1,g1,g2,g3,g4⟩:=u7 (μ:=μ) hr.bg pZ ah
     simp only[Act.run] at g1
     split at g1
     · rename_i hc
       obtain⟨zm,qC,SQ⟩:=hc
       simp only[Act.run,Option.some.injEq,Prod.mk.injEq] at g1
       obtain⟨rfl,rfl⟩:=g1
       have hs: (O1 r).sz=(μ.O r).sz:=(g3.row r zm).2
       have hlen:es'.length=es.length:=by rw[g2.length,pZ.length]
       obtain⟨le,xO⟩:=Ex (X:=X) (μ:=⟨μ.w,μ.φ,O1⟩) g4 r (es':=es') qC (by rw[hs];exact q1) (by rw[hlen];exact q2) (by rw[hs];exact SQ) (by
         refine jU.imp id ?_
         rintro⟨c,T0,p1,p2,p4⟩
         exact⟨c,T0,vs,p1,by simp only[hs];exact p2,g2,by simp only[hs];exact p4⟩)
       exact⟨rfl,a.eval x,μ.w,μ.φ,.inl ku,ak.mono (g3.trans le) bU,g3.trans le,xO⟩
     · exact absurd g1 au
   · exact absurd ah au
 · obtain⟨rfl,rfl⟩:=aY ah
   exact⟨rfl,aO hr.bg ku bU⟩
end
end Go.AM
namespace Go.AM
open Go Go.RowKit
def jd (X:Ctx) (μ:Mu) (rs:List Nat) (a:V) (v:Value):Prop:= ∀ (B:Nat→Prop) (μ':Mu),μ'.w=μ.w→
 (∀b,Own ⟨X.toTrEnv,B,X.tok⟩ μ' b→Own X μ b∧ ∀r ∈ rs,(μ.O r).es.isSome=true→(μ.φ r).cap≠0→b≠(μ.φ r).dc)→ak ⟨X.toTrEnv,B,X.tok⟩ μ' a v
def qW (X:Ctx) (μ:Mu) (rs:List Nat) (as:List V) (vs:List Value):Prop:= ∀ (B:Nat→Prop) (μ':Mu),μ'.w=μ.w→
 (∀b,Own ⟨X.toTrEnv,B,X.tok⟩ μ' b→Own X μ b∧ ∀r ∈ rs,(μ.O r).es.isSome=true→(μ.φ r).cap≠0→b≠(μ.φ r).dc)→aj ⟨X.toTrEnv,B,X.tok⟩ μ' as vs
section
variable {X:Ctx} {B:Nat→Prop} {μ μ':Mu}
mutual
theorem dC (hw:μ'.w=μ.w) (ho: ∀b,Own ⟨X.toTrEnv,B,X.tok⟩ μ' b→Own X μ b): ∀ {x:V} {v:Value},V.aC x=true→ak X μ x v→ak ⟨X.toTrEnv,B,X.tok⟩ μ' x v
 | .bool _,_,_,h| .int ..,_,_,h| .float _,_,_,h| .str _,_,_,h| .nilp,_,_,h| .nilfn,_,_,h| .nili,_,_,h| .nils,_,_,h=>by simpa [ak] using h
 | .any,_,hp,_| .own ..,_,hp,_| .msl ..,_,hp,_| .mptr ..,_,hp,_| .sl ..,_,hp,_| .ptr ..,_,hp,_| .mp ..,_,hp,_| .it ..,_,hp,_=>by simp[V.aC] at hp
 | .mlit es,_,hp,h=>by
   simp only[ak] at h ⊢
   obtain⟨h0,h⟩:=h
   refine⟨h0,h.imp id ?_⟩
   rintro⟨a,ents,clock,rfl,hb,hs,h1,h2⟩
   exact⟨a,ents,clock,rfl,fun hh=>hb (ho _ hh),by rw[hw];exact hs,by rw[hw];exact h1,bQ hw ho h0 h2⟩
 | .agg cs,_,hp,h=>by
   simp only[ak] at h ⊢
   obtain⟨h1,vs,rfl,h2⟩:=h
   exact⟨h1,vs,rfl,bQ hw ho (by simpa [V.aC] using hp) h2⟩
 | .tuple cs,_,hp,h=>by
   simp only[ak] at h ⊢
   obtain⟨vs,rfl,h2⟩:=h
   exact⟨vs,rfl,bQ hw ho (by simpa [V.aC] using hp) h2⟩
 | .fn f cs,_,hp,h=>by
   simp only[ak] at h ⊢
   obtain⟨F,cv,rfl,h1,h2⟩:=h
   exact⟨F,cv,rfl,h1,bQ hw ho (by simpa [V.aC] using hp) h2⟩
 | .iface t x,_,hp,h=>by
   simp only[ak] at h ⊢
   obtain⟨F,y,rfl,h1,h2⟩:=h
   exact⟨F,y,rfl,h1,dC hw ho (by simpa [V.aC] using hp) h2⟩
 | .lit sz xs,_,hp,h=>by
   simp only[ak] at h ⊢
   obtain⟨h0,ke,a,cap,vs,rfl,h1,h2,h3⟩:=h
   refine⟨h0,ke,a,cap,vs,rfl,h1,bQ hw ho h0 h2,h3.imp id ?_⟩
   rintro⟨b,o,rfl,hb,hs,hr⟩
   exact⟨b,o,rfl,fun hh=>hb (ho b hh),by rw[hw];exact hs,by rw[hw];exact hr⟩
 | .litk sz xs,_,hp,h=>by
   simp only[ak] at h ⊢
   obtain⟨h0,ke,a,cap,vs,rfl,h1,h2,h3⟩:=h
   refine⟨h0,ke,a,cap,vs,rfl,h1,bQ hw ho h0 h2,h3.imp id ?_⟩
   rintro⟨rfl,hb,hs,hr⟩
   exact⟨rfl,fun hh=>hb (ho _ hh),by rw[hw];exact hs,by rw[hw];exact hr⟩
 | .epk i sz e off,_,hp,h=>by
   simp only[ak] at h ⊢
   obtain⟨h0,ke,x,rfl,hb,hs,h1,hr⟩:=h
   exact⟨h0,ke,x,rfl,fun hh=>hb (ho _ hh),by rw[hw];exact hs,dC hw ho h0 h1,by rw[hw];exact hr⟩
 | .eptr e off,_,hp,h=>by
   simp only[ak] at h ⊢
   obtain⟨h0,ke,b,o,sz,x,rfl,hb,hs,h1,hr⟩:=h
   exact⟨h0,ke,b,o,sz,x,rfl,fun hh=>hb (ho b hh),by rw[hw];exact hs,dC hw ho h0 h1,by rw[hw];exact hr⟩
theorem bQ (hw:μ'.w=μ.w) (ho: ∀b,Own ⟨X.toTrEnv,B,X.tok⟩ μ' b→Own X μ b): ∀ {xs:List V} {vs:List Value},V.an xs=true→aj X μ xs vs→aj ⟨X.toTrEnv,B,X.tok⟩ μ' xs vs
 | [],[],_,_=>by simp[aj]
 | [],_::_,_,h=>by simp[aj] at h
 | _::_,[],_,h=>by simp[aj] at h
 | x::xs,v::vs,hp,h=>by
   simp only[aj] at h ⊢
   simp only[V.an,Bool.and_eq_true] at hp
   exact⟨dC hw ho hp.1 h.1,bQ hw ho hp.2 h.2⟩
end
end
section
variable {X:Ctx} {C:bj} {T:Nat→V} {μ:Mu}
theorem jd.Di {a:V} {v:Value} (hp:V.aC a=true) (h:ak X μ a v) (rs:List Nat):jd X μ rs a v:=
 fun _ _ hw ho=>dC hw (fun b hb=> (ho b hb).1) hp h
theorem jd.more {rs rs':List Nat} {a:V} {v:Value} (h:jd X μ rs a v) (hs: ∀r ∈ rs,r ∈ rs'):jd X μ rs' a v:=
 fun B μ' hw ho=>h B μ' hw fun b hb=> ⟨(ho b hb).1,fun r hr=> (ho b hb).2 r (hs r hr)⟩
theorem qW.more {rs rs':List Nat} {a:List V} {v:List Value} (h:qW X μ rs a v) (hs: ∀r ∈ rs,r ∈ rs'):qW X μ rs' a v:=
 fun B μ' hw ho=>h B μ' hw fun b hb=> ⟨(ho b hb).1,fun r hr=> (ho b hb).2 r (hs r hr)⟩
theorem kx {f:V→(V→List Nat→Act)→Act}
   (hf: ∀ {v:V} {k:V→List Nat→Act} {val:Value} {p:V×St},ak X μ v val→(f v k).run C ⟨T,μ.O⟩=some p→ ∃v' rs,(k v' rs).run C ⟨T,μ.O⟩=some p∧V.aC v'=true∧jd X μ rs v' val∧(v.c6=true→v'.c6=true)∧(v.aP=true→v'.aP=true)):
   ∀ {vs:List V} {k:List V→List Nat→Act} {vals:List Value} {p:V×St},aj X μ vs vals→(oL f vs k).run C ⟨T,μ.O⟩=some p→
     ∃vs' rs,(k vs' rs).run C ⟨T,μ.O⟩=some p∧V.an vs'=true∧qW X μ rs vs' vals∧vs'.length=vs.length∧(vs.all V.c6=true→vs'.all V.c6=true)∧(vs.all V.aP=true→vs'.all V.aP=true)
 | [],k,[],p,_,ah=> ⟨[],[],ah,rfl,fun _ _ _ _=>by simp[aj],rfl,id,id⟩
 | [],_,_::_,_,h,_=>by simp[aj] at h
 | _::_,_,[],_,h,_=>by simp[aj] at h
 | v::vs,k,val::vals,p,h,ah=>by
   simp only[aj] at h
   obtain⟨v',rs,h1,h2,h3,h4,h5⟩:=hf h.1 ah
   obtain⟨vs',rs',k1,k2,k3,k4,k5,k6⟩:=kx hf h.2 h1
   refine⟨v'::vs',rs++rs',k1,by simp[V.an,h2,k2],fun B μ' hw ho=> ?_,by simp[k4],?_,?_⟩
   · simp only[aj]
     exact⟨h3.more (fun r hr=>by simp[hr]) B μ' hw ho,k3.more (fun r hr=>by simp[hr]) B μ' hw ho⟩
   · simp only[List.all_cons,Bool.and_eq_true];exact fun hh=> ⟨h4 hh.1,k5 hh.2⟩
   · simp only[List.all_cons,Bool.and_eq_true];exact fun hh=> ⟨h5 hh.1,k6 hh.2⟩
theorem wg {f:V→(V→List Nat→Act)→Act}
   (hf: ∀ {v:V} {k:V→List Nat→Act} {val:Value} {p:V×St},ak X μ v val→(f v k).run C ⟨T,μ.O⟩=some p→ ∃v' rs,(k v' rs).run C ⟨T,μ.O⟩=some p∧V.aC v'=true∧jd X μ rs v' val∧(v.c6=true→v'.c6=true)∧(v.aP=true→v'.aP=true))
   {vs:List V} {k:List V→List Nat→Act} {vals:List Value} {p:V×St} (h:aj X μ vs vals) (ah: (tV f vs k).run C ⟨T,μ.O⟩=some p):
     ∃vs' rs,(k vs' rs).run C ⟨T,μ.O⟩=some p∧V.an vs'=true∧qW X μ rs vs' vals∧vs'.length=vs.length∧(vs.all V.c6=true→vs'.all V.c6=true)∧(vs.all V.aP=true→vs'.all V.aP=true):=by
 unfold tV at ah
 split at ah
 · rename_i hp
   exact⟨vs,[],ah,hp,fun _ _ hw ho=>bQ hw (fun b hb=> (ho b hb).1) hp h,rfl,id,id⟩
 · exact kx hf h ah
theorem ky (     ho:bu X μ): ∀ (d:Nat) {v:V} {k:V→List Nat→Act} {val:Value} {p:V×St},ak X μ v val→(fj d v k).run C ⟨T,μ.O⟩=some p→
   ∃v' rs,(k v' rs).run C ⟨T,μ.O⟩=some p∧V.aC v'=true∧jd X μ rs v' val∧(v.c6=true→v'.c6=true)∧(v.aP=true→v'.aP=true)
 | 0,v,k,val,p,h,ah=>by
   simp only[fj] at ah
   split at ah
   · rename_i hp;exact⟨v,[],ah,hp,jd.Di hp h _,id,id⟩
   · exact absurd ah au
 | d+1,v,k,val,p,h,ah=>by
   have ih:=fun {v:V} {k:V→List Nat→Act} {val:Value} {p:V×St}=>ky ho d (v:=v) (k:=k) (val:=val) (p:=p)
   simp only[fj] at ah
   split at ah
   · rename_i hp;exact⟨v,[],ah,hp,jd.Di hp h _,id,id⟩
   · rename_i hnp
     split at ah
     ·
      simp only[ak] at h
      obtain⟨h0,vs,rfl,hv⟩:=h
      obtain⟨cN,rs,k1,k2,k3,k4,k5,k6⟩:=kx ih hv ah
      refine⟨_,rs,k1,by simpa [V.aC] using k2,fun B μ' hw hh=> ?_,fun _=>rfl,fun hc=>by simp[V.aP] at hc⟩
      simp only[ak]
      exact⟨k6 h0,vs,rfl,k3 B μ' hw hh⟩
     ·
      simp only[ak] at h
      obtain⟨F,cv,rfl,hf,hv⟩:=h
      obtain⟨cN,rs,k1,k2,k3,k4,k5,k6⟩:=kx ih hv ah
      refine⟨_,rs,k1,by simpa [V.aC] using k2,fun B μ' hw hh=> ?_,fun _=>rfl,fun _=>rfl⟩
      simp only[ak]
      exact⟨F,cv,rfl,hf,k3 B μ' hw hh⟩
     ·
      simp only[ak] at h
      obtain⟨F,y,rfl,hf,hv⟩:=h
      obtain⟨x',rs,k1,k2,k3,k4,k5⟩:=ih hv ah
      refine⟨_,rs,k1,by simpa [V.aC] using k2,fun B μ' hw hh=> ?_,fun _=>rfl,fun _=>rfl⟩
      simp only[ak]
      exact⟨F,y,rfl,hf,k3 B μ' hw hh⟩
     ·
      rename_i r g off len
      simp only[Act.run] at ah
      split at ah
      · rename_i es bR
        split at ah
        · rename_i hc
          obtain⟨cu,jW,gV⟩:=hc
          simp only[ak] at h
          obtain⟨a,cap,rfl,hle,sW,cK⟩:=h
          obtain⟨a0,a1,a2⟩:=cK cu
          obtain⟨q1,q2,q3,q4⟩:=ho.row r es bR a0
          have oP: (aN es off len).length=len:=by simp[aN];omega
          have ll: (aN es off len).all V.c6=true:=by
            simp only[List.all_eq_true] at q3 ⊢
            exact fun x hx=> (cf (q3 x (List.mem_of_mem_drop (List.mem_of_mem_take hx)))).1
          have pZ: ∃vs,aj X μ (aN es off len) vs∧(len=0∨((μ.φ r).cap≠0∧(μ.φ r).dc<μ.w.heap.size∧a=some ⟨(μ.φ r).dc,(μ.φ r).base+off*(μ.O r).sz,none⟩∧di μ.w (μ.φ r).dc ((μ.φ r).base+off*(μ.O r).sz) (μ.O r).sz vs)):=by
            by_cases zM:len=0
            · exact⟨[],by simp[aN,zM,aj],.inl zM⟩
            · rcases q4 with q4| ⟨cc,TT,vs,p1,p2,p3,p4⟩
              · omega
              · exact⟨(vs.drop off).take len,aj.take _ (aj.drop _ p3),.inr ⟨by omega,(Array.getElem?_eq_some_iff.1 p1).1,a2.resolve_left (by omega),(p4.drop off).take len⟩⟩
          obtain⟨vs,hv1,Dg⟩:=pZ
          obtain⟨IU,rs,k1,k2,k3,k4,k5,k6⟩:=wg ih hv1 ah
          refine⟨_,r::rs,k1,rfl,fun B μ' hw hh=> ?_,fun _=>rfl,fun _=>rfl⟩
          have hx:=k3.more (rs':=r::rs) (fun q hq=>by simp[hq]) B μ' hw hh
          simp only[ak]
          refine⟨k2,k5 ll,a,cap,vs,by rw[k4,oP],by rw[k4,oP];exact hle,hx,?_⟩
          rcases Dg with zM| ⟨c0,c1,c2,c3⟩
          · left
            have:IU.length=0:=by rw[k4,oP];exact zM
            simpa using this
          · right
            refine⟨_,_,c2,fun im=> ?_,by rw[hw];exact c1,by rw[hw];exact c3⟩
            exact(hh _ im).2 r (by simp) (by simp[bR]) c0 rfl
        · exact absurd ah au
      · exact absurd ah au
     ·
      rename_i r g idx off
      simp only[Act.run] at ah
      split at ah
      · rename_i es bR
        split at ah
        · rename_i cu
          split at ah
          · rename_i e he
            simp only[ak] at h
            obtain⟨a,rfl,sW,cK⟩:=h
            obtain⟨a0,hae⟩:=cK cu
            obtain⟨q1,q2,q3,q4⟩:=ho.row r es bR a0
            have bl:idx<es.length:=(List.getElem?_eq_some_iff.1 he).1
            rcases q4 with q4| ⟨cc,TT,vs,p1,p2,p3,p4⟩
            · omega
            · obtain⟨x,hx,bU⟩:=p3.get he
              have mf:aS e (μ.O r).sz=true:=by
               simp only[List.all_eq_true] at q3
               exact q3 e (List.mem_of_getElem? he)
              obtain⟨e',rs,k1,k2,k3,k4,k5⟩:=ih bU ah
              refine⟨_,r::rs,k1,rfl,fun B μ' hw hh=> ?_,fun _=>rfl,fun _=>rfl⟩
              simp only[ak]
              have cP:di μ.w (μ.φ r).dc ((μ.φ r).base+idx*(μ.O r).sz) (μ.O r).sz [x]:=by
               have:=(p4.drop idx).take 1
               have G3: (vs.drop idx).take 1=[x]:=by
                have CZ:idx<vs.length:=(List.getElem?_eq_some_iff.1 hx).1
                rw[List.drop_eq_getElem_cons CZ,List.take_succ_cons,List.take_zero]
                rw[List.getElem?_eq_getElem CZ] at hx
                injection hx with hx;rw[hx]
               rwa [G3] at this
              refine⟨k2,k4 (cf mf).1,(μ.φ r).dc,(μ.φ r).base+idx*(μ.O r).sz,(μ.O r).sz,x,by rw[hae],fun im=> ?_,by rw[hw];exact(Array.getElem?_eq_some_iff.1 p1).1,
               k3.more (rs':=r::rs) (fun q hq=>by simp[hq]) B μ' hw hh,by rw[hw];exact cP⟩
              exact(hh _ im).2 r (by simp) (by simp[bR]) (by omega) rfl
          · exact absurd ah au
        · exact absurd ah au
      · exact absurd ah au
     · exact absurd ah au
inductive kf (X:Ctx) (μ:Mu) (r0:Nat):Nat→List V→List Value→List Nat→List dV→Prop
 | nil (i:Nat):kf X μ r0 i [] [] [] []
 | plain {i:Nat} {a:V} {v:Value} {rs rs':List Nat} {as:List V} {vs:List Value} {ws:List dV} (hp:V.aC a=true) (hs:jd X μ rs a v) (h:kf X μ r0 (i+1) as vs rs' ws):
    kf X μ r0 i (a::as) (v::vs) (rs++rs') ws
 | sl {i r g off len:Nat} {es:List V} {v:Value} {rs:List Nat} {as:List V} {vs:List Value} {ws:List dV} (bR: (μ.O r).es=some es) (gX: (μ.O r).fz=false) (cu: (μ.O r).gen=g) (mh:V.an es=true)
    (gV:off+len≤es.length) (hv:ak X μ (.sl r g off len) v) (h:kf X μ r0 (i+1) as vs rs ws):kf X μ r0 i (.msl (μ.O r).sz es off len::as) (v::vs) rs (⟨i,r,none⟩::ws)
 | ptr {i r g idx off:Nat} {es:List V} {v:Value} {rs:List Nat} {as:List V} {vs:List Value} {ws:List dV} (bR: (μ.O r).es=some es) (gX: (μ.O r).fz=false) (cu: (μ.O r).gen=g) (mh:V.an es=true)
    (hv:ak X μ (.ptr r g idx off) v) (h:kf X μ r0 (i+1) as vs rs ws):kf X μ r0 i (.mptr (μ.O r).sz es idx off::as) (v::vs) rs (⟨i,r,none⟩::ws)
 | fresh {i sz:Nat} {v:Value} {rs:List Nat} {as:List V} {vs:List Value} {ws:List dV} (cH:0 <sz) (hv: ∃a,v= .slice a 0 0) (h:kf X μ r0 (i+1) as vs rs ws):
    kf X μ r0 i (.msl sz [] 0 0::as) (v::vs) rs (⟨i,r0+i,some sz⟩::ws)
theorem eU (ho:bu X μ) {r0:Nat}: ∀ {vs:List V} {ms:List (Option Nat)} {i:Nat} {k:List V→List Nat→List dV→Act} {vals:List Value} {p:V×St},aj X μ vs vals→
   (dx r0 vs ms i k).run C ⟨T,μ.O⟩=some p→ ∃as rs ws,(k as rs ws).run C ⟨T,μ.O⟩=some p∧kf X μ r0 i as vals rs ws
 | [],ms,i,k,[],p,_,ah=> ⟨[],[],[],by simpa [dx] using ah,.nil i⟩
 | [],_,_,_,_::_,_,h,_=>by simp[aj] at h
 | _::_,_,_,_,[],_,h,_=>by simp[aj] at h
 | v::vs,[],i,k,val::vals,p,h,ah=>by
   simp only[aj] at h
   simp only[dx,snap] at ah
   obtain⟨v',rs,h1,h2,h3,_,_⟩:=ky ho 5 h.1 ah
   obtain⟨as,rs',ws,k1,k2⟩:=eU ho h.2 h1
   exact⟨_,_,_,k1,.plain h2 h3 k2⟩
 | v::vs,m::ms,i,k,val::vals,p,h,ah=>by
   simp only[aj] at h
   simp only[dx] at ah
   split at ah
   · split at ah
     · split at ah
       · rename_i cH
         obtain⟨as,rs',ws,k1,k2⟩:=eU ho h.2 ah
         have h1:=h.1
         simp only[ak] at h1
         exact⟨_,_,_,k1,.fresh cH h1 k2⟩
       · exact absurd ah au
     · rename_i r g off len
       simp only[Act.run] at ah
       split at ah
       · rename_i es bR
         split at ah
         · rename_i hc
           obtain⟨c1,c2,c3,c4,c5⟩:=hc
           obtain⟨as,rs',ws,k1,k2⟩:=eU ho h.2 ah
           rw[←c3] at k1
           exact⟨_,_,_,k1,.sl bR c2 c1 c5 c4 h.1 k2⟩
         · exact absurd ah au
       · exact absurd ah au
     · rename_i r g idx off
       simp only[Act.run] at ah
       split at ah
       · rename_i es bR
         split at ah
         · rename_i hc
           obtain⟨c1,c2,c3,c4⟩:=hc
           obtain⟨as,rs',ws,k1,k2⟩:=eU ho h.2 ah
           rw[←c3] at k1
           exact⟨_,_,_,k1,.ptr bR c2 c1 c4 h.1 k2⟩
         · exact absurd ah au
       · exact absurd ah au
     · exact absurd ah au
   · simp only[snap] at ah
     obtain⟨v',rs,h1,h2,h3,_,_⟩:=ky ho 5 h.1 ah
     obtain⟨as,rs',ws,k1,k2⟩:=eU ho h.2 h1
     exact⟨_,_,_,k1,.plain h2 h3 k2⟩
end
theorem je {X:Ctx} {C:bj} {T:Nat→V} {w:World} {φ:Nat→Row}: ∀ (rs:List Nat) {O:Nat→Obj} {k:Act} {p:V×St},bu X ⟨w,φ,O⟩→(cp rs k).run C ⟨T,O⟩=some p→
   ∃O',k.run C ⟨T,O'⟩=some p∧Le ⟨w,φ,O⟩ ⟨w,φ,O'⟩∧bu X ⟨w,φ,O'⟩∧(∀r,r ∉ rs→O' r=O r)∧(∀r,r ∈ rs→O' r={O r with fz:=true})
 | [],O,k,p,ho,h=> ⟨O,h,Le.refl _,ho,fun _ _=>rfl,fun r hr=>by simp at hr⟩
 | q::rs,O,k,p,ho,h=>by
   simp only[cp,Act.run] at h
   obtain⟨l1,o1⟩:=pE ho q
   obtain⟨O',h1,h2,h3,h4,h5⟩:=je rs o1 h
   refine⟨O',h1,l1.trans h2,h3,fun r hr=> ?_,fun r hr=> ?_⟩
   · have rY:r≠q∧r ∉ rs:=by simpa using hr
     rw[h4 r rY.2,a8 _ _ rY.1]
   · by_cases hm:r ∈ rs
     · rw[h5 r hm]
       by_cases e:r=q
       · subst e;simp[aB]
       · simp[a8 _ _ e]
     · have e:r=q:=by
        rcases List.mem_cons.1 hr with e| hr
        · exact e
        · exact absurd hr hm
       subst e
       rw[h4 r hm,aB]
theorem z6 {X:Ctx} {C:bj} {T:Nat→V} {μ:Mu} (ho:bu X μ) {v:V} {val:Value} {p:V×St} (hv:ak X μ v val) (ah: (snap v fun v' rs=>cp rs (.done v')).run C ⟨T,μ.O⟩=some p):
   ∃c' O',(Act.done c').run C ⟨T,O'⟩=some p∧ak X ⟨μ.w,μ.φ,O'⟩ c' val∧Le μ ⟨μ.w,μ.φ,O'⟩∧bu X ⟨μ.w,μ.φ,O'⟩:=by
 obtain⟨v',rs,h1,_,h3,_,_⟩:=ky ho 5 hv ah
 obtain⟨O',k1,k2,k3,k4,k5⟩:=je (w:=μ.w) (φ:=μ.φ) rs ho h1
 refine⟨v',O',k1,?_,k2,k3⟩
 refine h3 X.Mk ⟨μ.w,μ.φ,O'⟩ rfl fun b hb=> ?_
 rcases hb with⟨r',q1,q2,q3,q4⟩ | hb
 · simp only at q1 q2 q3 q4
   by_cases hm:r' ∈ rs
   · rw[k5 r' hm] at q2;simp at q2
   · rw[k4 r' hm] at q1 q2
     refine⟨.inl ⟨r',q1,q2,q3,q4⟩,fun r hr hs hc e=> ?_⟩
     exact ho.inj r' r (fun e'=>hm (e' ▸ hr)) q1 hs q3 hc (q4.trans e)
 · exact⟨.inr hb,fun r hr hs hc e=>ho.sR r hs hc (e ▸ hb)⟩
end Go.AM
namespace Go.AM
open Go Go.RowKit Go.MapKept
section
variable {X:Ctx} {E:Env} {C:bj} {o:Oper} {a:Go.Act} {T:Nat→V} {μ:Mu} {v:V} {σ':St}
def IZ (e:MapEntry):Value:= .tuple #[e.key,e.val]
def iK (q:Option IntKind) (d:TypeDesc):Prop:=match q with
 | some q=>d= .int q
 | none=>d= .string
theorem Hp {q:Option IntKind} {d:TypeDesc} {k:V} {kv:Value} (hd:iK q d) (hk:isKey q k=true) (hv:ak X μ k kv):IsKey d kv:=by
 unfold isKey at hk
 unfold iK at hd
 split at hk
 · simp only[ak] at hv
   subst hv;subst hd
   simpa [IsKey] using hk
 · simp only[ak] at hv
   obtain⟨bs,rfl,_⟩:=hv
   subst hd
   simp[IsKey]
 · simp at hk
theorem ov {q:Option IntKind} {d:TypeDesc} {k k':V} {kv kv':Value} {b:Bool} (hd:iK q d) (hk:isKey q k=true) (h1:ak X μ k kv) (h2:ak X μ k' kv') (h:CO k k'=some b):
   Instr.sameNow d kv kv'=some b∧(b=true→kv'=kv):=by
 unfold CO at h
 split at h
 · simp only[ak] at h1 h2
   subst h1;subst h2
   split at h
   · rename_i e
     subst e
     injection h with h
     subst h
     have: ∃q',d= .int q':=by
       unfold isKey at hk
       unfold iK at hd
       cases q<;>simp_all
     obtain⟨q',rfl⟩:=this
     refine⟨by simp[Instr.sameNow],fun hb=> ?_⟩
     simp only[beq_iff_eq] at hb
     rw[hb]
   · simp at h
 · simp only[ak] at h1 h2
   obtain⟨x,rfl,rfl⟩:=h1
   obtain⟨y,rfl,rfl⟩:=h2
   injection h with h
   subst h
   have:d= .string:=by
     unfold isKey at hk
     unfold iK at hd
     cases q<;>simp_all
   subst this
   have hxy: (x==y)=decide (x.data.toList=y.data.toList):=by
     rw[Bool.eq_iff_iff,bytes_beq,decide_eq_true_eq]
     constructor
     · rintro rfl;rfl
     · intro h
       cases x;cases y
       simp only[ByteArray.mk.injEq]
       exact Array.toList_inj.1 h
   refine⟨by simp[Instr.sameNow,hxy],fun hb=> ?_⟩
   rw[←hxy,bytes_beq] at hb
   rw[hb]
 · simp at h
theorem Dj {e:V} {me:MapEntry} (h:ak X μ e (IZ me)) {k v:V} (he:e= .tuple [k,v]):ak X μ k me.key∧ak X μ v me.val:=by
 subst he
 simp only[IZ,ak] at h
 obtain⟨vs,h1,h2⟩:=h
 injection h1 with h1
 subst h1
 simpa [aj] using h2
theorem yr {k v:V} {me:MapEntry} (h1:ak X μ k me.key) (h2:ak X μ v me.val):ak X μ (.tuple [k,v]) (IZ me):=by
 simp only[IZ,ak]
 exact⟨_,rfl,by simp[aj,h1,h2]⟩
theorem nE {q:Option IntKind} {d:TypeDesc} {k:V} {kv:Value} (hd:iK q d) (hk:isKey q k=true) (h1:ak X μ k kv): ∀ {es:List V} {ents:List MapEntry} {i:Nat} {r:Option V},aj X μ es (ents.map IZ)→lW k es=some r→
   (r=none∧Instr.findNow d kv ents i=some none)∨ ∃v j e,r=some v∧Instr.findNow d kv ents i=some (some (j,e))∧ak X μ v e
 | [],[],i,r,_,h=>by simp[lW] at h;subst h;exact .inl ⟨rfl,rfl⟩
 | [],_::_,_,_,h,_=>by simp[aj] at h
 | _::_,[],_,_,h,_=>by simp[aj] at h
 | e::es,m::ents,i,r,hr,h=>by
   simp only[List.map_cons,aj] at hr
   unfold lW at h
   split at h
   · rename_i heq;simp at heq
   · rename_i k' v' es' heq
     injection heq with e1 e2
     subst e2
     obtain⟨t1,t2⟩:=Dj hr.1 e1
     split at h
     · rename_i hq
       injection h with h
       subst h
       obtain⟨s1,_⟩:=ov hd hk h1 t1 hq
       exact .inr ⟨v',i,m.val,rfl,by simp[Instr.findNow,s1],t2⟩
     · rename_i hq
       obtain⟨s1,_⟩:=ov hd hk h1 t1 hq
       rcases nE hd hk h1 (i:=i+1) hr.2 h with⟨g1,g2⟩ | ⟨v,j,x,g1,g2,g3⟩
       · exact .inl ⟨g1,by simp[Instr.findNow,s1,g2]⟩
       · exact .inr ⟨v,j,x,g1,by simp[Instr.findNow,s1,g2],g3⟩
     · simp at h
   · simp at h
theorem vg {q:Option IntKind} {d:TypeDesc} {k u:V} {kv val:Value} (hd:iK q d) (hk:isKey q k=true) (h1:ak X μ k kv) (h2:ak X μ u val): ∀ {es es':List V} {ents:List MapEntry} {i:Nat},aj X μ es (ents.map IZ)→m9 k u es=some es'→
   (Instr.findNow d kv ents i=some none∧ ∀c,aj X μ es' ((ents++[({key:=kv,val:=val,born:=c}:MapEntry)]).map IZ))∨
   ∃j e,Instr.findNow d kv ents i=some (some (i+j,e.val))∧ents[j]? =some e∧e.key=kv∧aj X μ es' ((ents.set j ({key:=kv,val:=val,born:=e.born}:MapEntry)).map IZ)
 | [],es',[],i,_,h=>by
   simp[m9] at h;subst h
   exact .inl ⟨rfl,fun c=>by simp only[List.nil_append,List.map_cons,List.map_nil,aj];exact⟨yr (me:={key:=kv,val:=val,born:=c}) h1 h2,trivial⟩⟩
 | [],_,_::_,_,h,_=>by simp[aj] at h
 | _::_,_,[],_,h,_=>by simp[aj] at h
 | e::es,es',m::ents,i,hr,h=>by
   simp only[List.map_cons,aj] at hr
   unfold m9 at h
   split at h
   · rename_i heq;simp at heq
   · rename_i k' v' Xp heq
     injection heq with e1 e2
     subst e2
     obtain⟨t1,t2⟩:=Dj hr.1 e1
     split at h
     · rename_i hq
       injection h with h
       subst h
       obtain⟨s1,s2⟩:=ov hd hk h1 t1 hq
       exact .inr ⟨0,m,by simp[Instr.findNow,s1],rfl,s2 rfl,by simp only[List.set_cons_zero,List.map_cons,aj];exact⟨yr (me:={key:=kv,val:=val,born:=m.born}) h1 h2,hr.2⟩⟩
     · rename_i hq
       obtain⟨s1,_⟩:=ov hd hk h1 t1 hq
       rw[Option.map_eq_some_iff] at h
       obtain⟨es3,g0,rfl⟩:=h
       rcases vg hd hk h1 h2 (i:=i+1) hr.2 g0 with⟨g1,g2⟩ | ⟨j,x,g1,g2,g3,g4⟩
       · exact .inl ⟨by simp[Instr.findNow,s1,g1],fun c=>by simp only[List.cons_append,List.map_cons,aj];exact⟨yr t1 t2,g2 c⟩⟩
       · exact .inr ⟨j+1,x,by simp[Instr.findNow,s1,g1];omega,by simpa using g2,g3,by simp only[List.set_cons_succ,List.map_cons,aj];exact⟨yr t1 t2,g4⟩⟩
     · simp at h
   · simp at h
theorem Hq {t:TypeId} {rs:Option Operand} {r:Nat} (hr:Rel X T a μ) (ho:o.op= .makeMap t rs) (hrs:rs=none) (ah: (av E (.mkMap r)).run C ⟨T,μ.O⟩=some (v,σ')):σ'.T=T∧cG X o a μ σ'.O v:=by
 subst hrs
 simp only[av,Act.run,Option.some.injEq,Prod.mk.injEq] at ah
 obtain⟨rfl,rfl⟩:=ah
 obtain⟨le,fJ⟩:=qM hr.bg r (.map #[] 0) [] (.inl ⟨#[],0,rfl,by simp[aj],by simp[uU]⟩)
 refine⟨rfl,.map (some μ.w.heap.size),_,_,.inl ?_,?_,le,fJ⟩
 · simp only[execOp,ho]
   refine cj ?_
   simp[Instr.makeMap,Sem.run_bind]
 · simp only[ak,aB]
   exact⟨_,rfl,Nat.le_refl _,fun _=> ⟨trivial,rfl⟩⟩
theorem EM {  t kt et:TypeId} {d:TypeDesc} {x i:Operand} {x' i':aW} {ok:Bool} {q:Option IntKind} {z:V} (hr:Rel X T a μ) (ho:o.op= .lookup t x i ok) (ht:bq X t=some (.map kt et)) (Hr:bq X kt=some d) (hd:iK q d)
   (hz:eA X et=some z) (h1:cR X x=some x') (h2:cR X i=some i') (ah: (av E (.uA q ok z x' i')).run C ⟨T,μ.O⟩=some (v,σ')):σ'.T=T∧cG X o a μ σ'.O v:=by
 simp only[av,bB] at ah
 have hx:=aT hr h1 μ.O
 have hi:=aT hr h2 μ.O
 have v5:X.P.underlying t=some (.map kt et):=ht
 have sf:X.P.underlying kt=some d:=Hr
 obtain⟨zv,sb,w5⟩:=gN hz μ.w
 obtain⟨u6,Ms⟩:=eH (X:=X) (μ:=μ) w5
 split at ah
 · rename_i EN
   have EE:=Hp hd EN hi
   have main: ∀ {es:List V} {ents:Array MapEntry} {m:Option Nat},aj X μ es (ents.toList.map IZ)→(jq ok z es (bo ⟨T,μ.O⟩ i')).run C ⟨T,μ.O⟩=some (v,σ')→a.eval x= .map m→
       (match m with| none=>ents= #[] | some r=> ∃clock,μ.w.heap[r]? =some (.map ents clock))→σ'.T=T∧cG X o a μ σ'.O v:=by
     intro es ents m bU nF hm hb
     have fin: ∀ (u:Value) (b:Bool),(match Instr.findNow d (a.eval i) ents.toList 0 with
         | some (some (_,v))=>u=v∧b=true
         | some none=>u=zv∧b=false
         | none=>False)→(execOp a.eval o).run X.P μ.w= .ok (.value (if ok then .tuple #[u,.bool b] else u)) μ.w:=by
       intro u b hf
       simp only[execOp,ho]
       refine cj ?_
       cases tZ:Instr.findNow d (a.eval i) ents.toList 0 with
       | none=>rw[tZ] at hf;exact hf.elim
       | some r=>
         rw[tZ] at hf
         cases m with
         | none=>
           simp only at hb
           subst hb
           cases r with
           | none=>
             simp only at hf;obtain⟨rfl,rfl⟩:=hf
             cases ok<;>simp[Instr.lookup,Sem.run_bind,run_underlying v5,Result.andThen,hm,Go.MapKept.run_checkKey sf EE,Go.MapKept.run_findKey (l:=[]) sf (by simpa using tZ),sb]
           | some p=>
             obtain⟨j,y⟩:=p
             simp only at hf;obtain⟨rfl,rfl⟩:=hf
             cases ok<;>simp[Instr.lookup,Sem.run_bind,run_underlying v5,Result.andThen,hm,Go.MapKept.run_checkKey sf EE,Go.MapKept.run_findKey (l:=[]) sf (by simpa using tZ)]
         | some rr=>
           obtain⟨clock,hb⟩:=hb
           cases r with
           | none=>
             simp only at hf;obtain⟨rfl,rfl⟩:=hf
             cases ok<;>simp[Instr.lookup,Sem.run_bind,run_underlying v5,Result.andThen,hm,Go.MapKept.run_getObj_map hb,Go.MapKept.run_checkKey sf EE,Go.MapKept.run_findKey sf tZ,sb]
           | some p=>
             obtain⟨j,y⟩:=p
             simp only at hf;obtain⟨rfl,rfl⟩:=hf
             cases ok<;>simp[Instr.lookup,Sem.run_bind,run_underlying v5,Result.andThen,hm,Go.MapKept.run_getObj_map hb,Go.MapKept.run_checkKey sf EE,Go.MapKept.run_findKey sf tZ]
     unfold jq at nF
     split at nF
     · rename_i y hy
       obtain⟨rfl,rfl⟩:=aY nF
       rcases nE hd EN hi (i:=0) bU hy with⟨g1,_⟩ | ⟨v0,j,e,g1,g2,g3⟩
       · cases g1
       · injection g1 with g1
         subst g1
         refine⟨rfl,aO hr.bg (fin e true (by rw[g2];exact⟨rfl,rfl⟩)) ?_⟩
         cases ok
         · simpa using g3
         · simp only[if_true,ak];exact⟨_,rfl,by simp[aj,ak,g3]⟩
     · rename_i hy
       obtain⟨rfl,rfl⟩:=aY nF
       rcases nE hd EN hi (i:=0) bU hy with⟨_,g2⟩ | ⟨v0,j,e,g1,g2,g3⟩
       · refine⟨rfl,aO hr.bg (fin zv false (by rw[g2];exact⟨rfl,rfl⟩)) ?_⟩
         cases ok
         · simpa using u6
         · simp only[if_true,ak];exact⟨_,rfl,by simp[aj,ak,u6]⟩
       · cases g1
     · exact absurd nF au
   split at ah
   · rename_i r g e
     rw[e] at hx
     simp only[ak] at hx
     obtain⟨b,hp,sW,cK⟩:=hx
     simp only[Act.run] at ah
     split at ah
     · rename_i es bR
       split at ah
       · rename_i hc
         obtain⟨k0,rfl⟩:=cK hc.1
         rcases hr.bg.ents r es bR hc.2 with⟨dz,ents,clock,hm,bU,_⟩ | ⟨_,s,pos,_,rfl⟩ | ⟨ng,rfl⟩
         · exact main bU ah hp ⟨clock,hm⟩
         · exact absurd (by simpa [jq,lW] using ah) au
         · exact absurd (by simpa [jq,lW] using ah) au
       · exact absurd ah au
     · exact absurd ah au
   · rename_i es e
     rw[e] at hx
     simp only[ak] at hx
     obtain⟨_,⟨rfl,hp⟩ | ⟨b,ents,clock,hp,_,_,⟨hm,_⟩,bU⟩⟩:=hx
     · exact main (ents:= #[]) (by simp[aj]) ah hp rfl
     · exact main bU ah hp ⟨clock,hm⟩
   · exact absurd ah au
 · exact absurd ah au
theorem EO {ents:Array MapEntry} {clock:Nat} (h:uU ents clock) (e:MapEntry) (he:e.born=clock):uU (ents.push e) (clock+1):=by
 obtain⟨h1,h2⟩:=h
 refine⟨fun x hx=> ?_,?_⟩
 · rw[Array.toList_push,List.mem_append,List.mem_singleton] at hx
   rcases hx with hx| rfl
   · have:=h1 x hx;omega
   · omega
 · rw[Array.toList_push,List.map_append,List.nodup_append]
   refine⟨h2,by simp,fun a ha b hb=> ?_⟩
   simp only[List.map_cons,List.map_nil,List.mem_singleton] at hb
   obtain⟨x,hx,rfl⟩:=List.mem_map.1 ha
   have:=h1 x hx
   omega
theorem z7 {ents:Array MapEntry} {clock:Nat} (h:uU ents clock) (j:Nat) {f:MapEntry→MapEntry} (hf: ∀e,(f e).born=e.born):uU (ents.modify j f) clock:=by
 have hm: (ents.modify j f).toList.map (·.born)=ents.toList.map (·.born):=by
  apply List.ext_getElem?
  intro n
  simp only[List.getElem?_map,Array.toList_modify,List.getElem?_modify]
  cases ents.toList[n]? with
  | none=>rfl
  | some x=>
    simp only[Option.map_some]
    split
    · simp[hf]
    · rfl
 refine⟨fun x hx=> ?_,by rw[hm];exact h.2⟩
 have:x.born ∈ (ents.modify j f).toList.map (·.born):=List.mem_map.2 ⟨x,hx,rfl⟩
 rw[hm] at this
 obtain⟨y,hy,e⟩:=List.mem_map.1 this
 rw[←e];exact h.1 y hy
theorem xe {     t kt et:TypeId} {d:TypeDesc} {x i y:Operand} {x' i' y':aW} {q:Option IntKind} (hr:Rel X T a μ) (ho:o.op= .mapUpdate t x i y∨o.op= .insert t x i y) (ht:bq X t=some (.map kt et)) (Hr:bq X kt=some d) (hd:iK q d)
   (h1:cR X x=some x') (h2:cR X i=some i') (h3:cR X y=some y') (ah: (av E (.rS q x' i' y')).run C ⟨T,μ.O⟩=some (v,σ')):σ'.T=T∧cG X o a μ σ'.O v:=by
 simp only[av,bB] at ah
 have hx:=aT hr h1 μ.O
 have hi:=aT hr h2 μ.O
 have hy:=aT hr h3 μ.O
 have v5:X.P.underlying t=some (.map kt et):=ht
 have sf:X.P.underlying kt=some d:=Hr
 split at ah
 · rename_i r g e
   rw[e] at hx
   simp only[bB] at ah
   obtain⟨u,O1,k1,k2,k3,k4⟩:=lj (μ:=μ) hr.bg hy ah
   have hx1:=ak.mono k3 hx
   have rB:=ak.mono k3 hi
   simp only[Act.run] at k1
   split at k1
   · rename_i es bR
     split at k1
     · rename_i hc
       obtain⟨cu,cH,gX,EN,ll⟩:=hc
       split at k1
       · rename_i es' tJ
         simp only[Act.run,Option.some.injEq,Prod.mk.injEq] at k1
         obtain⟨rfl,rfl⟩:=k1
         simp only[ak] at hx1
         obtain⟨b,hp,sW,cK⟩:=hx1
         obtain⟨_,rfl⟩:=cK cu
         obtain⟨dz,ents,clock,hm,bU,lh⟩: (μ.φ r).cap≠0∧ ∃ents clock,μ.w.heap[(μ.φ r).dc]? =some (.map ents clock)∧aj X ⟨μ.w,μ.φ,O1⟩ es (ents.toList.map IZ)∧uU ents clock:=by
           rcases k4.ents r es bR cH with h| ⟨_,s,pos,_,rfl⟩ | ⟨ng,rfl⟩
           · exact h
           · simp[m9] at tJ
           · simp[m9] at tJ
         have EE:=Hp hd EN rB
         have fin: ∀w',(Instr.mapUpdate t (.map (some (μ.φ r).dc)) (a.eval i) (a.eval y)).run X.P μ.w= .ok () w'→(execOp a.eval o).run X.P μ.w= .ok .skip w':=fun w' hw=>by
           rcases ho with ho| ho
           · simp only[execOp,ho,hp];exact G2 hw
           · simp only[execOp,ho,hp];exact G2 hw
         rcases vg hd EN rB k2 (i:=0) bU tJ with⟨g1,g2⟩ | ⟨j,e,g1,g2,g3,g4⟩
         · obtain⟨le,fJ⟩:=pF (μ:=⟨μ.w,μ.φ,O1⟩) k4 r (es':=es') (ob':= .map (ents.push {key:=a.eval i,val:=a.eval y,born:=clock}) (clock+1)) bR gX cH hm dz (.inl ⟨ents,clock,rfl,bU,lh⟩) (.inl ⟨_,_,rfl,by
            have:=g2 clock
            have e1: (ents.push ({key:=a.eval i,val:=a.eval y,born:=clock}:MapEntry)).toList=ents.toList++[({key:=a.eval i,val:=a.eval y,born:=clock}:MapEntry)]:=by simp
            rw[e1];exact this,EO lh _ rfl⟩)
           refine⟨rfl,undef,_,_,.inr ⟨fin _ ?_,rfl⟩,by simp only[ak];exact⟨#[],rfl,by simp[aj]⟩,k3.trans le,fJ⟩
           simp[Instr.mapUpdate,run_underlying v5,Go.MapKept.run_getObj_map hm,Go.MapKept.run_checkKey sf EE,Go.MapKept.run_findKey sf g1,Go.MapKept.run_setObj_map _ hm,Result.andThen,Sem.run_bind]
         · rw[Nat.zero_add] at g1
           have hje:ents[j]? =some e:=by simpa using g2
           obtain⟨le,fJ⟩:=pF (μ:=⟨μ.w,μ.φ,O1⟩) k4 r (es':=es') (ob':= .map (ents.modify j fun e=> {e with key:=a.eval i,val:=a.eval y}) (clock)) bR gX cH hm dz (.inl ⟨ents,clock,rfl,bU,lh⟩) (.inl ⟨_,_,rfl,by
            have hl: (ents.modify j fun e=> {e with key:=a.eval i,val:=a.eval y}).toList=ents.toList.set j {e with key:=a.eval i,val:=a.eval y}:=by
              apply List.ext_getElem?
              intro n
              rw[Array.toList_modify,List.getElem?_modify,List.getElem?_set]
              by_cases hn:j=n
              · subst hn
                have bl:=(List.getElem?_eq_some_iff.1 g2).1
                simp only[if_true,bl,g2,Option.map_some,and_self]
                rfl
              · simp[hn]
            rw[hl];exact g4,z7 lh j fun _=>rfl⟩)
           refine⟨rfl,undef,_,_,.inr ⟨fin _ ?_,rfl⟩,by simp only[ak];exact⟨#[],rfl,by simp[aj]⟩,k3.trans le,fJ⟩
           simp[Instr.mapUpdate,run_underlying v5,Go.MapKept.run_getObj_map hm,Go.MapKept.run_checkKey sf EE,Go.MapKept.run_findKey sf g1,hje,g3,Go.MapKept.run_keyThatStays EE,Go.MapKept.run_setObj_map _ hm,Result.andThen,Sem.run_bind]
       · exact absurd k1 au
     · exact absurd k1 au
   · exact absurd k1 au
 · exact absurd ah au
theorem mH {P:Program} {w:World} {r:Nat} {s:ByteArray} {pos:Nat} (hb:w.heap[r]? =some (.stringIter s pos)): (getObj r).run P w= .ok (.stringIter s pos) w:=by
 simp[getObj,Sem.run,hb]
theorem mI {P:Program} {w:World} {r:Nat} {s:ByteArray} {pos:Nat} (o:Go.Obj) (hb:w.heap[r]? =some (.stringIter s pos)): (setObj r o).run P w= .ok () {w with heap:=w.heap.setIfInBounds r o}:=by
 simp[setObj,Sem.run,hb]
theorem BU {t:TypeId} {x:Operand} {y:aW} {r:Nat} (hr:Rel X T a μ) (ho:o.op= .range t x) (ht:bq X t=some .string) (h1:cR X x=some y) (ah: (av E (.qt r y)).run C ⟨T,μ.O⟩=some (v,σ')):σ'.T=T∧cG X o a μ σ'.O v:=by
 simp only[av,bB] at ah
 have hx:=aT hr h1 μ.O
 have v5:X.P.underlying t=some .string:=ht
 split at ah
 · rename_i s e
   rw[e] at hx
   simp only[ak] at hx
   obtain⟨bs,hp,rfl⟩:=hx
   simp only[Act.run,Option.some.injEq,Prod.mk.injEq] at ah
   obtain⟨rfl,rfl⟩:=ah
   obtain⟨le,fJ⟩:=qM hr.bg r (.stringIter bs 0) [.str bs.data.toList,.int .i64 0] (.inr (.inl ⟨bs,0,rfl,rfl⟩))
   refine⟨rfl,.pointer (some ⟨μ.w.heap.size,0,none⟩),_,_,.inl ?_,?_,le,fJ⟩
   · simp only[execOp,ho]
     refine cj ?_
     simp[Instr.range,Sem.run_bind,run_underlying v5,hp,Result.andThen]
   · simp only[ak,aB]
     exact⟨_,rfl,Nat.le_refl _,fun _=> ⟨trivial,rfl⟩⟩
 · exact absurd ah au
theorem BV {t kt et:TypeId} {x:Operand} {y:aW} {r:Nat} (hr:Rel X T a μ) (ho:o.op= .range t x) (ht:bq X t=some (.map kt et)) (h1:cR X x=some y) (ah: (av E (.mapIter r y)).run C ⟨T,μ.O⟩=some (v,σ')):σ'.T=T∧cG X o a μ σ'.O v:=by
 simp only[av,bB] at ah
 have hx:=aT hr h1 μ.O
 have v5:X.P.underlying t=some (.map kt et):=ht
 split at ah
 · rename_i es e
   rw[e] at hx
   simp only[ak] at hx
   simp only[Act.run,Option.some.injEq,Prod.mk.injEq] at ah
   obtain⟨rfl,rfl⟩:=ah
   obtain⟨_,⟨rfl,hp⟩ | ⟨b,ents,clock,hp,ez,bl,⟨hm,lh⟩,bU⟩⟩:=hx
   · obtain⟨le,fJ⟩:=qM hr.bg r (.mapIter none 0 #[] 0) [.mlit []] (.inr (.inr ⟨none,0,[],rfl,rfl,.inl ⟨rfl,rfl⟩⟩))
     refine⟨rfl,.pointer (some ⟨μ.w.heap.size,0,none⟩),_,_,.inl ?_,?_,le,fJ⟩
     · simp only[execOp,ho]
       refine cj ?_
       simp[Instr.range,Sem.run_bind,run_underlying v5,hp,Result.andThen]
     · simp only[ak,aB]
       exact⟨_,rfl,Nat.le_refl _,fun _=> ⟨trivial,rfl⟩⟩
   · obtain⟨le,fJ⟩:=qM hr.bg r (.mapIter (some b) clock #[] clock) [.mlit es] (.inr (.inr ⟨some b,clock,es,rfl,rfl,.inr ⟨b,ents,rfl,ez,bl,hm,lh,bU⟩⟩))
     refine⟨rfl,.pointer (some ⟨μ.w.heap.size,0,none⟩),_,_,.inl ?_,?_,le,fJ⟩
     · simp only[execOp,ho]
       refine cj ?_
       simp[Instr.range,Sem.run_bind,run_underlying v5,hp,Result.andThen,Go.MapKept.run_getObj_map hm]
     · simp only[ak,aB]
       exact⟨_,rfl,Nat.le_refl _,fun _=> ⟨trivial,rfl⟩⟩
 · exact absurd ah au
theorem BW {  x:Operand} {y:aW} (hr:Rel X T a μ) (ho:o.op= .next x true) (h1:cR X x=some y) (ah: (av E (.qu y)).run C ⟨T,μ.O⟩=some (v,σ')):σ'.T=T∧cG X o a μ σ'.O v:=by
 simp only[av,bB] at ah
 have hx:=aT hr h1 μ.O
 split at ah
 · rename_i r g e
   rw[e] at hx
   simp only[ak] at hx
   obtain⟨b,hp,sW,cK⟩:=hx
   simp only[Act.run] at ah
   split at ah
   · rename_i s p bR
     split at ah
     · rename_i hc
       obtain⟨cu,cH,gX⟩:=hc
       obtain⟨_,rfl⟩:=cK cu
       rcases hr.bg.ents r _ bR cH with⟨dz,ents,clock,hm,bU,_⟩ | ⟨dz,bs,pos,hm,hs⟩ | ⟨ng,hs⟩
       · exfalso
         cases he:ents.toList with
         | nil=>simp[he,aj] at bU
         | cons e es=>simp[he,aj,ak] at bU
       · simp only[List.cons.injEq,V.str.injEq,V.int.injEq,true_and,and_true] at hs
         obtain⟨rfl,rfl⟩:=hs
         simp only[Int.toNat_natCast] at ah
         have hlen:bs.data.toList.length=bs.size:=by rw[Array.length_toList];rfl
         have BN: (⟨bs.data.toList.toArray⟩:ByteArray)=bs:=by cases bs;simp
         rw[hlen,BN] at ah
         split at ah
         · rename_i bl
           simp only[Act.run,Option.some.injEq,Prod.mk.injEq] at ah
           obtain⟨rfl,rfl⟩:=ah
           obtain⟨le,fJ⟩:=pF hr.bg r (es':=[.str bs.data.toList,.int .i64 ((pos+(Utf8.decode bs pos).2:Nat):Int)]) (ob':= .stringIter bs (pos+(Utf8.decode bs pos).2)) bR gX cH hm dz (.inr (.inl ⟨bs,pos,rfl,rfl⟩)) (.inr (.inl ⟨bs,_,rfl,rfl⟩))
           refine⟨rfl,.tuple #[.bool true,goInt pos,.int .i32 ((Utf8.decode bs pos).1:Int)],_,_,.inl ?_,?_,le,fJ⟩
           · simp only[execOp,ho]
             refine cj ?_
             simp[Instr.next,Sem.run_bind,hp,Result.andThen,mH hm,mI _ hm,bl,-bind_pure_comp]
           · simp only[ak]
             exact⟨_,rfl,by simp[aj,ak,goInt]⟩
         · rename_i bl
           obtain⟨rfl,rfl⟩:=aY ah
           refine⟨rfl,aO hr.bg (val:= .tuple #[.bool false]) ?_ ?_⟩
           · simp only[execOp,ho]
             refine cj ?_
             simp[Instr.next,Sem.run_bind,hp,Result.andThen,mH hm,mI _ hm,bl,-bind_pure_comp]
           · simp only[ak]
             exact⟨_,rfl,by simp[aj,ak]⟩
       · simp at hs
     · exact absurd ah au
   · exact absurd ah au
 · exact absurd ah au
theorem Dk {x:Operand} {y:aW} (hr:Rel X T a μ) (ho:o.op= .move x∨o.op= .assign x) (ht:cR X x=some y) (ah: (av E (.xN y)).run C ⟨T,μ.O⟩=some (v,σ')):σ'.T=T∧cG X o a μ σ'.O v:=by
 simp only[av,bB] at ah
 have ku: (execOp a.eval o).run X.P μ.w= .ok (.value (a.eval x)) μ.w:=by rcases ho with ho| ho<;>simp[execOp,ho]
 obtain⟨u,O1,k1,k2,k3,k4⟩: ∃c' O',(Act.done c').run C ⟨T,O'⟩=some (v,σ')∧ak X ⟨μ.w,μ.φ,O'⟩ c' (a.eval x)∧Le μ ⟨μ.w,μ.φ,O'⟩∧bu X ⟨μ.w,μ.φ,O'⟩:=by
  split at ah
  · exact z6 hr.bg (aT hr ht μ.O) ah
  · exact lj (μ:=μ) hr.bg (aT hr ht μ.O) ah
 obtain⟨rfl,rfl⟩:=aY k1
 exact⟨rfl,a.eval x,μ.w,μ.φ,.inl ku,k2,k3,k4⟩
end
end Go.AM
namespace Go.AM
open Go Go.RowKit
def rA.iu:rA→Bool
 | .call .. =>true
 | _=>false
section
variable {X:Ctx} {E:Env} {C:bj} {o:Oper} {a:Go.Act} {T:Nat→V} {μ:Mu} {v:V} {σ':St}
theorem KD {p:V×St} {σ:St}: (av E .bad).run C σ≠some p:=by simp[av,Act.run]
theorem BX {h:Hints} {dst:Nat} {c:Call} {oG:rA} (hr:Rel X T a μ) (ho:o.op= .call c) (aR:uS X h dst c=some oG) (BS:oG.iu=false)
   (ah: (av E oG).run C ⟨T,μ.O⟩=some (v,σ')):σ'.T=T∧cG X o a μ σ'.O v:=by
 unfold uS at aR
 split at aR
 · split at aR
   · injection aR with aR;subst aR;simp[rA.iu] at BS
   · simp at aR
 · simp at aR
 · rename_i b hc
   have jW: ∀ {α:Type} (l:Array α) (m:List α),l.toList=m→l=m.toArray:=fun l m e=>by rw[←e]
   split at aR
   · rename_i x t h1 h2
     have e1:=jW _ _ h1;have e2:=jW _ _ h2
     split at aR
     · rename_i x' e hx hd
       injection aR with aR;subst aR
       exact Rt hr ho hc e1 e2 hd hx ah
     · rename_i x' hx hd
       injection aR with aR;subst aR
       exact EB hr ho hc e1 e2 hd hx ah
     · rename_i x' n e hx hd
       injection aR with aR;subst aR
       exact EC hr ho hc e1 e2 hd ah
     · simp at aR
   · rename_i xs _
     simp only[Option.map_eq_some_iff] at aR
     obtain⟨as,h1,rfl⟩:=aR
     exact Ru hr ho hc h1 ah
   · rename_i xs _
     simp only[Option.map_eq_some_iff] at aR
     obtain⟨as,h1,rfl⟩:=aR
     exact Rv hr ho hc h1 ah
   · rename_i s x t t' h1 h2
     have e1:=jW _ _ h1;have e2:=jW _ _ h2
     split at aR
     · rename_i s' x' e d hs hx hd zH
       split at aR
       · rename_i sz i z e' hn hi hz
         split at aR<;>simp at aR
         rename_i hb
         subst aR
         split at ah
         · exact vf hr ho hc e1 e2 hd zH (by simp) hn hi hz hb hs hx ah
         · exact xd hr ho hc e1 e2 hd zH (by simp) hn hi hz hb hs hx ah
       · rename_i sz i z hn hi hz
         split at aR<;>simp at aR
         rename_i hb
         subst aR
         split at ah
         · exact vf hr ho hc e1 e2 hd zH (by simp) hn hi hz hb hs hx ah
         · exact xd hr ho hc e1 e2 hd zH (by simp) hn hi hz hb hs hx ah
       · simp at aR
     · simp at aR
   · rename_i d s t t' h1 h2
     have e1:=jW _ _ h1;have e2:=jW _ _ h2
     split at aR
     · rename_i d' s' e hd hs ht
       simp only[Option.map_eq_some_iff] at aR
       obtain⟨sz,hn,rfl⟩:=aR
       exact KC hr ho hc e1 e2 ht hn hd hs ah
     · simp at aR
   · rename_i x t h1 h2
     have e1:=jW _ _ h1;have e2:=jW _ _ h2
     split at aR
     · rename_i x' e hx hd
       split at aR
       · rename_i sz z hn hz
         injection aR with aR;subst aR
         exact Ho hr ho hc e1 e2 hd hz hx ah
       · simp at aR
     · simp at aR
   · simp at aR
theorem mi {kt:TypeId} {q:Option IntKind} (h:qJ X kt=some q): ∃d,bq X kt=some d∧iK q d:=by
 unfold qJ at h
 split at h
 · rename_i k hk
   injection h with h;subst h
   exact⟨_,hk,rfl⟩
 · rename_i hk
   injection h with h;subst h
   exact⟨_,hk,rfl⟩
 · simp at h
theorem Hs (mP: ∀t1 t2 k,X.jb t1=some k→X.jb t2=some k→t1=t2) {h:Hints} {dst:Nat} {oG:rA} (hr:Rel X T a μ) (aR:we X h dst o.op=some oG) (BS:oG.iu=false)
  (ah: (av E oG).run C ⟨T,μ.O⟩=some (v,σ')):σ'.T=T∧cG X o a μ σ'.O v:=by
 cases dO:o.op<;>simp only[we,dO] at aR<;>try (simp at aR;done)
 case move x=>
  split at aR
  · simp only[Option.map_eq_some_iff] at aR
    obtain⟨y,h1,rfl⟩:=aR
    exact Dh hr (.inl dO) h1 ah
  · split at aR
    ·  simp only[Option.map_eq_some_iff] at aR
       obtain⟨y,h1,rfl⟩:=aR
       exact Dk hr (.inl dO) h1 ah
    · exact Ml hr (.inl dO) aR ah
 case assign x=>
  split at aR
  · simp only[Option.map_eq_some_iff] at aR
    obtain⟨y,h1,rfl⟩:=aR
    exact Dh hr (.inr dO) h1 ah
  · split at aR
    ·  simp only[Option.map_eq_some_iff] at aR
       obtain⟨y,h1,rfl⟩:=aR
       exact Dk hr (.inr dO) h1 ah
    · exact Ml hr (.inr dO) aR ah
 case pick c p q=>
  split at aR
  · rename_i c' p' q' h1 h2 h3
    injection aR with aR;subst aR
    exact Kt hr dO h1 h2 h3 ah
  · simp at aR
 case alloc t=>
  split at aR
  · rename_i sz z h1 h2
    injection aR with aR;subst aR
    exact Hd _ hr dO h2 ah
  · simp at aR
 case box t x=>
  split at aR
  · rename_i sz y h1 h2
    injection aR with aR;subst aR
    exact Rz _ hr dO h2 ah
  · simp at aR
 case build t ps=>
  split at aR
  · rename_i z fs h1 h2
    split at aR
    · simp at aR
    ·  rename_i qw
       simp only[Option.map_eq_some_iff] at aR
       obtain⟨as,h3,rfl⟩:=aR
       exact EH _ hr dO h1 h2 (by revert qw;cases fs.toList.all (fun f=> (bG X f.type).isSome) <;>simp) h3 ah
  · rename_i z n e h1 h2
    split at aR
    ·  rename_i s hs
       simp only[Option.map_eq_some_iff] at aR
       obtain⟨as,h3,rfl⟩:=aR
       exact EI _ hr dO h1 h2 hs h3 ah
    · simp at aR
  · simp at aR
 case buildSlice t n ps=>
  split at aR
  · rename_i e hd
    split at aR
    ·  rename_i sz z as h1 h2 h3
       injection aR with aR;subst aR
       split at ah
       · exact vd hr dO hd h1 h2 h3 ah
       · split at ah
         · exact vb hr dO hd h1 h2 h3 ah
         · exact oY hr dO hd h1 h2 h3 ah
    · simp at aR
  · simp at aR
 case load t x=>
  split at aR
  · rename_i g sz y h1 h2 h3
    injection aR with aR;subst aR
    split at ah
    · exact De hr dO h3 h1 h2 ah
    · exact G9 _ hr dO h3 h1 h2 ah
  · simp at aR
 case store t x y=>
  split at aR
  · rename_i g sz x' y' h1 h2 h3 h4
    injection aR with aR;subst aR
    exact He hr dO h3 h4 h2 ah
  · simp at aR
 case nilCheck x=>
  simp only[Option.map_eq_some_iff] at aR
  obtain⟨y,h1,rfl⟩:=aR
  exact zF hr dO h1 ah
 case binOp op t x y t2=>
  split at aR
  · rename_i x' y' h1 h2
    unfold Da at aR
    split at aR
    ·  rename_i heq
       have Ht:op= .eql∨op= .neq:=by cases op<;>simp[G0] at heq<;>simp
       split at aR
       · rename_i hd
         injection aR with aR;subst aR
         exact Rp hr dO Ht hd h1 h2 rfl ah
       · injection aR with aR;subst aR
         exact BJ hr dO h1 h2 ah
       · injection aR with aR;subst aR
         exact BJ hr dO h1 h2 ah
       · rename_i ms hd
         injection aR with aR;subst aR
         exact Rq hr dO Ht ⟨_,hd⟩ mP h1 h2 rfl ah
       · rename_i e hd
         split at aR
         · rename_i n cH
           injection aR with aR;subst aR
           exact Rs hr dO Ht hd cH h1 h2 rfl ah
         · simp at aR
       · rename_i fs hd
         split at aR
         · rename_i hg
           simp only[Option.map_eq_some_iff] at aR
           obtain⟨ks,h3,rfl⟩:=aR
           exact G8 hr dO Ht hg h3 (by simp[gJ,hd]) h1 h2 rfl ah
         · simp at aR
       · rename_i hd
         split at aR
         · rename_i hg
           simp only[Option.map_eq_some_iff] at aR
           obtain⟨ks,h3,rfl⟩:=aR
           exact G8 hr dO Ht hg h3 (by simp[gJ,hd]) h1 h2 rfl ah
         · simp at aR
       · simp at aR
    ·  injection aR with aR;subst aR
       exact BJ hr dO h1 h2 ah
  · simp at aR
 case unOp op t x=>
  simp only[Option.map_eq_some_iff] at aR
  obtain⟨y,h1,rfl⟩:=aR
  exact Xu hr dO h1 ah
 case convert s d x=>
  split at aR
  · rename_i k0 k y h1 h2 h3
    injection aR with aR;subst aR
    exact BL hr dO h1 h2 h3 ah
  · rename_i k0 y h1 h2 h3
    injection aR with aR;subst aR
    exact Ez hr dO h1 h2 h3 ah
  · rename_i k y h1 h2 h3
    injection aR with aR;subst aR
    exact EA hr dO h1 h2 h3 ah
  · rename_i y h1 h2 h3
    injection aR with aR;subst aR
    exact BM hr dO h1 h2 h3 ah
  · simp at aR
 case makeInterface t x=>
  split at aR
  · simp at aR
  · rename_i n y d c7 h1 h2 h3
    injection aR with aR;subst aR
    exact r8 hr dO h1 h2 ⟨_,h3,fun ms e=>c7 ms e⟩ ah
  · simp at aR
 case typeAssert x t0 t ok=>
  split at aR
  · simp at aR
  · rename_i n y z d c7 h1 h2 h3 h4
    injection aR with aR;subst aR
    exact EJ hr dO mP h1 h2 h3 ⟨_,h4,fun ms e=>c7 ms e⟩ ah
  · simp at aR
 case makeFunc fn first caps=>
  cases fn<;>simp only at aR<;>try (simp at aR;done)
  split at aR
  · rename_i hf
    split at aR
    ·  rename_i n cs h1 h2
       injection aR with aR;subst aR
       exact zG hr dO hf h1 h2 ah
    · simp at aR
  · simp at aR
 case makeSlice t l c=>
  split at aR
  · rename_i e hd
    split at aR
    ·  rename_i sz i z l' c' h1 h2 h3 h4 h5
       injection aR with aR;subst aR
       exact yn hr dO hd h1 h2 h3 h4 h5 ah
    · simp at aR
  · simp at aR
 case slice t x lo hi mx=>
  split at aR
  · rename_i e x' Mp yg mx' hd h1 h2 h3 h4
    simp only[Option.map_eq_some_iff] at aR
    obtain⟨sz,hn,rfl⟩:=aR
    exact Ha hr dO hd hn h1 h2 h3 h4 ah
  · rename_i x' Mp yg hd h1 h2 h3 h4
    injection aR with aR;subst aR
    have FP:mx=none:=by
       cases mx with
       | none=>rfl
       | some m=>simp[r6] at h4
    subst FP
    exact zP hr dO hd h1 h2 h3 ah
  · simp at aR
 case fieldAddr s x i=>
  split at aR
  · rename_i fs y hd h1
    split at aR
    ·  rename_i f hf
       split at aR
       · rename_i n hn
         injection aR with aR;subst aR
         exact yj hr dO h1 hd hf hn ah
       · simp at aR
    · simp at aR
  · simp at aR
 case field s x i=>
  split at aR
  · rename_i fs y hd h1
    split at aR
    ·  rename_i f hf
       split at aR
       · rename_i g sz h2 h3
         injection aR with aR;subst aR
         exact G4 hr dO h1 hd hf h2 h3 ah
       · simp at aR
    · simp at aR
  · simp at aR
 case indexAddr t x i=>
  split at aR
  · rename_i e x' i' hd h1 h2
    simp only[Option.map_eq_some_iff] at aR
    obtain⟨sz,hn,rfl⟩:=aR
    exact yl hr dO hd hn h1 h2 ah
  · rename_i n e x' i' hd h1 h2
    simp only[Option.map_eq_some_iff] at aR
    obtain⟨sz,hn,rfl⟩:=aR
    exact zL hr dO hd hn h1 h2 ah
  · simp at aR
 case index t x i=>
  split at aR
  · rename_i x' i' hd h1 h2
    injection aR with aR;subst aR
    exact zN hr dO hd h1 h2 ah
  · rename_i n e x' i' hd h1 h2
    split at aR
    ·  rename_i g sz h3 h4
       injection aR with aR;subst aR
       exact zO hr dO hd h3 h4 h1 h2 ah
    · simp at aR
  · simp at aR
 case extract x i=>
  simp only[Option.map_eq_some_iff] at aR
  obtain⟨y,h1,rfl⟩:=aR
  exact BH hr dO h1 ah
 case makeMap t rs=>
  cases rs with
  | some _=>simp at aR
  | none=>
    injection aR with aR;subst aR
    exact Hq hr dO rfl ah
 case range t x=>
  split at aR
  · rename_i x' hd h1
    injection aR with aR;subst aR
    exact BU hr dO hd h1 ah
  · rename_i x' hd h1
    injection aR with aR;subst aR
    exact BV hr dO hd h1 ah
  · simp at aR
 case next x isS=>
  cases isS with
  | false=>simp at aR
  | true=>
    simp only[Option.map_eq_some_iff] at aR
    obtain⟨y,h1,rfl⟩:=aR
    exact BW hr dO h1 ah
 case lookup t x i ok=>
  split at aR
  · rename_i kt et x' i' hd h1 h2
    split at aR
    ·  rename_i q z hq hz
       injection aR with aR;subst aR
       obtain⟨d,Hr,hk⟩:=mi hq
       exact EM hr dO hd Hr hk hz h1 h2 ah
    · simp at aR
  · simp at aR
 case mapUpdate t m k v=>
  split at aR
  · rename_i kt et m' k' v' hd h1 h2 h3
    simp only[Option.map_eq_some_iff] at aR
    obtain⟨q,hq,rfl⟩:=aR
    obtain⟨d,Hr,hk⟩:=mi hq
    exact xe hr (.inl dO) hd Hr hk h1 h2 h3 ah
  · simp at aR
 case insert t m k v=>
  split at aR
  · rename_i kt et m' k' v' hd h1 h2 h3
    simp only[Option.map_eq_some_iff] at aR
    obtain⟨q,hq,rfl⟩:=aR
    obtain⟨d,Hr,hk⟩:=mi hq
    exact xe hr (.inr dO) hd Hr hk h1 h2 h3 ah
  · simp at aR
 case call c=>exact BX hr dO aR BS ah
end
end Go.AM
namespace Go.AM
open Go Go.RowKit
def nG (X:Ctx) (E:Env) (C:bj):Prop:= ∀ (h:Hints) (dst:Nat) (o:Oper) (oG:rA) (a:Go.Act) (T:Nat→V) (μ:Mu) (v:V) (σ':St),Rel X T a μ→we X h dst o.op=some oG→
 (av E oG).run C ⟨T,μ.O⟩=some (v,σ')→σ'.T=T∧ ∀ (next:Go.Act→World→Prop) (Q:Go.Exit→Go.Act→World→Prop),
   (∀val w' φ',ak X ⟨w',φ',σ'.O⟩ v val→Le μ ⟨w',φ',σ'.O⟩→bu X ⟨w',φ',σ'.O⟩→next (a.put o.dst val) w')→o.wp X.P a μ.w next Q
structure Fp where
 tm:Nat
 fl:Nat
 ro:Option Nat
def Marks (n:Fp) (w:World) (ds:List Deferred):Prop:=(n.fl≤w.heap.size∧ ∀l,n.ro=some l→ ∃L,w.heap[l]? =some (.loop L))∧ ∃Ds:List Nat,ds=Ds.map (fun D=> {target:= .collected D,args:= #[]})∧Ds.Nodup∧ ∀D ∈ Ds,n.fl≤D∧w.heap[D]? =some (.deferred (some []))
theorem Marks.nil {n:Fp} {w:World} (h:n.fl≤w.heap.size) (hl: ∀l,n.ro=some l→ ∃L,w.heap[l]? =some (.loop L)):Marks n w []:=⟨⟨h,hl⟩,[],rfl,.nil,by simp⟩
theorem ew {X:Ctx} {μ:Mu} (ho:bu X μ) {D:Nat} {o:Go.Obj} (hD:μ.w.heap[D]? =some o) (h1:o.isCells=false) (h2:o.isWalk=false): ¬μ.own D:=by
 rintro⟨r,hr,_,hc,hb⟩
 obtain⟨es,bR⟩:=Option.isSome_iff_exists.1 hr
 rcases ho.ok r es bR with⟨_,_,_,h4⟩ | ⟨_,_,ob,h3,h4⟩
 · rcases h4 with h4| ⟨c,T,vs,k1,_⟩
   · exact hc h4
   · rw[hb,hD] at k1;injection k1 with k1;subst k1;simp[Obj.isCells] at h1
 · rw[hb,hD] at h3;injection h3 with h3;subst h3
   rcases h4 with⟨_,_,rfl,_⟩ | ⟨_,_,rfl,_⟩ | ⟨_,_,_,rfl,_⟩ <;>simp[Obj.isWalk] at h2
theorem Marks.le {X:Ctx} {μ μ':Mu} {n:Fp} {ds:List Deferred} (h:Marks n μ.w ds) (ho:bu X μ) (le:Le μ μ'):Marks n μ'.w ds:=by
 obtain⟨⟨h0,ke⟩,Ds,h1,h2,h3⟩:=h
 refine⟨⟨Nat.le_trans h0 le.size,fun l hl=>by
  obtain⟨L,k⟩:=ke l hl
  exact⟨L,(le.cD l (Array.getElem?_eq_some_iff.1 k).1 (ew ho k rfl rfl)).1.trans k⟩⟩,Ds,h1,h2,fun D hD=> ⟨(h3 D hD).1,?_⟩⟩
 have k:=(h3 D hD).2
 rw[(le.cD D (Array.getElem?_eq_some_iff.1 k).1 (ew ho k rfl rfl)).1]
 exact k
structure jh (X:Ctx) (μ0:Mu) (n:Fp) (σ:St) (a:Go.Act) (w:World):Prop where
 defers:Marks n w a.defers
 size:a.tmps.size=n.1
 rel: ∃φ,Rel X σ.T a ⟨w,φ,σ.O⟩∧Le μ0 ⟨w,φ,σ.O⟩
section
variable {X:Ctx} {E:Env} {C:bj} {μ0:Mu} {n:Fp}
theorem ox {T:Nat→V} {a:Go.Act} {μ μ':Mu} {dst:Option Nat} {v:V} {val:Value} (hr:Rel X T a μ) (le:Le μ μ') (ho:bu X μ') (hv:ak X μ' v val) (hd:dst.all (· <a.tmps.size)=true) (O:Nat→Obj):
   Rel X (St.put ⟨T,O⟩ dst v).T (a.put dst val) μ':=by
 refine⟨fun t=> ?_,ho⟩
 cases dst with
 | none=>exact ak.mono le (hr.tmps t)
 | some d=>
   simp at hd
   simp only[St.put,Go.Act.put,dn]
   split
   · rename_i e
     subst e
     have: (a.tmps.setIfInBounds t val).getD t undef=val:=by simp[hd]
     rw[this];exact hv
   · rename_i c7
     have: (a.tmps.setIfInBounds d val).getD t undef=a.tmps.getD t undef:=by
      simp[Array.getElem?_setIfInBounds_ne (fun e=>c7 e.symm)]
     rw[this];exact ak.mono le (hr.tmps t)
theorem lr (a:Go.Act) (dst:Option Nat) (v:Value): (a.put dst v).tmps.size=a.tmps.size:=by cases dst<;>simp[Go.Act.put]
theorem put_defers (a:Go.Act) (dst:Option Nat) (v:Value): (a.put dst v).defers=a.defers:=by cases dst<;>simp[Go.Act.put]
theorem sg {μ:Mu}:ak X μ dX undef:=by simp only[dX,ak];exact⟨#[],rfl,by simp[aj]⟩
theorem pH (    H:nG X E C) {h:Hints} {ops:Array Oper} {i:Nat} {o:Oper} {ao:bD} {σ σ':St} {a:Go.Act} {w:World} {K:Go.Act→World→Prop} {Q:Go.Exit→Go.Act→World→Prop}
   (ho:ops[i]? =some o) (aR:np X h ops o=some ao) (hn:h.n=n.1) (hs:jh X μ0 n σ a w) (ah:eM E C ao σ=some σ') (hK: ∀a' w',jh X μ0 n σ' a' w'→K a' w'):
   wpOpIn (Fr n.ro) 0 X.P ops Q i K a w:=by
 obtain⟨jv,cH,φ,hr,hle⟩:=hs
 unfold np at aR
 simp only at aR
 split at aR
 · rename_i g hg abG
   injection aR with aR
   subst aR
   have hd:o.dst.all (· <a.tmps.size)=true:=by rw[cH,←hn];exact abG
   simp only[eM] at ah
   split at ah
   · rename_i v σ1 wh
     injection ah with ah
     subst ah
     have runs: (av E ((we X h (o.dst.getD 0) o.op).getD .bad)).run C σ=some (v,σ1)→o.wpIn (Fr n.ro) 0 X.P a w K Q:=fun dO=>by
       cases Hu:we X h (o.dst.getD 0) o.op with
       | none=>rw[Hu] at dO;exact absurd dO KD
       | some oG=>
         rw[Hu] at dO
         obtain⟨hT,hwp⟩:=H h _ o oG a σ.T ⟨w,φ,σ.O⟩ v σ1 hr Hu dO
         refine ud (fun c e=>by rw[e] at Hu;simp[we] at Hu) (hwp K Q fun val w' φ' hv le fJ=>hK _ _ ⟨by rw[put_defers];exact jv.le hr.bg le,by rw[lr];exact cH,φ',?_,?_⟩)
         · have:=ox hr le fJ hv hd σ1.O
           rw[←hT] at this
           have e: (σ1.put o.dst v).O=σ1.O:=by cases o.dst<;>rfl
           rw[e];exact this
         · have e: (σ1.put o.dst v).O=σ1.O:=by cases o.dst<;>rfl
           rw[e];exact hle.trans le
     have Mx:v=dX→σ1=σ→K (a.put o.dst undef) w:=fun hv hσ=>by
       subst hv;subst hσ
       refine hK _ _ ⟨by rw[put_defers];exact jv,by rw[lr];exact cH,φ,?_,?_⟩
       · have:=ox hr (Le.refl _) hr.bg sg hd σ1.O
         have e: (σ1.put o.dst dX).O=σ1.O:=by cases o.dst<;>rfl
         rw[e];exact this
       · have e: (σ1.put o.dst dX).O=σ1.O:=by cases o.dst<;>rfl
         rw[e];exact hle
     simp only[wpOpIn,ho]
     cases BK:o.guard with
     | none=>
       rw[BK] at hg
       injection hg with hg
       subst hg
       rw[if_pos (by simp[Region.wanted,BK])]
       exact runs (by simpa [dM] using wh)
     | some gw=>
       obtain⟨j,want⟩:=gw
       rw[BK] at hg
       simp only at hg
       split at hg
       · rename_i d hdj
         injection hg with hg
         subst hg
         simp only[dM,Act.run] at wh
         have hv:=hr.tmps d
         split at wh
         · rename_i b hb
           rw[hb] at hv
           simp only[ak] at hv
           have bl:d<a.tmps.size:=by
             rcases Nat.lt_or_ge d a.tmps.size with hl| hl
             · exact hl
             · simp[Array.getElem?_eq_none hl,undef] at hv
           have abH:a.tmps[d]? =some (.bool b):=by
             rw[Array.getElem?_eq_getElem bl]
             simp[Array.getElem?_eq_getElem bl] at hv
             rw[hv]
           have hy:yielded ops a.tmps j=some b:=by simp[yielded,hdj,abH]
           split at wh
           · rename_i SV
             rw[if_pos (by simp[Region.wanted,BK,hy,SV])]
             exact runs wh
           · rename_i SV
             rw[if_neg (by simp[Region.wanted,BK,hy,SV])]
             obtain⟨e1,e2⟩:=aY wh
             exact⟨fun _ _=>trivial,Mx e1.symm e2⟩
         · rename_i hb
           rw[hb] at hv
           simp only[ak] at hv
           obtain⟨vs,pZ,hv0⟩:=hv
           have hy:yielded ops a.tmps j=none:=by
             simp only[yielded,hdj,Option.bind_some]
             cases hq:a.tmps[d]? with
             | none=>rfl
             | some x=>
               have:x= .tuple vs:=by simpa [hq] using pZ
               rw[this]
           rw[if_neg (by simp[Region.wanted,BK,hy])]
           obtain⟨e1,e2⟩:=aY wh
           exact⟨fun _ _=>trivial,Mx e1.symm e2⟩
         · exact absurd wh au
       · simp at hg
   · simp at ah
 · simp at aR
theorem kz {h:Hints} {ops:Array Oper}: ∀ {l:List Oper} {as:List bD},fN X h ops l=some as→as.length=l.length∧ ∀ (i:Nat) o,l[i]? =some o→ ∃ao,as[i]? =some ao∧np X h ops o=some ao
 | [],as,h'=>by simp[fN] at h';subst h';simp
 | o::l,as,h'=>by
   simp only[fN] at h'
   split at h'
   · rename_i ao as' h1 h2
     injection h' with h';subst h'
     obtain⟨k1,k2⟩:=kz h2
     refine⟨by simp[k1],fun i o' hi=> ?_⟩
     cases i with
     | zero=>simp at hi;subst hi;exact⟨ao,by simp,h1⟩
     | succ i=>simpa using k2 i o' (by simpa using hi)
   · simp at h'
theorem EP {ao:bD} {σ:St} {p:List Nat}:eM E C {ao with pre:=p} σ=eM E C ao σ:=rfl
theorem eJ (H:nG X E C) {h:Hints} {ops:Array Oper} {as:List bD} (hn:h.n=n.1) (aR:fN X h ops ops.toList=some as) {Q:Go.Exit→Go.Act→World→Prop}:
   ∀ (m k:Nat),k+m=ops.size→ ∀ {σ σ':St} {a:Go.Act} {w:World},jh X μ0 n σ a w→iX E C ((as.drop k).map fun o=> {o with pre:=[]}) σ=some σ'→
     (∀a' w',jh X μ0 n σ' a' w'→Q .normal a' w')→wpOpsIn (Fr n.ro) 0 X.P ops Q (List.range' k m) a w
 | 0,k,hk,σ,σ',a,w,hs,ah,hQ=>by
   obtain⟨hl,_⟩:=kz aR
   have:as.drop k=[]:=by simp at hl;simp;omega
   rw[this] at ah
   simp[iX] at ah
   subst ah
   simpa [wpOpsIn] using hQ a w hs
 | m+1,k,hk,σ,σ',a,w,hs,ah,hQ=>by
   obtain⟨hl,nF⟩:=kz aR
   have Ls:k<ops.size:=by omega
   obtain⟨ao,ER,lu⟩:=nF k ops[k] (by simp[Ls])
   have hka:k<as.length:=by simp at hl;omega
   have hd:as.drop k=ao::as.drop (k+1):=by
     rw[List.drop_eq_getElem_cons hka]
     rw[List.getElem?_eq_getElem hka] at ER
     injection ER with ER;rw[ER]
   rw[hd] at ah
   simp only[List.map_cons,iX,EP] at ah
   split at ah
   · rename_i σ1 h1
     rw[List.range'_succ,wpOpsIn_cons]
     refine pH H (o:=ops[k]) (by simp[Ls]) lu hn hs h1 fun a' w' kQ=> ?_
     exact eJ H hn aR m (k+1) (by omega) kQ ah hQ
   · simp at ah
end
end Go.AM
namespace Go.AM
open Go Go.RowKit
inductive Cell where
 | v (x:V)
 | o (x:Obj)
def St.at (σ:St):Loc→Cell
 | .t n=> .v (σ.T n)
 | .o n=> .o (σ.O n)
theorem St.ext' {σ τ:St} (h: ∀l,σ.at l=τ.at l):σ=τ:=by
 cases σ;cases τ
 congr
 · funext n;have:=h (.t n);simpa [St.at] using this
 · funext n;have:=h (.o n);simpa [St.at] using this
theorem lz {C:bj}: ∀ (act:Act) {σ τ σ':St} {v:V},act.run C σ=some (v,σ')→(∀l ∈ (act.dW C σ).reads,σ.at l=τ.at l)→
   ∃τ',act.run C τ=some (v,τ')∧act.dW C τ=act.dW C σ∧ ∀l,(l ∈ (act.dW C σ).writes→τ'.at l=σ'.at l)∧(l ∉ (act.dW C σ).writes→τ'.at l=τ.at l∧σ'.at l=σ.at l)
 | .done u,σ,τ,σ',v,h,_=>by
   simp only[Act.run,Option.some.injEq,Prod.mk.injEq] at h
   obtain⟨rfl,rfl⟩:=h
   exact⟨τ,rfl,rfl,fun l=> ⟨fun hl=>by simp[Act.dW] at hl,fun _=> ⟨rfl,rfl⟩⟩⟩
 | .fail,_,_,_,_,h,_=>by simp[Act.run] at h
 | .mL t k,σ,τ,σ',v,h,hr=>by
   simp only[Act.run] at h
   have e:σ.T t=τ.T t:=by have:=hr (.t t) (by simp[Act.dW]);simpa [St.at] using this
   obtain⟨τ',h1,h2,h3⟩:=lz (k (σ.T t)) h (fun l hl=>hr l (by simp[Act.dW,hl]))
   exact⟨τ',by simp only[Act.run,←e];exact h1,by simp only[Act.dW,←e,h2],by simpa [Act.dW] using h3⟩
 | .bV r k,σ,τ,σ',v,h,hr=>by
   simp only[Act.run] at h
   have e:σ.O r=τ.O r:=by have:=hr (.o r) (by simp[Act.dW]);simpa [St.at] using this
   obtain⟨τ',h1,h2,h3⟩:=lz (k (σ.O r)) h (fun l hl=>hr l (by simp[Act.dW,hl]))
   exact⟨τ',by simp only[Act.run,←e];exact h1,by simp only[Act.dW,←e,h2],by simpa [Act.dW] using h3⟩
 | .bI r o k,σ,τ,σ',v,h,hr=>by
   simp only[Act.run] at h
   obtain⟨τ',h1,h2,h3⟩:=lz k (τ:={τ with O:=dn τ.O r o}) h (fun l hl=>by
     have:=hr l (by simp[Act.dW,hl])
     cases l with
     | t n=>simpa [St.at] using this
     | o n=>
       simp only[St.at,Cell.o.injEq] at this ⊢
       by_cases hn:n=r
       · subst hn;simp[aB]
       · simp[a8 _ _ hn,this])
   refine⟨τ',by simp only[Act.run];exact h1,by simp only[Act.dW,h2],fun l=> ⟨fun hl=> ?_,fun hl=> ?_⟩⟩
   · simp only[Act.dW,List.mem_cons] at hl
     by_cases hw:l ∈ (k.dW C {σ with O:=dn σ.O r o}).writes
     · exact(h3 l).1 hw
     · obtain⟨e1,e2⟩:=(h3 l).2 hw
       rcases hl with rfl| hl
       · rw[e1,e2];simp[St.at,aB]
       · exact absurd hl hw
   · simp only[Act.dW,List.mem_cons,not_or] at hl
     obtain⟨e1,e2⟩:=(h3 l).2 hl.2
     rw[e1,e2]
     cases l with
     | t n=>simp[St.at]
     | o n=>
       have hn:n≠r:=fun e=>hl.1 (by rw[e])
       simp[St.at,a8 _ _ hn]
 | .call f as k,σ,τ,σ',v,h,hr=>by
   simp only[Act.run] at h
   split at h
   · rename_i res mS
     obtain⟨τ',h1,h2,h3⟩:=lz (k res) h (fun l hl=>hr l (by simp[Act.dW,mS,hl]))
     exact⟨τ',by simp only[Act.run,mS];exact h1,by simp only[Act.dW,mS,h2],by simpa [Act.dW,mS] using h3⟩
   · simp at h
theorem Hv (σ:St) (dst:Option Nat) (v:V) (l:Loc): (σ.put dst v).at l=if dst.any (fun d=>l= .t d) then .v v else σ.at l:=by
 cases dst with
 | none=>simp[St.put]
 | some d=>
   cases l with
   | t n=>
     simp only[St.put,St.at,dn,Option.any_some,Loc.t.injEq]
     by_cases h:n=d<;>simp[h]
   | o n=>simp[St.put,St.at]
theorem td {E:Env} {C:bj} {o:bD} {σ τ σ':St} (h:eM E C o σ=some σ') (hr: ∀l ∈ (cS E C o σ).reads,σ.at l=τ.at l):
   ∃τ',eM E C o τ=some τ'∧ ∀l,(l ∈ (cS E C o σ).writes→τ'.at l=σ'.at l)∧(l ∉ (cS E C o σ).writes→τ'.at l=τ.at l∧σ'.at l=σ.at l):=by
 simp only[eM] at h
 split at h
 · rename_i v σ1 wh
   injection h with h
   subst h
   obtain⟨τ1,h1,h2,h3⟩:=lz (dM E o) wh hr
   refine⟨τ1.put o.dst v,by simp only[eM,h1],fun l=> ?_⟩
   rw[Hv,Hv]
   have hw: (cS E C o σ).writes=(match o.dst with| some d=> [Loc.t d] | none=> [])++((dM E o).dW C σ).writes:=rfl
   rw[hw]
   cases hd:o.dst with
   | none=>simpa using h3 l
   | some d=>
     by_cases hl:l= .t d
     · subst hl;simp
     · refine⟨fun hm=> ?_,fun hm=> ?_⟩
       · simp[hl] at hm
         simp[hl]
         exact(h3 l).1 hm
       · simp[hl] at hm
         simp[hl]
         exact(h3 l).2 hm
 · simp at h
structure Trace (E:Env) (C:bj) (as:List bD) (S:Nat→St) (F:Nat→eD) (W:Nat→List Nat):Prop where
 step: ∀ (i:Nat) ao,as[i]? =some ao→eM E C ao (S i)=some (S (i+1))∧F i=cS E C ao (S i)∧W i=ao.pre++ao.pre.flatMap W∧(∀p ∈ ao.pre,p<i)∧
  ∀j,j<i→j ∈ W i∨(F j).mA (F i)=false
theorem z8 {bY:List eD} {wait:List Nat} {f:eD}: ∀ {k:Nat},fits bY wait f k=true→ ∀j,j<k→j ∈ wait∨(bY.getD j ⟨[],[]⟩).mA f=false
 | 0,_,j,hj=>by omega
 | k+1,h,j,hj=>by
   simp only[fits,Bool.and_eq_true,Bool.or_eq_true,Bool.not_eq_true'] at h
   by_cases e:j=k
   · subst e
     rcases h.1 with h1| h1
     · exact .inl (by simpa using h1)
     · exact .inr h1
   · exact z8 h.2 j (by omega)
theorem nH {α β:Type} {f g:α→List β}: ∀ {l:List α},(∀x ∈ l,f x=g x)→l.flatMap f=l.flatMap g
 | [],_=>rfl
 | x::l,h=>by
   simp only[List.flatMap_cons]
   rw[h x (by simp),nH fun y hy=>h y (by simp[hy])]
theorem te {  E:Env} {C:bj}: ∀ (l:List bD) (bY:List eD) (before:List (List Nat)) (σ σ':St),bY.length=before.length→dP E C l bY before σ=some σ'→
   ∃ (S:Nat→St) (F:Nat→eD) (W:Nat→List Nat),S bY.length=σ∧S (bY.length+l.length)=σ'∧(∀k,k<bY.length→F k=bY.getD k ⟨[],[]⟩∧W k=before.getD k [])∧
     ∀ (i:Nat) ao,l[i]? =some ao→eM E C ao (S (bY.length+i))=some (S (bY.length+i+1))∧F (bY.length+i)=cS E C ao (S (bY.length+i))∧
       W (bY.length+i)=ao.pre++ao.pre.flatMap W∧(∀p ∈ ao.pre,p<bY.length+i)∧ ∀j,j<bY.length+i→j ∈ W (bY.length+i)∨(F j).mA (F (bY.length+i))=false
 | [],bY,before,σ,σ',hl,h=>by
   simp only[dP,Option.some.injEq] at h
   subst h
   exact⟨fun _=>σ,fun k=>bY.getD k ⟨[],[]⟩,fun k=>before.getD k [],rfl,rfl,fun k _=> ⟨rfl,rfl⟩,fun i ao hi=>by simp at hi⟩
 | o::l,bY,before,σ,σ',hl,h=>by
   simp only[dP] at h
   split at h
   · rename_i hf
     simp only[Bool.and_eq_true,List.all_eq_true,decide_eq_true_eq] at hf
     split at h
     · rename_i σ1 h1
       obtain⟨S,F,W,s1,s2,s3,s4⟩:=te l (bY++[cS E C o σ]) (before++[closure before o.pre]) σ1 σ' (by simp[hl]) h
       simp only[List.length_append,List.length_singleton] at s1 s2 s3 s4
       let S':Nat→St:=fun k=>if k=bY.length then σ else S k
       have e1:S' (bY.length+1)=σ1:=by simp[S',s1]
       have e2: ∀k,bY.length<k→S' k=S k:=fun k hk=>by simp[S'];intro e;omega
       have SX:F bY.length=cS E C o σ:=by
         have:=(s3 bY.length (by omega)).1
         simpa using this
       have hWk:W bY.length=closure before o.pre:=by
         have:=(s3 bY.length (by omega)).2
         rw[hl] at this
         simpa [hl] using this
       have XF: ∀k,k<bY.length→W k=before.getD k []:=fun k hk=>by
         have:=(s3 k (by omega)).2
         rw[this]
         simp[List.getElem?_append_left (show k<before.length by omega)]
       have XG: ∀k,k<bY.length→F k=bY.getD k ⟨[],[]⟩:=fun k hk=>by
         have:=(s3 k (by omega)).1
         rw[this]
         simp[List.getElem?_append_left hk]
       refine⟨S',F,W,by simp[S'],?_,fun k hk=> ⟨XG k hk,XF k hk⟩,fun i ao hi=> ?_⟩
       · rw[e2 _ (by simp)]
         rw[←s2];congr 1;simp;omega
       · cases i with
         | zero=>
           simp at hi
           subst hi
           simp only[Nat.add_zero]
           have hS:S' bY.length=σ:=by simp[S']
           rw[hS,e1]
           refine⟨h1,SX,?_,hf.2,fun j hj=> ?_⟩
           · rw[hWk,closure]
             congr 1
             apply nH
             intro p hp
             exact(XF p (hf.2 p hp)).symm
           · rw[SX,hWk,XG j hj]
             exact z8 hf.1 j hj
         | succ i=>
           have:=s4 i ao (by simpa using hi)
           have ea:bY.length+1+i=bY.length+(i+1):=by omega
           rw[ea] at this
           rw[e2 _ (by omega),e2 _ (by omega)]
           exact this
     · simp at h
   · simp at h
def mj (S:Nat→St) (F:Nat→eD) (D:Nat→Bool) (l:Loc):Nat→Cell
 | 0=> (S 0).at l
 | i+1=>if D i=true∧l ∈ (F i).writes then(S (i+1)).at l else mj S F D l i
theorem pI {S:Nat→St} {F:Nat→eD} {D D':Nat→Bool} {l:Loc}: ∀ {n:Nat},(∀i,i<n→l ∈ (F i).writes→D i=D' i)→mj S F D l n=mj S F D' l n
 | 0,_=>rfl
 | n+1,h=>by
   simp only[mj]
   rw[pI fun i hi=>h i (by omega)]
   by_cases hl:l ∈ (F n).writes
   · rw[h n (by omega) hl]
   · simp[hl]
theorem oy {  S:Nat→St} {F:Nat→eD} {D:Nat→Bool} {l:Loc} {m:Nat}: ∀ {n:Nat},m≤n→(∀i,m≤i→i<n→l ∈ (F i).writes→D i=false)→mj S F D l n=mj S F D l m
 | 0,h,_=>by have:m=0:=by omega
             subst this;rfl
 | n+1,h,hh=>by
   by_cases e:m=n+1
   · subst e;rfl
   · simp only[mj]
     rw[if_neg (by rintro⟨h1,h2⟩;have:=hh n (by omega) (by omega) h2;simp[this] at h1)]
     exact oy (by omega) fun i h1 h2=>hh i h1 (by omega)
theorem vh {E:Env} {C:bj} {as:List bD} {S:Nat→St} {F:Nat→eD} {W:Nat→List Nat} (tr:Trace E C as S F W) {D:Nat→Bool} {l:Loc}:
   ∀ {n:Nat},n≤as.length→(∀i,i<n→D i=true)→mj S F D l n=(S n).at l
 | 0,_,_=>rfl
 | n+1,hn,hD=>by
   obtain⟨ao,ER⟩: ∃ao,as[n]? =some ao:=⟨as[n],List.getElem?_eq_getElem (by omega)⟩
   obtain⟨h1,h2,_⟩:=tr.step n ao ER
   simp only[mj,hD n (by omega),true_and]
   split
   · rfl
   · rename_i hl
     rw[vh tr (by omega) fun i hi=>hD i (by omega)]
     obtain⟨_,_,h3⟩:=td h1 (τ:=S n) fun _ _=>rfl
     rw[h2] at hl
     exact((h3 l).2 hl).2.symm
theorem vj {a b:eD} {l:Loc} (h: (l ∈ a.writes∧l ∈ b.writes)∨(l ∈ a.writes∧l ∈ b.reads)∨(l ∈ a.reads∧l ∈ b.writes)):a.mA b=true:=by
 simp only[eD.mA,meets,Bool.or_eq_true,List.any_eq_true,List.contains_iff_mem]
 rcases h with⟨h1,h2⟩ | ⟨h1,h2⟩ | ⟨h1,h2⟩
 · exact .inl (.inl ⟨l,h1,h2⟩)
 · exact .inl (.inr ⟨l,h1,h2⟩)
 · exact .inr ⟨l,h1,h2⟩
structure nI (S:Nat→St) (F:Nat→eD) (W:Nat→List Nat) (m:Nat) (D:Nat→Bool) (τ:St):Prop where
 closed: ∀i,D i=true→ ∀p ∈ W i,D p=true
 state: ∀l,τ.at l=mj S F D l m
theorem wj {E:Env} {C:bj} {as:List bD} {S:Nat→St} {F:Nat→eD} {W:Nat→List Nat} (tr:Trace E C as S F W) {D:Nat→Bool} {τ:St} (hA:nI S F W as.length D τ)
   {j:Nat} {ao:bD} (hj:as[j]? =some ao) (hD:D j=false) (z9: ∀p ∈ ao.pre,D p=true):
   ∃τ',eM E C ao τ=some τ'∧nI S F W as.length (fun i=>i==j || D i) τ':=by
 obtain⟨h1,h2,h3,h4,h5⟩:=tr.step j ao hj
 have bM:j<as.length:=(List.getElem?_eq_some_iff.1 hj).1
 have hW: ∀p ∈ W j,D p=true:=by
   rw[h3]
   intro p hp
   simp only[List.mem_append,List.mem_flatMap] at hp
   rcases hp with hp| ⟨q,hq,hp⟩
   · exact z9 p hp
   · exact hA.closed q (z9 q hq) p hp
 have key: ∀i,i≠j→i<as.length→(F i).mA (F j)=true∨(F j).mA (F i)=true→(D i=true↔i<j):=by
   intro i c7 hi hc
   rcases Nat.lt_or_ge i j with bl| sW
   · refine⟨fun _=>bl,fun _=> ?_⟩
     rcases h5 i bl with h| h
     · exact hW i h
     · rcases hc with hc| hc
       · rw[h] at hc;cases hc
       · exfalso
         have: (F i).mA (F j)=true:=by
          simp only[eD.mA,Bool.or_eq_true,meets,List.any_eq_true,List.contains_iff_mem] at hc ⊢
          rcases hc with(⟨l,a,b⟩ | ⟨l,a,b⟩) | ⟨l,a,b⟩
          · exact .inl (.inl ⟨l,b,a⟩)
          · exact .inr ⟨l,b,a⟩
          · exact .inl (.inr ⟨l,b,a⟩)
         rw[h] at this;cases this
   · have hgt:j<i:=by omega
     refine⟨fun SY=> ?_,fun h=>by omega⟩
     obtain⟨ao',abI⟩: ∃ao',as[i]? =some ao':=⟨as[i],List.getElem?_eq_getElem hi⟩
     obtain⟨_,_,_,_,g5⟩:=tr.step i ao' abI
     rcases g5 j hgt with h| h
     · have:=hA.closed i SY j h
       rw[hD] at this;cases this
     · exfalso
       rcases hc with hc| hc
       · have: (F j).mA (F i)=true:=by
          simp only[eD.mA,Bool.or_eq_true,meets,List.any_eq_true,List.contains_iff_mem] at hc ⊢
          rcases hc with(⟨l,a,b⟩ | ⟨l,a,b⟩) | ⟨l,a,b⟩
          · exact .inl (.inl ⟨l,b,a⟩)
          · exact .inr ⟨l,b,a⟩
          · exact .inl (.inr ⟨l,b,a⟩)
         rw[h] at this;cases this
       · rw[h] at hc;cases hc
 have qx: ∀l ∈ (F j).reads,(S j).at l=τ.at l:=by
   intro l hl
   rw[hA.state l]
   have e1:mj S F D l as.length=mj S F D l j:=oy (by omega) fun i rB BG hw=>by
     by_cases e:i=j
     · subst e;exact hD
     · have:=key i e BG (.inl (vj (.inr (.inl ⟨hw,hl⟩))))
       cases SY:D i with
       | false=>rfl
       | true=>have:=this.1 SY;omega
   have e2:mj S F D l j=mj S F (fun i=>decide (i<j)) l j:=pI fun i hi hw=>by
     have:=(key i (by omega) (by omega) (.inl (vj (.inr (.inl ⟨hw,hl⟩))))).2 hi
     simp[this,hi]
   rw[e1,e2]
   exact(vh tr (by omega) fun i hi=>by simp[hi]).symm
 rw[h2] at qx
 obtain⟨τ',k1,k2⟩:=td h1 qx
 rw[←h2] at k2
 refine⟨τ',k1,fun i hi p hp=> ?_,fun l=> ?_⟩
 · simp only[Bool.or_eq_true,beq_iff_eq] at hi ⊢
   rcases hi with rfl| hi
   · exact .inr (hW p hp)
   · exact .inr (hA.closed i hi p hp)
 · by_cases hl:l ∈ (F j).writes
   · rw[(k2 l).1 hl]
     have e1:mj S F (fun i=>i==j || D i) l as.length=mj S F (fun i=>i==j || D i) l (j+1):=oy (by omega) fun i rB BG hw=>by
       have c7:i≠j:=by omega
       have:=key i c7 BG (.inl (vj (.inl ⟨hw,hl⟩)))
       cases SY:D i with
       | false=>simp[c7,SY]
       | true=>have:=this.1 SY;omega
     rw[e1]
     simp[mj,hl]
   · rw[((k2 l).2 hl).1,hA.state l]
     exact pI fun i _ hw=>by
       by_cases e:i=j
       · subst e;exact absurd hw hl
       · simp[e]
theorem yt {E:Env} {C:bj} {as:List bD} {S:Nat→St} {F:Nat→eD} {W:Nat→List Nat} (tr:Trace E C as S F W) {D:Nat→Bool} {τ:St} (hA:nI S F W as.length D τ)
  (qw: ∀i,i<as.length→D i=true):τ=S as.length:=
 St.ext' fun l=>by rw[hA.state l,vh tr (Nat.le_refl _) qw]
section
variable {X:Ctx} {E:Env} {C:bj} {μ0:Mu} {n:Fp}
theorem Hw {σ:St} {a:Go.Act} {w:World} (h:jh X μ0 n σ a w):jh X μ0 n σ a {w with drawn:=w.drawn+1}:=by
 obtain⟨h1,h2,φ,hr,hle⟩:=h
 obtain⟨XD,hod⟩:=Le.drew (X:=X) (μ:=⟨w,φ,σ.O⟩) hr.bg
 exact⟨h1,h2,φ,⟨fun t=>ak.mono XD (hr.tmps t),hod⟩,hle.trans XD⟩
theorem ES ( H:nG X E C) {h:Hints} {ops:Array Oper} {as:List bD} (hn:h.n=n.1) (aR:fN X h ops ops.toList=some as) {S:Nat→St} {F:Nat→eD} {W:Nat→List Nat}
   (tr:Trace E C as S F W) {Q:Go.Exit→Go.Act→World→Prop} (hQ: ∀a w,jh X μ0 n (S as.length) a w→Q .normal a w):
   ∀ (fuel:Nat) (bx:Array Bool) (τ:St) (a:Go.Act) (w:World),bx.size=ops.size→((List.range ops.size).filter fun i=> !bx.getD i true).length≤fuel→
     nI S F W as.length (fun i=>bx.getD i false) τ→jh X μ0 n τ a w→wpAnyIn (Fr n.ro) 0 X.P .any ops Q fuel bx a w:=by
 obtain⟨hlen,nF⟩:=kz aR
 have s8:as.length=ops.size:=by simpa using hlen
 have ready: ∀ (bx:Array Bool) (j:Nat),j ∈ Region.ready .any ops bx→ ∃o ao,ops[j]? =some o∧as[j]? =some ao∧np X h ops o=some ao∧bx.getD j true=false∧ ∀p ∈ ao.pre,bx.getD p false=true:=by
   intro bx j hj
   simp only[Region.ready,List.mem_filter,List.mem_range,Bool.and_eq_true,Bool.not_eq_true'] at hj
   obtain⟨bl,hl,hr⟩:=hj
   have ho:ops[j]? =some ops[j]:=by simp[bl]
   obtain⟨ao,ER,lu⟩:=nF j ops[j] (by simp[bl])
   refine⟨_,ao,ho,ER,lu,hl,fun p hp=> ?_⟩
   rw[ho] at hr
   simp only[Option.map_some,Option.getD_some] at hr
   have z9:ao.pre=(ops[j].after.toList.filter (Region.binds .any)).map (·.on):=by
     unfold np at lu
     simp only at lu
     split at lu
     · injection lu with lu;rw[←lu]
     · simp at lu
   rw[z9] at hp
   simp only[List.mem_map,List.mem_filter] at hp
   obtain⟨e,⟨he1,he2⟩,rfl⟩:=hp
   rw[Array.all_eq_true'] at hr
   have:=hr e (by simpa using he1)
   simpa [he2] using this
 have done: ∀ (bx:Array Bool),Region.ready .any ops bx=[]→bx.size=ops.size→ ∀i,i<as.length→bx.getD i false=true:=by
   intro bx ET cH i
   induction i using Nat.strongRecOn with
   | _ i ih=>
     intro hi
     cases hl:bx.getD i false with
     | true=>rfl
     | false=>
       exfalso
       have bl:i<ops.size:=by omega
       have fB:i<bx.size:=by omega
       have hlT:bx.getD i true=false:=by simpa [fB] using hl
       obtain⟨ao,ER,lu⟩:=nF i ops[i] (by simp[bl])
       obtain⟨_,_,_,hpl,_⟩:=tr.step i ao ER
       have z9:ao.pre=(ops[i].after.toList.filter (Region.binds .any)).map (·.on):=by
         unfold np at lu
         simp only at lu
         split at lu
         · injection lu with lu;rw[←lu]
         · simp at lu
       have:i ∈ Region.ready .any ops bx:=by
         simp only[Region.ready,List.mem_filter,List.mem_range,Bool.and_eq_true,Bool.not_eq_true']
         refine⟨bl,hlT,?_⟩
         have ho:ops[i]? =some ops[i]:=by simp[bl]
         rw[ho]
         simp only[Option.map_some,Option.getD_some]
         rw[Array.all_eq_true']
         intro e he
         cases hb:Region.binds .any e with
         | false=>simp
         | true=>
           have hm:e.on ∈ ao.pre:=by
            rw[z9];simp only[List.mem_map,List.mem_filter]
            exact⟨e,⟨by simpa using he,hb⟩,rfl⟩
           have h1:=hpl _ hm
           simpa using ih e.on h1 (by omega)
       rw[ET] at this
       cases this
 have finish: ∀ (bx:Array Bool) (τ:St) (a:Go.Act) (w:World),bx.size=ops.size→nI S F W as.length (fun i=>bx.getD i false) τ→jh X μ0 n τ a w→Region.ready .any ops bx=[]→Q .normal a w:=by
   intro bx τ a w cH hA hs ET
   have:=yt tr hA (done bx ET cH)
   exact hQ a w (this ▸ hs)
 intro fuel
 induction fuel with
 | zero=>
   intro bx τ a w cH hf hA hs
   have ET:Region.ready .any ops bx=[]:=by
     simp only[Nat.le_zero,List.length_eq_zero_iff,List.filter_eq_nil_iff,List.mem_range] at hf
     simp only[Region.ready,List.filter_eq_nil_iff,List.mem_range]
     intro i hi
     have:=hf i hi
     simp at this
     simp[this]
   exact⟨ET,finish bx τ a w cH hA hs ET⟩
 | succ fuel ih=>
   intro bx τ a w cH hf hA hs
   refine⟨finish bx τ a w cH hA hs,fun j hj=> ?_⟩
   obtain⟨o,ao,ho,ER,lu,hl,z9⟩:=ready bx j hj
   have bM:j<ops.size:=by rw[←s8];exact(List.getElem?_eq_some_iff.1 ER).1
   have hlF:bx.getD j false=false:=by
     have h1:j<bx.size:=by omega
     simpa [h1] using hl
   obtain⟨τ',k1,k2⟩:=wj tr hA ER hlF z9
   refine pH H ho lu hn hs k1 fun a' w' kQ=>ih _ τ' a' w' (by simpa using cH) ?_ ?_ kQ
   ·
     have Bt: ∀ (L:List Nat),L.Nodup→j ∈ L→(L.filter fun i=> !(bx.setIfInBounds j true).getD i true).length+1≤(L.filter fun i=> !bx.getD i true).length:=by
       intro L
       induction L with
       | nil=>intro _ h;cases h
       | cons x L ihL=>
         intro I0 hm
         have c7: ∀i,i≠j→(bx.setIfInBounds j true).getD i true=bx.getD i true:=fun i hi=>by
           simp[Array.getElem?_setIfInBounds_ne (fun e=>hi e.symm)]
         have hjt: (bx.setIfInBounds j true).getD j true=true:=by
           have h1:j<bx.size:=by omega
           simp[h1]
         by_cases e:x=j
         · subst e
           have zI: (L.filter fun i=> !(bx.setIfInBounds x true).getD i true)=L.filter fun i=> !bx.getD i true:=by
            apply List.filter_congr
            intro i hi
            have:i≠x:=fun e=>by rw[List.nodup_cons] at I0;exact I0.1 (e ▸ hi)
            rw[c7 i this]
           simp only[List.filter_cons,hjt,hl,zI]
           simp
         · have KE:j ∈ L:=by
            rcases List.mem_cons.1 hm with h1| h1
            · exact absurd h1.symm e
            · exact h1
           have:=ihL (List.nodup_cons.1 I0).2 KE
           simp only[List.filter_cons,c7 x e]
           split
           · simp only[List.length_cons];omega
           · omega
     have:=Bt (List.range ops.size) List.nodup_range (by simp[bM])
     omega
   · have abJ: (fun i=>i==j || bx.getD i false)=fun i=> (bx.setIfInBounds j true).getD i false:=by
       funext i
       have h1:j<bx.size:=by omega
       by_cases e:i=j
       · subst e;simp[h1]
       · simp[e,Array.getElem?_setIfInBounds_ne (fun e'=>e e'.symm)]
     rw[abJ] at k2
     exact k2
theorem Aa (H:nG X E C) (hm:X.P.follows .mixedOrders=true) {h:Hints} {ops:Array Oper} {as:List bD} (hn:h.n=n.1) (aR:fN X h ops ops.toList=some as) {id:Nat}
   {σ σ':St} {a:Go.Act} {w:World} (hs:jh X μ0 n σ a w) (ah:dP E C as [] [] σ=some σ') {Q:Go.Exit→Go.Act→World→Prop} (hQ: ∀a' w',jh X μ0 n σ' a' w'→Q .normal a' w'):
   (Code.region id ops true).wpIn (Fr n.ro) 0 X.P Q a w:=by
 obtain⟨S,F,W,s1,s2,_,s4⟩:=te as [] [] σ σ' rfl ah
 simp only[List.length_nil,Nat.zero_add] at s1 s2 s4
 have tr:Trace E C as S F W:=⟨fun i ao hi=>s4 i ao hi⟩
 refine wpIn_region_any hm ?_
 refine ES H hn aR tr (by rw[s2];exact hQ) ops.size _ σ _ _ (by simp) ?_ ?_ (Hw hs)
 · exact Nat.le_trans (List.length_filter_le _ _) (by simp)
 · have Hx: ∀i,(Array.replicate ops.size false).getD i false=false:=fun i=>by
    simp only[Array.getD_eq_getD_getElem?,Array.getElem?_replicate];split<;>rfl
   refine⟨(fun i hi=>by rw[Hx i] at hi;cases hi),fun l=> ?_⟩
   rw[←s1]
   have:mj S F (fun i=> (Array.replicate ops.size false).getD i false) l as.length=mj S F (fun i=> (Array.replicate ops.size false).getD i false) l 0:=oy (Nat.zero_le _) fun i _ _ _=>Hx i
   rw[this];rfl
end
end Go.AM
namespace Go.AM
open Go Go.RowKit
theorem Hy {P:Program} {w:World} {ty:TypeId} {bi bm since:Nat} {seen:Array Nat} {es:Array MapEntry} (hi:w.heap[bi]? =some (.mapIter (some bm) since seen since)) (hb:w.heap[bm]? =some (.map es since)) (hold: ∀x ∈ es.toList,x.born<since):
   ((leftOf es seen).size=0∧(Instr.next (.pointer (some ⟨bi,0,none⟩)) false ty).run P w= .ok (.tuple #[.bool false]) w)∨
   ∃e ∈ (leftOf es seen).toList,∃d,(Instr.next (.pointer (some ⟨bi,0,none⟩)) false ty).run P w= .ok (.tuple #[.bool true,e.key,e.val]) {w with drawn:=w.drawn+d,heap:=w.heap.setIfInBounds bi (.mapIter (some bm) since (seen.push e.born) since)}:=by
 simp only[Instr.next,getObj,Sem.run_bind,Sem.run,hi,hb,Result.andThen,next_test_false seen es since since hold (Nat.le_refl _),Bool.false_eq_true,if_false]
 unfold leftOf
 have jU: ∀x ∈ (Array.filter (fun e=> !seen.contains e.born) es).toList,x.born<since:=fun x hx=>hold x (by simp at hx ⊢;exact hx.1)
 generalize Array.filter (fun e=> !seen.contains e.born) es=L at jU ⊢
 have e1:L.filter (fun x=>decide (x.born<since))=L:=Array.filter_eq_self.2 (fun x hx=>by simpa using jU x (by simpa using hx))
 have e2:L.filter (fun x=>decide (x.born≥since))= #[]:=by
   rw[Array.filter_eq_empty_iff]
   intro x hx
   have:=jU x (by simpa using hx)
   simp
   omega
 simp only[e1,e2,Array.append_empty]
 by_cases h0:L.size=0
 · left
   have:L= #[]:=Array.eq_empty_of_size_eq_zero h0
   subst this
   refine⟨rfl,?_⟩
   simp[choose,Sem.run,Question.forced]
 · right
   have c7:L.isEmpty=false:=by simp[Array.isEmpty,h0]
   simp only[c7,Bool.false_eq_true,if_false,Array.empty_append,Array.size_map]
   have hch: ∃ (j d:Nat),j<L.size∧(choose (Question.mapNext L.size)).run P w= .ok j {w with drawn:=w.drawn+d}:=by
    by_cases hf:L.size≤1
    · exact⟨0,0,by omega,by simp[choose,Sem.run,Question.forced,hf]⟩
    · exact⟨w.tape w.drawn (Question.mapNext L.size) % L.size,1,Nat.mod_lt _ (by omega),by
       simp only[choose,Sem.run,Question.forced,decide_eq_true_eq,hf,if_false,Question.cut]⟩
   obtain⟨j,d,hj,ah⟩:=hch
   refine⟨L[j],by simp,d,?_⟩
   have jP: ∀ (o':Go.Obj),(setObj bi o').run P {w with drawn:=w.drawn+d}= .ok () {w with drawn:=w.drawn+d,heap:=w.heap.setIfInBounds bi o'}:=fun o'=>by
    simp only[setObj,Sem.run,hi]
   simp only[ah,Array.getElem?_map,Array.getElem?_eq_getElem hj,Option.map_some,Sem.run_bind,jP,Result.andThen]
   rfl
theorem Hz {P:Program} {w:World} {ty:TypeId} {bi a b:Nat} {s:Array Nat} (hi:w.heap[bi]? =some (.mapIter none a s b)):
  (Instr.next (.pointer (some ⟨bi,0,none⟩)) false ty).run P w= .ok (.tuple #[.bool false]) w:=by
 simp only[Instr.next,getObj,Sem.run_bind,Sem.run,hi,Result.andThen]
 rfl
structure jf (X:Ctx) (μ:Mu) (w':World):Prop where
 cell: ∀a c,μ.w.cell? a=some c→w'.cell? a=some c
 map: ∀ (a:Nat) ents clock,μ.w.heap[a]? =some (.map ents clock)→w'.heap[a]? =some (.map ents clock)
 size:μ.w.heap.size≤w'.heap.size
section
variable {X:Ctx} {μ:Mu} {w':World}
theorem jf.row (h:jf X μ w') {b off sz:Nat} {vs:List Value} (hr:di μ.w b off sz vs):di w' b off sz vs:=
 fun i v hv=> ⟨(hr i v hv).1,fun j c hc=>h.cell _ _ ((hr i v hv).2 j c hc)⟩
mutual
theorem ak.cz (h:jf X μ w'): ∀ {x:V} {v:Value},ak X μ x v→ak X ⟨w',μ.φ,μ.O⟩ x v
 | .bool _,_,k| .int ..,_,k| .float _,_,k| .str _,_,k| .nilp,_,k| .nilfn,_,k| .nili,_,k| .nils,_,k| .sl ..,_,k| .ptr ..,_,k| .mp ..,_,k| .it ..,_,k=>by simpa [ak] using k
 | .any,_,_=>by simp[ak]
 | .own ..,_,k| .msl ..,_,k| .mptr ..,_,k=>by simp[ak] at k
 | .agg cs,_,k=>by
   simp only[ak] at k ⊢
   obtain⟨h1,vs,rfl,h2⟩:=k
   exact⟨h1,vs,rfl,aj.cz h h2⟩
 | .tuple cs,_,k=>by
   simp only[ak] at k ⊢
   obtain⟨vs,rfl,h2⟩:=k
   exact⟨vs,rfl,aj.cz h h2⟩
 | .fn f cs,_,k=>by
   simp only[ak] at k ⊢
   obtain⟨F,cv,rfl,h1,h2⟩:=k
   exact⟨F,cv,rfl,h1,aj.cz h h2⟩
 | .iface t x,_,k=>by
   simp only[ak] at k ⊢
   obtain⟨F,y,rfl,h1,h2⟩:=k
   exact⟨F,y,rfl,h1,ak.cz h h2⟩
 | .lit sz xs,_,k=>by
   simp only[ak] at k ⊢
   obtain⟨h0,ke,a,cap,vs,rfl,h1,h2,h3⟩:=k
   refine⟨h0,ke,a,cap,vs,rfl,h1,aj.cz h h2,h3.imp id ?_⟩
   rintro⟨b,o,rfl,hb,hs,hr⟩
   exact⟨b,o,rfl,hb,Nat.lt_of_lt_of_le hs h.size,h.row hr⟩
 | .litk sz xs,_,k=>by
   simp only[ak] at k ⊢
   obtain⟨h0,ke,a,cap,vs,rfl,h1,h2,h3⟩:=k
   refine⟨h0,ke,a,cap,vs,rfl,h1,aj.cz h h2,h3.imp id ?_⟩
   rintro⟨rfl,hb,hs,hr⟩
   exact⟨rfl,hb,Nat.lt_of_lt_of_le hs h.size,h.row hr⟩
 | .eptr e off,_,k=>by
   simp only[ak] at k ⊢
   obtain⟨h0,ke,b,o,sz,x,rfl,hb,hs,h1,hr⟩:=k
   exact⟨h0,ke,b,o,sz,x,rfl,hb,Nat.lt_of_lt_of_le hs h.size,ak.cz h h1,h.row hr⟩
 | .epk i sz e off,_,k=>by
   simp only[ak] at k ⊢
   obtain⟨h0,ke,x,rfl,hb,hs,h1,hr⟩:=k
   exact⟨h0,ke,x,rfl,hb,Nat.lt_of_lt_of_le hs h.size,ak.cz h h1,h.row hr⟩
 | .mlit es,_,k=>by
   simp only[ak] at k ⊢
   obtain⟨h0,k⟩:=k
   refine⟨h0,k.imp id ?_⟩
   rintro⟨a,ents,clock,rfl,hb,hs,h1,h2⟩
   exact⟨a,ents,clock,rfl,hb,Nat.lt_of_lt_of_le hs h.size,⟨h.map _ _ _ h1.1,h1.2⟩,aj.cz h h2⟩
theorem aj.cz (h:jf X μ w'): ∀ {xs:List V} {vs:List Value},aj X μ xs vs→aj X ⟨w',μ.φ,μ.O⟩ xs vs
 | [],[],_=>by simp[aj]
 | [],_::_,k=>by simp[aj] at k
 | _::_,[],k=>by simp[aj] at k
 | x::xs,v::vs,k=>by
   simp only[aj] at k ⊢
   exact⟨ak.cz h k.1,aj.cz h k.2⟩
end
theorem bu.cz (h:jf X μ w') (ho:bu X μ) (hb: ∀r,(μ.O r).es.isSome=true→(μ.φ r).cap≠0→w'.heap[(μ.φ r).dc]? =μ.w.heap[(μ.φ r).dc]?):bu X ⟨w',μ.φ,μ.O⟩ where
 ok:=fun r es bR=>by
  have RG: (μ.O r).es.isSome=true:=by rw[bR];rfl
  rcases ho.ok r es bR with⟨h1,h2,h3,h4⟩ | ⟨h1,h2,ob,h3,h4⟩
  · refine .inl ⟨h1,h2,h3,?_⟩
    rcases h4 with h4| ⟨c,T,vs,k1,k2,k3,k4⟩
    · exact .inl h4
    · by_cases hc: (μ.φ r).cap=0
      · exact .inl hc
      · exact .inr ⟨c,T,vs,by show w'.heap[(μ.φ r).dc]? =_;rw[hb r RG hc];exact k1,k2,aj.cz h k3,h.row k4⟩
  · refine .inr ⟨h1,h2,ob,by show w'.heap[(μ.φ r).dc]? =_;rw[hb r RG h2];exact h3,?_⟩
    rcases h4 with⟨ents,clock,k1,k2,k3⟩ | k| ⟨mo,since,ng,k1,k2,k3⟩
    · exact .inl ⟨ents,clock,k1,aj.cz h k2,k3⟩
    · exact .inr (.inl k)
    · refine .inr (.inr ⟨mo,since,ng,k1,k2,k3.imp id ?_⟩)
      rintro⟨m,ents,l1,l2,l3,l4,l5,l6⟩
      exact⟨m,ents,l1,l2,Nat.lt_of_lt_of_le l3 h.size,h.map _ _ _ l4,l5,aj.cz h l6⟩
 inj:=ho.inj
 sR:=ho.sR
 blt:=fun b rC=>Nat.lt_of_lt_of_le (ho.blt b rC) h.size
end
theorem xf {X:Ctx} {w:World} {φ:Nat→Row} {O O':Nat→Obj} (ho:bu X ⟨w,φ,O⟩) (h: ∀r,O' r=O r∨(O' r).es=none∧((O r).gen< (O' r).gen∨(O' r).gen=(O r).gen∧(O' r).sz=(O r).sz)):
   Le ⟨w,φ,O⟩ ⟨w,φ,O'⟩∧bu X ⟨w,φ,O'⟩:=by
 have My: ∀r es,(O' r).es=some es→O' r=O r:=fun r es bR=>by
   rcases h r with h| ⟨h,_⟩
   · exact h
   · rw[h] at bR;simp at bR
 have RG: ∀r,(O' r).es.isSome=true→O' r=O r:=fun r hr=>by
   obtain⟨es,bR⟩:=Option.isSome_iff_exists.1 hr
   exact My r es bR
 have im: ∀b,(Mu.mk w φ O').own b→(Mu.mk w φ O).own b:=by
   rintro b ⟨r,h1,h2,h3,h4⟩
   have e:=RG r h1
   have wG: (O' r).es.isSome=true:=h1
   have BI: (O' r).fz=false:=h2
   rw[e] at wG BI
   exact⟨r,wG,BI,h3,h4⟩
 have le:Le ⟨w,φ,O⟩ ⟨w,φ,O'⟩:=by
   refine⟨Nat.le_refl _,fun b _ hn=> ⟨rfl,fun h'=>hn (im b h')⟩,fun r=> ?_,fun r e=> ?_,rfl,rfl,rfl,fun _ _=>rfl⟩
   · show (O r).gen≤(O' r).gen
     rcases h r with h| ⟨_,h| ⟨h,_⟩⟩
     · rw[h];exact Nat.le_refl _
     · omega
     · omega
   · have e': (O' r).gen=(O r).gen:=e
     refine⟨rfl,?_⟩
     show (O' r).sz=(O r).sz
     rcases h r with h| ⟨_,h| ⟨_,h⟩⟩
     · rw[h]
     · omega
     · exact h
 refine⟨le,fun r es bR=> ?_,fun r r' c7 h1 h2 h3 h4=> ?_,fun r h1 h2=> ?_,ho.blt⟩
 · have e:=My r es bR
   have fF: (O r).es=some es:=by rw[←e];exact bR
   exact fE.cD (r:=r) (r':=r) le (ho.ok r es fF) (by show (O' r).sz=(O r).sz;rw[e]) rfl fun _=>rfl
 · have wG: (O' r).es.isSome=true:=h1
   have BI: (O' r').es.isSome=true:=h2
   rw[RG r wG] at wG
   rw[RG r' BI] at BI
   exact ho.inj r r' c7 wG BI h3 h4
 · have wG: (O' r).es.isSome=true:=h1
   rw[RG r wG] at wG
   exact ho.sR r wG h2
def gZ (Z:List (V×MapEntry)) (seen:Array Nat):List (V×MapEntry):=Z.filter fun z=> !seen.contains z.2.born
theorem xg {Z:List (V×MapEntry)} {ents:Array MapEntry} (h:Z.map (·.2)=ents.toList) (seen:Array Nat): (gZ Z seen).map (·.2)=(leftOf ents seen).toList:=by
 unfold gZ leftOf
 rw[Array.toList_filter,←h,List.filter_map]
 rfl
theorem tf {α:Type} (f:α→Nat): ∀ {l:List α} {z:α},z ∈ l→(l.map f).Nodup→l.Perm (z::l.filter fun x=> !(f x==f z))
 | a::l,z,hz,hn=>by
   rw[List.map_cons,List.nodup_cons] at hn
   rcases List.mem_cons.1 hz with rfl| hz
   · have:l.filter (fun x=> !(f x==f z))=l:=List.filter_eq_self.2 fun x hx=>by
      have:f x≠f z:=fun e=>hn.1 (e ▸ List.mem_map.2 ⟨x,hx,rfl⟩)
      simpa using this
     simp[this]
   · have c7: ¬ (f a=f z):=fun e=>hn.1 (e ▸ List.mem_map.2 ⟨z,hz,rfl⟩)
     have ih:=tf f hz hn.2
     have: (a::l).filter (fun x=> !(f x==f z))=a::l.filter (fun x=> !(f x==f z)):=by
      rw[List.filter_cons_of_pos (by simpa using c7)]
     rw[this]
     exact(ih.cons a).trans (.swap z a _)
theorem BY {Z:List (V×MapEntry)} {seen:Array Nat} (hn: (Z.map fun z=>z.2.born).Nodup) {z:V×MapEntry} (hz:z ∈ gZ Z seen): (gZ Z seen).Perm (z::gZ Z (seen.push z.2.born)):=by
 have h1: ((gZ Z seen).map fun z=>z.2.born).Nodup:=hn.sublist (List.filter_sublist.map _)
 have h2:=tf (fun z:V×MapEntry=>z.2.born) hz h1
 have h3: (gZ Z seen).filter (fun x=> !(x.2.born==z.2.born))=gZ Z (seen.push z.2.born):=by
  unfold gZ
  rw[List.filter_filter]
  refine List.filter_congr fun x _=> ?_
  rw[contains_push]
  cases seen.contains x.2.born<;>cases (x.2.born==z.2.born) <;>rfl
 rw[h3] at h2
 exact h2
theorem Ab {X:Ctx} {μ:Mu}: ∀ {es:List V} {l:List MapEntry},aj X μ es (l.map fun e=>Value.tuple #[e.key,e.val])→ ∃Z:List (V×MapEntry),Z.map (·.1)=es∧Z.map (·.2)=l∧ ∀z ∈ Z,ak X μ z.1 (.tuple #[z.2.key,z.2.val])
 | [],[],_=> ⟨[],rfl,rfl,by simp⟩
 | [],_::_,h=>by simp[aj] at h
 | _::_,[],h=>by simp[aj] at h
 | x::es,e::l,h=>by
   simp only[List.map_cons,aj] at h
   obtain⟨Z,h1,h2,h3⟩:=Ab h.2
   refine⟨(x,e)::Z,by simp[h1],by simp[h2],fun z hz=> ?_⟩
   rcases List.mem_cons.1 hz with rfl| hz
   · exact h.1
   · exact h3 z hz
section
variable {X:Ctx} {E:Env} {n:Fp}
def yu (X:Ctx) (n:Fp) (ops:Array Oper) (y:Code) (rec:al→St→Option (bd×St)) (tb:al):Prop:=
 ∀ (σ σ':St) (e:bd) (μ0:Mu) (a:Go.Act) (w:World) (Q K:Go.Exit→Go.Act→World→Prop),rec tb σ=some (e,σ')→jh X μ0 n σ a w→(∀a' w',jh X μ0 n σ' a' w'→Q (match e with| .normal=> .normal| .exit id=> .exit id| .ret=> .ret) a' w')→
  (∀a' w',y.wpIn (Fr n.ro) 0 X.P Q a' w'→K .normal a' w')→wpOpsIn (Fr n.ro) 0 X.P ops K (List.range' 1 (ops.size - 1)) a w
def BZ (X:Ctx) (n:Fp) (ops:Array Oper) (z:Code) (b1:Nat) (rec:al→St→Option (bd×St)) (tm:al):Prop:=
 ∀ (σ σ':St) (μ0:Mu) (a:Go.Act) (w:World) (Q:Go.Exit→Go.Act→World→Prop),rec tm σ=some (.normal,σ')→jh X μ0 n σ a w→(∀a' w',jh X μ0 n σ' a' w'→Q .normal a' w')→
  wpOpsIn (Fr n.ro) 0 X.P ops (Exit.then (z.wpIn (Fr n.ro) 0 X.P (Exit.inBlock b1 Q)) (Exit.inBlock b1 Q)) (List.range' 1 (ops.size - 1)) a w
abbrev nJ (i0:Nat) (ops:Array Oper) (y:Code) (b1 i5:Nat) (gM:Array Oper) (z5:Code):Code:= .seq (.region i0 ops false) (.seq y (.block b1 (.seq (.region i5 gM false) z5)))
theorem EU {P:Program} {w:World} {bi bm since:Nat} {seen:Array Nat} {ents:Array MapEntry} {e:MapEntry} (hi:w.heap[bi]? =some (.mapIter (some bm) since (seen.push e.born) since)) (hb:w.heap[bm]? =some (.map ents since)) (he:e ∈ ents.toList) (hn: (ents.toList.map (·.born)).Nodup):
  (Instr.entry (.pointer (some ⟨bi,0,none⟩))).run P w= .ok (.tuple #[e.key,e.val]) w:=by
 have hf:ents.find? (·.born==e.born)=some e:=by
  rw[←Array.find?_toList]
  generalize ents.toList=l at he hn
  induction l with
  | nil=>simp at he
  | cons x l ih=>
    rw[List.map_cons,List.nodup_cons] at hn
    rw[List.find?_cons]
    rcases List.mem_cons.1 he with rfl| he
    · simp
    · have c7: ¬ (x.born==e.born)=true:=by
       intro h
       exact hn.1 (List.mem_map.2 ⟨e,he,(by simpa using h:x.born=e.born).symm⟩)
      simp only[c7]
      exact ih he hn.2
 simp only[Instr.entry,getObj,Sem.run_bind,Sem.run,hi,hb,Result.andThen,Array.back?_push,bne_self_eq_false,Bool.false_eq_true,if_false,hf]
 rfl
structure yw (X:Ctx) (n:Fp) (μ0:Mu) (rec:al→St→Option (bd×St)) (tl:al) (Good:St→Prop) (a:Go.Act) (w:World):Prop where
 h: ∃σe σp,jh X μ0 n σe a w∧rec tl σe=some (.normal,σp)∧Good σp
variable {ops gM:Array Oper} {o1 o5:Oper} {y z5:Code} {it nx ne id b1 r g:Nat} {μ0:Mu} {rec:al→St→Option (bd×St)} {tb tm tl:al} {Good:St→Prop} {i0 i5:Nat}
theorem vk (h0:ops[0]? =some o1) (hd: ∀c,o1.op≠ .defer c) (hg:o1.guard=none) {a:Go.Act} {w w1:World} {v:Value} (ku: (execOp a.eval o1).run X.P w= .ok (.value v) w1) {Q:Go.Exit→Go.Act→World→Prop}
  (h:wpOpsIn (Fr n.ro) 0 X.P ops Q (List.range' 1 (ops.size - 1)) (a.put o1.dst v) w1): (Code.region i0 ops false).wpIn (Fr n.ro) 0 X.P Q a w:=by
 refine wpIn_region ?_
 have cH:0 <ops.size:=(Array.getElem?_eq_some_iff.1 h0).1
 have hr:List.range ops.size=0::List.range' 1 (ops.size - 1):=by
  rw[List.range_eq_range']
  obtain⟨k,hk⟩: ∃k,ops.size=k+1:=⟨ops.size - 1,by omega⟩
  rw[hk,List.range'_succ]
  rfl
 rw[hr,wpOpsIn_cons]
 simp only[wpOpIn,h0]
 rw[if_pos (by simp[Region.wanted,hg])]
 refine ud hd ?_
 unfold Oper.wp
 rw[ku,Oper.upon_value]
 exact h
theorem xh (dO:o1.op= .next (.tmp it) false) {a:Go.Act} {w w1:World} {v:Value} (ah: (Instr.next (a.eval (.tmp it)) false o1.type).run X.P w= .ok v w1): (execOp a.eval o1).run X.P w= .ok (.value v) w1:=by
 simp only[execOp,dO]
 exact cj ah
theorem B0 (dO:o5.op= .entry (.tmp it)) {a:Go.Act} {w w1:World} {v:Value} (ah: (Instr.entry (a.eval (.tmp it))).run X.P w= .ok v w1): (execOp a.eval o5).run X.P w= .ok (.value v) w1:=by
 simp only[execOp,dO]
 exact cj ah
theorem xi {Q:Go.Exit→Go.Act→World→Prop} (hQ: ∀a w,yw X n μ0 rec tl Good a w→Q (.exit id) a w) (hB:yu X n ops y rec tb) (h0:ops[0]? =some o1) (dO:o1.op= .next (.tmp it) false) (hd:o1.dst=some nx) (hg:o1.guard=none) (xj:nx<n.1)
   {σ σp:St} {a:Go.Act} {w:World} (hs:jh X μ0 n σ a w) (ah: (Instr.next (a.eval (.tmp it)) false o1.type).run X.P w= .ok (.tuple #[.bool false]) w)
   (hk:runK rec it r g nx ne id tb tm tl [] σ=some σp) (Ac:Good σp) (m:Nat):
   Code.roundsIn (Fr n.ro) 0 X.P (nJ i0 ops y b1 i5 gM z5) Q (m+1) a w:=by
 rw[roundsIn_succ]
 simp only[runK] at hk
 split at hk
 · split at hk
   · rename_i ka σe lA
     split at hk
     · rename_i Tv
       subst Tv
       split at hk
       · rename_i σ'' Df
         injection hk with hk;subst hk
         refine wpIn_seq (vk (X:=X) h0 (by rw[dO];simp) hg (xh dO ah) ?_)
         obtain⟨jv,cH,φ,hr,hle⟩:=hs
         have tI:jh X μ0 n (σ.put (some nx) (.tuple [.bool false])) (a.put o1.dst (.tuple #[.bool false])) w:=by
          rw[hd]
          exact⟨by rw[put_defers];exact jv,by rw[lr];exact cH,φ,ox hr (Le.refl _) hr.bg (by simp only[ak];exact⟨_,rfl,by simp[aj,ak]⟩) (by simp;omega) σ.O,hle⟩
         exact hB _ _ _ _ _ _ (Exit.then (Code.wpIn (Fr n.ro) 0 X.P (.block b1 (.seq (.region i5 gM false) z5)) (Exit.then (Code.roundsIn (Fr n.ro) 0 X.P (nJ i0 ops y b1 i5 gM z5) Q m) Q)) (Exit.then (Code.roundsIn (Fr n.ro) 0 X.P (nJ i0 ops y b1 i5 gM z5) Q m) Q)) _ lA tI (fun a' w' kQ=>hQ _ _ ⟨σe,σ'',kQ,Df,Ac⟩) fun a' w' h=>wpIn_seq h
       · simp at hk
     · simp at hk
   · simp at hk
 · simp at hk
theorem vl {σ:St} (h:tG it r g σ=true):σ.T it= .it r g∧(σ.O r).gen=g:=by
 unfold tG at h
 split at h
 · rename_i r' g' e
   simp only[Bool.and_eq_true,Nat.beq_eq] at h
   obtain⟨rfl,rfl,h⟩:=h
   exact⟨e,h⟩
 · simp at h
theorem qX { Q:Go.Exit→Go.Act→World→Prop} (hQ: ∀a w,yw X n μ0 rec tl Good a w→Q (.exit id) a w) (hB:yu X n ops y rec tb) (hM:BZ X n gM z5 b1 rec tm) (h0:ops[0]? =some o1) (dO:o1.op= .next (.tmp it) false) (hd:o1.dst=some nx) (hg:o1.guard=none) (xj:nx<n.1)
   (k0:gM[0]? =some o5) (kop:o5.op= .entry (.tmp it)) (kd:o5.dst=some ne) (kg:o5.guard=none) (c7:ne<n.1)
   {bi bm since:Nat} {ents:Array MapEntry} {Z:List (V×MapEntry)} (hZ:Z.map (·.2)=ents.toList) (lh:uU ents since):
   ∀ (m:Nat) (seen:Array Nat) (σ:St) (a:Go.Act) (w:World) (φ:Nat→Row),(gZ Z seen).length=m→Marks n w a.defers→a.tmps.size=n.1→Rel X σ.T a ⟨w,φ,σ.O⟩→Le μ0 ⟨w,φ,σ.O⟩→
    (φ r).dc=bi→w.heap[bi]? =some (.mapIter (some bm) since seen since)→ ¬ (Mu.mk w φ σ.O).own bi→(bi<μ0.w.heap.size→μ0.own bi)→
    (∀r',(σ.O r').es.isSome=true→(φ r').cap≠0→(φ r').dc≠bi)→w.heap[bm]? =some (.map ents since)→ ¬Own X ⟨w,φ,σ.O⟩ bm→
    (∀z ∈ Z,ak X ⟨w,φ,σ.O⟩ z.1 (.tuple #[z.2.key,z.2.val]))→
    (∀p,p.Perm ((gZ Z seen).map (·.1))→ ∃σp,runK rec it r g nx ne id tb tm tl p σ=some σp∧Good σp)→
    Code.roundsIn (Fr n.ro) 0 X.P (nJ i0 ops y b1 i5 gM z5) Q (m+1) a w
 | m,seen,σ,a,w,φ,hm,jv,cH,hr,hle,hφ,Mz,ez,lH,fJ,SZ,Tt,bU,vn=>by
   have rW:tG it r g σ=true:=by
    obtain⟨σp,hk,_⟩:=vn _ (.refl _)
    cases hl: (gZ Z seen).map (·.1) with
    | nil=>
      rw[hl] at hk
      simp only[runK] at hk
      split at hk
      · rename_i h;exact h
      · simp at hk
    | cons e p=>
      rw[hl] at hk
      simp only[runK] at hk
      split at hk
      · split at hk
        · rename_i h;exact h
        · simp at hk
      · simp at hk
   obtain⟨hT,cu⟩:=vl rW
   have SR:a.eval (.tmp it)= .pointer (some ⟨bi,0,none⟩):=by
    have:=hr.tmps it
    rw[hT] at this
    simp only[ak] at this
    obtain⟨a0,h1,_,h2⟩:=this
    obtain⟨_,rfl⟩:=h2 cu
    show a.tmps.getD it undef=_
    rw[h1,hφ]
   have lB:jh X μ0 n σ a w:=⟨jv,cH,φ,hr,hle⟩
   have bl:bi<w.heap.size:=(Array.getElem?_eq_some_iff.1 Mz).1
   rcases Hy (P:=X.P) (ty:=o1.type) Mz SZ lh.1 with⟨hz,ah⟩ | ⟨e,he,d,ah⟩
   ·
    have hl:gZ Z seen=[]:=by
      have:=xg hZ seen
      rw[Array.eq_empty_of_size_eq_zero hz] at this
      exact List.map_eq_nil_iff.1 this
    obtain⟨σp,hk,Ac⟩:=vn [] (by rw[hl];exact .refl _)
    exact xi hQ hB h0 dO hd hg xj lB (by rw[SR];exact ah) hk Ac m
   ·
    rw[←xg hZ seen] at he
    obtain⟨z,hz,rfl⟩:=List.mem_map.1 he
    have I0: (Z.map fun z=>z.2.born).Nodup:=by
      have:=lh.2
      rw[←hZ,List.map_map] at this
      exact this
    have Dl:=BY I0 hz
    obtain⟨m',rfl⟩: ∃m',m=m'+1:=by
      have:=Dl.length_eq
      simp only[List.length_cons] at this
      exact⟨_,by rw[←hm];exact this⟩
    have hZm:z ∈ Z:=(List.mem_filter.1 hz).1
    have u6:=bU z hZm
    obtain⟨σp1,yX,_⟩:=vn (z.1:: (gZ Z (seen.push z.2.born)).map (·.1)) (by have:=(Dl.map (·.1)).symm;simpa using this)
    obtain⟨ k,v,σm,σ',hzv,HA,KF,lA⟩: ∃k v σm σ',z.1= .tuple [k,v]∧rec tb (σ.put (some nx) (.tuple [.bool true,k,v]))=some (.normal,σm)∧tG it r g σm=true∧rec tm (σm.put (some ne) (.tuple [k,v]))=some (.normal,σ'):=by
      simp only[runK] at yX
      split at yX
      · rename_i k v S4
        rw[if_pos rW] at yX
        split at yX
        · rename_i σm hb
          split at yX
          · rename_i KF
            split at yX
            · rename_i σ' rC;exact⟨k,v,σm,σ',S4,hb,KF,rC⟩
            · simp at yX
          · simp at yX
        · simp at yX
      · simp at yX
    have S4:ak X ⟨w,φ,σ.O⟩ k z.2.key∧ak X ⟨w,φ,σ.O⟩ v z.2.val:=by
      rw[hzv] at u6
      simp only[ak] at u6
      obtain⟨vs,h1,h2⟩:=u6
      injection h1 with h1
      subst h1
      simpa [aj] using h2
    rw[roundsIn_succ]
    refine wpIn_seq (vk (X:=X) h0 (by rw[dO];simp) hg (xh dO (by rw[SR];exact ah)) ?_)
    generalize zn: ({w with drawn:=w.drawn+d,heap:=w.heap.setIfInBounds bi (.mapIter (some bm) since (seen.push z.2.born) since)}:World)=w2
    have iU: ∀b,b≠bi→w2.heap[b]? =w.heap[b]? :=fun b hb=>by
      rw[←zn];exact Array.getElem?_setIfInBounds_ne (fun e=>hb e.symm)
    have RH:w2.heap[bi]? =some (.mapIter (some bm) since (seen.push z.2.born) since):=by
      rw[←zn];simp[bl]
    have zE:w2.heap.size=w.heap.size:=by rw[←zn];simp
    have st:jf X ⟨w,φ,σ.O⟩ w2:=by
      refine⟨fun ad c hc=> ?_,fun b es cl hb=> ?_,by show w.heap.size≤w2.heap.size;omega⟩
      · have c7:ad.block≠bi:=fun e=>by
          have A4:w.cell? ad=some c:=hc
          simp[World.cell?,e,Mz] at A4
        have A4:w.cell? ad=some c:=hc
        simp only[World.cell?,iU _ c7] at A4 ⊢
        exact A4
      · have rC:w.heap[b]? =some (.map es cl):=hb
        rw[iU b (fun e=>by rw[e,Mz] at rC;simp at rC)]
        exact rC
    have XH:bu X ⟨w2,φ,σ.O⟩:=hr.bg.cz st fun r' h1 h2=>iU _ (fJ r' h1 h2)
    have RI:Le μ0 ⟨w2,φ,σ.O⟩:=by
      refine⟨by have:=hle.size;show μ0.w.heap.size≤w2.heap.size;have h2:μ0.w.heap.size≤w.heap.size:=this;omega,fun b hb hn=> ?_,hle.gen,hle.row,?_,?_,?_,fun ad RJ=> ?_⟩
      · have c7:b≠bi:=fun e=>by subst e;exact hn (lH hb)
        obtain⟨k1,k2⟩:=hle.cD b hb hn
        exact⟨(iU b c7).trans k1,k2⟩
      · rw[←hle.os,←zn]
      · rw[←hle.output,←zn]
      · rw[←hle.tape,←zn]
      · have k1:w.frozen? ad=μ0.w.frozen? ad:=hle.frozen ad RJ
        show w2.frozen? ad=_
        rw[←k1]
        by_cases e:ad.block=bi
        · simp only[World.frozen?,e,Mz,RH]
        · simp only[World.frozen?,iU _ e]
    have oH:Rel X σ.T a ⟨w2,φ,σ.O⟩:=⟨fun t=>ak.cz st (hr.tmps t),XH⟩
    have HB:Marks n w2 a.defers:=by
      obtain⟨⟨m0,m0'⟩,Ds,m1,m2,m3⟩:=jv
      exact⟨⟨by omega,fun l hl=>by
        obtain⟨L,k⟩:=m0' l hl
        exact⟨L,(iU l (fun e=>by rw[e,Mz] at k;simp at k)).trans k⟩⟩,Ds,m1,m2,fun D hD=> ⟨(m3 D hD).1,(iU D (fun e=>by have:=(m3 D hD).2;rw[e,Mz] at this;simp at this)).trans (m3 D hD).2⟩⟩
    have yZ:jh X ⟨w2,φ,σ.O⟩ n (σ.put (some nx) (.tuple [.bool true,k,v])) (a.put o1.dst (.tuple #[.bool true,z.2.key,z.2.val])) w2:=by
      rw[hd]
      refine⟨by rw[put_defers];exact HB,by rw[lr];exact cH,φ,ox oH (Le.refl _) XH ?_ (by simp;omega) σ.O,Le.refl _⟩
      simp only[ak]
      exact⟨_,rfl,by simp only[aj,ak];exact⟨trivial,ak.cz st S4.1,ak.cz st S4.2,trivial⟩⟩
    refine hB _ _ _ _ _ _ (Exit.then (Code.wpIn (Fr n.ro) 0 X.P (.block b1 (.seq (.region i5 gM false) z5)) (Exit.then (Code.roundsIn (Fr n.ro) 0 X.P (nJ i0 ops y b1 i5 gM z5) Q (m'+1)) Q)) (Exit.then (Code.roundsIn (Fr n.ro) 0 X.P (nJ i0 ops y b1 i5 gM z5) Q (m'+1)) Q)) _ HA yZ (fun am wm RK=> ?_) fun a' w' h=>wpIn_seq h
    have fB:bi<w2.heap.size:=by omega
    have MA:bm<w2.heap.size:=by rw[zE];exact(Array.getElem?_eq_some_iff.1 SZ).1
    have MB:bm≠bi:=fun e=>by rw[e,Mz] at SZ;simp at SZ
    obtain⟨hTm,MC⟩:=vl KF
    have acZ:=RK
    obtain⟨XI,abK,φm,XJ,EV⟩:=RK
    have hφm:φm r=φ r:=(EV.row r (by show (σm.O r).gen=(σ.O r).gen;rw[MC,cu])).1
    have abL:wm.heap[bi]? =some (.mapIter (some bm) since (seen.push z.2.born) since):=(EV.cD bi fB ez).1.trans RH
    have abM:wm.heap[bm]? =some (.map ents since):=(EV.cD bm MA (fun h=>Tt (.inl h))).1.trans ((iU bm MB).trans SZ)
    have abN:am.eval (.tmp it)= .pointer (some ⟨bi,0,none⟩):=by
      have:=XJ.tmps it
      rw[hTm] at this
      simp only[ak] at this
      obtain⟨a0,h1,_,h2⟩:=this
      obtain⟨_,rfl⟩:=h2 MC
      show am.tmps.getD it undef=_
      rw[h1,hφm,hφ]
    have hze:z.2 ∈ ents.toList:=by rw[←hZ];exact List.mem_map.2 ⟨z,hZm,rfl⟩
    refine wpIn_block (wpIn_seq (vk (X:=X) k0 (by rw[kop];simp) kg (B0 kop (by rw[abN];exact EU abL abM hze lh.2)) ?_))
    have C2:jh X ⟨w2,φ,σ.O⟩ n (σm.put (some ne) (.tuple [k,v])) (am.put o5.dst (.tuple #[z.2.key,z.2.val])) wm:=by
      rw[kd]
      refine⟨by rw[put_defers];exact XI,by rw[lr];exact abK,φm,ox XJ (Le.refl _) XJ.bg ?_ (by simp;omega) σm.O,EV⟩
      simp only[ak]
      exact⟨_,rfl,by simp only[aj];exact⟨ak.mono EV (ak.cz st S4.1),ak.mono EV (ak.cz st S4.2),trivial⟩⟩
    refine hM _ _ _ _ _ _ lA C2 fun a' w' kQ=> ?_
    obtain⟨XK,Kw,φ',rY,qY⟩:=kQ
    have HC: ∀p,p.Perm ((gZ Z (seen.push z.2.born)).map (·.1))→ ∃σp,runK rec it r g nx ne id tb tm tl p σ'=some σp∧Good σp:=fun p hp=>by
      obtain⟨σp,hk,BK⟩:=vn (z.1::p) ((hp.cons z.1).trans (by have:=(Dl.map (·.1)).symm;simpa using this))
      refine⟨σp,?_,BK⟩
      rw[hzv] at hk
      simp only[runK,rW,KF,if_true,HA,lA] at hk
      exact hk
    have abO:tG it r g σ'=true:=by
      obtain⟨σp,hk,_⟩:=HC _ (.refl _)
      cases hl: (gZ Z (seen.push z.2.born)).map (·.1) with
      | nil=>
        rw[hl] at hk
        simp only[runK] at hk
        split at hk
        · rename_i h;exact h
        · simp at hk
      | cons e p=>
        rw[hl] at hk
        simp only[runK] at hk
        split at hk
        · split at hk
          · rename_i h;exact h
          · simp at hk
        · simp at hk
    have vp: (σ'.O r).gen=g:=(vl abO).2
    obtain⟨kb1,kb2⟩:=qY.cD bi fB ez
    obtain⟨km1,km2⟩:=qY.cD bm MA (fun h=>Tt (.inl h))
    have RL:w'.heap[bi]? =some (.mapIter (some bm) since (seen.push z.2.born) since):=kb1.trans RH
    have hlen: (gZ Z (seen.push z.2.born)).length=m':=by
      have:=Dl.length_eq
      rw[hm,List.length_cons] at this
      omega
    refine qX hQ hB hM h0 dO hd hg xj k0 kop kd kg c7 hZ lh m' (seen.push z.2.born) σ' a' w' φ' hlen XK Kw rY (RI.trans qY) ?_ RL kb2 lH ?_ (km1.trans ((iU bm MB).trans SZ)) ?_ (fun x hx=>ak.mono qY (ak.cz st (bU x hx))) HC
    · have:=(qY.row r (by show (σ'.O r).gen=(σ.O r).gen;rw[vp,cu])).1
      rw[show φ' r=φ r from this];exact hφ
    · intro r' h1 h2 hb
      obtain⟨es,bR⟩:=Option.isSome_iff_exists.1 h1
      rcases rY.bg.ok r' es bR with⟨_,_,_,h4⟩ | ⟨_,_,ob,h3,h4⟩
      · rcases h4 with h4| ⟨c,T,vs,k1,_⟩
        · exact h2 h4
        · have k1':w'.heap[(φ' r').dc]? =some (.cells c T (0,0)):=k1
          rw[hb,RL] at k1';simp at k1'
      · have I1:w'.heap[(φ' r').dc]? =some ob:=h3
        rw[hb,RL] at I1
        injection I1 with I1
        rcases h4 with⟨_,_,k1,_⟩ | ⟨_,_,k1,_⟩ | ⟨_,_,_,k1,_⟩
        · rw[←I1] at k1;simp at k1
        · rw[←I1] at k1;simp at k1
        · rw[←I1] at k1
          injection k1 with _ _ k1 _
          have:=congrArg Array.size k1
          simp at this
    · rintro(h| h)
      · exact km2 h
      · exact Tt (.inr h)
termination_by m=>m
theorem vq {      kT kO:List Nat} (hB:yu X n ops y rec tb) (hM:BZ X n gM z5 b1 rec tm) (h0:ops[0]? =some o1) (dO:o1.op= .next (.tmp it) false) (hd:o1.dst=some nx) (hg:o1.guard=none) (xj:nx<n.1)
   (l0:gM[0]? =some o5) (lop:o5.op= .entry (.tmp it)) (ld:o5.dst=some ne) (lg:o5.guard=none) (c7:ne<n.1)
   {C:bj} {σ σ2:St} {e:bd} {a:Go.Act} {w:World} (ah:aJ E C rec (.keys it nx ne id kT kO tb tm tl) σ=some (e,σ2)) (hs:jh X μ0 n σ a w):
   e= .normal∧(Code.block id (.loop (nJ i0 ops y b1 i5 gM z5))).wpIn (Fr n.ro) 0 X.P (fun ex a' w'=>ex= .normal∧ ∃σe σp,jh X μ0 n σe a' w'∧rec tl σe=some (.normal,σp)∧ ∀EW Dm,jh X μ0 n σp EW Dm→jh X μ0 n σ2 EW Dm) a w:=by
 simp only[aJ] at ah
 split at ah
 · rename_i r g hT
   split at ah
   · rename_i es hO
     split at ah
     · rename_i hc
       obtain⟨cu,XL,gX⟩:=hc
       split at ah
       · rename_i σ1 σs qw
         split at ah
         · rename_i RM
           simp only[Option.some.injEq,Prod.mk.injEq] at ah
           obtain⟨rfl,rfl⟩:=ah
           refine⟨rfl,?_⟩
           let Good:St→Prop:=fun σp=> ∀EW Dm,jh X μ0 n σp EW Dm→jh X μ0 n (forget kT kO σ1 σs) EW Dm
           have Ac: ∀σp ∈ σ1::σs,Good σp:=by
            rintro σp hp EW Dm ⟨jv,cH,φ,hr,hle⟩
            have M6:qx kT kO σ1 σp=true∨σp=σ1:=by
              rcases List.mem_cons.1 hp with h| h
              · exact .inr h
              · exact .inl (List.all_eq_true.1 RM σp h)
            have hTk: ∀t,t ∈ kT→σp.T t=σ1.T t:=fun t ht=>by
              rcases M6 with h| h
              · simp only[qx,Bool.and_eq_true,List.all_eq_true] at h
                exact V.beq_eq (h.1 t ht)
              · rw[h]
            have hOk: ∀x,x ∈ kO→σp.O x=σ1.O x:=fun x hx=>by
              rcases M6 with h| h
              · simp only[qx,Bool.and_eq_true,List.all_eq_true] at h
                exact Obj.beq_eq (h.2 x hx)
              · rw[h]
            have FO:=xf (O':=(forget kT kO σ1 σs).O) hr.bg fun x=>by
              simp only[forget]
              by_cases hx:kO.contains x=true
              · rw[if_pos hx]
                exact .inl (hOk x (by simpa using hx)).symm
              · rw[if_neg hx]
                refine .inr ⟨rfl,.inl ?_⟩
                have:=qA (fun σ:St=> (σ.O x).gen) hp
                show (σp.O x).gen<_+1
                omega
            refine⟨jv,cH,φ,⟨fun t=> ?_,FO.2⟩,hle.trans FO.1⟩
            simp only[forget]
            split
            · rename_i ht
              rw[←hTk t (by simpa using ht)]
              exact ak.mono FO.1 (hr.tmps t)
            · simp[ak]
           have vn: ∀p,p.Perm es→ ∃σp,runK rec it r g nx ne id tb tm tl p ⟨σ.T,dn σ.O r ⟨g,0,false,false,none⟩⟩=some σp∧Good σp:=fun p hp=>by
            obtain⟨σp,h1,h2⟩:=sI qw p (nb hp)
            exact⟨σp,h2,Ac σp h1⟩
           obtain⟨jv,cH,φ,hr,hle⟩:=hs
           have FO:=xf (O':=dn σ.O r ⟨g,0,false,false,none⟩) hr.bg fun x=>by
            by_cases hx:x=r
            · subst hx
              rw[aB]
              exact .inr ⟨rfl,.inr ⟨cu.symm,XL.symm⟩⟩
            · rw[a8 _ _ hx];exact .inl rfl
           have oH:Rel X σ.T a ⟨w,φ,dn σ.O r ⟨g,0,false,false,none⟩⟩:=⟨fun t=>ak.mono FO.1 (hr.tmps t),FO.2⟩
           obtain⟨_,dz,ob,IS,hh⟩:=hr.bg.map r _ hO XL
           have im: (Mu.mk w φ σ.O).own (φ r).dc:=⟨r,by show (σ.O r).es.isSome=true;rw[hO];rfl,gX,dz,rfl⟩
           have ez: ¬ (Mu.mk w φ (dn σ.O r ⟨g,0,false,false,none⟩)).own (φ r).dc:=by
            rintro⟨r',h1,h2,h3,h4⟩
            by_cases hx:r'=r
            · subst hx;simp[aB] at h1
            · have wG: (σ.O r').es.isSome=true:=by have:=h1;simp only[a8 _ _ hx] at this;exact this
              exact hr.bg.inj r' r hx wG (by show (σ.O r).es.isSome=true;rw[hO];rfl) h3 dz h4
           have lH: (φ r).dc<μ0.w.heap.size→μ0.own (φ r).dc:=fun bl=>Classical.byContradiction fun hn=> (hle.cD _ bl hn).2 im
           have fJ: ∀r',((dn σ.O r ⟨g,0,false,false,none⟩) r').es.isSome=true→(φ r').cap≠0→(φ r').dc≠(φ r).dc:=fun r' h1 h2 h4=>by
            by_cases hx:r'=r
            · subst hx;simp[aB] at h1
            · have wG: (σ.O r').es.isSome=true:=by have:=h1;simp only[a8 _ _ hx] at this;exact this
              exact hr.bg.inj r' r hx wG (by show (σ.O r).es.isSome=true;rw[hO];rfl) h2 dz h4
           have hQ: ∀a' w',yw X n μ0 rec tl Good a' w'→Exit.inBlock id (fun ex a' w'=>ex= .normal∧ ∃σe σp,jh X μ0 n σe a' w'∧rec tl σe=some (.normal,σp)∧ ∀EW Dm,jh X μ0 n σp EW Dm→jh X μ0 n (forget kT kO σ1 σs) EW Dm) (.exit id) a' w':=by
            rintro a' w' ⟨σe,σp,q1,q2,q3⟩
            simp only[Go.Exit.inBlock,if_true]
            exact⟨trivial,σe,σp,q1,q2,q3⟩
           have key: ∃m,Code.roundsIn (Fr n.ro) 0 X.P (nJ i0 ops y b1 i5 gM z5) (Exit.inBlock id (fun ex a' w'=>ex= .normal∧ ∃σe σp,jh X μ0 n σe a' w'∧rec tl σe=some (.normal,σp)∧ ∀EW Dm,jh X μ0 n σp EW Dm→jh X μ0 n (forget kT kO σ1 σs) EW Dm)) (m+1) a w:=by
            rcases hh with⟨ents,clock,k1,hh,_⟩ | ⟨s,pos,_,hh⟩ | ⟨mo,since,ng,h1,h2,h3⟩
            · exfalso
              cases he:ents.toList with
              | nil=>rw[he] at hh;simp[aj] at hh
              | cons x xs=>rw[he] at hh;simp[aj,ak] at hh
            · simp at hh
            · simp only[List.cons.injEq,V.mlit.injEq,and_true] at h2
              subst h2
              subst h1
              rcases h3 with⟨rfl,rfl⟩ | ⟨bm,ents,rfl,k2,k3,k4,k5,k6⟩
              · obtain⟨σp,hk,BK⟩:=vn [] (.refl _)
                have rW:a.eval (.tmp it)= .pointer (some ⟨(φ r).dc,0,none⟩):=by
                  have:=hr.tmps it
                  rw[hT] at this
                  simp only[ak] at this
                  obtain⟨a0,e1,_,e2⟩:=this
                  obtain⟨_,rfl⟩:=e2 cu
                  exact e1
                exact⟨0,xi hQ hB h0 dO hd hg xj ⟨jv,cH,φ,oH,hle.trans FO.1⟩ (by rw[rW];exact Hz IS) hk BK 0⟩
              · obtain⟨Z,z1,z2,z3⟩:=Ab k6
                have ve:gZ Z #[]=Z:=List.filter_eq_self.2 fun z _=>by simp
                refine⟨_,qX (r:=r) (g:=g) hQ hB hM h0 dO hd hg xj l0 lop ld lg c7 z2 k5 _ #[] ⟨σ.T,dn σ.O r ⟨g,0,false,false,none⟩⟩ a w φ rfl jv cH oH (hle.trans FO.1) rfl IS ez lH fJ k4 ?_ (fun z hz=>ak.mono FO.1 (z3 z hz)) ?_⟩
                · rintro(⟨r',h1,h2,h3,h4⟩ | h)
                  · refine k2 (.inl ⟨r',?_,?_,h3,h4⟩)
                    · by_cases hx:r'=r
                      · subst hx;simp[aB] at h1
                      · have:=h1;simp only[a8 _ _ hx] at this;exact this
                    · by_cases hx:r'=r
                      · subst hx;exact gX
                      · have:=h2;simp only[a8 _ _ hx] at this;exact this
                  · exact k2 (.inr h)
                · rw[ve,z1];exact vn
           obtain⟨m,hm⟩:=key
           exact wpIn_block (wpIn_loop_rounds (m+1) hm)
         · simp at ah
       · simp at ah
     · simp at ah
   · simp at ah
 · simp at ah
end
end Go.AM
namespace Go.AM
open Go Go.RowKit
theorem HD {X:Ctx} {μ:Mu} (ho:bu X μ) {D:Nat} {o:Go.Obj} (hD:μ.w.heap[D]? =some o) (h1:o.isCells=false) (h2:o.isWalk=false) {r:Nat} (hr: (μ.O r).es.isSome=true) (hc: (μ.φ r).cap≠0): (μ.φ r).dc≠D:=fun hb=>by
 obtain⟨es,bR⟩:=Option.isSome_iff_exists.1 hr
 rcases ho.ok r es bR with⟨_,_,_,h4⟩ | ⟨_,_,ob,h3,h4⟩
 · rcases h4 with h4| ⟨c,T,vs,k1,_⟩
   · exact hc h4
   · rw[hb,hD] at k1;injection k1 with k1;subst k1;simp[Obj.isCells] at h1
 · rw[hb,hD] at h3;injection h3 with h3;subst h3
   rcases h4 with⟨_,_,rfl,_⟩ | ⟨_,_,rfl,_⟩ | ⟨_,_,_,rfl,_⟩ <;>simp[Obj.isWalk] at h2
theorem jY {X:Ctx} {μ:Mu} {D:Nat} {o o':Go.Obj} (hD:μ.w.heap[D]? =some o) (h1:o.isCells=false) (h2:o.isWalk=false):jf X μ (μ.w.putObj D o'):=by
 refine⟨fun ad c hc=> ?_,fun b es cl hb=> ?_,by simp[World.putObj]⟩
 · have c7:ad.block≠D:=fun e=>by
    simp only[World.cell?,e,hD] at hc
    cases o<;>simp_all[Obj.isCells]
   simp only[World.cell?,World.putObj_heap_other c7] at hc ⊢
   exact hc
 · rw[World.putObj_heap_other (fun e=>by rw[e,hD] at hb;injection hb with hb;subst hb;simp[Obj.isWalk] at h2)]
   exact hb
theorem B1 {μ0:Mu} {w:World} {φ:Nat→Row} {O:Nat→Obj} (le:Le μ0 ⟨w,φ,O⟩) {D:Nat} {o':Go.Obj} (hf:μ0.w.heap.size≤D):Le μ0 ⟨w.putObj D o',φ,O⟩:=by
 refine⟨by have:=le.size;simpa [World.putObj] using this,fun b hb hn=> ?_,le.gen,le.row,le.os,le.output,le.tape,fun ad RJ=> ?_⟩
 · have c7:b≠D:=by omega
   exact⟨(World.putObj_heap_other c7).trans (le.cD b hb hn).1,(le.cD b hb hn).2⟩
 · have c7:ad.block≠D:=by omega
   have:=le.frozen ad RJ
   simp only[World.frozen?] at this ⊢
   show (match (w.putObj D o').heap[ad.block]? with| some (.cells _ _ (lo,hi))=>_| _=>false)=_
   rw[World.putObj_heap_other c7]
   exact this
theorem xk {X:Ctx} {w:World} {φ:Nat→Row} {O:Nat→Obj} (ho:bu X ⟨w,φ,O⟩) {D:Nat} (h2:w.heap[D]? =some (.deferred (some []))):bu X ⟨w.putObj D (.deferred none),φ,O⟩:=
 ho.cz (jY (μ:=⟨w,φ,O⟩) h2 rfl rfl) fun r h3 h4=>World.putObj_heap_other (HD ho h2 rfl rfl h3 h4)
def Kept (μ:Mu) (W W':World):Prop:= ∀b,b<μ.w.heap.size→ ¬μ.own b→W'.heap[b]? =W.heap[b]?
def Abides (J:Nat→World→Prop):Prop:= ∀k A B,J k A→A.grownBy B none→J k B
structure KG (J:Nat→(Nat→Prop)→World→Prop):Prop where
 grow: ∀k F A B,J k F A→A.grownBy B none→J k (fun b=>F b∨(A.heap.size≤b∧b<B.heap.size)) B
 less: ∀k F F' A,J k F A→(∀b,F' b→F b)→J k F' A
structure ue (X:Ctx) (μ:Mu) (gf:Nat) (lb:Array Value) (xs:List (List V)):Prop where
 enters: ∀args w,(callFunc gf args).run X.P w= .ok (.enter gf args) w
 ex: ∃wk:List (Array Value),wk.length=xs.length∧(∀ (i:Nat) x v,xs[i]? =some x→wk[i]? =some v→aj X μ x v.toList)∧
  ∀ (l:Nat) (J:Nat→(Nat→Prop)→World→Prop) (Jx:Nat→World→Prop) (W0:World),Below μ.w.heap.size μ.w W0→KG J→Abides Jx→
   (∀ (k:Nat) F W1 v,wk[k]? =some v→J k F W1→YieldAt (Fr none) 0 X.P l v W1 fun e W'=> (e= .returned (.bool true)∧J (k+1) F W'∧Kept μ W1 W'∧ ∀b,F b→W'.heap[b]? =W1.heap[b]?)∨(e= .returned (.bool false)∧Jx (k+1) W'))→
   J 0 (fun _=>False) W0→CallsIn (Fr none) 0 X.P gf (#[.func (.yield l) #[] #[]]++lb) W0 fun e W'=> (∃v,e= .returned v)∧((∃F,J wk.length F W')∨ ∃k,k≤wk.length∧Jx k W')
theorem tg {X:Ctx} {μ:Mu} {W':World} (h:μ.w.grownBy W' none):jf X μ W':=by
 have hb: ∀k,k<μ.w.heap.size→W'.heap[k]? =μ.w.heap[k]? :=fun k hk=>h.block k hk (by simp)
 refine⟨fun ad c hc=> ?_,fun b es cl hc=> ?_,h.size⟩
 · have bl:ad.block<μ.w.heap.size:=by
    rcases Nat.lt_or_ge ad.block μ.w.heap.size with hl| hl
    · exact hl
    · simp[World.cell?,Array.getElem?_eq_none hl] at hc
   simp only[World.cell?,hb _ bl] at hc ⊢
   exact hc
 · rw[hb _ (Array.getElem?_eq_some_iff.1 hc).1];exact hc
theorem B2 {X:Ctx} {μ:Mu} (ho:bu X μ) {r:Nat} (hr: (μ.O r).es.isSome=true) (hc: (μ.φ r).cap≠0): (μ.φ r).dc<μ.w.heap.size:=by
 obtain⟨es,bR⟩:=Option.isSome_iff_exists.1 hr
 rcases ho.ok r es bR with⟨_,_,_,h4⟩ | ⟨_,_,ob,h3,h4⟩
 · rcases h4 with h4| ⟨c,T,vs,k1,_⟩
   · exact absurd h4 hc
   · exact(Array.getElem?_eq_some_iff.1 k1).1
 · exact(Array.getElem?_eq_some_iff.1 h3).1
structure fG (X:Ctx) (μb:Mu) (T:Nat→V) (a:Go.Act) (l:Nat) (Dq:Option Nat) (L:Loop) (O:Nat→Obj) (φ:Nat→Row) (W:World):Prop where
 rel:Rel X T a ⟨W,φ,O⟩
 le:Le μb ⟨W,φ,O⟩
 xl:W.heap[l]? =some (.loop L)
 RN: ∀D,Dq=some D→W.heap[D]? =some (.deferred (some []))
section
variable {X:Ctx} {μb:Mu} {T:Nat→V} {a:Go.Act} {l:Nat} {Dq:Option Nat} {L L':Loop} {O:Nat→Obj} {φ:Nat→Row} {W W':World}
theorem fG.grow (h:fG X μb T a l Dq L O φ W) (hg:W.grownBy W' none):fG X μb T a l Dq L O φ W':=by
 have st:jf X ⟨W,φ,O⟩ W':=tg (μ:=⟨W,φ,O⟩) hg
 have hb: ∀k,k<W.heap.size→W'.heap[k]? =W.heap[k]? :=fun k hk=>hg.block k hk (by simp)
 refine⟨⟨fun t=>ak.cz st (h.rel.tmps t),h.rel.bg.cz st fun r h1 h2=>hb _ (B2 h.rel.bg h1 h2)⟩,?_,(hb _ (Array.getElem?_eq_some_iff.1 h.xl).1).trans h.xl,fun D hD=> (hb _ (Array.getElem?_eq_some_iff.1 (h.RN D hD)).1).trans (h.RN D hD)⟩
 have le:=h.le
 have cH:μb.w.heap.size≤W.heap.size:=le.size
 exact⟨Nat.le_trans cH hg.size,fun b rC hn=> ⟨(hb b (by omega)).trans (le.cD b rC hn).1,(le.cD b rC hn).2⟩,le.gen,le.row,hg.os.trans le.os,hg.output.trans le.output,hg.tape.trans le.tape,fun ad RJ=>by
  have:=le.frozen ad RJ
  rw[←this]
  show W'.frozen? ad=W.frozen? ad
  simp only[World.frozen?,hb ad.block (by omega)]⟩
theorem fG.put (h:fG X μb T a l Dq L O φ W) (hl:μb.w.heap.size≤l) (hD: ∀D,Dq=some D→D≠l):fG X μb T a l Dq L' O φ (W.putObj l (.loop L')):=by
 have st:jf X ⟨W,φ,O⟩ (W.putObj l (.loop L')):=jY (μ:=⟨W,φ,O⟩) h.xl rfl rfl
 refine⟨⟨fun t=>ak.cz st (h.rel.tmps t),h.rel.bg.cz st fun r h3 h4=>World.putObj_heap_other (HD h.rel.bg h.xl rfl rfl h3 h4)⟩,B1 h.le hl,World.putObj_heap_same (Array.getElem?_eq_some_iff.1 h.xl).1,fun D hd=> (World.putObj_heap_other (hD D hd)).trans (h.RN D hd)⟩
end
def bd.conv:bd→Go.Exit
 | .normal=> .normal
 | .exit id=> .exit id
 | .ret=> .ret
def HE (X:Ctx) (n:Fp) (c:Code) (rec:al→St→Option (bd×St)) (tc:al):Prop:=
 ∀ (σ σ':St) (e:bd) (μ0:Mu) (a:Go.Act) (w:World),rec tc σ=some (e,σ')→jh X μ0 n σ a w→c.wpIn (Fr n.ro) 0 X.P (fun ex a' w'=>ex=e.conv∧jh X μ0 n σ' a' w') a w
theorem Dn {X:Ctx} {μ:Mu}: ∀ {ps:List Nat} {x:List V} {vs:List Value} {T:Nat→V} {tmps:Array Value},aj X μ x vs→(∀t,ak X μ (T t) (tmps.getD t undef))→(∀p ∈ ps,p<tmps.size)→
   (∀t,ak X μ (na T ps x t) (((ps.zip vs).foldl (fun t p=>t.setIfInBounds p.1 p.2) tmps).getD t undef))∧((ps.zip vs).foldl (fun t p=>t.setIfInBounds p.1 p.2) tmps).size=tmps.size
 | [],x,vs,T,tmps,_,h,_=> ⟨by simpa [na] using h,rfl⟩
 | p::ps,[],[],T,tmps,_,h,_=> ⟨by simpa [na] using h,rfl⟩
 | p::ps,[],_::_,T,tmps,hx,_,_=>by simp[aj] at hx
 | p::ps,_::_,[],T,tmps,hx,_,_=>by simp[aj] at hx
 | p::ps,x::xs,v::vs,T,tmps,hx,h,hp=>by
   simp only[aj] at hx
   have bl:=hp p (by simp)
   obtain⟨k1,k2⟩:=Dn (ps:=ps) (T:=dn T p x) (tmps:=tmps.setIfInBounds p v) hx.2 (fun t=>by
    unfold dn
    split
    · rename_i e;subst e
      have: (tmps.setIfInBounds t v).getD t undef=v:=by simp[bl]
      rw[this];exact hx.1
    · rename_i c7
      have: (tmps.setIfInBounds p v).getD t undef=tmps.getD t undef:=by
       simp[Array.getElem?_setIfInBounds_ne (fun e=>c7 e.symm)]
      rw[this];exact h t) (fun q hq=>by simpa using hp q (by simp[hq]))
   exact⟨k1,by simpa using k2⟩
theorem EX {P:Program} {w:World} (ro:Option Nat) (h: ∀l,ro=some l→ ∃L,w.heap[l]? =some (.loop L)) (fn:FuncId) (tmps:Array Value) (ps:Array Tmp) (assign body:Code):
   ∃ (l:Nat) (Dq:Option Nat) (dD:Nat) (W1:World),(Instr.enterLoop fn tmps ps assign body ro).run P w= .ok (l,Dq.toList.map fun D=> {target:= .collected D,args:= #[]}) W1∧w.grownBy W1 none∧w.heap.size≤l∧
     W1.heap[l]? =some (.loop {state:= .ready,pending:=none,fn,tmps,params:=ps,assign,body,defers:=dD})∧ ∀D,Dq=some D→w.heap.size≤D∧D≠l∧W1.heap[D]? =some (.deferred (some [])):=by
 cases ro with
 | none=>
   have cH: (w.alloc (.deferred (some []))).heap.size=w.heap.size+1:=World.size_alloc _ _
   refine⟨w.heap.size+1,some w.heap.size,w.heap.size,_,run_enterLoop_outer fn tmps ps assign body,?_,by omega,?_,?_⟩
   · have b1:Below w.heap.size w ((w.alloc (.deferred (some []))).alloc (.loop {state:= .ready,pending:=none,fn,tmps,params:=ps,assign,body,defers:=w.heap.size})):=((Below.refl _ w).alloc (Nat.le_refl _) _).alloc (by simp) _
     exact⟨b1.os,b1.tape,b1.output,b1.size,fun k hk _=>b1.block k hk⟩
   · have:=World.alloc_heap_new (w.alloc (.deferred (some []))) (.loop {state:= .ready,pending:=none,fn,tmps,params:=ps,assign,body,defers:=w.heap.size})
     rwa [cH] at this
   · rintro D hD
     injection hD with hD;subst hD
     exact⟨Nat.le_refl _,by omega,(Below.heap_alloc _ _ _ (by rw[cH];omega)).trans (World.alloc_heap_new w _)⟩
 | some l0=>
   obtain⟨L,hL⟩:=h l0 rfl
   refine⟨w.heap.size,none,L.defers,_,run_enterLoop_inner hL fn tmps ps assign body,?_,Nat.le_refl _,World.alloc_heap_new w _,by simp⟩
   have b1:Below w.heap.size w (w.alloc (.loop {state:= .ready,pending:=none,fn,tmps,params:=ps,assign,body,defers:=L.defers})):=(Below.refl _ w).alloc (Nat.le_refl _) _
   exact⟨b1.os,b1.tape,b1.output,b1.size,fun k hk _=>b1.block k hk⟩
theorem xn {X:Ctx} {μ0:Mu} {n:Fp} {T:Nat→V} {a:Go.Act} {w W:World} {φ φ':Nat→Row} {O0 O:Nat→Obj} {l:Nat} {Dq:Option Nat} {L:Loop} (jv:Marks n w a.defers) (cH:a.tmps.size=n.tm) (ho:bu X ⟨w,φ,O0⟩) (hle:Le μ0 ⟨w,φ,O0⟩)
   (h:fG X ⟨w,φ,O0⟩ T a l Dq L O φ' W) (hD: ∀D,Dq=some D→w.heap.size≤D):jh X μ0 n ⟨T,O⟩ {a with defers:=(Dq.toList.map fun D=> {target:= .collected D,args:= #[]})++a.defers} W:=by
 refine⟨?_,cH,φ',⟨h.rel.tmps,h.rel.bg⟩,hle.trans h.le⟩
 obtain⟨h0,Ds,h1,h2,h3⟩:=jv.le ho h.le
 refine⟨h0,Dq.toList++Ds,by simp[h1],?_,fun D hd=> ?_⟩
 · cases Dq with
   | none=>simpa using h2
   | some D=>
     simp only[Option.toList_some,List.cons_append,List.nil_append,List.nodup_cons]
     refine⟨fun hm=> ?_,h2⟩
     obtain⟨_,Ds',k1,_,k3⟩:=jv
     have:Ds=Ds':=by
       rw[h1] at k1
       have mP:Function.Injective (fun D:Nat=> ({target:= .collected D,args:= #[]}:Deferred)):=fun x y e=>by injection e with e;injection e
       exact List.map_inj_right (fun x y e=>mP e) |>.1 k1
     subst this
     have:=(Array.getElem?_eq_some_iff.1 (k3 D hm).2).1
     have:=hD D rfl
     omega
 · rcases List.mem_append.1 hd with hd| hd
   · cases Dq with
     | none=>simp at hd
     | some D'=>
       simp at hd;subst hd
       exact⟨Nat.le_trans jv.1.1 (hD _ rfl),h.RN _ rfl⟩
   · exact h3 D hd
theorem Ad {X:Ctx} {n:Fp} {g:Operand} {ps:Array Tmp} {assign body:Code} {rec:al→St→Option (bd×St)} {ta tb:al} (hA: ∀l,HE X ⟨n.tm,0,some l⟩ assign rec ta) (hB: ∀l,HE X ⟨n.tm,0,some l⟩ body rec tb)
   {μ0:Mu} {σ σ':St} {e:bd} {a:Go.Act} {w:World} (hs:jh X μ0 n σ a w) (vW: ∀p ∈ ps.toList,p<n.tm) {gf:Nat} {lb:Array Value} {xs:List (List V)} (hg:a.eval g= .func (.func gf) #[] lb)
   (hI: ∀φ,Rel X σ.T a ⟨w,φ,σ.O⟩→ue X ⟨w,φ,σ.O⟩ gf lb xs) (hlen: ∀x ∈ xs,x.length=ps.size) (ah:qv rec ps.toList ta tb σ.T xs σ.O=some (e,σ')):
   (Code.rangeFunc g ps assign body).wpIn (Fr n.ro) 0 X.P (fun ex a' w'=>ex=e.conv∧jh X μ0 n σ' a' w') a w:=by
 obtain⟨jv,cH,φ,hr,hle⟩:=hs
 obtain⟨enters,wk,BT,A8,XM⟩:=hI φ hr
 refine wpIn_rangeFunc fun fn tZ=> ?_
 obtain⟨l,Dq,dD,W1,abP,lq,hl,abQ,hDq⟩:=EX (P:=X.P) n.ro jv.1.2 fn a.tmps ps assign body
 obtain⟨fK,lC⟩: ∃fK:LoopState→Option Code→Loop,fK=fun st pe=> {state:=st,pending:=pe,fn,tmps:=a.tmps,params:=ps,assign,body,defers:=dD}:=⟨_,rfl⟩
 have c7: ∀D,Dq=some D→D≠l:=fun D hD=> (hDq D hD).2.1
 have XN:fG X ⟨w,φ,σ.O⟩ σ.T a l Dq (fK .ready none) σ.O φ W1:=by
   have st:jf X ⟨w,φ,σ.O⟩ W1:=tg (μ:=⟨w,φ,σ.O⟩) lq
   have hb: ∀k,k<w.heap.size→W1.heap[k]? =w.heap[k]? :=fun k hk=>lq.block k hk (by simp)
   refine⟨⟨fun t=>ak.cz st (hr.tmps t),hr.bg.cz st fun r h1 h2=>hb _ (B2 hr.bg h1 h2)⟩,?_,by rw[lC];exact abQ,fun D hD=> (hDq D hD).2.2⟩
   exact⟨lq.size,fun b rC hn=> ⟨hb b rC,hn⟩,fun _=>Nat.le_refl _,fun _ _=> ⟨rfl,rfl⟩,lq.os,lq.output,lq.tape,fun ad RJ=>by simp only[World.frozen?,hb ad.block RJ]⟩
 refine⟨l,_,W1,{target:= .fn (.func gf) lb,args:= #[.func (.yield l) #[] #[]]},W1,gf,#[.func (.yield l) #[] #[]]++lb,W1,abP,?_,fun _ _=>trivial,?_,fun h=>by simp[Fr,Fence.wide] at h,?_⟩
 · simp only[resolve,hg]
   simp[go_sem]
 · simp[invoke,go_sem,enters]
 have key:=XM l (fun k F W=> ∃O φ',fG X ⟨w,φ,σ.O⟩ σ.T a l Dq (fK .ready none) O φ' W∧qv rec ps.toList ta tb σ.T (xs.drop k) O=some (e,σ')∧ ∀b,F b→b<W.heap.size∧ ¬Mu.own ⟨W,φ',O⟩ b∧b≠l)
   (fun k W=> ∃O φ' c,fG X ⟨w,φ,σ.O⟩ σ.T a l Dq (fK .done (some c)) O φ' W∧σ'=⟨σ.T,O⟩∧(e= .ret∧c= .ret∨ ∃id,e= .exit id∧c= .exit id)) W1
   ⟨lq.os,lq.tape,lq.output,lq.size,fun k hk=>lq.block k hk (by simp)⟩
   ⟨fun k F A B ⟨O,φ',h1,h2,h3⟩ hg=> ⟨O,φ',h1.grow hg,h2,fun b hb=>by
     rcases hb with hb| ⟨IT,KH⟩
     · exact⟨Nat.lt_of_lt_of_le (h3 b hb).1 hg.size,(h3 b hb).2⟩
     · refine⟨KH,?_,fun mf=> ?_⟩
       · rintro⟨r,q1,_,q3,q4⟩
         have:=B2 (μ:=⟨A,φ',O⟩) h1.rel.bg q1 q3
         have hq: (φ' r).dc=b:=q4
         have: (φ' r).dc<A.heap.size:=this
         omega
       · subst mf
         have:=(Array.getElem?_eq_some_iff.1 h1.xl).1
         omega⟩,fun k F F' A ⟨O,φ',h1,h2,h3⟩ hF=> ⟨O,φ',h1,h2,fun b hb=>h3 b (hF b hb)⟩⟩ (fun k A B ⟨O,φ',c,h1,h2⟩ hg=> ⟨O,φ',c,h1.grow hg,h2⟩) ?round ⟨σ.O,φ,XN,by simpa using ah,fun b hb=>hb.elim⟩
 case round=>
   rintro k F W v hv ⟨O,φ',lH,tK,hF⟩
   have hk:k<xs.length:=by rw[←BT];exact(List.getElem?_eq_some_iff.1 hv).1
   have hx:xs[k]? =some xs[k]:=List.getElem?_eq_getElem hk
   rw[List.drop_eq_getElem_cons hk] at tK
   generalize xs[k]=x at hx tK
   have sY:=A8 k x v hx hv
   have vY:=hlen x (List.mem_of_getElem? hx)
   simp only[qv] at tK
   split at tK
   rotate_left
   · simp at tK
   rename_i σ1 h1
   have abR:=lH.le
   have abS:aj X ⟨W,φ',O⟩ x v.toList:=aj.mono abR sY
   have pZ:v.size=ps.size:=by
     have:=sY.length
     rw[←vY,this];simp
   have SI:=Dn (ps:=ps.toList) (T:=σ.T) (tmps:=a.tmps) abS lH.rel.tmps (by rw[cH];exact vW)
   have htm: ((ps.zip v).foldl (fun tmps (p:Tmp×Value)=>tmps.setIfInBounds p.1 p.2) a.tmps)=(ps.toList.zip v.toList).foldl (fun t p=>t.setIfInBounds p.1 p.2) a.tmps:=by
     rw[←Array.foldl_toList,Array.toList_zip]
   have hy:=run_yield (P:=X.P) (args:=v) lH.xl (by rw[lC];exact pZ)
   rw[lC] at hy
   refine⟨fn,_,assign,body,hy,roundIn_of_wpIn tZ ?_⟩
   have lB:jh X ⟨W,φ',O⟩ ⟨n.tm,0,some l⟩ ⟨na σ.T ps.toList x,O⟩ {tmps:=(ps.zip v).foldl (fun tmps (p:Tmp×Value)=>tmps.setIfInBounds p.1 p.2) a.tmps,defers:=[]} W:=by
     refine⟨Marks.nil (Nat.zero_le _) (fun l' wQ=>by injection wQ with wQ;subst wQ;exact⟨_,lH.xl⟩),by show Array.size _=n.tm;rw[htm,SI.2];exact cH,φ',⟨fun t=> ?_,lH.rel.bg⟩,Le.refl _⟩
     show ak X _ _ (Array.getD _ t undef)
     rw[htm];exact SI.1 t
   refine wpIn_mono (hA l _ _ _ _ _ _ h1 lB) fun ex a1 w1 hq=> ?_
   obtain⟨rfl,G3,sb,φ1,HF,HG⟩:=hq
   have MD: ∀ {b:Nat} {o:Go.Obj},W.heap[b]? =some o→o.isCells=false→o.isWalk=false→w1.heap[b]? =some o:=fun {b o} hb i1 i2=>
     (HG.cD b (Array.getElem?_eq_some_iff.1 hb).1 (ew lH.rel.bg hb i1 i2)).1.trans hb
   have KI:fG X ⟨w,φ,σ.O⟩ σ.T a l Dq (fK .ready none) σ1.O φ1 w1:=⟨⟨fun t=>ak.mono HG (lH.rel.tmps t),HF.bg⟩,lH.le.trans HG,MD lH.xl rfl rfl,fun D hD=>MD (lH.RN D hD) rfl rfl⟩
   show ∃w₂,_∧_
   refine⟨_,run_beginRound KI.xl (by rw[lC]),?_⟩
   have sh:fG X ⟨w,φ,σ.O⟩ σ.T a l Dq (fK .busy none) σ1.O φ1 (w1.putObj l (.loop (fK .busy none))):=KI.put hl c7
   have XO: ({fK .ready none with state:= .busy}:Loop)=fK .busy none:=by rw[lC]
   rw[XO]
   have st2:jf X ⟨w1,φ1,σ1.O⟩ (w1.putObj l (.loop (fK .busy none))):=jY (μ:=⟨w1,φ1,σ1.O⟩) KI.xl rfl rfl
   have ME:jh X ⟨w1.putObj l (.loop (fK .busy none)),φ1,σ1.O⟩ ⟨n.tm,0,some l⟩ σ1 a1 (w1.putObj l (.loop (fK .busy none))):=by
     refine⟨?_,sb,φ1,⟨fun t=>ak.cz st2 (HF.tmps t),sh.rel.bg⟩,Le.refl _⟩
     obtain⟨_,Ds,m1,m2,m3⟩:=G3
     refine⟨⟨Nat.zero_le _,fun l' wQ=>by injection wQ with wQ;subst wQ;exact⟨_,sh.xl⟩⟩,Ds,m1,m2,fun D hD=> ⟨Nat.zero_le _,?_⟩⟩
     rw[World.putObj_heap_other (fun e=>by have:=(m3 D hD).2;rw[e,KI.xl] at this;simp at this)]
     exact(m3 D hD).2
   split at tK
   ·
     rename_i σ2 h2
     refine wpIn_mono (hB l _ _ _ _ _ _ h2 ME) fun ex a3 w3 hq=> ?_
     obtain⟨rfl,_,_,φ3,XP,yx⟩:=hq
     have Ae: ∀ {b:Nat} {o:Go.Obj},(w1.putObj l (.loop (fK .busy none))).heap[b]? =some o→o.isCells=false→o.isWalk=false→w3.heap[b]? =some o:=fun {b o} hb i1 i2=>
       (yx.cD b (Array.getElem?_eq_some_iff.1 hb).1 (ew sh.rel.bg hb i1 i2)).1.trans hb
     have EY:fG X ⟨w,φ,σ.O⟩ σ.T a l Dq (fK .busy none) σ2.O φ3 w3:=⟨⟨fun t=>ak.mono yx (sh.rel.tmps t),XP.bg⟩,sh.le.trans yx,Ae sh.xl rfl rfl,fun D hD=>Ae (sh.RN D hD) rfl rfl⟩
     have HH:fG X ⟨w,φ,σ.O⟩ σ.T a l Dq (fK .ready none) σ2.O φ3 (w3.putObj l (.loop (fK .ready none))):=EY.put hl c7
     have e4: ({fK .busy none with state:=if (none:Option Code).isNone then .ready else .done,pending:=none}:Loop)=fK .ready none:=by rw[lC];rfl
     have SX: ∀b,F b→(w3.putObj l (.loop (fK .ready none))).heap[b]? =W.heap[b]? ∧b<w3.heap.size∧ ¬Mu.own ⟨w3,φ3,σ2.O⟩ b:=fun b hb=>by
       obtain⟨f1,f2,f3⟩:=hF b hb
       have g1:=HG.cD b f1 f2
       have s1:W.heap.size≤w1.heap.size:=HG.size
       have s2: (w1.putObj l (.loop (fK .busy none))).heap.size≤w3.heap.size:=yx.size
       have s3: (w1.putObj l (.loop (fK .busy none))).heap.size=w1.heap.size:=World.putObj_size ..
       have g2:=yx.cD b (by show b< (w1.putObj l (.loop (fK .busy none))).heap.size;omega) g1.2
       refine⟨?_,by omega,g2.2⟩
       rw[World.putObj_heap_other f3,show w3.heap[b]? =(w1.putObj l (.loop (fK .busy none))).heap[b]? from g2.1,World.putObj_heap_other f3]
       exact g1.1
     refine⟨_,_,run_endRound none EY.xl,.inl ⟨rfl,⟨σ2.O,φ3,by rw[e4];exact HH,tK,fun b hb=> ?_⟩,fun b hb hn=> ?_,fun b hb=> ?_⟩⟩
     · rw[e4]
       refine⟨?_,(SX b hb).2.2,(hF b hb).2.2⟩
       rw[show (w3.putObj l (.loop (fK .ready none))).heap.size=w3.heap.size from World.putObj_size ..]
       exact(SX b hb).2.1
     · rw[e4]
       exact(HH.le.cD b hb hn).1.trans (lH.le.cD b hb hn).1.symm
     · rw[e4];exact(SX b hb).1
   ·
     rename_i e2 σ2 uI h2
     simp only[Option.some.injEq,Prod.mk.injEq] at tK
     obtain⟨rfl,rfl⟩:=tK
     refine wpIn_mono (hB l _ _ _ _ _ _ h2 ME) fun ex a3 w3 hq=> ?_
     obtain⟨rfl,_,_,φ3,XP,yx⟩:=hq
     have Ae: ∀ {b:Nat} {o:Go.Obj},(w1.putObj l (.loop (fK .busy none))).heap[b]? =some o→o.isCells=false→o.isWalk=false→w3.heap[b]? =some o:=fun {b o} hb i1 i2=>
       (yx.cD b (Array.getElem?_eq_some_iff.1 hb).1 (ew sh.rel.bg hb i1 i2)).1.trans hb
     have EY:fG X ⟨w,φ,σ.O⟩ σ.T a l Dq (fK .busy none) σ2.O φ3 w3:=⟨⟨fun t=>ak.mono yx (sh.rel.tmps t),XP.bg⟩,sh.le.trans yx,Ae sh.xl rfl rfl,fun D hD=>Ae (sh.RN D hD) rfl rfl⟩
     have HH: ∀c,fG X ⟨w,φ,σ.O⟩ σ.T a l Dq (fK .done (some c)) σ2.O φ3 (w3.putObj l (.loop (fK .done (some c)))):=fun c=>EY.put hl c7
     have e4: ∀c,({fK .busy none with state:=if (some c:Option Code).isNone then .ready else .done,pending:=some c}:Loop)=fK .done (some c):=fun c=>by rw[lC];rfl
     cases e2 with
     | normal=>exact absurd rfl (uI ·)
     | exit id=>exact⟨_,_,run_endRound (some (.exit id)) EY.xl,.inr ⟨rfl,σ2.O,φ3,_,by rw[e4];exact HH _,rfl,.inr ⟨id,rfl,rfl⟩⟩⟩
     | ret=>exact⟨_,_,run_endRound (some .ret) EY.xl,.inr ⟨rfl,σ2.O,φ3,_,by rw[e4];exact HH _,rfl,.inl ⟨rfl,rfl⟩⟩⟩
   · simp at tK
 refine CallsIn.mono (show CallsIn (Fr n.ro) (0 - 1) X.P gf _ W1 _ from key) ?_
 rintro ending W' ⟨⟨v,rfl⟩,(⟨_,O,φ',lH,tK,_⟩ | ⟨k,_,O,φ',c,lH,hσ,hc⟩)⟩
 · rw[List.drop_of_length_le (by omega)] at tK
   simp only[qv,Option.some.injEq,Prod.mk.injEq] at tK
   obtain⟨rfl,rfl⟩:=tK
   exact⟨none,_,by have:=run_endLoop (P:=X.P) lH.xl (by rw[lC];simp);rw[this,lC],rfl,xn jv cH hr.bg hle (lH.put hl c7) fun D hD=> (hDq D hD).1⟩
 · subst hσ
   refine⟨some c,_,by have:=run_endLoop (P:=X.P) lH.xl (by rw[lC];simp);rw[this,lC],?_⟩
   have lB:=xn jv cH hr.bg hle (lH.put (L':=fK .exhausted (some c)) hl c7) fun D hD=> (hDq D hD).1
   rcases hc with⟨rfl,rfl⟩ | ⟨id,rfl,rfl⟩
   · refine wpIn_ret ⟨rfl,?_⟩
     rw[lC] at lB;exact lB
   · refine wpIn_exit ⟨rfl,?_⟩
     rw[lC] at lB;exact lB
end Go.AM
namespace Go.AM
open Go Go.RowKit
def Ends (X:Ctx) (μ0:Mu) (n:Fp) (e:bd) (σ:St):Go.Exit→Go.Act→World→Prop:=fun ex a w=>ex=e.conv∧jh X μ0 n σ a w
section
variable {X:Ctx} {E:Env} {μ0:Mu} {n:Fp}
theorem vr {σ:St} {a:Go.Act} {w:World} (hs:jh X μ0 n σ a w) {c:Operand} {c':aW} (hc:cR X c=some c') {b:Bool} (hb:bo σ c'= .bool b):a.eval c= .bool b:=by
 obtain⟨_,_,φ,hr,_⟩:=hs
 have:=aT hr hc σ.O
 have e:bo ⟨σ.T,σ.O⟩ c'=bo σ c':=rfl
 rw[e,hb] at this
 simpa [ak] using this
theorem kA {h:Hints} {i:Nat} {ops:Array Oper} {d:Bool} {b:Code} {ta tb:al}:zB h (.region i ops d) b ta tb= .seq ta tb:=by
 simp[zB,yh]
theorem EZ {h:Hints} {c:Operand} {x y b:Code} {ta tb:al}:zB h (.cond c x y) b ta tb= .seq ta tb:=by
 simp[zB,yh]
theorem B3 {    h:Hints} {x y:Code} {ax ay:al}:zB h x y ax ay= .seq ax ay∨ ∃iR E0 dR i0 ops cc cx cy b1 i5 gM z5 id iS HI dS rest it nx ne kT kO o1 o5 ka XQ as tc bs tz tR tS uT,
   x= .seq (.region iR E0 dR) (.block id (.loop (.seq (.region i0 ops false) (.seq (.cond cc cx cy) (.block b1 (.seq (.region i5 gM false) z5))))))∧y= .seq (.region iS HI dS) rest∧(ops[0]? =some o1∧o1.op= .next (.tmp it) false∧o1.dst=some nx∧o1.guard=none∧nx<h.n)∧
   (gM[0]? =some o5∧o5.op= .entry (.tmp it)∧o5.dst=some ne∧o5.guard=none∧ne<h.n)∧
   ax= .seq tR (.block ka (.loop (.seq (.region as) (.seq tc (.block XQ (.seq (.region bs) tz))))))∧ay= .seq tS uT∧zB h x y ax ay= .seq tR (.seq (.keys it nx ne id kT kO (.seq (.region (as.drop 1)) tc) (.block XQ (.seq (.region (bs.drop 1)) tz)) tS) uT):=by
 unfold zB
 split
 · rename_i it nx ne id kT kO tR ka as tc XQ bs tz tS uT hk hr
   right
   unfold yh at hk
   split at hk
   · rename_i iR E0 dR id2 i0 ops cc cx cy b1 i5 gM z5
     split at hk
     · rename_i o1 o5 ho XR
       split at hk
       · rename_i it2 nx2 it3 Xo k1 k2 k3 k4 k5 k6
         split at hk
         · split at hk
           · rename_i hn
             simp only[Option.some.injEq,Prod.mk.injEq] at hk
             obtain⟨rfl,rfl,rfl,rfl,rfl,rfl⟩:=hk
             obtain⟨Mo,hn2,rfl⟩:=hn
             unfold zA at hr
             split at hr
             · rename_i iS HI dS rest
               exact⟨iR,E0,dR,i0,ops,cc,cx,cy,b1,i5,gM,z5,id2,iS,HI,dS,rest,it3,nx2,Xo,_,_,o1,o5,ka,XQ,as,tc,bs,tz,tR,tS,uT,rfl,rfl,⟨ho,k1,k2,k3,Mo⟩,⟨XR,k4,k5,k6,hn2⟩,rfl,rfl,rfl⟩
             · simp at hr
           · simp at hk
         · simp at hk
       · simp at hk
     · simp at hk
   · simp at hk
 · exact .inl rfl
def KJ (X:Ctx) (E:Env):Prop:= ∀g F caps xs,E.iter g caps=some xs→X.jR F=some g→ ∀ (μ:Mu) (lb:Array Value),aj X μ caps lb.toList→bu X μ→ue X μ F lb xs
theorem B4 (     hm:X.P.follows .mixedOrders=true) (rW:KJ X E) {h:Hints}: ∀ (fuel:Nat),(∀m,m<fuel→nG X E (dm E (exec E m)))→ ∀ {n:Fp} (hn:h.n=n.1) {μ0:Mu} (c:Code) (ac:al) (σ σ':St) (e:bd) (a:Go.Act) (w:World),
   cQ X h c=some ac→exec E fuel ac σ=some (e,σ')→jh X μ0 n σ a w→c.wpIn (Fr n.ro) 0 X.P (Ends X μ0 n e σ') a w:=by
 intro fuel
 induction fuel using Nat.strongRecOn with
 | _ Af S5=>
   intro hH n hn μ0 c
   rcases Nat.eq_zero_or_pos Af with h0| yy
   · subst h0;intro ac σ σ' e a w _ ah;simp[exec] at ah
   obtain⟨fuel,rfl⟩: ∃f,Af=f+1:=⟨Af - 1,by omega⟩
   have FT: ∀m,m<fuel→nG X E (dm E (exec E m)):=fun m KE=>hH m (by omega)
   have ih:=S5 fuel (by omega)
   have H:=hH fuel (by omega)
   cases c with
   | skip=>
     intro ac σ σ' e a w aR ah hs
     simp[cQ] at aR;subst aR
     simp[exec,aJ] at ah
     obtain⟨rfl,rfl⟩:=ah
     exact wpIn_skip ⟨rfl,hs⟩
   | region id ops d=>
     intro ac σ σ' e a w aR ah hs
     cases d with
     | false=>
       simp only[cQ,Option.map_eq_some_iff] at aR
       obtain⟨as,h1,rfl⟩:=aR
       simp only[exec,aJ,Option.map_eq_some_iff,Prod.mk.injEq] at ah
       obtain⟨σ1,h2,rfl,rfl⟩:=ah
       refine wpIn_region ?_
       rw[List.range_eq_range']
       exact eJ H hn h1 ops.size 0 (by omega) hs (by simpa using h2) fun a' w' kQ=> ⟨rfl,kQ⟩
     | true=>
       simp only[cQ,Option.map_eq_some_iff] at aR
       obtain⟨as,h1,rfl⟩:=aR
       simp only[exec,aJ,Option.map_eq_some_iff,Prod.mk.injEq] at ah
       obtain⟨σ1,h2,rfl,rfl⟩:=ah
       exact Aa H hm hn h1 hs h2 fun a' w' kQ=> ⟨rfl,kQ⟩
   | seq x y=>
     intro ac σ σ' e a w aR ah hs
     simp only[cQ] at aR
     split at aR
     · rename_i ax ay h1 h2
       injection aR with aR;subst aR
       rcases B3 (h:=h) (x:=x) (y:=y) (ax:=ax) (ay:=ay) with hk| hk
       rotate_left
       · obtain⟨iR,E0,dR,i0,ops,cc,cx,cy,b1,i5,gM,z5,id,iS,HI,dS,rest,it,nx,ne,kT,kO,o1,o5,ka,XQ,as,tc,bs,tz,tR,tS,uT,rfl,rfl,⟨ho,k1,k2,k3,xj⟩,⟨XR,k4,k5,k6,c7⟩,rfl,rfl,hk⟩:=hk
         rw[hk] at ah
         simp only[cQ] at h1 h2
         split at h1
         rotate_left
         · simp at h1
         rename_i t1 t2 g1 g2
         rw[kA] at h1
         simp only[Option.some.injEq,al.seq.injEq] at h1
         obtain⟨rfl,rfl⟩:=h1
         split at h2
         rotate_left
         · simp at h2
         rename_i t3 t4 g3 g4
         rw[kA] at h2
         simp only[Option.some.injEq,al.seq.injEq] at h2
         obtain⟨rfl,rfl⟩:=h2
         rw[Option.map_eq_some_iff] at g2
         obtain⟨q1,g2,e2⟩:=g2
         rw[Option.map_eq_some_iff] at g2
         obtain⟨q2,g2,e1⟩:=g2
         subst e1
         simp only[al.block.injEq,al.loop.injEq] at e2
         obtain⟨rfl,e2⟩:=e2
         subst e2
         split at g2
         rotate_left
         · simp at g2
         rename_i t5 t6 g5 g6
         rw[kA] at g2
         simp only[Option.some.injEq,al.seq.injEq] at g2
         obtain⟨e3,e4⟩:=g2
         subst e3 e4
         rw[Option.map_eq_some_iff] at g5
         obtain⟨l,g5,e4⟩:=g5
         simp only[al.region.injEq] at e4
         subst e4
         split at g6
         rotate_left
         · simp at g6
         rename_i t7 t8 g7 g8
         rw[EZ] at g6
         simp only[Option.some.injEq,al.seq.injEq] at g6
         obtain⟨e5,e6⟩:=g6
         subst e5 e6
         rw[Option.map_eq_some_iff] at g8
         obtain⟨q3,g8,e7⟩:=g8
         simp only[al.block.injEq] at e7
         obtain⟨rfl,e7⟩:=e7
         subst e7
         split at g8
         rotate_left
         · simp at g8
         rename_i t9 t10 g9 HJ
         rw[kA] at g8
         simp only[Option.some.injEq,al.seq.injEq] at g8
         obtain⟨e8,e9⟩:=g8
         subst e8 e9
         rw[Option.map_eq_some_iff] at g9
         obtain⟨l5,g9,e10⟩:=g9
         simp only[al.region.injEq] at e10
         subst e10
         simp only[exec,aJ] at ah
         refine wpIn_seq (wpIn_seq ?_)
         split at ah
         rotate_left
         · rename_i r uW
           refine wpIn_mono (ih FT hn (.region iR E0 dR) _ σ σ' e a w (by simpa only[cQ] using g1) ah hs) fun ex a' w' hq=> ?_
           obtain⟨rfl,kQ⟩:=hq
           cases e with
           | normal=>exact absurd ah (uW σ')
           | exit id=>exact⟨rfl,kQ⟩
           | ret=>exact⟨rfl,kQ⟩
         rename_i σ1 hx
         refine wpIn_mono (ih FT hn (.region iR E0 dR) _ σ σ1 .normal a w (by simpa only[cQ] using g1) hx hs) fun ex a' w' hq=> ?_
         obtain⟨rfl,tI⟩:=hq
         rcases Nat.eq_zero_or_pos fuel with hf| hf
         · subst hf;simp[exec] at ah
         obtain⟨f1,rfl⟩: ∃f,fuel=f+1:=⟨fuel - 1,by omega⟩
         simp only[exec,aJ] at ah
         rcases Nat.eq_zero_or_pos f1 with hf1| hf1
         · subst hf1;simp[exec] at ah
         obtain⟨f2,rfl⟩: ∃f,f1=f+1:=⟨f1 - 1,by omega⟩
         have hB:yu X n ops (.cond cc cx cy) (exec E f2) (.seq (.region ((l.map fun o=> {o with pre:=[]}).drop 1)) t7):=by
           intro s s' e' μ1 a1 w1 Q K hb lB hQ hK
           rcases Nat.eq_zero_or_pos f2 with HK| HK
           · subst HK;simp[exec] at hb
           obtain⟨f3,rfl⟩: ∃f,f2=f+1:=⟨f2 - 1,by omega⟩
           simp only[exec,aJ] at hb
           rcases Nat.eq_zero_or_pos f3 with XS| XS
           · subst XS;simp[exec] at hb
           obtain⟨f4,rfl⟩: ∃f,f3=f+1:=⟨f3 - 1,by omega⟩
           have cH:0 <ops.size:=(Array.getElem?_eq_some_iff.1 ho).1
           split at hb
           rotate_left
           · rename_i r uW
             simp only[exec,aJ,Option.map_eq_some_iff,Prod.mk.injEq] at hb
             obtain⟨s1,h3,rfl,rfl⟩:=hb
             exact absurd (by simp only[exec,aJ,h3,Option.map_some]) (uW s1)
           rename_i s1 HL
           simp only[exec,aJ,Option.map_eq_some_iff,Prod.mk.injEq,true_and] at HL
           obtain⟨s2,h3,rfl⟩:=HL
           refine eJ (hH f4 (by omega)) hn g5 (ops.size - 1) 1 (by omega) lB (by rw[List.map_drop];exact h3) fun a2 w2 yZ=>hK _ _ ?_
           refine wpIn_mono (S5 (f4+1) (by omega) (fun m KE=>hH m (by omega)) hn (.cond cc cx cy) t7 s2 s' e' a2 w2 (by simpa only[cQ] using g7) hb yZ) fun ex a3 w3 hq=> ?_
           obtain⟨rfl,C2⟩:=hq
           have:=hQ a3 w3 C2
           cases e'<;>exact this
         have hM:BZ X n gM z5 b1 (exec E f2) (.block b1 (.seq (.region ((l5.map fun o=> {o with pre:=[]}).drop 1)) t10)):=by
           intro s s' μ1 a1 w1 Q hb lB hQ
           rcases Nat.eq_zero_or_pos f2 with HK| HK
           · subst HK;simp[exec] at hb
           obtain⟨f3,rfl⟩: ∃f,f2=f+1:=⟨f2 - 1,by omega⟩
           simp only[exec,aJ] at hb
           rcases Nat.eq_zero_or_pos f3 with XS| XS
           · subst XS;simp[exec] at hb
           obtain⟨f4,rfl⟩: ∃f,f3=f+1:=⟨f3 - 1,by omega⟩
           have cH:0 <gM.size:=(Array.getElem?_eq_some_iff.1 XR).1
           have inner: ∀e' (R:Go.Exit→Go.Act→World→Prop),exec E (f4+1) (.seq (.region ((l5.map fun o=> {o with pre:=[]}).drop 1)) t10) s=some (e',s')→(∀a' w',jh X μ1 n s' a' w'→R e'.conv a' w')→wpOpsIn (Fr n.ro) 0 X.P gM (Exit.then (z5.wpIn (Fr n.ro) 0 X.P R) R) (List.range' 1 (gM.size - 1)) a1 w1:=by
             intro e' R hb hR
             simp only[exec,aJ] at hb
             rcases Nat.eq_zero_or_pos f4 with hf4| hf4
             · subst hf4;simp[exec] at hb
             obtain⟨f5,rfl⟩: ∃f,f4=f+1:=⟨f4 - 1,by omega⟩
             split at hb
             rotate_left
             · rename_i r uW
               simp only[exec,aJ,Option.map_eq_some_iff,Prod.mk.injEq] at hb
               obtain⟨s1,h3,rfl,rfl⟩:=hb
               exact absurd (by simp only[exec,aJ,h3,Option.map_some]) (uW s1)
             rename_i s1 HL
             simp only[exec,aJ,Option.map_eq_some_iff,Prod.mk.injEq,true_and] at HL
             obtain⟨s2,h3,rfl⟩:=HL
             refine eJ (hH f5 (by omega)) hn g9 (gM.size - 1) 1 (by omega) lB (by rw[List.map_drop];exact h3) fun a2 w2 yZ=> ?_
             refine wpIn_mono (S5 (f5+1) (by omega) (fun m KE=>hH m (by omega)) hn z5 t10 s2 s' e' a2 w2 HJ hb yZ) fun ex a3 w3 hq=> ?_
             obtain⟨rfl,C2⟩:=hq
             exact hR a3 w3 C2
           split at hb
           · rename_i ka s1 lH
             split at hb
             · rename_i heq
               simp only[Option.some.injEq,Prod.mk.injEq,true_and] at hb
               subst hb;subst heq
               exact inner _ _ lH fun a' w' kQ=>by
                simp only[bd.conv,Go.Exit.inBlock,if_true]
                exact hQ a' w' kQ
             · simp at hb
           · exact inner _ _ hb fun a' w' kQ=>hQ a' w' kQ
         split at ah
         rotate_left
         · rename_i r uW
           obtain⟨rfl,_⟩:=vq (μ0:=μ0) (i0:=i0) (i5:=i5) hB hM ho k1 k2 k3 (by rw[←hn];exact xj) XR k4 k5 k6 (by rw[←hn];exact c7) ah tI
           exact absurd ah (uW σ')
         rename_i σ2 hkr
         obtain⟨_,hwp⟩:=vq (μ0:=μ0) (i0:=i0) (i5:=i5) hB hM ho k1 k2 k3 (by rw[←hn];exact xj) XR k4 k5 k6 (by rw[←hn];exact c7) hkr tI
         refine wpIn_mono hwp fun ex a2 w2 hq=> ?_
         obtain⟨rfl,σe,σp,q1,q2,q3⟩:=hq
         refine wpIn_seq ?_
         refine wpIn_mono (S5 f2 (by omega) (fun m KE=>hH m (by omega)) hn (.region iS HI dS) _ σe σp .normal a2 w2 (by simpa only[cQ] using g3) q2 q1) fun ex a3 w3 hq=> ?_
         obtain⟨rfl,C2⟩:=hq
         exact S5 (f2+1) (by omega) (fun m KE=>hH m (by omega)) hn rest _ σ2 σ' e a3 w3 g4 ah (q3 a3 w3 C2)
       rw[hk] at ah
       simp only[exec,aJ] at ah
       refine wpIn_seq ?_
       split at ah
       · rename_i σ1 hx
         refine wpIn_mono (ih FT hn x ax σ σ1 .normal a w h1 hx hs) fun ex a' w' hq=> ?_
         obtain⟨rfl,kQ⟩:=hq
         exact ih FT hn y ay σ1 σ' e a' w' h2 ah kQ
       · rename_i r c7
         refine wpIn_mono (ih FT hn x ax σ σ' e a w h1 ah hs) fun ex a' w' hq=> ?_
         obtain⟨rfl,kQ⟩:=hq
         cases e with
         | normal=>exact absurd ah (c7 σ')
         | exit id=>exact⟨rfl,kQ⟩
         | ret=>exact⟨rfl,kQ⟩
     · simp at aR
   | cond c x y=>
     intro ac σ σ' e a w aR ah hs
     simp only[cQ] at aR
     split at aR
     · rename_i c' ax ay h0 h1 h2
       injection aR with aR;subst aR
       simp only[exec,aJ] at ah
       split at ah
       · rename_i hb
         exact wpIn_cond_true (vr hs h0 hb) (ih FT hn x ax σ σ' e a w h1 ah hs)
       · rename_i hb
         exact wpIn_cond_false (vr hs h0 hb) (ih FT hn y ay σ σ' e a w h2 ah hs)
       · simp at ah
     · simp at aR
   | block id b=>
     intro ac σ σ' e a w aR ah hs
     simp only[cQ,Option.map_eq_some_iff] at aR
     obtain⟨ab,h1,rfl⟩:=aR
     simp only[exec,aJ] at ah
     refine wpIn_block ?_
     split at ah
     · rename_i ka σ1 hb
       refine wpIn_mono (ih FT hn b ab σ σ1 (.exit ka) a w h1 hb hs) fun ex a' w' hq=> ?_
       obtain⟨rfl,kQ⟩:=hq
       simp only[bd.conv,Go.Exit.inBlock]
       split at ah
       · rename_i heq
         simp only[Option.some.injEq,Prod.mk.injEq] at ah
         obtain⟨rfl,rfl⟩:=ah
         rw[if_pos heq]
         exact⟨rfl,kQ⟩
       · rename_i c7
         simp only[Option.some.injEq,Prod.mk.injEq] at ah
         obtain⟨rfl,rfl⟩:=ah
         rw[if_neg c7]
         exact⟨rfl,kQ⟩
     · rename_i r c7
       refine wpIn_mono (ih FT hn b ab σ σ' e a w h1 ah hs) fun ex a' w' hq=> ?_
       obtain⟨rfl,kQ⟩:=hq
       cases e with
       | normal=>exact⟨rfl,kQ⟩
       | exit ka=>exact absurd ah (c7 ka σ')
       | ret=>exact⟨rfl,kQ⟩
   | loop b=>
     intro ac σ σ' e a w aR ah hs
     simp only[cQ,Option.map_eq_some_iff] at aR
     obtain⟨ab,h1,rfl⟩:=aR
     have rounds: ∀ (k:Nat),k≤fuel+1→ ∀ (σ:St),exec E k (.loop ab) σ=some (e,σ')→ ∃m,∀a w,jh X μ0 n σ a w→Code.roundsIn (Fr n.ro) 0 X.P b (Ends X μ0 n e σ') m a w:=by
       intro k
       induction k with
       | zero=>intro _ σ hr;simp[exec] at hr
       | succ k ihk=>
         intro hk σ hr
         simp only[exec,aJ] at hr
         have body: ∀ (σ1:St) (e1:bd),exec E k ab σ=some (e1,σ1)→ ∀a w,jh X μ0 n σ a w→b.wpIn (Fr n.ro) 0 X.P (Ends X μ0 n e1 σ1) a w:=fun σ1 e1 hx a w hs=>
           S5 k (by omega) (fun m KE=>hH m (by omega)) hn b ab σ σ1 e1 a w h1 hx hs
         split at hr
         · rename_i σ1 hx
           obtain⟨m,KL⟩:=ihk (by omega) σ1 hr
           refine⟨m+1,fun a w hs=> ?_⟩
           rw[roundsIn_succ]
           refine wpIn_mono (body σ1 .normal hx a w hs) fun ex a' w' hq=> ?_
           obtain⟨rfl,kQ⟩:=hq
           exact KL a' w' kQ
         · rename_i r c7
           refine⟨1,fun a w hs=> ?_⟩
           rw[roundsIn_succ]
           refine wpIn_mono (body σ' e hr a w hs) fun ex a' w' hq=> ?_
           obtain⟨rfl,kQ⟩:=hq
           cases e with
           | normal=>exact absurd hr (c7 σ')
           | exit ka=>exact⟨rfl,kQ⟩
           | ret=>exact⟨rfl,kQ⟩
     obtain⟨m,KE⟩:=rounds (fuel+1) (Nat.le_refl _) σ ah
     exact wpIn_loop_rounds m (KE a w hs)
   | exit id=>
     intro ac σ σ' e a w aR ah hs
     simp[cQ] at aR;subst aR
     simp[exec,aJ] at ah
     obtain⟨rfl,rfl⟩:=ah
     exact wpIn_exit ⟨rfl,hs⟩
   | ret=>
     intro ac σ σ' e a w aR ah hs
     simp[cQ] at aR;subst aR
     simp[exec,aJ] at ah
     obtain⟨rfl,rfl⟩:=ah
     exact wpIn_ret ⟨rfl,hs⟩
   | label l=>
     intro ac σ σ' e a w aR ah hs
     simp[cQ] at aR;subst aR
     simp[exec,aJ] at ah
     obtain⟨rfl,rfl⟩:=ah
     exact wpIn_label ⟨rfl,hs⟩
   | scope b=>
     intro ac σ σ' e a w aR ah hs
     simp only[cQ,Option.map_eq_some_iff] at aR
     obtain⟨ab,h1,rfl⟩:=aR
     simp only[exec,aJ] at ah
     refine B5 ?_
     refine wpIn_mono (ih FT hn b ab σ σ' e a w h1 ah hs) fun ex a' w' hq=> ?_
     obtain⟨rfl,kQ⟩:=hq
     cases e<;>exact⟨rfl,kQ⟩
   | rangeFunc f ps x y=>
     intro ac σ σ' e a w aR ah hs
     simp only[cQ] at aR
     split at aR
     rotate_left
     · simp at aR
     rename_i f' ax ay h0 h1 h2
     split at aR
     rotate_left
     · simp at aR
     rename_i vW
     injection aR with aR;subst aR
     simp only[exec,aJ] at ah
     split at ah
     · rename_i g caps tZ
       split at ah
       · rename_i xs CI
         split at ah
         · rename_i hlen
           obtain⟨jv,cH,φ,hr,hle⟩:=hs
           have hf:=aT hr h0 σ.O
           have hf':bo ⟨σ.T,σ.O⟩ f'= .fn g caps:=tZ
           rw[hf'] at hf
           simp only[ak] at hf
           obtain⟨F,cv,hF,RO,MF⟩:=hf
           refine Ad (lb:=cv) (xs:=xs) (rec:=exec E fuel) ?_ ?_ ⟨jv,cH,φ,hr,hle⟩ ?_ hF ?_ ?_ ah
           · intro l s s' e' m b v hb lB
             exact ih FT (n:=⟨n.tm,0,some l⟩) hn x ax s s' e' b v h1 hb lB
           · intro l s s' e' m b v hb lB
             exact ih FT (n:=⟨n.tm,0,some l⟩) hn y ay s s' e' b v h2 hb lB
           · intro p hp
             rw[List.all_eq_true] at vW
             have:=vW p hp
             rw[Nat.blt_eq] at this
             rw[hn] at this
             exact this
           · intro φ2 oH
             exact rW g F caps xs CI RO ⟨w,φ2,σ.O⟩ cv (by
               have HK:=aT oH h0 σ.O
               have abT:bo ⟨σ.T,σ.O⟩ f'= .fn g caps:=tZ
               rw[abT] at HK
               simp only[ak] at HK
               obtain⟨F2,cv2,hF2,_,RP⟩:=HK
               rw[hF] at hF2
               injection hF2 with _ _ e3
               rw[e3];exact RP) oH.bg
           · intro x hx
             rw[List.all_eq_true] at hlen
             have:=hlen x hx
             rw[Nat.beq_eq] at this
             simpa using this
         · simp at ah
       · simp at ah
     · simp at ah
   | goto l=>
     intro ac σ σ' e a w aR ah hs
     simp[cQ] at aR;subst aR
     simp[exec,aJ] at ah
   | refuse y=>
     intro ac σ σ' e a w aR ah hs
     simp[cQ] at aR;subst aR
     simp[exec,aJ] at ah
end
end Go.AM
