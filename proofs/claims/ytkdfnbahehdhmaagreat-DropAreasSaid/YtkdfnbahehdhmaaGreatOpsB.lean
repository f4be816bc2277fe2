/-
  Texts of the proof, joined by program: AmOps8, AmOps9, AmCall1, AmMap, AmDisp, AmExec, AmDraw, AmLoopM, AmRange, AmCode. Own work.
-/
import Derived.Test.YtkdfnbahehdhmaaGreatOpsA
import Derived.Test.YtkdfnbahehdhmaaGreatTail
import Derived.Test.YtkdfnbahehdhmaaGreatDefs
import Derived.MapKept
import Derived.Scope
import Derived.Laws.IdiomRangeMap
set_option linter.unusedSimpArgs false
set_option linter.unusedVariables false
namespace Go.AM
open Go Go.RowKit
section
variable {X:Ctx} {E:Env} {C:aO} {o:Oper} {a:Go.Act} {T:Nat→V} {μ:Mu} {v:V} {σ':St}
theorem y6 (bs:List UInt8):flat (bs.map fun b=>Value.int .u8 b.toNat)=bs.map fun b=>Value.int .u8 b.toNat:=by
 induction bs with
 | nil=>rfl
 | cons b bs ih=>simp only[List.map_cons,flat,List.flatMap_cons] at ih ⊢;rw[ih];rfl
theorem ah.bytes (bs:List UInt8):ah X μ (bs.map fun b=>V.int .u8 b.toNat) (bs.map fun b=>Value.int .u8 b.toNat):=by
 induction bs with
 | nil=>simp[ah]
 | cons b bs ih=>simp only[List.map_cons,ah];exact⟨by simp[aj],ih⟩
theorem mB {sz:Nat} {x:V} {xv:Value} {k:List V→Act} {p:V×St} (ho:aS X μ) (hx:aj X μ x xv) (ag: (content sz x k).run C ⟨T,μ.O⟩=some p):
  ∃ys us,(k ys).run C ⟨T,μ.O⟩=some p∧ah X μ ys us∧(Builtin.lenOf xv).run X.P μ.w= .ok ys.length μ.w∧
    ∀w',w'.heap=μ.w.heap→ ∀n,n≤ys.length→(Builtin.firstCells sz n xv).run X.P w'= .ok (flat (us.take n)).toArray w':=by
 cases x<;>simp only[content] at ag<;>try exact absurd ag aq
 ·
  split at ag
  · rename_i s hs
    simp only[aj] at hx
    obtain⟨bs,rfl,rfl⟩:=hx
    refine⟨_,_,ag,ah.bytes _,?_,fun w' gJ n hn=> ?_⟩
    · simp only[Builtin.lenOf,Sem.run_pure,List.length_map];rw[bG];rfl
    · have: (bs.extract 0 n).data.map (fun b=>Value.int .u8 b.toNat)=(flat ((bs.data.toList.map fun b=>Value.int .u8 b.toNat).take n)).toArray:=by
        rw[←List.map_take,y6]
        apply Array.ext'
        simp[ByteArray.data_extract,Array.toList_extract,List.extract_eq_take_drop]
      simp only[Builtin.firstCells,Sem.run_pure,this]
  · exact absurd ag aq
 ·
  simp only[aj] at hx
  obtain⟨q,rfl⟩:=hx
  refine⟨[],[],ag,by simp[ah],by simp[Builtin.lenOf],fun w' gJ n hn=> ?_⟩
  have:n=0:=by simpa using hn
  subst this
  cases q<;>simp[Builtin.firstCells,loadCells,loadCellsFrom,flat]
 ·
  split at ag
  · rename_i sz' xs hs
    subst hs
    simp only[aj] at hx
    obtain⟨_,_,q,cap,vs,rfl,_,nn,il⟩:=hx
    refine⟨xs,vs,ag,nn,by simp[Builtin.lenOf],fun w' gJ n hn=> ?_⟩
    rcases il with rfl| ⟨b,q',rfl,_,_,dn⟩
    · have:n=0:=by simpa using hn
      subst this
      cases q<;>simp[Builtin.firstCells,loadCells,loadCellsFrom,flat]
    · simp only[Builtin.firstCells]
      exact pD (dn.bZ (by rw[gJ])) (by rw[←nn.length];exact hn)
  · exact absurd ag aq
 ·
  rename_i r g off len
  simp only[Act.run] at ag
  split at ag
  · rename_i es bp
    split at ag
    · rename_i hc
      obtain⟨s8,s9,MA⟩:=hc
      simp only[aj] at hx
      obtain⟨q,cap,rfl,hle,_,b9⟩:=hx
      obtain⟨k0,k1,k2⟩:=b9 s8
      have mj: (aF es off len).length=len:=by simp[aF];omega
      obtain⟨q1,q2,q3,q4⟩:=ho.row r es bp k0
      by_cases cP:cap=0
      · have yi:len=0:=by omega
        subst yi
        refine⟨_,[],ag,by simp[aF,ah],by simp[Builtin.lenOf,aF],fun w' gJ n hn=> ?_⟩
        have:n=0:=by simpa [aF] using hn
        subst this
        cases q<;>simp[Builtin.firstCells,loadCells,loadCellsFrom,flat]
      · rcases q4 with q4| ⟨cc,TT,vs,p1,p2,p3,p4⟩
        · omega
        · have Hp:=k2.resolve_left cP
          subst Hp
          refine⟨_,(vs.drop off).take len,ag,ah.take _ (ah.drop _ p3),by simp only[Builtin.lenOf,Sem.run_pure,mj],fun w' gJ n hn=> ?_⟩
          simp only[Builtin.firstCells]
          have mC:=(p4.drop off).take len
          rw[s9] at mC
          rw[s9]
          refine pD (mC.bZ (by rw[gJ])) ?_
          rw[mj] at hn
          have:=p3.length
          simp;omega
    · exact absurd ag aq
  · exact absurd ag aq
theorem ud (bA:Nat): ∀ (k c:Nat),c≤bA+(bA+768) / 4→Builtin.growBy bA k c≤bA+(bA+768) / 4
 | 0,c,h=>h
 | k+1,c,h=>by
   simp only[Builtin.growBy]
   split
   · exact h
   · exact ud bA k _ (by omega)
theorem y7 {bA old:Nat} (h:old<bA):Builtin.nextslicecap bA old≤2*bA+192:=by
 unfold Builtin.nextslicecap
 split
 · omega
 · split
   · omega
   · have:=ud bA 4 old (by omega)
     omega
theorem Dd {bA old bytes:Nat} (h:old<bA) (hl:bA≤ml bytes): ¬Builtin.nextslicecap bA old*bytes >2 ^ 48∧ ¬ ((bA:Int) >IntKind.i64.max):=by
 unfold ml at hl
 have h1:=y7 h
 have h2:bA+200≤140737488355328 / (bytes+1):=by omega
 have h3: (bA+200)*(bytes+1)≤140737488355328:=(Nat.le_div_iff_mul_le (by omega)).1 h2
 have h4:Builtin.nextslicecap bA old*bytes≤(2*(bA+200))*(bytes+1):=Nat.mul_le_mul (by omega) (by omega)
 have h5: (2*(bA+200))*(bytes+1)=2*((bA+200)*(bytes+1)):=by rw[Nat.mul_assoc]
 have h6: (2:Nat) ^ 48=281474976710656:=by decide
 have h7:bA+200≤(bA+200)*(bytes+1):=Nat.le_mul_of_pos_right _ (by omega)
 have h8:IntKind.i64.max=9223372036854775807:=by decide
 refine⟨by omega,by rw[h8];omega⟩
theorem gr {sT xT e:TypeId} {d:TypeDesc} {sz n sLen sCap:Nat} {base:Option Addr} {xv:Value} {new:Array Value} {w w':World} {ty:TypeId}
  (hd:X.P.underlying sT=some (.slice e)) (hx:X.P.underlying xT=some d) (Bi: ∀k,d≠ .int k) (hn:ba X e=some sz) (hl: (Builtin.lenOf xv).run X.P w= .ok n w)
  (fk:sLen+n≤sCap) (mT: (Builtin.firstCells sz n xv).run X.P w= .ok new w)
  (kM:match base with| some p=> (storeCells (p.add (sLen*sz)) new.toList).run X.P w= .ok () w'| none=>w'=w):
  (Builtin.append_ #[sT,xT] ty #[.slice base sLen sCap,xv]).run X.P w= .ok (.slice base (sLen+n) sCap) w':=by
 have hm: (match d with| .int _=>true| _=>false)=false:=by
  cases d<;>first| rfl| exact absurd rfl (Bi _)
 have Gc: (#[sT,xT]:Array TypeId)[0]? =some sT:=rfl
 have De: (#[sT,xT]:Array TypeId)[1]? =some xT:=rfl
 have EM: (#[Value.slice base sLen sCap,xv]:Array Value)[0]? =some (.slice base sLen sCap):=rfl
 have EN: (#[Value.slice base sLen sCap,xv]:Array Value)[1]? =some xv:=rfl
 simp only[Builtin.append_,Gc,De,EM,EN,Sem.run_bind,run_underlying hd,Result.andThen_ok,cA hn,run_underlying hx,Sem.run_pure,hm,Bool.false_eq_true,if_false,hl]
 rw[if_pos fk]
 simp only[Bool.not_false,if_true,Sem.run_bind,mT,Result.andThen_ok]
 cases base with
 | none=>simp only at kM;subst kM;simp
 | some p=>simp only at kM;simp[Sem.run_bind,kM]
theorem j7 {sT xT e:TypeId} {d:TypeDesc} {sz n sLen sCap:Nat} {base:Option Addr} {xv zv:Value} {old new:Array Value} {w:World} {ty:TypeId} {i:TypeInfo}
  (hd:X.P.underlying sT=some (.slice e)) (hx:X.P.underlying xT=some d) (Bi: ∀k,d≠ .int k) (hn:ba X e=some sz) (hi:X.P.info? e=some i)
  (hz: ∀w,(zeroValue e).run X.P w= .ok zv w) (hl: (Builtin.lenOf xv).run X.P w= .ok n w) (js:sCap<sLen+n) (wV:sLen+n≤ml i.bytes)
  (hold: (Builtin.firstCells sz sLen (.slice base sLen sCap)).run X.P w.drew= .ok old w.drew) (mT: (Builtin.firstCells sz n xv).run X.P w.drew= .ok new w.drew):
  ∃newCap,sLen+n≤newCap∧(Builtin.append_ #[sT,xT] ty #[.slice base sLen sCap,xv]).run X.P w=
   .ok (.slice (some ⟨w.heap.size,0,none⟩) (sLen+n) newCap) (w.drew.alloc (.cells (old++new++Builtin.zeroCells zv.cells (newCap - (sLen+n))) e)):=by
 have hm: (match d with| .int _=>true| _=>false)=false:=by
  cases d<;>first| rfl| exact absurd rfl (Bi _)
 have Gc: (#[sT,xT]:Array TypeId)[0]? =some sT:=rfl
 have De: (#[sT,xT]:Array TypeId)[1]? =some xT:=rfl
 have EM: (#[Value.slice base sLen sCap,xv]:Array Value)[0]? =some (.slice base sLen sCap):=rfl
 have EN: (#[Value.slice base sLen sCap,xv]:Array Value)[1]? =some xv:=rfl
 obtain⟨r1,r2⟩:=Dd js wV
 refine⟨(Question.appendCap (sLen+n) sCap e).cut (w.tape w.drawn (.appendCap (sLen+n) sCap e)),by simp[Question.cut],?_⟩
 simp only[Builtin.append_,Gc,De,EM,EN,Sem.run_bind,run_underlying hd,Result.andThen_ok,cA hn,run_underlying hx,Sem.run_pure,hm,Bool.false_eq_true,if_false,hl]
 rw[if_neg (by omega)]
 simp only[Sem.run_bind,run_typeInfo w hi,Result.andThen_ok]
 have c2: ¬ (((sLen+n:Nat):Int) >IntKind.i64.max∧(False∨i.bytes=0)):=fun h=>r2 h.1
 rw[if_neg c2]
 simp only[Sem.run_bind,run_typeInfo w hi,Result.andThen_ok]
 rw[if_neg r1]
 have Rg: (choose (.appendCap (sLen+n) sCap e)).run X.P w= .ok ((Question.appendCap (sLen+n) sCap e).cut (w.tape w.drawn (.appendCap (sLen+n) sCap e))) w.drew:=by
  rw[run_choose];simp only[Question.forced,Bool.false_eq_true,if_false];rfl
 simp only[Sem.run_bind,Rg,Result.andThen_ok,run_typeInfo w.drew hi,run_askRoom,hold,Bool.not_false,if_true,mT,hz,Sem.run_pure,newRow,run_newObj]
 rfl
theorem wW {us rest:List Value} {sz:Nat} (h: ∀u ∈ us,u.cells.size=sz):cQ (flat us++rest) 0 sz us:=by
 intro i v hv
 have hm:=h v (List.mem_of_getElem? hv)
 refine⟨hm,fun j x hx=> ?_⟩
 have:=ov h hv hx
 have bJ:i*sz+j< (flat us).length:=(List.getElem?_eq_some_iff.1 this).1
 rw[Nat.zero_add,List.getElem?_append_left bJ];exact this
theorem wX (us vs:List Value):flat (us++vs)=flat us++flat vs:=by simp[flat]
theorem kS {zv:Value} {sz n:Nat} (h:zv.cells.size=sz): (Builtin.zeroCells zv.cells n).size=n*sz:=by simp[Builtin.zeroCells,h]
theorem Bj {α:Type} {n:Nat} {l:List α} (h:l.length≤n):l.take n=l:=List.take_of_length_le h
theorem wY {O1:Nat→Obj} (hO:aS X ⟨μ.w,μ.φ,O1⟩) {r sz newCap:Nat} {olds ys:List V} {ous us:List Value} {zv:Value} {e:TypeId} {o0:Obj}
  (Zl:o0={gen:=o0.gen,sz:=sz,arr:=true,fz:=false,es:=some (olds++ys)}) (UO:o0.gen=(O1 r).gen+1)
  (b5:0 <sz) (h1:ah X ⟨μ.w,μ.φ,O1⟩ olds ous) (h2:ah X ⟨μ.w,μ.φ,O1⟩ ys us) (b1:olds.all (aH · sz)=true) (b2:ys.all (aH · sz)=true)
  (hz:zv.cells.size=sz) (cP:olds.length+ys.length≤newCap):
  let μ':Mu:=⟨μ.w.drew.alloc (.cells ((flat ous).toArray++(flat us).toArray++Builtin.zeroCells zv.cells (newCap - (olds.length+ys.length))) e),cW μ.φ r ⟨μ.w.heap.size,0,newCap⟩,cW O1 r o0⟩
  Le ⟨μ.w,μ.φ,O1⟩ μ'∧aS X μ':=by
 intro μ'
 obtain⟨Rh,VR⟩:=Le.drew (X:=X) (μ:=⟨μ.w,μ.φ,O1⟩) hO
 have bz:ah X ⟨μ.w.drew,μ.φ,O1⟩ (olds++ys) (ous++us):=ah.mono Rh (h1.append h2)
 have hs: ∀u ∈ ous++us,u.cells.size=sz:=((h1.append h2).pE (sz:=sz) (by simp only[List.all_append,b1,b2,Bool.and_self])).1
 have Ug:=h1.length
 have zZ:=h2.length
 have vR:=eM hs
 have sV: ((flat ous).toArray++(flat us).toArray++Builtin.zeroCells zv.cells (newCap - (olds.length+ys.length))).toList=flat (ous++us)++(Builtin.zeroCells zv.cells (newCap - (olds.length+ys.length))).toList:=by
  simp[wX]
 have jc:newCap*sz≤((flat ous).toArray++(flat us).toArray++Builtin.zeroCells zv.cells (newCap - (olds.length+ys.length))).size:=by
  rw[←bG,sV,List.length_append,vR,bG (Builtin.zeroCells _ _),kS hz,←Nat.add_mul]
  apply Nat.mul_le_mul_right
  rw[List.length_append];omega
 have:=vj (X:=X) (μ:=⟨μ.w.drew,μ.φ,O1⟩) VR r sz newCap true (es:=olds++ys) (vs:=ous++us) (c:=(flat ous).toArray++(flat us).toArray++Builtin.zeroCells zv.cells (newCap - (olds.length+ys.length))) e b5
  (by simp;omega) (by simp only[List.all_append,b1,b2,Bool.and_self]) bz jc (fun i u hu=>by
    have sU:=wW (rest:=(Builtin.zeroCells zv.cells (newCap - (olds.length+ys.length))).toList) hs
    rw[←sV] at sU
    obtain⟨m1,m2⟩:=sU i u hu
    refine⟨m1,fun j x hx=> ?_⟩
    have:=m2 j x hx
    rw[Nat.zero_add] at this
    rw[←Array.getElem?_toList];exact this)
 have heq: ({gen:=(O1 r).gen+1,sz:=sz,arr:=true,fz:=false,es:=some (olds++ys)}:Obj)=o0:=by rw[Zl,UO]
 simp only[heq] at this
 exact⟨Rh.trans this.1,this.2⟩
theorem kU {sz:Nat} {p:Option Addr} {n m:Nat} {w:World}: (Builtin.firstCells sz 0 (.slice p n m)).run X.P w= .ok #[] w:=by
 cases p<;>simp[Builtin.firstCells,loadCells,loadCellsFrom]
theorem kV (       bZ:Bool) {c:Call} {s x:Operand} {sT xT e:TypeId} {d:TypeDesc} {s' x':aI} {r sz:Nat} {i:TypeInfo} {z:V} (hr:Rel X T a μ) (ho:o.op= .call c) (hc:c.callee= .builtin .append)
   (iv:c.args= #[s,x]) (vt:c.argTypes= #[sT,xT]) (hd:aR X sT=some (.slice e)) (hx:aR X xT=some d) (Bi: ∀k,d≠ .int k) (hn:ba X e=some sz) (hi:info X e=some i)
   (hz:dq X e=some z) (Dc:aH z sz=true) (h1:cm X s=some s') (h2:cm X x=some x')
   (ag: (content sz (aQ ⟨T,μ.O⟩ x') fun ys=>match bZ with| true=>we r sz (ml i.bytes) (aQ ⟨T,μ.O⟩ s') ys| false=>gF ys fun ys=>we r sz (ml i.bytes) (aQ ⟨T,μ.O⟩ s') ys).run C ⟨T,μ.O⟩=some (v,σ')):σ'.T=T∧b4 X o a μ σ'.O v:=by
 have hs:=aG hr h1 μ.O
 have Zm:=aG hr h2 μ.O
 have lZ:X.P.underlying sT=some (.slice e):=hd
 have oU:X.P.underlying xT=some d:=hx
 have wN:X.P.info? e=some i:=hi
 obtain⟨XO,us,k1,k2,k3,k4⟩:=mB hr.aN Zm ag
 have fm: ∃ys O1,(we r sz (ml i.bytes) (aQ ⟨T,μ.O⟩ s') ys).run C ⟨T,O1⟩=some (v,σ')∧ah X ⟨μ.w,μ.φ,O1⟩ ys us∧Le μ ⟨μ.w,μ.φ,O1⟩∧aS X ⟨μ.w,μ.φ,O1⟩:=by
   cases bZ with
   | true=>exact⟨XO,μ.O,k1,k2,Le.refl μ,hr.aN⟩
   | false=>exact rY (μ:=μ) hr.aN k2 k1
 obtain⟨ys,O1,g1,g2,g3,g4⟩:=fm
 unfold we at g1
 have Zn:ys.length=XO.length:=by rw[g2.length,k2.length]
 rw[←Zn] at k3 k4
 have Cg:us.length=ys.length:=g2.length.symm
 have Df: ∀w',w'.heap=μ.w.heap→(Builtin.firstCells sz ys.length (a.eval x)).run X.P w'= .ok (flat us).toArray w':=fun w' gJ=>by
   have:=k4 w' gJ ys.length (Nat.le_refl _)
   rwa [Bj (by omega)] at this
 have Dg:=Df μ.w rfl
 have Dh:=Df μ.w.drew rfl
 have qE:=aj.mono g3 hs
 have fin: ∀val w',(Builtin.append_ #[sT,xT] o.type #[a.eval s,a.eval x]).run X.P μ.w= .ok val w'→(execOp a.eval o).run X.P μ.w= .ok (.value val) w':=fun val w' hv=>by
   refine dr ho hc ?_
   simp only[builtin,iv,vt]
   refine bM ?_
   simpa using hv
 split at g1
 · rename_i hb
   simp only[Bool.and_eq_true,decide_eq_true_eq] at hb
   obtain⟨jQ,b5⟩:=hb
   obtain⟨zv,sW,tX⟩:=fe hz μ.w
   have XP: ∀w,(zeroValue e).run X.P w= .ok zv w:=fun w=>by
    obtain⟨Zo,q1,q2⟩:=fe hz w
    have:Zo=zv:=by
      simp only[dq,info,Option.bind_eq_some_iff] at hz
      obtain⟨i0,e1,zq,e2,_⟩:=hz
      simp only[zeroValue,Sem.run_bind,run_typeInfo w e1,run_typeInfo μ.w e1,Result.andThen_ok,e2,Sem.run_pure] at q1 sW
      injection q1 with q1 _;injection sW with sW _
      rw[←q1,←sW]
    rw[←this];exact q1
   obtain⟨rX,Hn⟩:=dx (X:=X) (μ:=μ) tX
   have Ga:zv.cells.size=sz:=by rw[rX.dc Hn,(bK Dc).2]
   obtain⟨C6,Be⟩:=g2.pE jQ
   have vR:=eM C6
   have r7:ys.length=0→ ∀ (p:Option Addr) (len cap:Nat),len≤cap→a.eval s= .slice p len cap→(execOp a.eval o).run X.P μ.w= .ok (.value (.slice p len cap)) μ.w:=fun h0 p len cap hle hp=>by
    have Uo:us=[]:=by
      have:us.length=0:=by omega
      simpa using this
    have qG:=gr (X:=X) (sT:=sT) (xT:=xT) (sLen:=len) (sCap:=cap) (base:=p) (ty:=o.type) (w':=μ.w) lZ oU Bi hn k3 (by omega) Dg (by
        cases p with
        | none=>rfl
        | some q=>simp[Uo,flat,storeCells])
    rw[h0,Nat.add_zero] at qG
    exact fin _ _ (by rw[hp];exact qG)
   generalize aQ ⟨T,μ.O⟩ s'=sv at g1 hs qE
   split at g1
   ·
    simp only[aj] at hs
    obtain⟨p,hp⟩:=hs
    split at g1
    · rename_i Di
      obtain⟨rfl,rfl⟩:=aK g1
      have Lp:ys.length=0:=by simpa [List.isEmpty_iff] using Di
      exact⟨rfl,.slice p 0 0,μ.w,μ.φ,.inl (r7 Lp p 0 0 (Nat.le_refl _) hp),by simp[aj],g3,g4⟩
    · rename_i Di
      split at g1
      · rename_i wV
        simp only[Act.run,Option.some.injEq,Prod.mk.injEq] at g1
        obtain⟨rfl,rfl⟩:=g1
        have Ri:0 <ys.length:=by
          rcases Nat.eq_zero_or_pos ys.length with h0| h0
          · exact absurd (by simpa [List.isEmpty_iff] using h0) Di
          · exact h0
        obtain⟨newCap,y8,qG⟩:=j7 (X:=X) (sT:=sT) (xT:=xT) (sLen:=0) (sCap:=0) (base:=p) (ty:=o.type) (old:= #[]) lZ oU Bi hn wN XP k3 (by omega) (by simpa using wV) kU Dh
        obtain⟨Ln,MD⟩:=wY (X:=X) (μ:=μ) (O1:=O1) g4 (r:=r) (sz:=sz) (newCap:=newCap) (olds:=[]) (ous:=[]) (ys:=ys) (us:=us) (zv:=zv) (e:=e)
          (o0:={gen:=(O1 r).gen+1,sz:=sz,arr:=true,fz:=false,es:=some ys}) rfl rfl b5 (by simp[ah]) g2 rfl jQ Ga (by simpa using y8)
        have HW: (flat ([]:List Value)).toArray= #[]:=rfl
        simp only[HW,List.length_nil] at Ln MD
        refine⟨rfl,.slice (some ⟨μ.w.heap.size,0,none⟩) (0+ys.length) newCap,_,cW μ.φ r ⟨μ.w.heap.size,0,newCap⟩,.inl (fin _ _ (by rw[hp];exact qG)),?_,g3.trans Ln,MD⟩
        simp only[aj,av]
        exact⟨_,newCap,by rw[Nat.zero_add],by omega,Nat.le_refl _,fun _=> ⟨by omega,by simp,by simp⟩⟩
      · exact absurd g1 aq
   ·
    rename_i sz' xs
    split at g1
    · rename_i Di
      obtain⟨rfl,rfl⟩:=aK g1
      have Lp:ys.length=0:=by simpa [List.isEmpty_iff] using Di
      have vS:=hs
      simp only[aj] at vS
      obtain⟨_,_,p,cap,_,hp,hle,_⟩:=vS
      exact⟨rfl,a.eval s,μ.w,μ.φ,.inl (by rw[hp];exact r7 Lp p _ cap hle hp),qE,g3,g4⟩
    · exact absurd g1 aq
   ·
    rename_i r' g off len
    simp only[Act.run] at g1
    split at g1
    · rename_i es bp
      split at g1
      · rename_i hc
        obtain⟨bU,iu,fm,eI,fk,wV⟩:=hc
        simp only[aj] at qE
        obtain⟨p,cap,hp,hle,qd,b9⟩:=qE
        obtain⟨a0,a1,a2⟩:=b9 bU
        obtain⟨q1,q2,q3,q4⟩:=g4.row r' es bp a0
        simp only at q1 q2 q3 q4
        have ew:O1 r'={O1 r' with es:=some es}:=by rw[←bp]
        split at g1
        · rename_i jN
          simp only[Act.run,Option.some.injEq,Prod.mk.injEq] at g1
          obtain⟨rfl,rfl⟩:=g1
          refine⟨rfl,?_⟩
          rcases Nat.eq_zero_or_pos ys.length with h0| h0
          ·
            have Lp:ys=[]:=by simpa using h0
            have VS:overwrite es (off+len) ys=es:=by simp[overwrite,Lp]
            have hO:cW O1 r' {O1 r' with es:=some (overwrite es (off+len) ys)}=O1:=by
              funext q
              by_cases hq:q=r'
              · subst hq;rw[av,VS];exact ew.symm
              · rw[aL _ _ hq]
            simp only[hO]
            refine⟨.slice p len cap,μ.w,μ.φ,.inl (r7 h0 p len cap hle hp),?_,g3,g4⟩
            rw[h0]
            simp only[aj]
            exact⟨p,cap,rfl,hle,qd,b9⟩
          · have cP:cap≠0:=by omega
            have kK: (μ.φ r').cap≠0:=by omega
            rcases q4 with q4| ⟨cc,T0,vs,p1,p2,p3,p4⟩
            · exact absurd q4 kK
            · have tW:=a2.resolve_left cP
              subst tW
              have y9:=p3.length
              have sU:cQ cc.toList (μ.φ r').base sz vs:=by have:=fS p1 p4;rwa [eI] at this
              rw[eI] at p2
              have hmul: (off+len+ys.length)*sz≤(μ.φ r').cap*sz:=Nat.mul_le_mul_right _ (by omega)
              rw[Nat.add_mul] at hmul
              have hw:=sU.write (k:=off+len) (us:=us) (by omega) C6 (by rw[bG cc,Cg];omega)
              have kM:=fU (P:=X.P) (w:=μ.w) (q:=(μ.φ r').base+(off+len)*sz) p1 (flat us) (by rw[vR,Cg];omega) Be
              have qG:=gr (X:=X) (sT:=sT) (xT:=xT) (sLen:=len) (sCap:=cap) (ty:=o.type) (base:=some ⟨(μ.φ r').cD,(μ.φ r').base+off*(O1 r').sz,none⟩)
                (w':=μ.w.setRow (μ.φ r').cD (b6 cc.toList ((μ.φ r').base+(off+len)*sz) (flat us)).toArray) lZ oU Bi hn k3 (by omega) Dg (by
                  simp only[dY,eI]
                  have: (μ.φ r').base+off*sz+len*sz=(μ.φ r').base+(off+len)*sz:=by rw[Nat.add_mul];omega
                  rw[this];exact kM)
              have Hq:=lQ (X:=X) (μ:=⟨μ.w,μ.φ,O1⟩) g4 r' bp fm p1 kK (c':=(b6 cc.toList ((μ.φ r').base+(off+len)*sz) (flat us)).toArray)
                (by
                  have: (b6 cc.toList ((μ.φ r').base+(off+len)*sz) (flat us)).length=cc.toList.length:=dF (by rw[bG cc,vR,Cg];omega)
                  simpa using this)
                (O1 r').gen (μ.φ r').base (μ.φ r').cap (es':=overwrite es (off+len) ys) (vs':=vs.take (off+len)++us++vs.drop (off+len+us.length)) (.inl ⟨rfl,rfl,rfl⟩) kK
                (by simp[overwrite];omega)
                (by
                  simp only[eI] at q3 ⊢
                  have t1:=gQ (p:=(aH · sz)) (off+len) q3
                  have t2:=jm (p:=(aH · sz)) (off+len+ys.length) q3
                  simp only[overwrite,List.all_append,t1,jQ,t2,Bool.and_self])
                (by
                  have:=((ah.take (off+len) p3).append g2).append (ah.drop (off+len+ys.length) p3)
                  rw[Cg];exact this)
                (by rw[eI];exact p2)
                (fun j y hy=>by
                  obtain⟨m1,m2⟩:=hw j y hy
                  refine⟨by rw[eI];exact m1,fun l q hq=> ?_⟩
                  have:=m2 l q hq
                  simp only[eI]
                  simpa using this)
              refine⟨_,_,_,.inl (fin _ _ (by rw[hp];exact qG)),?_,g3.trans Hq.1,Hq.2⟩
              simp only[aj,av]
              exact⟨_,cap,rfl,by omega,by omega,fun _=> ⟨a0,a1,.inr rfl⟩⟩
        · rename_i jN
          simp only[Act.run,Option.some.injEq,Prod.mk.injEq] at g1
          obtain⟨rfl,rfl⟩:=g1
          refine⟨rfl,?_⟩
          have Ri:0 <ys.length:=by omega
          have mj: (aF es off len).length=len:=by simp[aF];omega
          have ME: (aF es off len).all (aH · sz)=true:=by
            rw[eI] at q3;exact gQ _ (jm _ q3)
          by_cases tT:len+ys.length≤cap
          ·
            have cP:cap≠0:=by omega
            have kK: (μ.φ r').cap≠0:=by omega
            rcases q4 with q4| ⟨cc,T0,vs,p1,p2,p3,p4⟩
            · exact absurd q4 kK
            · have tW:=a2.resolve_left cP
              subst tW
              have y9:=p3.length
              have sU:cQ cc.toList (μ.φ r').base sz vs:=by have:=fS p1 p4;rwa [eI] at this
              rw[eI] at p2
              have hmul: (off+len+ys.length)*sz≤(μ.φ r').cap*sz:=Nat.mul_le_mul_right _ (by omega)
              rw[Nat.add_mul] at hmul
              have hw:=sU.write (k:=off+len) (us:=us) (by omega) C6 (by rw[bG cc,Cg];omega)
              have kM:=fU (P:=X.P) (w:=μ.w) (q:=(μ.φ r').base+(off+len)*sz) p1 (flat us) (by rw[vR,Cg];omega) Be
              have qG:=gr (X:=X) (sT:=sT) (xT:=xT) (sLen:=len) (sCap:=cap) (ty:=o.type) (base:=some ⟨(μ.φ r').cD,(μ.φ r').base+off*(O1 r').sz,none⟩)
                (w':=μ.w.setRow (μ.φ r').cD (b6 cc.toList ((μ.φ r').base+(off+len)*sz) (flat us)).toArray) lZ oU Bi hn k3 (by omega) Dg (by
                  simp only[dY,eI]
                  have: (μ.φ r').base+off*sz+len*sz=(μ.φ r').base+(off+len)*sz:=by rw[Nat.add_mul];omega
                  rw[this];exact kM)
              have yh:cQ (b6 cc.toList ((μ.φ r').base+(off+len)*sz) (flat us)) ((μ.φ r').base+off*sz) sz ((vs.drop off).take len++us):=by
                have h3:=(hw.take (off+len+us.length)).drop off
                have e1: (List.take (off+len+us.length) (vs.take (off+len)++us++vs.drop (off+len+us.length))).drop off=(vs.drop off).take len++us:=by
                  have l1: (vs.take (off+len)).length=off+len:=by simp;omega
                  have l2: (vs.take (off+len)++us).length=off+len+us.length:=by rw[List.length_append,l1]
                  rw[←l2,List.take_left,List.drop_append_of_le_length (by omega),List.drop_take]
                  congr 2;omega
                rwa [e1] at h3
              have XQ:off*sz+cap*sz=(μ.φ r').cap*sz:=by rw[←Nat.add_mul];congr 1;omega
              have Hq:=lQ (X:=X) (μ:=⟨μ.w,μ.φ,O1⟩) g4 r' bp fm p1 kK (c':=(b6 cc.toList ((μ.φ r').base+(off+len)*sz) (flat us)).toArray)
                (by
                  have: (b6 cc.toList ((μ.φ r').base+(off+len)*sz) (flat us)).length=cc.toList.length:=dF (by rw[bG cc,vR,Cg];omega)
                  simpa using this)
                (g+1) ((μ.φ r').base+off*sz) cap (es':=aF es off len++ys) (vs':=(vs.drop off).take len++us) (.inr (by simp only;omega)) cP
                (by rw[List.length_append,mj];omega)
                (by
                  simp only[eI]
                  simp only[List.all_append,ME,jQ,Bool.and_self])
                ((ah.take len (ah.drop off p3)).append g2)
                (by simp only[eI];omega)
                (fun j y hy=>by
                  obtain⟨m1,m2⟩:=yh j y hy
                  refine⟨by rw[eI];exact m1,fun l q hq=> ?_⟩
                  have:=m2 l q hq
                  simp only[eI]
                  simpa using this)
              refine⟨_,_,_,.inl (fin _ _ (by rw[hp];exact qG)),?_,g3.trans Hq.1,Hq.2⟩
              simp only[aj,av]
              exact⟨_,cap,rfl,by omega,Nat.le_refl _,fun _=> ⟨a0,by omega,.inr (by simp[eI])⟩⟩
          ·
            have hold: ∃ous,ah X ⟨μ.w,μ.φ,O1⟩ (aF es off len) ous∧(Builtin.firstCells sz len (.slice p len cap)).run X.P μ.w.drew= .ok (flat ous).toArray μ.w.drew:=by
              by_cases cP:cap=0
              · have yi:len=0:=by omega
                subst yi
                exact⟨[],by simp[aF,ah],kU⟩
              · rcases q4 with q4| ⟨cc,T0,vs,p1,p2,p3,p4⟩
                · omega
                · have tW:=a2.resolve_left cP
                  subst tW
                  have y9:=p3.length
                  refine⟨(vs.drop off).take len,ah.take _ (ah.drop _ p3),?_⟩
                  have mC:=(p4.drop off)
                  rw[eI] at mC ⊢
                  have:=pD (P:=X.P) (mC.bZ (w':=μ.w.drew) rfl) (n:=len) (by simp;omega)
                  simpa [Builtin.firstCells] using this
            obtain⟨ous,MF,MD⟩:=hold
            obtain⟨newCap,y8,qG⟩:=j7 (X:=X) (sT:=sT) (xT:=xT) (sLen:=len) (sCap:=cap) (base:=p) (ty:=o.type) lZ oU Bi hn wN XP k3 (by omega) wV MD Dh
            obtain⟨Ln,XR⟩:=wY (X:=X) (μ:=μ) (O1:=O1) g4 (r:=r') (sz:=sz) (newCap:=newCap) (olds:=aF es off len) (ous:=ous) (ys:=ys) (us:=us) (zv:=zv) (e:=e)
              (o0:={gen:=g+1,sz:=sz,arr:=true,fz:=false,es:=some (aF es off len++ys)}) rfl (by simp only;omega) b5 MF g2 ME jQ Ga (by rw[mj];exact y8)
            have hO:cW O1 r' {O1 r' with gen:=g+1,es:=some (aF es off len++ys)}=cW O1 r' {gen:=g+1,sz:=sz,arr:=true,fz:=false,es:=some (aF es off len++ys)}:=by
              have: ({O1 r' with gen:=g+1,es:=some (aF es off len++ys)}:Obj)={gen:=g+1,sz:=sz,arr:=true,fz:=false,es:=some (aF es off len++ys)}:=by
                rw[←eI,←iu,←fm]
              rw[this]
            simp only[hO]
            rw[mj] at Ln XR
            refine⟨_,_,cW μ.φ r' ⟨μ.w.heap.size,0,newCap⟩,.inl (fin _ _ (by rw[hp];exact qG)),?_,g3.trans Ln,XR⟩
            simp only[aj,av]
            exact⟨_,newCap,rfl,by omega,Nat.le_refl _,fun _=> ⟨by omega,by simp,by simp⟩⟩
      · exact absurd g1 aq
    · exact absurd g1 aq
   · exact absurd g1 aq
 · exact absurd g1 aq
theorem ue {c:Call} {s x:Operand} {sT xT e:TypeId} {d:TypeDesc} {s' x':aI} {r sz:Nat} {i:TypeInfo} {z:V} (hr:Rel X T a μ) (ho:o.op= .call c) (hc:c.callee= .builtin .append)
  (iv:c.args= #[s,x]) (vt:c.argTypes= #[sT,xT]) (hd:aR X sT=some (.slice e)) (hx:aR X xT=some d) (Bi: ∀k,d≠ .int k) (hn:ba X e=some sz) (hi:info X e=some i)
  (hz:dq X e=some z) (Dc:aH z sz=true) (h1:cm X s=some s') (h2:cm X x=some x')
  (ag: (au E (.append r sz (ml i.bytes) s' x')).run C ⟨T,μ.O⟩=some (v,σ')):σ'.T=T∧b4 X o a μ σ'.O v:=by
 refine kV (C:=C) (v:=v) false (r:=r) hr ho hc iv vt hd hx Bi hn hi hz Dc h1 h2 ?_
 simp only[au,aV] at ag
 exact ag
theorem r8 {c:Call} {s x:Operand} {sT xT e:TypeId} {d:TypeDesc} {s' x':aI} {r sz:Nat} {i:TypeInfo} {z:V} (hr:Rel X T a μ) (ho:o.op= .call c) (hc:c.callee= .builtin .append)
  (iv:c.args= #[s,x]) (vt:c.argTypes= #[sT,xT]) (hd:aR X sT=some (.slice e)) (hx:aR X xT=some d) (Bi: ∀k,d≠ .int k) (hn:ba X e=some sz) (hi:info X e=some i)
  (hz:dq X e=some z) (Dc:aH z sz=true) (h1:cm X s=some s') (h2:cm X x=some x')
  (ag: (au E (.nL r sz (ml i.bytes) s' x')).run C ⟨T,μ.O⟩=some (v,σ')):σ'.T=T∧b4 X o a μ σ'.O v:=by
 refine kV (C:=C) (v:=v) true (r:=r) hr ho hc iv vt hd hx Bi hn hi hz Dc h1 h2 ?_
 simp only[au,aV] at ag
 exact ag
end
end Go.AM
namespace Go.AM
open Go Go.RowKit
section
variable {X:Ctx} {E:Env} {C:aO} {o:Oper} {a:Go.Act} {T:Nat→V} {μ:Mu} {v:V} {σ':St}
theorem qj (ho:aS X μ) {r g off len sz:Nat} {es ys:List V} {us:List Value} {p:Option Addr} {cap:Nat} (bp: (μ.O r).es=some es) (fm: (μ.O r).fz=false) (eI: (μ.O r).sz=sz)
   (bU: (μ.O r).gen=g) (hle:len≤cap) (a0:0 < (μ.O r).sz) (a1:cap+off=(μ.φ r).cap) (a2:cap=0∨p=some ⟨(μ.φ r).cD,(μ.φ r).base+off*(μ.O r).sz,none⟩)
   (fk:off+len≤es.length) (hy:ys.length≤len) (bz:ah X μ ys us) (jQ:ys.all (aH · sz)=true):
   ∃w',(match p with| some q=> (storeCells q (flat us)).run X.P μ.w= .ok () w'| none=>w'=μ.w∧flat us=[])∧
     ∃φ',φ' r=μ.φ r∧Le μ ⟨w',φ',cW μ.O r {μ.O r with es:=some (overwrite es off ys)}⟩∧aS X ⟨w',φ',cW μ.O r {μ.O r with es:=some (overwrite es off ys)}⟩:=by
 have Cg:us.length=ys.length:=bz.length.symm
 obtain⟨C6,Be⟩:=bz.pE jQ
 have vR:=eM C6
 have ew:μ.O r={μ.O r with es:=some es}:=by rw[←bp]
 rcases Nat.eq_zero_or_pos ys.length with h0| h0
 · have Lp:ys=[]:=by simpa using h0
   have Uo:us=[]:=List.length_eq_zero_iff.1 (by omega)
   have VS:overwrite es off ys=es:=by simp[overwrite,Lp]
   have hO:cW μ.O r {μ.O r with es:=some (overwrite es off ys)}=μ.O:=by
     funext q
     by_cases hq:q=r
     · subst hq;rw[av,VS];exact ew.symm
     · rw[aL _ _ hq]
   rw[hO]
   refine⟨μ.w,?_,μ.φ,rfl,Le.refl μ,ho⟩
   cases p with
   | none=>simp[Uo,flat]
   | some q=>simp[Uo,flat,storeCells]
 · obtain⟨q1,q2,q3,q4⟩:=ho.row r es bp a0
   have cP:cap≠0:=by omega
   have kK: (μ.φ r).cap≠0:=by omega
   rcases q4 with q4| ⟨cc,T0,vs,p1,p2,p3,p4⟩
   · exact absurd q4 kK
   · have tW:=a2.resolve_left cP
     subst tW
     have y9:=p3.length
     have sU:cQ cc.toList (μ.φ r).base sz vs:=by have:=fS p1 p4;rwa [eI] at this
     rw[eI] at p2
     have hmul: (off+ys.length)*sz≤(μ.φ r).cap*sz:=Nat.mul_le_mul_right _ (by omega)
     rw[Nat.add_mul] at hmul
     have hw:=sU.write (k:=off) (us:=us) (by omega) C6 (by rw[bG cc,Cg];omega)
     have kM:=fU (P:=X.P) (w:=μ.w) (q:=(μ.φ r).base+off*sz) p1 (flat us) (by rw[vR,Cg];omega) Be
     have Hq:=lQ (X:=X) (μ:=μ) ho r bp fm p1 kK (c':=(b6 cc.toList ((μ.φ r).base+off*sz) (flat us)).toArray)
      (by
        have: (b6 cc.toList ((μ.φ r).base+off*sz) (flat us)).length=cc.toList.length:=dF (by rw[bG cc,vR,Cg];omega)
        simpa using this)
      (μ.O r).gen (μ.φ r).base (μ.φ r).cap (es':=overwrite es off ys) (vs':=vs.take off++us++vs.drop (off+us.length)) (.inl ⟨rfl,rfl,rfl⟩) kK
      (by simp[overwrite];omega)
      (by
        simp only[eI] at q3 ⊢
        have t1:=gQ (p:=(aH · sz)) off q3
        have t2:=jm (p:=(aH · sz)) (off+ys.length) q3
        simp only[overwrite,List.all_append,t1,jQ,t2,Bool.and_self])
      (by
        have:=((ah.take off p3).append bz).append (ah.drop (off+ys.length) p3)
        rw[Cg];exact this)
      (by rw[eI];exact p2)
      (fun j y hy=>by
        obtain⟨m1,m2⟩:=hw j y hy
        refine⟨by rw[eI];exact m1,fun l q hq=> ?_⟩
        have:=m2 l q hq
        simp only[eI]
        simpa using this)
     refine⟨_,?_,_,?_,Hq.1,Hq.2⟩
     · simp only[eI];exact kM
     · rw[av]
theorem Gd {c:Call} {d s:Operand} {dT sT e:TypeId} {d' s':aI} {sz:Nat} (hr:Rel X T a μ) (ho:o.op= .call c) (hc:c.callee= .builtin .copy)
   (iv:c.args= #[d,s]) (vt:c.argTypes= #[dT,sT]) (hd:aR X dT=some (.slice e)) (hn:ba X e=some sz) (h1:cm X d=some d') (h2:cm X s=some s')
   (ag: (au E (.copy sz d' s')).run C ⟨T,μ.O⟩=some (v,σ')):σ'.T=T∧b4 X o a μ σ'.O v:=by
 simp only[au,aV] at ag
 have Cd:=aG hr h1 μ.O
 have VF:=aG hr h2 μ.O
 have lZ:X.P.underlying dT=some (.slice e):=hd
 obtain⟨ys,us,k1,k2,k3,k4⟩:=mB hr.aN VF ag
 have fin: ∀ (p:Option Addr) (len cap:Nat) (w':World),a.eval d= .slice p len cap→
     (match p with| some q=> (storeCells q (flat (us.take (min ys.length len)))).run X.P μ.w= .ok () w'| none=>w'=μ.w∧flat (us.take (min ys.length len))=[])→
     (execOp a.eval o).run X.P μ.w= .ok (.value (goInt ((min ys.length len:Nat):Int))) w':=fun p len cap w' hp kM=>by
   refine dr ho hc ?_
   simp only[builtin,iv,vt]
   refine bM ?_
   have Gc: (#[dT,sT]:Array TypeId)[0]? =some dT:=rfl
   have Dj:Array.map a.eval #[d,s]= #[a.eval d,a.eval s]:=by simp
   rw[Dj,hp]
   have EM: (#[Value.slice p len cap,a.eval s]:Array Value)[0]? =some (Value.slice p len cap):=rfl
   have EN: (#[Value.slice p len cap,a.eval s]:Array Value)[1]? =some (a.eval s):=rfl
   have XS:=k4 μ.w rfl (min ys.length len) (Nat.min_le_left _ _)
   simp only[Builtin.copy_,Gc,EM,EN,Sem.run_bind,run_underlying lZ,Result.andThen_ok,k3,cA hn,Nat.min_def] at XS ⊢
   rw[XS]
   simp only[Result.andThen_ok]
   simp only[Nat.min_def] at kM
   cases p with
   | none=>simp only at kM;obtain⟨rfl,_⟩:=kM;simp
   | some q=>simp only at kM;simp[Sem.run_bind,kM]
 generalize aQ ⟨T,μ.O⟩ d'=dv at k1 Cd
 split at k1
 · obtain⟨rfl,rfl⟩:=aK k1
   simp only[aj] at Cd
   obtain⟨p,hp⟩:=Cd
   have h0:min ys.length 0=0:=Nat.min_eq_right (Nat.zero_le _)
   have:=fin p 0 0 μ.w hp (by rw[h0];cases p<;>simp[flat,storeCells])
   rw[h0] at this
   exact⟨rfl,aB (val:=goInt 0) hr.aN (by simpa using this) (by simp[aj,goInt])⟩
 · rename_i r g off len
   simp only[Act.run] at k1
   split at k1
   · rename_i es bp
     split at k1
     · rename_i Mw
       obtain⟨bU,iu,fm,eI,fk,jQ⟩:=Mw
       simp only[Act.run,Option.some.injEq,Prod.mk.injEq] at k1
       obtain⟨rfl,rfl⟩:=k1
       simp only[aj] at Cd
       obtain⟨p,cap,hp,hle,qd,b9⟩:=Cd
       obtain⟨a0,a1,a2⟩:=b9 bU
       obtain⟨w',kM,φ',hφ,le,ew⟩:=qj (X:=X) hr.aN (us:=us.take len) bp fm eI bU hle a0 a1 a2 fk (ys:=ys.take len) (by simp;omega) (ah.take _ k2) jQ
       have VT:us.take (min ys.length len)=us.take len:=by
        have hl:=k2.length
        rcases Nat.le_total ys.length len with h| h
        · rw[Nat.min_eq_left h,hl,List.take_length,List.take_of_length_le (by omega)]
        · rw[Nat.min_eq_right h]
       refine⟨rfl,goInt ((min ys.length len:Nat):Int),w',φ',.inl (fin p len cap w' hp (by rw[VT];exact kM)),?_,le,ew⟩
       simp only[aj,goInt,List.length_take]
       rw[Nat.min_comm]
     · exact absurd k1 aq
   · exact absurd k1 aq
 · exact absurd k1 aq
theorem kW {zv:Value} {sz n:Nat} (hz:zv.cells.size=sz) (b5:0 <sz): (Builtin.zeroCells zv.cells n).toList=flat (List.replicate n zv):=by
 have hs: ∀u ∈ List.replicate n zv,u.cells.size=sz:=fun u hu=>by rw[(List.mem_replicate.1 hu).2];exact hz
 have vR:=eM hs
 rw[List.length_replicate] at vR
 apply List.ext_getElem?
 intro q
 by_cases hq:q<n*sz
 · have hi:q / sz<n:=Nat.div_lt_of_lt_mul (by rw[Nat.mul_comm];exact hq)
   have tW:q / sz*sz+q % sz=q:=by rw[Nat.mul_comm];exact Nat.div_add_mod q sz
   have hm:q % sz<zv.cells.size:=by rw[hz];exact Nat.mod_lt _ b5
   have hc:zv.cells[q % sz]? =some zv.cells[q % sz]:=Array.getElem?_eq_getElem hm
   have hv: (List.replicate n zv)[q / sz]? =some zv:=by rw[List.getElem?_replicate];simp[hi]
   have g1:=ov hs hv hc
   rw[tW] at g1
   rw[g1,Array.getElem?_toList]
   have hr: (Array.range (n*sz))[q]? =some q:=by simp[hq]
   simp only[Builtin.zeroCells,Array.getElem?_map,hz,hr,Option.map_some]
   rw[getElem!_def,hc]
 · rw[List.getElem?_eq_none (by rw[bG (Builtin.zeroCells _ _),kS hz];omega),List.getElem?_eq_none (by omega)]
theorem Dk {c:Call} {x:Operand} {t e:TypeId} {x':aI} {sz:Nat} {z:V} (hr:Rel X T a μ) (ho:o.op= .call c) (hc:c.callee= .builtin .clear)
   (iv:c.args= #[x]) (vt:c.argTypes= #[t]) (hd:aR X t=some (.slice e)) (hz:dq X e=some z) (h1:cm X x=some x')
   (ag: (au E (.clear sz z x')).run C ⟨T,μ.O⟩=some (v,σ')):σ'.T=T∧b4 X o a μ σ'.O v:=by
 simp only[au,aV] at ag
 have hx:=aG hr h1 μ.O
 have lZ:X.P.underlying t=some (.slice e):=hd
 have fin: ∀w',(Builtin.clear_ #[t] o.type #[a.eval x]).run X.P μ.w= .ok (.tuple #[]) w'→(execOp a.eval o).run X.P μ.w= .ok (.value (.tuple #[])) w':=fun w' hv=>by
   refine dr ho hc ?_
   simp only[builtin,iv,vt]
   refine bM ?_
   simpa using hv
 have Gc: (#[t]:Array TypeId)[0]? =some t:=rfl
 have EM: ∀y:Value,(#[y]:Array Value)[0]? =some y:=fun _=>rfl
 split at ag
 · rename_i ex
   obtain⟨rfl,rfl⟩:=aK ag
   rw[ex] at hx;simp only[aj] at hx
   obtain⟨p,hp⟩:=hx
   refine⟨rfl,aB (val:= .tuple #[]) hr.aN (fin _ ?_) (by simp only[aj];exact⟨#[],rfl,by simp[ah]⟩)⟩
   cases p<;>simp[Builtin.clear_,Sem.run_bind,run_underlying lZ,hp]
 · rename_i r g off len ex
   rw[ex] at hx
   simp only[Act.run] at ag
   split at ag
   · rename_i es bp
     split at ag
     · rename_i Mw
       obtain⟨bU,iu,fm,eI,fk,Dc⟩:=Mw
       simp only[Act.run,Option.some.injEq,Prod.mk.injEq] at ag
       obtain⟨rfl,rfl⟩:=ag
       simp only[aj] at hx
       obtain⟨p,cap,hp,hle,qd,b9⟩:=hx
       obtain⟨a0,a1,a2⟩:=b9 bU
       obtain⟨zv,sW,tX⟩:=fe hz μ.w
       obtain⟨rX,Hn⟩:=dx (X:=X) (μ:=μ) tX
       have Ga:zv.cells.size=sz:=by rw[rX.dc Hn,(bK Dc).2]
       have b5:0 <sz:=eI ▸ a0
       obtain⟨w',kM,φ',hφ,le,ew⟩:=qj (X:=X) hr.aN (us:=List.replicate len zv) bp fm eI bU hle a0 a1 a2 fk (ys:=List.replicate len z) (by simp) (ah.replicate rX len)
         (by simp only[List.all_eq_true,List.mem_replicate];rintro y ⟨_,rfl⟩;exact Dc)
       refine⟨rfl,.tuple #[],w',φ',.inl (fin _ ?_),by simp only[aj];exact⟨#[],rfl,by simp[ah]⟩,le,ew⟩
       rw[←kW Ga b5] at kM
       rw[hp]
       simp only[Builtin.clear_,Gc,EM,Sem.run_bind,run_underlying lZ,Result.andThen_ok]
       rcases Nat.eq_zero_or_pos len with h0| h0
       · subst h0
         have Mt: (Builtin.zeroCells zv.cells 0).toList=[]:=by rw[kW Ga b5];rfl
         rw[Mt] at kM
         have hw:w'=μ.w:=by
           cases p with
           | none=>exact kM.1
           | some q=>simp[storeCells] at kM;exact kM.symm
         subst hw
         cases p<;>simp
       · cases p with
         | none=>
           have cP:cap≠0:=by omega
           exact absurd (a2.resolve_left cP) (by simp)
         | some q=>
           obtain⟨n,rfl⟩: ∃n,len=n+1:=⟨len - 1,by omega⟩
           simp only at kM
           simp[Sem.run_bind,sW,kM]
     · exact absurd ag aq
   · exact absurd ag aq
 · exact absurd ag aq
theorem Ae {x:Operand} {y:aI} (hr:Rel X T a μ) (ho:o.op= .move x∨o.op= .assign x) (ht:cm X x=some y) (ag: (au E (.deep y)).run C ⟨T,μ.O⟩=some (v,σ')):
   σ'.T=T∧b4 X o a μ σ'.O v:=by
 simp only[au,aV] at ag
 have bz:=aG hr ht μ.O
 have iO: (execOp a.eval o).run X.P μ.w= .ok (.value (a.eval x)) μ.w:=by rcases ho with ho| ho<;>simp[execOp,ho]
 unfold uV at ag
 split at ag
 · rename_i r g off len he
   rw[he] at bz
   simp only[Act.run] at ag
   split at ag
   · rename_i es bp
     split at ag
     rotate_left
     · exact absurd ag aq
     rename_i bU
     have Hr:=bz
     simp only[aj] at Hr
     obtain⟨_,_,_,_,_,b9⟩:=Hr
     obtain⟨q1,q2,q3,q4⟩:=hr.aN.row r es bp (b9 bU).1
     obtain⟨vs,nn,il⟩: ∃vs,ah X μ es vs∧((μ.φ r).cap=0∨ ∃c T,μ.w.heap[(μ.φ r).cD]? =some (.cells c T (0,0))∧(μ.φ r).base+(μ.φ r).cap*(μ.O r).sz≤c.size∧
         cH μ.w (μ.φ r).cD (μ.φ r).base (μ.O r).sz vs):=by
       rcases q4 with q4| ⟨c,T0,vs,p1,p2,p3,p4⟩
       · have:es=[]:=by
          have:es.length=0:=by omega
          simpa using this
         subst this
         exact⟨[],by simp[ah],.inl q4⟩
       · exact⟨vs,p3,.inr ⟨c,T0,p1,p2,p4⟩⟩
     obtain⟨es',O1,g1,g2,g3,g4⟩:=rY (μ:=μ) hr.aN nn ag
     simp only[Act.run] at g1
     split at g1
     · rename_i hc
       obtain⟨s8,s9,MA⟩:=hc
       simp only[Act.run,Option.some.injEq,Prod.mk.injEq] at g1
       obtain⟨rfl,rfl⟩:=g1
       have hs: (O1 r).sz=(μ.O r).sz:=(g3.row r s8).2
       have hlen:es'.length=es.length:=by rw[g2.length,nn.length]
       obtain⟨le,uX⟩:=A4 (X:=X) (μ:=⟨μ.w,μ.φ,O1⟩) g4 r (es':=es') s9 (by rw[hs];exact q1) (by rw[hlen];exact q2) (by rw[hs];exact MA) (by
         refine il.imp id ?_
         rintro⟨c,T0,p1,p2,p4⟩
         exact⟨c,T0,vs,p1,by simp only[hs];exact p2,g2,by simp only[hs];exact p4⟩)
       exact⟨rfl,a.eval x,μ.w,μ.φ,.inl iO,aj.mono (g3.trans le) bz,g3.trans le,uX⟩
     · exact absurd g1 aq
   · exact absurd ag aq
 · obtain⟨rfl,rfl⟩:=aK ag
   exact⟨rfl,aB hr.aN iO bz⟩
end
end Go.AM
namespace Go.AM
open Go Go.RowKit
def gu (X:Ctx) (μ:Mu) (rs:List Nat) (a:V) (v:Value):Prop:= ∀ (B:Nat→Prop) (μ':Mu),μ'.w=μ.w→
 (∀b,Own ⟨X.toTrEnv,B,X.tok⟩ μ' b→Own X μ b∧ ∀r ∈ rs,(μ.O r).es.isSome=true→(μ.φ r).cap≠0→b≠(μ.φ r).cD)→aj ⟨X.toTrEnv,B,X.tok⟩ μ' a v
def oy (X:Ctx) (μ:Mu) (rs:List Nat) (as:List V) (vs:List Value):Prop:= ∀ (B:Nat→Prop) (μ':Mu),μ'.w=μ.w→
 (∀b,Own ⟨X.toTrEnv,B,X.tok⟩ μ' b→Own X μ b∧ ∀r ∈ rs,(μ.O r).es.isSome=true→(μ.φ r).cap≠0→b≠(μ.φ r).cD)→ah ⟨X.toTrEnv,B,X.tok⟩ μ' as vs
section
variable {X:Ctx} {B:Nat→Prop} {μ μ':Mu}
mutual
theorem cS (hw:μ'.w=μ.w) (ho: ∀b,Own ⟨X.toTrEnv,B,X.tok⟩ μ' b→Own X μ b): ∀ {x:V} {v:Value},V.aw x=true→aj X μ x v→aj ⟨X.toTrEnv,B,X.tok⟩ μ' x v
 | .bool _,_,_,h| .int ..,_,_,h| .float _,_,_,h| .str _,_,_,h| .nilp,_,_,h| .nilfn,_,_,h| .nili,_,_,h| .nils,_,_,h=>by simpa [aj] using h
 | .any,_,hp,_| .own ..,_,hp,_| .msl ..,_,hp,_| .mptr ..,_,hp,_| .sl ..,_,hp,_| .ptr ..,_,hp,_| .mp ..,_,hp,_| .it ..,_,hp,_=>by simp[V.aw] at hp
 | .mlit es,_,hp,h=>by
   simp only[aj] at h ⊢
   obtain⟨h0,h⟩:=h
   refine⟨h0,h.imp id ?_⟩
   rintro⟨a,ents,clock,rfl,hb,hs,h1,h2⟩
   exact⟨a,ents,clock,rfl,fun hh=>hb (ho _ hh),by rw[hw];exact hs,by rw[hw];exact h1,bq hw ho h0 h2⟩
 | .agg cs,_,hp,h=>by
   simp only[aj] at h ⊢
   obtain⟨h1,vs,rfl,h2⟩:=h
   exact⟨h1,vs,rfl,bq hw ho (by simpa [V.aw] using hp) h2⟩
 | .tuple cs,_,hp,h=>by
   simp only[aj] at h ⊢
   obtain⟨vs,rfl,h2⟩:=h
   exact⟨vs,rfl,bq hw ho (by simpa [V.aw] using hp) h2⟩
 | .fn f cs,_,hp,h=>by
   simp only[aj] at h ⊢
   obtain⟨F,cv,rfl,h1,h2⟩:=h
   exact⟨F,cv,rfl,h1,bq hw ho (by simpa [V.aw] using hp) h2⟩
 | .iface t x,_,hp,h=>by
   simp only[aj] at h ⊢
   obtain⟨F,y,rfl,h1,h2⟩:=h
   exact⟨F,y,rfl,h1,cS hw ho (by simpa [V.aw] using hp) h2⟩
 | .lit sz xs,_,hp,h=>by
   simp only[aj] at h ⊢
   obtain⟨h0,iG,a,cap,vs,rfl,h1,h2,h3⟩:=h
   refine⟨h0,iG,a,cap,vs,rfl,h1,bq hw ho h0 h2,h3.imp id ?_⟩
   rintro⟨b,o,rfl,hb,hs,hr⟩
   exact⟨b,o,rfl,fun hh=>hb (ho b hh),by rw[hw];exact hs,by rw[hw];exact hr⟩
 | .litk sz xs,_,hp,h=>by
   simp only[aj] at h ⊢
   obtain⟨h0,iG,a,cap,vs,rfl,h1,h2,h3⟩:=h
   refine⟨h0,iG,a,cap,vs,rfl,h1,bq hw ho h0 h2,h3.imp id ?_⟩
   rintro⟨rfl,hb,hs,hr⟩
   exact⟨rfl,fun hh=>hb (ho _ hh),by rw[hw];exact hs,by rw[hw];exact hr⟩
 | .epk i sz e off,_,hp,h=>by
   simp only[aj] at h ⊢
   obtain⟨h0,iG,x,rfl,hb,hs,h1,hr⟩:=h
   exact⟨h0,iG,x,rfl,fun hh=>hb (ho _ hh),by rw[hw];exact hs,cS hw ho h0 h1,by rw[hw];exact hr⟩
 | .eptr e off,_,hp,h=>by
   simp only[aj] at h ⊢
   obtain⟨h0,iG,b,o,sz,x,rfl,hb,hs,h1,hr⟩:=h
   exact⟨h0,iG,b,o,sz,x,rfl,fun hh=>hb (ho b hh),by rw[hw];exact hs,cS hw ho h0 h1,by rw[hw];exact hr⟩
theorem bq (hw:μ'.w=μ.w) (ho: ∀b,Own ⟨X.toTrEnv,B,X.tok⟩ μ' b→Own X μ b): ∀ {xs:List V} {vs:List Value},V.al xs=true→ah X μ xs vs→ah ⟨X.toTrEnv,B,X.tok⟩ μ' xs vs
 | [],[],_,_=>by simp[ah]
 | [],_::_,_,h=>by simp[ah] at h
 | _::_,[],_,h=>by simp[ah] at h
 | x::xs,v::vs,hp,h=>by
   simp only[ah] at h ⊢
   simp only[V.al,Bool.and_eq_true] at hp
   exact⟨cS hw ho hp.1 h.1,bq hw ho hp.2 h.2⟩
end
end
section
variable {X:Ctx} {C:aO} {T:Nat→V} {μ:Mu}
theorem gu.Af {a:V} {v:Value} (hp:V.aw a=true) (h:aj X μ a v) (rs:List Nat):gu X μ rs a v:=
 fun _ _ hw ho=>cS hw (fun b hb=> (ho b hb).1) hp h
theorem gu.more {rs rs':List Nat} {a:V} {v:Value} (h:gu X μ rs a v) (hs: ∀r ∈ rs,r ∈ rs'):gu X μ rs' a v:=
 fun B μ' hw ho=>h B μ' hw fun b hb=> ⟨(ho b hb).1,fun r hr=> (ho b hb).2 r (hs r hr)⟩
theorem oy.more {rs rs':List Nat} {a:List V} {v:List Value} (h:oy X μ rs a v) (hs: ∀r ∈ rs,r ∈ rs'):oy X μ rs' a v:=
 fun B μ' hw ho=>h B μ' hw fun b hb=> ⟨(ho b hb).1,fun r hr=> (ho b hb).2 r (hs r hr)⟩
theorem iP {f:V→(V→List Nat→Act)→Act}
   (hf: ∀ {v:V} {k:V→List Nat→Act} {val:Value} {p:V×St},aj X μ v val→(f v k).run C ⟨T,μ.O⟩=some p→ ∃v' rs,(k v' rs).run C ⟨T,μ.O⟩=some p∧V.aw v'=true∧gu X μ rs v' val∧(v.cw=true→v'.cw=true)∧(v.aC=true→v'.aC=true)):
   ∀ {vs:List V} {k:List V→List Nat→Act} {vals:List Value} {p:V×St},ah X μ vs vals→(mh f vs k).run C ⟨T,μ.O⟩=some p→
     ∃vs' rs,(k vs' rs).run C ⟨T,μ.O⟩=some p∧V.al vs'=true∧oy X μ rs vs' vals∧vs'.length=vs.length∧(vs.all V.cw=true→vs'.all V.cw=true)∧(vs.all V.aC=true→vs'.all V.aC=true)
 | [],k,[],p,_,ag=> ⟨[],[],ag,rfl,fun _ _ _ _=>by simp[ah],rfl,id,id⟩
 | [],_,_::_,_,h,_=>by simp[ah] at h
 | _::_,_,[],_,h,_=>by simp[ah] at h
 | v::vs,k,val::vals,p,h,ag=>by
   simp only[ah] at h
   obtain⟨v',rs,h1,h2,h3,h4,h5⟩:=hf h.1 ag
   obtain⟨vs',rs',k1,k2,k3,k4,k5,k6⟩:=iP hf h.2 h1
   refine⟨v'::vs',rs++rs',k1,by simp[V.al,h2,k2],fun B μ' hw ho=> ?_,by simp[k4],?_,?_⟩
   · simp only[ah]
     exact⟨h3.more (fun r hr=>by simp[hr]) B μ' hw ho,k3.more (fun r hr=>by simp[hr]) B μ' hw ho⟩
   · simp only[List.all_cons,Bool.and_eq_true];exact fun hh=> ⟨h4 hh.1,k5 hh.2⟩
   · simp only[List.all_cons,Bool.and_eq_true];exact fun hh=> ⟨h5 hh.1,k6 hh.2⟩
theorem tf {f:V→(V→List Nat→Act)→Act}
   (hf: ∀ {v:V} {k:V→List Nat→Act} {val:Value} {p:V×St},aj X μ v val→(f v k).run C ⟨T,μ.O⟩=some p→ ∃v' rs,(k v' rs).run C ⟨T,μ.O⟩=some p∧V.aw v'=true∧gu X μ rs v' val∧(v.cw=true→v'.cw=true)∧(v.aC=true→v'.aC=true))
   {vs:List V} {k:List V→List Nat→Act} {vals:List Value} {p:V×St} (h:ah X μ vs vals) (ag: (qQ f vs k).run C ⟨T,μ.O⟩=some p):
     ∃vs' rs,(k vs' rs).run C ⟨T,μ.O⟩=some p∧V.al vs'=true∧oy X μ rs vs' vals∧vs'.length=vs.length∧(vs.all V.cw=true→vs'.all V.cw=true)∧(vs.all V.aC=true→vs'.all V.aC=true):=by
 unfold qQ at ag
 split at ag
 · rename_i hp
   exact⟨vs,[],ag,hp,fun _ _ hw ho=>bq hw (fun b hb=> (ho b hb).1) hp h,rfl,id,id⟩
 · exact iP hf h ag
theorem iQ (     ho:aS X μ): ∀ (d:Nat) {v:V} {k:V→List Nat→Act} {val:Value} {p:V×St},aj X μ v val→(dV d v k).run C ⟨T,μ.O⟩=some p→
   ∃v' rs,(k v' rs).run C ⟨T,μ.O⟩=some p∧V.aw v'=true∧gu X μ rs v' val∧(v.cw=true→v'.cw=true)∧(v.aC=true→v'.aC=true)
 | 0,v,k,val,p,h,ag=>by
   simp only[dV] at ag
   split at ag
   · rename_i hp;exact⟨v,[],ag,hp,gu.Af hp h _,id,id⟩
   · exact absurd ag aq
 | d+1,v,k,val,p,h,ag=>by
   have ih:=fun {v:V} {k:V→List Nat→Act} {val:Value} {p:V×St}=>iQ ho d (v:=v) (k:=k) (val:=val) (p:=p)
   simp only[dV] at ag
   split at ag
   · rename_i hp;exact⟨v,[],ag,hp,gu.Af hp h _,id,id⟩
   · rename_i Up
     split at ag
     ·
      simp only[aj] at h
      obtain⟨h0,vs,rfl,hv⟩:=h
      obtain⟨cj,rs,k1,k2,k3,k4,k5,k6⟩:=iP ih hv ag
      refine⟨_,rs,k1,by simpa [V.aw] using k2,fun B μ' hw hh=> ?_,fun _=>rfl,fun hc=>by simp[V.aC] at hc⟩
      simp only[aj]
      exact⟨k6 h0,vs,rfl,k3 B μ' hw hh⟩
     ·
      simp only[aj] at h
      obtain⟨F,cv,rfl,hf,hv⟩:=h
      obtain⟨cj,rs,k1,k2,k3,k4,k5,k6⟩:=iP ih hv ag
      refine⟨_,rs,k1,by simpa [V.aw] using k2,fun B μ' hw hh=> ?_,fun _=>rfl,fun _=>rfl⟩
      simp only[aj]
      exact⟨F,cv,rfl,hf,k3 B μ' hw hh⟩
     ·
      simp only[aj] at h
      obtain⟨F,y,rfl,hf,hv⟩:=h
      obtain⟨x',rs,k1,k2,k3,k4,k5⟩:=ih hv ag
      refine⟨_,rs,k1,by simpa [V.aw] using k2,fun B μ' hw hh=> ?_,fun _=>rfl,fun _=>rfl⟩
      simp only[aj]
      exact⟨F,y,rfl,hf,k3 B μ' hw hh⟩
     ·
      rename_i r g off len
      simp only[Act.run] at ag
      split at ag
      · rename_i es bp
        split at ag
        · rename_i hc
          obtain⟨bU,iu,fk⟩:=hc
          simp only[aj] at h
          obtain⟨a,cap,rfl,hle,qd,b9⟩:=h
          obtain⟨a0,a1,a2⟩:=b9 bU
          obtain⟨q1,q2,q3,q4⟩:=ho.row r es bp a0
          have mj: (aF es off len).length=len:=by simp[aF];omega
          have jr: (aF es off len).all V.cw=true:=by
            simp only[List.all_eq_true] at q3 ⊢
            exact fun x hx=> (bK (q3 x (List.mem_of_mem_drop (List.mem_of_mem_take hx)))).1
          have nn: ∃vs,ah X μ (aF es off len) vs∧(len=0∨((μ.φ r).cap≠0∧(μ.φ r).cD<μ.w.heap.size∧a=some ⟨(μ.φ r).cD,(μ.φ r).base+off*(μ.O r).sz,none⟩∧cH μ.w (μ.φ r).cD ((μ.φ r).base+off*(μ.O r).sz) (μ.O r).sz vs)):=by
            by_cases yi:len=0
            · exact⟨[],by simp[aF,yi,ah],.inl yi⟩
            · rcases q4 with q4| ⟨cc,TT,vs,p1,p2,p3,p4⟩
              · omega
              · exact⟨(vs.drop off).take len,ah.take _ (ah.drop _ p3),.inr ⟨by omega,(Array.getElem?_eq_some_iff.1 p1).1,a2.resolve_left (by omega),(p4.drop off).take len⟩⟩
          obtain⟨vs,VU,Ad⟩:=nn
          obtain⟨EK,rs,k1,k2,k3,k4,k5,k6⟩:=tf ih VU ag
          refine⟨_,r::rs,k1,rfl,fun B μ' hw hh=> ?_,fun _=>rfl,fun _=>rfl⟩
          have hx:=k3.more (rs':=r::rs) (fun q hq=>by simp[hq]) B μ' hw hh
          simp only[aj]
          refine⟨k2,k5 jr,a,cap,vs,by rw[k4,mj],by rw[k4,mj];exact hle,hx,?_⟩
          rcases Ad with yi| ⟨c0,c1,c2,c3⟩
          · left
            have:EK.length=0:=by rw[k4,mj];exact yi
            simpa using this
          · right
            refine⟨_,_,c2,fun fD=> ?_,by rw[hw];exact c1,by rw[hw];exact c3⟩
            exact(hh _ fD).2 r (by simp) (by simp[bp]) c0 rfl
        · exact absurd ag aq
      · exact absurd ag aq
     ·
      rename_i r g idx off
      simp only[Act.run] at ag
      split at ag
      · rename_i es bp
        split at ag
        · rename_i bU
          split at ag
          · rename_i e he
            simp only[aj] at h
            obtain⟨a,rfl,qd,b9⟩:=h
            obtain⟨a0,XT⟩:=b9 bU
            obtain⟨q1,q2,q3,q4⟩:=ho.row r es bp a0
            have bJ:idx<es.length:=(List.getElem?_eq_some_iff.1 he).1
            rcases q4 with q4| ⟨cc,TT,vs,p1,p2,p3,p4⟩
            · omega
            · obtain⟨x,hx,bz⟩:=p3.get he
              have jQ:aH e (μ.O r).sz=true:=by
               simp only[List.all_eq_true] at q3
               exact q3 e (List.mem_of_getElem? he)
              obtain⟨e',rs,k1,k2,k3,k4,k5⟩:=ih bz ag
              refine⟨_,r::rs,k1,rfl,fun B μ' hw hh=> ?_,fun _=>rfl,fun _=>rfl⟩
              simp only[aj]
              have dn:cH μ.w (μ.φ r).cD ((μ.φ r).base+idx*(μ.O r).sz) (μ.O r).sz [x]:=by
               have:=(p4.drop idx).take 1
               have yK: (vs.drop idx).take 1=[x]:=by
                have zZ:idx<vs.length:=(List.getElem?_eq_some_iff.1 hx).1
                rw[List.drop_eq_getElem_cons zZ,List.take_succ_cons,List.take_zero]
                rw[List.getElem?_eq_getElem zZ] at hx
                injection hx with hx;rw[hx]
               rwa [yK] at this
              refine⟨k2,k4 (bK jQ).1,(μ.φ r).cD,(μ.φ r).base+idx*(μ.O r).sz,(μ.O r).sz,x,by rw[XT],fun fD=> ?_,by rw[hw];exact(Array.getElem?_eq_some_iff.1 p1).1,
               k3.more (rs':=r::rs) (fun q hq=>by simp[hq]) B μ' hw hh,by rw[hw];exact dn⟩
              exact(hh _ fD).2 r (by simp) (by simp[bp]) (by omega) rfl
          · exact absurd ag aq
        · exact absurd ag aq
      · exact absurd ag aq
     · exact absurd ag aq
inductive iH (X:Ctx) (μ:Mu) (r0:Nat):Nat→List V→List Value→List Nat→List db→Prop
 | nil (i:Nat):iH X μ r0 i [] [] [] []
 | plain {i:Nat} {a:V} {v:Value} {rs rs':List Nat} {as:List V} {vs:List Value} {ws:List db} (hp:V.aw a=true) (hs:gu X μ rs a v) (h:iH X μ r0 (i+1) as vs rs' ws):
    iH X μ r0 i (a::as) (v::vs) (rs++rs') ws
 | sl {i r g off len:Nat} {es:List V} {v:Value} {rs:List Nat} {as:List V} {vs:List Value} {ws:List db} (bp: (μ.O r).es=some es) (fm: (μ.O r).fz=false) (bU: (μ.O r).gen=g) (jS:V.al es=true)
    (fk:off+len≤es.length) (hv:aj X μ (.sl r g off len) v) (h:iH X μ r0 (i+1) as vs rs ws):iH X μ r0 i (.msl (μ.O r).sz es off len::as) (v::vs) rs (⟨i,r,none⟩::ws)
 | ptr {i r g idx off:Nat} {es:List V} {v:Value} {rs:List Nat} {as:List V} {vs:List Value} {ws:List db} (bp: (μ.O r).es=some es) (fm: (μ.O r).fz=false) (bU: (μ.O r).gen=g) (jS:V.al es=true)
    (hv:aj X μ (.ptr r g idx off) v) (h:iH X μ r0 (i+1) as vs rs ws):iH X μ r0 i (.mptr (μ.O r).sz es idx off::as) (v::vs) rs (⟨i,r,none⟩::ws)
 | fresh {i sz:Nat} {v:Value} {rs:List Nat} {as:List V} {vs:List Value} {ws:List db} (b5:0 <sz) (hv: ∃a,v= .slice a 0 0) (h:iH X μ r0 (i+1) as vs rs ws):
    iH X μ r0 i (.msl sz [] 0 0::as) (v::vs) rs (⟨i,r0+i,some sz⟩::ws)
theorem dG (ho:aS X μ) {r0:Nat}: ∀ {vs:List V} {ms:List (Option Nat)} {i:Nat} {k:List V→List Nat→List db→Act} {vals:List Value} {p:V×St},ah X μ vs vals→
   (cO r0 vs ms i k).run C ⟨T,μ.O⟩=some p→ ∃as rs ws,(k as rs ws).run C ⟨T,μ.O⟩=some p∧iH X μ r0 i as vals rs ws
 | [],ms,i,k,[],p,_,ag=> ⟨[],[],[],by simpa [cO] using ag,.nil i⟩
 | [],_,_,_,_::_,_,h,_=>by simp[ah] at h
 | _::_,_,_,_,[],_,h,_=>by simp[ah] at h
 | v::vs,[],i,k,val::vals,p,h,ag=>by
   simp only[ah] at h
   simp only[cO,snap] at ag
   obtain⟨v',rs,h1,h2,h3,_,_⟩:=iQ ho 5 h.1 ag
   obtain⟨as,rs',ws,k1,k2⟩:=dG ho h.2 h1
   exact⟨_,_,_,k1,.plain h2 h3 k2⟩
 | v::vs,m::ms,i,k,val::vals,p,h,ag=>by
   simp only[ah] at h
   simp only[cO] at ag
   split at ag
   · split at ag
     · split at ag
       · rename_i b5
         obtain⟨as,rs',ws,k1,k2⟩:=dG ho h.2 ag
         have h1:=h.1
         simp only[aj] at h1
         exact⟨_,_,_,k1,.fresh b5 h1 k2⟩
       · exact absurd ag aq
     · rename_i r g off len
       simp only[Act.run] at ag
       split at ag
       · rename_i es bp
         split at ag
         · rename_i hc
           obtain⟨c1,c2,c3,c4,c5⟩:=hc
           obtain⟨as,rs',ws,k1,k2⟩:=dG ho h.2 ag
           rw[←c3] at k1
           exact⟨_,_,_,k1,.sl bp c2 c1 c5 c4 h.1 k2⟩
         · exact absurd ag aq
       · exact absurd ag aq
     · rename_i r g idx off
       simp only[Act.run] at ag
       split at ag
       · rename_i es bp
         split at ag
         · rename_i hc
           obtain⟨c1,c2,c3,c4⟩:=hc
           obtain⟨as,rs',ws,k1,k2⟩:=dG ho h.2 ag
           rw[←c3] at k1
           exact⟨_,_,_,k1,.ptr bp c2 c1 c4 h.1 k2⟩
         · exact absurd ag aq
       · exact absurd ag aq
     · exact absurd ag aq
   · simp only[snap] at ag
     obtain⟨v',rs,h1,h2,h3,_,_⟩:=iQ ho 5 h.1 ag
     obtain⟨as,rs',ws,k1,k2⟩:=dG ho h.2 h1
     exact⟨_,_,_,k1,.plain h2 h3 k2⟩
end
theorem gv {X:Ctx} {C:aO} {T:Nat→V} {w:World} {φ:Nat→Row}: ∀ (rs:List Nat) {O:Nat→Obj} {k:Act} {p:V×St},aS X ⟨w,φ,O⟩→(bR rs k).run C ⟨T,O⟩=some p→
   ∃O',k.run C ⟨T,O'⟩=some p∧Le ⟨w,φ,O⟩ ⟨w,φ,O'⟩∧aS X ⟨w,φ,O'⟩∧(∀r,r ∉ rs→O' r=O r)∧(∀r,r ∈ rs→O' r={O r with fz:=true})
 | [],O,k,p,ho,h=> ⟨O,h,Le.refl _,ho,fun _ _=>rfl,fun r hr=>by simp at hr⟩
 | q::rs,O,k,p,ho,h=>by
   simp only[bR,Act.run] at h
   obtain⟨l1,o1⟩:=mW ho q
   obtain⟨O',h1,h2,h3,h4,h5⟩:=gv rs o1 h
   refine⟨O',h1,l1.trans h2,h3,fun r hr=> ?_,fun r hr=> ?_⟩
   · have qk:r≠q∧r ∉ rs:=by simpa using hr
     rw[h4 r qk.2,aL _ _ qk.1]
   · by_cases hm:r ∈ rs
     · rw[h5 r hm]
       by_cases e:r=q
       · subst e;simp[av]
       · simp[aL _ _ e]
     · have e:r=q:=by
        rcases List.mem_cons.1 hr with e| hr
        · exact e
        · exact absurd hr hm
       subst e
       rw[h4 r hm,av]
theorem wZ {X:Ctx} {C:aO} {T:Nat→V} {μ:Mu} (ho:aS X μ) {v:V} {val:Value} {p:V×St} (hv:aj X μ v val) (ag: (snap v fun v' rs=>bR rs (.done v')).run C ⟨T,μ.O⟩=some p):
   ∃c' O',(Act.done c').run C ⟨T,O'⟩=some p∧aj X ⟨μ.w,μ.φ,O'⟩ c' val∧Le μ ⟨μ.w,μ.φ,O'⟩∧aS X ⟨μ.w,μ.φ,O'⟩:=by
 obtain⟨v',rs,h1,_,h3,_,_⟩:=iQ ho 5 hv ag
 obtain⟨O',k1,k2,k3,k4,k5⟩:=gv (w:=μ.w) (φ:=μ.φ) rs ho h1
 refine⟨v',O',k1,?_,k2,k3⟩
 refine h3 X.Hh ⟨μ.w,μ.φ,O'⟩ rfl fun b hb=> ?_
 rcases hb with⟨r',q1,q2,q3,q4⟩ | hb
 · simp only at q1 q2 q3 q4
   by_cases hm:r' ∈ rs
   · rw[k5 r' hm] at q2;simp at q2
   · rw[k4 r' hm] at q1 q2
     refine⟨.inl ⟨r',q1,q2,q3,q4⟩,fun r hr hs hc e=> ?_⟩
     exact ho.inj r' r (fun e'=>hm (e' ▸ hr)) q1 hs q3 hc (q4.trans e)
 · exact⟨.inr hb,fun r hr hs hc e=>ho.p8 r hs hc (e ▸ hb)⟩
end Go.AM
namespace Go.AM
open Go Go.RowKit Go.MapKept
section
variable {X:Ctx} {E:Env} {C:aO} {o:Oper} {a:Go.Act} {T:Nat→V} {μ:Mu} {v:V} {σ':St}
def EO (e:MapEntry):Value:= .tuple #[e.key,e.val]
def fV (q:Option IntKind) (d:TypeDesc):Prop:=match q with
 | some q=>d= .int q
 | none=>d= .string
theorem Dl {q:Option IntKind} {d:TypeDesc} {k:V} {kv:Value} (hd:fV q d) (hk:isKey q k=true) (hv:aj X μ k kv):IsKey d kv:=by
 unfold isKey at hk
 unfold fV at hd
 split at hk
 · simp only[aj] at hv
   subst hv;subst hd
   simpa [IsKey] using hk
 · simp only[aj] at hv
   obtain⟨bs,rfl,_⟩:=hv
   subst hd
   simp[IsKey]
 · simp at hk
theorem lT {q:Option IntKind} {d:TypeDesc} {k k':V} {kv VV:Value} {b:Bool} (hd:fV q d) (hk:isKey q k=true) (h1:aj X μ k kv) (h2:aj X μ k' VV) (h:zU k k'=some b):
   Instr.sameNow d kv VV=some b∧(b=true→VV=kv):=by
 unfold zU at h
 split at h
 · simp only[aj] at h1 h2
   subst h1;subst h2
   split at h
   · rename_i e
     subst e
     injection h with h
     subst h
     have: ∃q',d= .int q':=by
       unfold isKey at hk
       unfold fV at hd
       cases q<;>simp_all
     obtain⟨q',rfl⟩:=this
     refine⟨by simp[Instr.sameNow],fun hb=> ?_⟩
     simp only[beq_iff_eq] at hb
     rw[hb]
   · simp at h
 · simp only[aj] at h1 h2
   obtain⟨x,rfl,rfl⟩:=h1
   obtain⟨y,rfl,rfl⟩:=h2
   injection h with h
   subst h
   have:d= .string:=by
     unfold isKey at hk
     unfold fV at hd
     cases q<;>simp_all
   subst this
   have Uq: (x==y)=decide (x.data.toList=y.data.toList):=by
     rw[Bool.eq_iff_iff,bytes_beq,decide_eq_true_eq]
     constructor
     · rintro rfl;rfl
     · intro h
       cases x;cases y
       simp only[ByteArray.mk.injEq]
       exact Array.toList_inj.1 h
   refine⟨by simp[Instr.sameNow,Uq],fun hb=> ?_⟩
   rw[←Uq,bytes_beq] at hb
   rw[hb]
 · simp at h
theorem Ag {e:V} {me:MapEntry} (h:aj X μ e (EO me)) {k v:V} (he:e= .tuple [k,v]):aj X μ k me.key∧aj X μ v me.val:=by
 subst he
 simp only[EO,aj] at h
 obtain⟨vs,h1,h2⟩:=h
 injection h1 with h1
 subst h1
 simpa [ah] using h2
theorem vu {k v:V} {me:MapEntry} (h1:aj X μ k me.key) (h2:aj X μ v me.val):aj X μ (.tuple [k,v]) (EO me):=by
 simp only[EO,aj]
 exact⟨_,rfl,by simp[ah,h1,h2]⟩
theorem kX {q:Option IntKind} {d:TypeDesc} {k:V} {kv:Value} (hd:fV q d) (hk:isKey q k=true) (h1:aj X μ k kv): ∀ {es:List V} {ents:List MapEntry} {i:Nat} {r:Option V},ah X μ es (ents.map EO)→jL k es=some r→
   (r=none∧Instr.findNow d kv ents i=some none)∨ ∃v j e,r=some v∧Instr.findNow d kv ents i=some (some (j,e))∧aj X μ v e
 | [],[],i,r,_,h=>by simp[jL] at h;subst h;exact .inl ⟨rfl,rfl⟩
 | [],_::_,_,_,h,_=>by simp[ah] at h
 | _::_,[],_,_,h,_=>by simp[ah] at h
 | e::es,m::ents,i,r,hr,h=>by
   simp only[List.map_cons,ah] at hr
   unfold jL at h
   split at h
   · rename_i heq;simp at heq
   · rename_i k' v' es' heq
     injection heq with e1 e2
     subst e2
     obtain⟨t1,t2⟩:=Ag hr.1 e1
     split at h
     · rename_i hq
       injection h with h
       subst h
       obtain⟨s1,_⟩:=lT hd hk h1 t1 hq
       exact .inr ⟨v',i,m.val,rfl,by simp[Instr.findNow,s1],t2⟩
     · rename_i hq
       obtain⟨s1,_⟩:=lT hd hk h1 t1 hq
       rcases kX hd hk h1 (i:=i+1) hr.2 h with⟨g1,g2⟩ | ⟨v,j,x,g1,g2,g3⟩
       · exact .inl ⟨g1,by simp[Instr.findNow,s1,g2]⟩
       · exact .inr ⟨v,j,x,g1,by simp[Instr.findNow,s1,g2],g3⟩
     · simp at h
   · simp at h
theorem r9 {q:Option IntKind} {d:TypeDesc} {k u:V} {kv val:Value} (hd:fV q d) (hk:isKey q k=true) (h1:aj X μ k kv) (h2:aj X μ u val): ∀ {es es':List V} {ents:List MapEntry} {i:Nat},ah X μ es (ents.map EO)→kz k u es=some es'→
   (Instr.findNow d kv ents i=some none∧ ∀c,ah X μ es' ((ents++[({key:=kv,val:=val,born:=c}:MapEntry)]).map EO))∨
   ∃j e,Instr.findNow d kv ents i=some (some (i+j,e.val))∧ents[j]? =some e∧e.key=kv∧ah X μ es' ((ents.set j ({key:=kv,val:=val,born:=e.born}:MapEntry)).map EO)
 | [],es',[],i,_,h=>by
   simp[kz] at h;subst h
   exact .inl ⟨rfl,fun c=>by simp only[List.nil_append,List.map_cons,List.map_nil,ah];exact⟨vu (me:={key:=kv,val:=val,born:=c}) h1 h2,trivial⟩⟩
 | [],_,_::_,_,h,_=>by simp[ah] at h
 | _::_,_,[],_,h,_=>by simp[ah] at h
 | e::es,es',m::ents,i,hr,h=>by
   simp only[List.map_cons,ah] at hr
   unfold kz at h
   split at h
   · rename_i heq;simp at heq
   · rename_i k' v' Q1 heq
     injection heq with e1 e2
     subst e2
     obtain⟨t1,t2⟩:=Ag hr.1 e1
     split at h
     · rename_i hq
       injection h with h
       subst h
       obtain⟨s1,s2⟩:=lT hd hk h1 t1 hq
       exact .inr ⟨0,m,by simp[Instr.findNow,s1],rfl,s2 rfl,by simp only[List.set_cons_zero,List.map_cons,ah];exact⟨vu (me:={key:=kv,val:=val,born:=m.born}) h1 h2,hr.2⟩⟩
     · rename_i hq
       obtain⟨s1,_⟩:=lT hd hk h1 t1 hq
       rw[Option.map_eq_some_iff] at h
       obtain⟨es3,g0,rfl⟩:=h
       rcases r9 hd hk h1 h2 (i:=i+1) hr.2 g0 with⟨g1,g2⟩ | ⟨j,x,g1,g2,g3,g4⟩
       · exact .inl ⟨by simp[Instr.findNow,s1,g1],fun c=>by simp only[List.cons_append,List.map_cons,ah];exact⟨vu t1 t2,g2 c⟩⟩
       · exact .inr ⟨j+1,x,by simp[Instr.findNow,s1,g1];omega,by simpa using g2,g3,by simp only[List.set_cons_succ,List.map_cons,ah];exact⟨vu t1 t2,g4⟩⟩
     · simp at h
   · simp at h
theorem Dm {t:TypeId} {rs:Option Operand} {r:Nat} (hr:Rel X T a μ) (ho:o.op= .makeMap t rs) (VW:rs=none) (ag: (au E (.mkMap r)).run C ⟨T,μ.O⟩=some (v,σ')):σ'.T=T∧b4 X o a μ σ'.O v:=by
 subst VW
 simp only[au,Act.run,Option.some.injEq,Prod.mk.injEq] at ag
 obtain⟨rfl,rfl⟩:=ag
 obtain⟨le,ew⟩:=oe hr.aN r (.map #[] 0) [] (.inl ⟨#[],0,rfl,by simp[ah],by simp[rP]⟩)
 refine⟨rfl,.map (some μ.w.heap.size),_,_,.inl ?_,?_,le,ew⟩
 · simp only[execOp,ho]
   refine bM ?_
   simp[Instr.makeMap,Sem.run_bind]
 · simp only[aj,av]
   exact⟨_,rfl,Nat.le_refl _,fun _=> ⟨trivial,rfl⟩⟩
theorem Bk {  t kt et:TypeId} {d:TypeDesc} {x i:Operand} {x' i':aI} {ok:Bool} {q:Option IntKind} {z:V} (hr:Rel X T a μ) (ho:o.op= .lookup t x i ok) (ht:aR X t=some (.map kt et)) (Dn:aR X kt=some d) (hd:fV q d)
   (hz:dq X et=some z) (h1:cm X x=some x') (h2:cm X i=some i') (ag: (au E (.rE q ok z x' i')).run C ⟨T,μ.O⟩=some (v,σ')):σ'.T=T∧b4 X o a μ σ'.O v:=by
 simp only[au,aV] at ag
 have hx:=aG hr h1 μ.O
 have hi:=aG hr h2 μ.O
 have sY:X.P.underlying t=some (.map kt et):=ht
 have pG:X.P.underlying kt=some d:=Dn
 obtain⟨zv,sW,tX⟩:=fe hz μ.w
 obtain⟨rX,Hn⟩:=dx (X:=X) (μ:=μ) tX
 split at ag
 · rename_i Bl
   have Bb:=Dl hd Bl hi
   have main: ∀ {es:List V} {ents:Array MapEntry} {m:Option Nat},ah X μ es (ents.toList.map EO)→(gH ok z es (aQ ⟨T,μ.O⟩ i')).run C ⟨T,μ.O⟩=some (v,σ')→a.eval x= .map m→
       (match m with| none=>ents= #[] | some r=> ∃clock,μ.w.heap[r]? =some (.map ents clock))→σ'.T=T∧b4 X o a μ σ'.O v:=by
     intro es ents m bz kY hm hb
     have fin: ∀ (u:Value) (b:Bool),(match Instr.findNow d (a.eval i) ents.toList 0 with
         | some (some (_,v))=>u=v∧b=true
         | some none=>u=zv∧b=false
         | none=>False)→(execOp a.eval o).run X.P μ.w= .ok (.value (if ok then .tuple #[u,.bool b] else u)) μ.w:=by
       intro u b hf
       simp only[execOp,ho]
       refine bM ?_
       cases qV:Instr.findNow d (a.eval i) ents.toList 0 with
       | none=>rw[qV] at hf;exact hf.elim
       | some r=>
         rw[qV] at hf
         cases m with
         | none=>
           simp only at hb
           subst hb
           cases r with
           | none=>
             simp only at hf;obtain⟨rfl,rfl⟩:=hf
             cases ok<;>simp[Instr.lookup,Sem.run_bind,run_underlying sY,Result.andThen,hm,Go.MapKept.run_checkKey pG Bb,Go.MapKept.run_findKey (l:=[]) pG (by simpa using qV),sW]
           | some p=>
             obtain⟨j,y⟩:=p
             simp only at hf;obtain⟨rfl,rfl⟩:=hf
             cases ok<;>simp[Instr.lookup,Sem.run_bind,run_underlying sY,Result.andThen,hm,Go.MapKept.run_checkKey pG Bb,Go.MapKept.run_findKey (l:=[]) pG (by simpa using qV)]
         | some rr=>
           obtain⟨clock,hb⟩:=hb
           cases r with
           | none=>
             simp only at hf;obtain⟨rfl,rfl⟩:=hf
             cases ok<;>simp[Instr.lookup,Sem.run_bind,run_underlying sY,Result.andThen,hm,Go.MapKept.run_getObj_map hb,Go.MapKept.run_checkKey pG Bb,Go.MapKept.run_findKey pG qV,sW]
           | some p=>
             obtain⟨j,y⟩:=p
             simp only at hf;obtain⟨rfl,rfl⟩:=hf
             cases ok<;>simp[Instr.lookup,Sem.run_bind,run_underlying sY,Result.andThen,hm,Go.MapKept.run_getObj_map hb,Go.MapKept.run_checkKey pG Bb,Go.MapKept.run_findKey pG qV]
     unfold gH at kY
     split at kY
     · rename_i y hy
       obtain⟨rfl,rfl⟩:=aK kY
       rcases kX hd Bl hi (i:=0) bz hy with⟨g1,_⟩ | ⟨v0,j,e,g1,g2,g3⟩
       · cases g1
       · injection g1 with g1
         subst g1
         refine⟨rfl,aB hr.aN (fin e true (by rw[g2];exact⟨rfl,rfl⟩)) ?_⟩
         cases ok
         · simpa using g3
         · simp only[if_true,aj];exact⟨_,rfl,by simp[ah,aj,g3]⟩
     · rename_i hy
       obtain⟨rfl,rfl⟩:=aK kY
       rcases kX hd Bl hi (i:=0) bz hy with⟨_,g2⟩ | ⟨v0,j,e,g1,g2,g3⟩
       · refine⟨rfl,aB hr.aN (fin zv false (by rw[g2];exact⟨rfl,rfl⟩)) ?_⟩
         cases ok
         · simpa using rX
         · simp only[if_true,aj];exact⟨_,rfl,by simp[ah,aj,rX]⟩
       · cases g1
     · exact absurd kY aq
   split at ag
   · rename_i r g e
     rw[e] at hx
     simp only[aj] at hx
     obtain⟨b,hp,qd,b9⟩:=hx
     simp only[Act.run] at ag
     split at ag
     · rename_i es bp
       split at ag
       · rename_i hc
         obtain⟨k0,rfl⟩:=b9 hc.1
         rcases hr.aN.ents r es bp hc.2 with⟨cP,ents,clock,hm,bz,_⟩ | ⟨_,s,pos,_,rfl⟩ | ⟨kG,rfl⟩
         · exact main bz ag hp ⟨clock,hm⟩
         · exact absurd (by simpa [gH,jL] using ag) aq
         · exact absurd (by simpa [gH,jL] using ag) aq
       · exact absurd ag aq
     · exact absurd ag aq
   · rename_i es e
     rw[e] at hx
     simp only[aj] at hx
     obtain⟨_,⟨rfl,hp⟩ | ⟨b,ents,clock,hp,_,_,⟨hm,_⟩,bz⟩⟩:=hx
     · exact main (ents:= #[]) (by simp[ah]) ag hp rfl
     · exact main bz ag hp ⟨clock,hm⟩
   · exact absurd ag aq
 · exact absurd ag aq
theorem Bn {ents:Array MapEntry} {clock:Nat} (h:rP ents clock) (e:MapEntry) (he:e.born=clock):rP (ents.push e) (clock+1):=by
 obtain⟨h1,h2⟩:=h
 refine⟨fun x hx=> ?_,?_⟩
 · rw[Array.toList_push,List.mem_append,List.mem_singleton] at hx
   rcases hx with hx| rfl
   · have:=h1 x hx;omega
   · omega
 · rw[Array.toList_push,List.map_append,List.nodup_append]
   refine⟨h2,by simp,fun a ha b hb=> ?_⟩
   simp only[List.map_cons,List.map_nil,List.mem_singleton] at hb
   obtain⟨x,hx,rfl⟩:=List.mem_map.1 ha
   have:=h1 x hx
   omega
theorem w4 {ents:Array MapEntry} {clock:Nat} (h:rP ents clock) (j:Nat) {f:MapEntry→MapEntry} (hf: ∀e,(f e).born=e.born):rP (ents.modify j f) clock:=by
 have hm: (ents.modify j f).toList.map (·.born)=ents.toList.map (·.born):=by
  apply List.ext_getElem?
  intro n
  simp only[List.getElem?_map,Array.toList_modify,List.getElem?_modify]
  cases ents.toList[n]? with
  | none=>rfl
  | some x=>
    simp only[Option.map_some]
    split
    · simp[hf]
    · rfl
 refine⟨fun x hx=> ?_,by rw[hm];exact h.2⟩
 have:x.born ∈ (ents.modify j f).toList.map (·.born):=List.mem_map.2 ⟨x,hx,rfl⟩
 rw[hm] at this
 obtain⟨y,hy,e⟩:=List.mem_map.1 this
 rw[←e];exact h.1 y hy
theorem uf {     t kt et:TypeId} {d:TypeDesc} {x i y:Operand} {x' i' y':aI} {q:Option IntKind} (hr:Rel X T a μ) (ho:o.op= .mapUpdate t x i y∨o.op= .insert t x i y) (ht:aR X t=some (.map kt et)) (Dn:aR X kt=some d) (hd:fV q d)
   (h1:cm X x=some x') (h2:cm X i=some i') (h3:cm X y=some y') (ag: (au E (.ph q x' i' y')).run C ⟨T,μ.O⟩=some (v,σ')):σ'.T=T∧b4 X o a μ σ'.O v:=by
 simp only[au,aV] at ag
 have hx:=aG hr h1 μ.O
 have hi:=aG hr h2 μ.O
 have hy:=aG hr h3 μ.O
 have sY:X.P.underlying t=some (.map kt et):=ht
 have pG:X.P.underlying kt=some d:=Dn
 split at ag
 · rename_i r g e
   rw[e] at hx
   simp only[aV] at ag
   obtain⟨u,O1,k1,k2,k3,k4⟩:=jq (μ:=μ) hr.aN hy ag
   have Uj:=aj.mono k3 hx
   have pt:=aj.mono k3 hi
   simp only[Act.run] at k1
   split at k1
   · rename_i es bp
     split at k1
     · rename_i hc
       obtain⟨bU,b5,fm,Bl,jr⟩:=hc
       split at k1
       · rename_i es' qF
         simp only[Act.run,Option.some.injEq,Prod.mk.injEq] at k1
         obtain⟨rfl,rfl⟩:=k1
         simp only[aj] at Uj
         obtain⟨b,hp,qd,b9⟩:=Uj
         obtain⟨_,rfl⟩:=b9 bU
         obtain⟨cP,ents,clock,hm,bz,jo⟩: (μ.φ r).cap≠0∧ ∃ents clock,μ.w.heap[(μ.φ r).cD]? =some (.map ents clock)∧ah X ⟨μ.w,μ.φ,O1⟩ es (ents.toList.map EO)∧rP ents clock:=by
           rcases k4.ents r es bp b5 with h| ⟨_,s,pos,_,rfl⟩ | ⟨kG,rfl⟩
           · exact h
           · simp[kz] at qF
           · simp[kz] at qF
         have Bb:=Dl hd Bl pt
         have fin: ∀w',(Instr.mapUpdate t (.map (some (μ.φ r).cD)) (a.eval i) (a.eval y)).run X.P μ.w= .ok () w'→(execOp a.eval o).run X.P μ.w= .ok .skip w':=fun w' hw=>by
           rcases ho with ho| ho
           · simp only[execOp,ho,hp];exact CX hw
           · simp only[execOp,ho,hp];exact CX hw
         rcases r9 hd Bl pt k2 (i:=0) bz qF with⟨g1,g2⟩ | ⟨j,e,g1,g2,g3,g4⟩
         · obtain⟨le,ew⟩:=mX (μ:=⟨μ.w,μ.φ,O1⟩) k4 r (es':=es') (ob':= .map (ents.push {key:=a.eval i,val:=a.eval y,born:=clock}) (clock+1)) bp fm b5 hm cP (.inl ⟨ents,clock,rfl,bz,jo⟩) (.inl ⟨_,_,rfl,by
            have:=g2 clock
            have e1: (ents.push ({key:=a.eval i,val:=a.eval y,born:=clock}:MapEntry)).toList=ents.toList++[({key:=a.eval i,val:=a.eval y,born:=clock}:MapEntry)]:=by simp
            rw[e1];exact this,Bn jo _ rfl⟩)
           refine⟨rfl,undef,_,_,.inr ⟨fin _ ?_,rfl⟩,by simp only[aj];exact⟨#[],rfl,by simp[ah]⟩,k3.trans le,ew⟩
           simp[Instr.mapUpdate,run_underlying sY,Go.MapKept.run_getObj_map hm,Go.MapKept.run_checkKey pG Bb,Go.MapKept.run_findKey pG g1,Go.MapKept.run_setObj_map _ hm,Result.andThen,Sem.run_bind]
         · rw[Nat.zero_add] at g1
           have VX:ents[j]? =some e:=by simpa using g2
           obtain⟨le,ew⟩:=mX (μ:=⟨μ.w,μ.φ,O1⟩) k4 r (es':=es') (ob':= .map (ents.modify j fun e=> {e with key:=a.eval i,val:=a.eval y}) (clock)) bp fm b5 hm cP (.inl ⟨ents,clock,rfl,bz,jo⟩) (.inl ⟨_,_,rfl,by
            have hl: (ents.modify j fun e=> {e with key:=a.eval i,val:=a.eval y}).toList=ents.toList.set j {e with key:=a.eval i,val:=a.eval y}:=by
              apply List.ext_getElem?
              intro n
              rw[Array.toList_modify,List.getElem?_modify,List.getElem?_set]
              by_cases hn:j=n
              · subst hn
                have bJ:=(List.getElem?_eq_some_iff.1 g2).1
                simp only[if_true,bJ,g2,Option.map_some,and_self]
                rfl
              · simp[hn]
            rw[hl];exact g4,w4 jo j fun _=>rfl⟩)
           refine⟨rfl,undef,_,_,.inr ⟨fin _ ?_,rfl⟩,by simp only[aj];exact⟨#[],rfl,by simp[ah]⟩,k3.trans le,ew⟩
           simp[Instr.mapUpdate,run_underlying sY,Go.MapKept.run_getObj_map hm,Go.MapKept.run_checkKey pG Bb,Go.MapKept.run_findKey pG g1,VX,g3,Go.MapKept.run_keyThatStays Bb,Go.MapKept.run_setObj_map _ hm,Result.andThen,Sem.run_bind]
       · exact absurd k1 aq
     · exact absurd k1 aq
   · exact absurd k1 aq
 · exact absurd ag aq
theorem j8 {P:Program} {w:World} {r:Nat} {s:ByteArray} {pos:Nat} (hb:w.heap[r]? =some (.stringIter s pos)): (getObj r).run P w= .ok (.stringIter s pos) w:=by
 simp[getObj,Sem.run,hb]
theorem j9 {P:Program} {w:World} {r:Nat} {s:ByteArray} {pos:Nat} (o:Go.Obj) (hb:w.heap[r]? =some (.stringIter s pos)): (setObj r o).run P w= .ok () {w with heap:=w.heap.setIfInBounds r o}:=by
 simp[setObj,Sem.run,hb]
theorem za {t:TypeId} {x:Operand} {y:aI} {r:Nat} (hr:Rel X T a μ) (ho:o.op= .range t x) (ht:aR X t=some .string) (h1:cm X x=some y) (ag: (au E (.nM r y)).run C ⟨T,μ.O⟩=some (v,σ')):σ'.T=T∧b4 X o a μ σ'.O v:=by
 simp only[au,aV] at ag
 have hx:=aG hr h1 μ.O
 have sY:X.P.underlying t=some .string:=ht
 split at ag
 · rename_i s e
   rw[e] at hx
   simp only[aj] at hx
   obtain⟨bs,hp,rfl⟩:=hx
   simp only[Act.run,Option.some.injEq,Prod.mk.injEq] at ag
   obtain⟨rfl,rfl⟩:=ag
   obtain⟨le,ew⟩:=oe hr.aN r (.stringIter bs 0) [.str bs.data.toList,.int .i64 0] (.inr (.inl ⟨bs,0,rfl,rfl⟩))
   refine⟨rfl,.pointer (some ⟨μ.w.heap.size,0,none⟩),_,_,.inl ?_,?_,le,ew⟩
   · simp only[execOp,ho]
     refine bM ?_
     simp[Instr.range,Sem.run_bind,run_underlying sY,hp,Result.andThen]
   · simp only[aj,av]
     exact⟨_,rfl,Nat.le_refl _,fun _=> ⟨trivial,rfl⟩⟩
 · exact absurd ag aq
theorem zb {t kt et:TypeId} {x:Operand} {y:aI} {r:Nat} (hr:Rel X T a μ) (ho:o.op= .range t x) (ht:aR X t=some (.map kt et)) (h1:cm X x=some y) (ag: (au E (.mapIter r y)).run C ⟨T,μ.O⟩=some (v,σ')):σ'.T=T∧b4 X o a μ σ'.O v:=by
 simp only[au,aV] at ag
 have hx:=aG hr h1 μ.O
 have sY:X.P.underlying t=some (.map kt et):=ht
 split at ag
 · rename_i es e
   rw[e] at hx
   simp only[aj] at hx
   simp only[Act.run,Option.some.injEq,Prod.mk.injEq] at ag
   obtain⟨rfl,rfl⟩:=ag
   obtain⟨_,⟨rfl,hp⟩ | ⟨b,ents,clock,hp,ef,bJ,⟨hm,jo⟩,bz⟩⟩:=hx
   · obtain⟨le,ew⟩:=oe hr.aN r (.mapIter none 0 #[] 0) [.mlit []] (.inr (.inr ⟨none,0,[],rfl,rfl,.inl ⟨rfl,rfl⟩⟩))
     refine⟨rfl,.pointer (some ⟨μ.w.heap.size,0,none⟩),_,_,.inl ?_,?_,le,ew⟩
     · simp only[execOp,ho]
       refine bM ?_
       simp[Instr.range,Sem.run_bind,run_underlying sY,hp,Result.andThen]
     · simp only[aj,av]
       exact⟨_,rfl,Nat.le_refl _,fun _=> ⟨trivial,rfl⟩⟩
   · obtain⟨le,ew⟩:=oe hr.aN r (.mapIter (some b) clock #[] clock) [.mlit es] (.inr (.inr ⟨some b,clock,es,rfl,rfl,.inr ⟨b,ents,rfl,ef,bJ,hm,jo,bz⟩⟩))
     refine⟨rfl,.pointer (some ⟨μ.w.heap.size,0,none⟩),_,_,.inl ?_,?_,le,ew⟩
     · simp only[execOp,ho]
       refine bM ?_
       simp[Instr.range,Sem.run_bind,run_underlying sY,hp,Result.andThen,Go.MapKept.run_getObj_map hm]
     · simp only[aj,av]
       exact⟨_,rfl,Nat.le_refl _,fun _=> ⟨trivial,rfl⟩⟩
 · exact absurd ag aq
theorem zc {  x:Operand} {y:aI} (hr:Rel X T a μ) (ho:o.op= .next x true) (h1:cm X x=some y) (ag: (au E (.nN y)).run C ⟨T,μ.O⟩=some (v,σ')):σ'.T=T∧b4 X o a μ σ'.O v:=by
 simp only[au,aV] at ag
 have hx:=aG hr h1 μ.O
 split at ag
 · rename_i r g e
   rw[e] at hx
   simp only[aj] at hx
   obtain⟨b,hp,qd,b9⟩:=hx
   simp only[Act.run] at ag
   split at ag
   · rename_i s p bp
     split at ag
     · rename_i hc
       obtain⟨bU,b5,fm⟩:=hc
       obtain⟨_,rfl⟩:=b9 bU
       rcases hr.aN.ents r _ bp b5 with⟨cP,ents,clock,hm,bz,_⟩ | ⟨cP,bs,pos,hm,hs⟩ | ⟨kG,hs⟩
       · exfalso
         cases he:ents.toList with
         | nil=>simp[he,ah] at bz
         | cons e es=>simp[he,ah,aj] at bz
       · simp only[List.cons.injEq,V.str.injEq,V.int.injEq,true_and,and_true] at hs
         obtain⟨rfl,rfl⟩:=hs
         simp only[Int.toNat_natCast] at ag
         have hlen:bs.data.toList.length=bs.size:=by rw[Array.length_toList];rfl
         have yY: (⟨bs.data.toList.toArray⟩:ByteArray)=bs:=by cases bs;simp
         rw[hlen,yY] at ag
         split at ag
         · rename_i bJ
           simp only[Act.run,Option.some.injEq,Prod.mk.injEq] at ag
           obtain⟨rfl,rfl⟩:=ag
           obtain⟨le,ew⟩:=mX hr.aN r (es':=[.str bs.data.toList,.int .i64 ((pos+(Utf8.decode bs pos).2:Nat):Int)]) (ob':= .stringIter bs (pos+(Utf8.decode bs pos).2)) bp fm b5 hm cP (.inr (.inl ⟨bs,pos,rfl,rfl⟩)) (.inr (.inl ⟨bs,_,rfl,rfl⟩))
           refine⟨rfl,.tuple #[.bool true,goInt pos,.int .i32 ((Utf8.decode bs pos).1:Int)],_,_,.inl ?_,?_,le,ew⟩
           · simp only[execOp,ho]
             refine bM ?_
             simp[Instr.next,Sem.run_bind,hp,Result.andThen,j8 hm,j9 _ hm,bJ,-bind_pure_comp]
           · simp only[aj]
             exact⟨_,rfl,by simp[ah,aj,goInt]⟩
         · rename_i bJ
           obtain⟨rfl,rfl⟩:=aK ag
           refine⟨rfl,aB hr.aN (val:= .tuple #[.bool false]) ?_ ?_⟩
           · simp only[execOp,ho]
             refine bM ?_
             simp[Instr.next,Sem.run_bind,hp,Result.andThen,j8 hm,j9 _ hm,bJ,-bind_pure_comp]
           · simp only[aj]
             exact⟨_,rfl,by simp[ah,aj]⟩
       · simp at hs
     · exact absurd ag aq
   · exact absurd ag aq
 · exact absurd ag aq
theorem Ah {x:Operand} {y:aI} (hr:Rel X T a μ) (ho:o.op= .move x∨o.op= .assign x) (ht:cm X x=some y) (ag: (au E (.uW y)).run C ⟨T,μ.O⟩=some (v,σ')):σ'.T=T∧b4 X o a μ σ'.O v:=by
 simp only[au,aV] at ag
 have iO: (execOp a.eval o).run X.P μ.w= .ok (.value (a.eval x)) μ.w:=by rcases ho with ho| ho<;>simp[execOp,ho]
 obtain⟨u,O1,k1,k2,k3,k4⟩: ∃c' O',(Act.done c').run C ⟨T,O'⟩=some (v,σ')∧aj X ⟨μ.w,μ.φ,O'⟩ c' (a.eval x)∧Le μ ⟨μ.w,μ.φ,O'⟩∧aS X ⟨μ.w,μ.φ,O'⟩:=by
  split at ag
  · exact wZ hr.aN (aG hr ht μ.O) ag
  · exact jq (μ:=μ) hr.aN (aG hr ht μ.O) ag
 obtain⟨rfl,rfl⟩:=aK k1
 exact⟨rfl,a.eval x,μ.w,μ.φ,.inl iO,k2,k3,k4⟩
end
end Go.AM
namespace Go.AM
open Go Go.RowKit
def oS.fF:oS→Bool
 | .call .. =>true
 | _=>false
section
variable {X:Ctx} {E:Env} {C:aO} {o:Oper} {a:Go.Act} {T:Nat→V} {μ:Mu} {v:V} {σ':St}
theorem Ge {p:V×St} {σ:St}: (au E .bad).run C σ≠some p:=by simp[au,Act.run]
theorem zd {h:Hints} {dst:Nat} {c:Call} {lY:oS} (hr:Rel X T a μ) (ho:o.op= .call c) (aE:rN X h dst c=some lY) (y8:lY.fF=false)
   (ag: (au E lY).run C ⟨T,μ.O⟩=some (v,σ')):σ'.T=T∧b4 X o a μ σ'.O v:=by
 unfold rN at aE
 split at aE
 · split at aE
   · injection aE with aE;subst aE;simp[oS.fF] at y8
   · simp at aE
 · simp at aE
 · rename_i b hc
   have iu: ∀ {α:Type} (l:Array α) (m:List α),l.toList=m→l=m.toArray:=fun l m e=>by rw[←e]
   split at aE
   · rename_i x t h1 h2
     have e1:=iu _ _ h1;have e2:=iu _ _ h2
     split at aE
     · rename_i x' e hx hd
       injection aE with aE;subst aE
       exact Ld hr ho hc e1 e2 hd hx ag
     · rename_i x' hx hd
       injection aE with aE;subst aE
       exact A8 hr ho hc e1 e2 hd hx ag
     · rename_i x' n e hx hd
       injection aE with aE;subst aE
       exact A9 hr ho hc e1 e2 hd ag
     · simp at aE
   · rename_i xs _
     simp only[Option.map_eq_some_iff] at aE
     obtain⟨as,h1,rfl⟩:=aE
     exact Lf hr ho hc h1 ag
   · rename_i xs _
     simp only[Option.map_eq_some_iff] at aE
     obtain⟨as,h1,rfl⟩:=aE
     exact Lg hr ho hc h1 ag
   · rename_i s x t t' h1 h2
     have e1:=iu _ _ h1;have e2:=iu _ _ h2
     split at aE
     · rename_i s' x' e d hs hx hd s7
       split at aE
       · rename_i sz i z e' hn hi hz
         split at aE<;>simp at aE
         rename_i hb
         subst aE
         split at ag
         · exact r8 hr ho hc e1 e2 hd s7 (by simp) hn hi hz hb hs hx ag
         · exact ue hr ho hc e1 e2 hd s7 (by simp) hn hi hz hb hs hx ag
       · rename_i sz i z hn hi hz
         split at aE<;>simp at aE
         rename_i hb
         subst aE
         split at ag
         · exact r8 hr ho hc e1 e2 hd s7 (by simp) hn hi hz hb hs hx ag
         · exact ue hr ho hc e1 e2 hd s7 (by simp) hn hi hz hb hs hx ag
       · simp at aE
     · simp at aE
   · rename_i d s t t' h1 h2
     have e1:=iu _ _ h1;have e2:=iu _ _ h2
     split at aE
     · rename_i d' s' e hd hs ht
       simp only[Option.map_eq_some_iff] at aE
       obtain⟨sz,hn,rfl⟩:=aE
       exact Gd hr ho hc e1 e2 ht hn hd hs ag
     · simp at aE
   · rename_i x t h1 h2
     have e1:=iu _ _ h1;have e2:=iu _ _ h2
     split at aE
     · rename_i x' e hx hd
       split at aE
       · rename_i sz z hn hz
         injection aE with aE;subst aE
         exact Dk hr ho hc e1 e2 hd hz hx ag
       · simp at aE
     · simp at aE
   · simp at aE
theorem jT {kt:TypeId} {q:Option IntKind} (h:n0 X kt=some q): ∃d,aR X kt=some d∧fV q d:=by
 unfold n0 at h
 split at h
 · rename_i k hk
   injection h with h;subst h
   exact⟨_,hk,rfl⟩
 · rename_i hk
   injection h with h;subst h
   exact⟨_,hk,rfl⟩
 · simp at h
theorem Dp (kl: ∀t1 t2 k,X.gq t1=some k→X.gq t2=some k→t1=t2) {h:Hints} {dst:Nat} {lY:oS} (hr:Rel X T a μ) (aE:td X h dst o.op=some lY) (y8:lY.fF=false)
  (ag: (au E lY).run C ⟨T,μ.O⟩=some (v,σ')):σ'.T=T∧b4 X o a μ σ'.O v:=by
 cases cZ:o.op<;>simp only[td,cZ] at aE<;>try (simp at aE;done)
 case move x=>
  split at aE
  · simp only[Option.map_eq_some_iff] at aE
    obtain⟨y,h1,rfl⟩:=aE
    exact Ae hr (.inl cZ) h1 ag
  · split at aE
    ·  simp only[Option.map_eq_some_iff] at aE
       obtain⟨y,h1,rfl⟩:=aE
       exact Ah hr (.inl cZ) h1 ag
    · exact Hi hr (.inl cZ) aE ag
 case assign x=>
  split at aE
  · simp only[Option.map_eq_some_iff] at aE
    obtain⟨y,h1,rfl⟩:=aE
    exact Ae hr (.inr cZ) h1 ag
  · split at aE
    ·  simp only[Option.map_eq_some_iff] at aE
       obtain⟨y,h1,rfl⟩:=aE
       exact Ah hr (.inr cZ) h1 ag
    · exact Hi hr (.inr cZ) aE ag
 case pick c p q=>
  split at aE
  · rename_i c' p' q' h1 h2 h3
    injection aE with aE;subst aE
    exact F6 hr cZ h1 h2 h3 ag
  · simp at aE
 case alloc t=>
  split at aE
  · rename_i sz z h1 h2
    injection aE with aE;subst aE
    exact C8 _ hr cZ h2 ag
  · simp at aE
 case box t x=>
  split at aE
  · rename_i sz y h1 h2
    injection aE with aE;subst aE
    exact Lk _ hr cZ h2 ag
  · simp at aE
 case build t ps=>
  split at aE
  · rename_i z fs h1 h2
    split at aE
    · simp at aE
    ·  rename_i nP
       simp only[Option.map_eq_some_iff] at aE
       obtain⟨as,h3,rfl⟩:=aE
       exact Bf _ hr cZ h1 h2 (by revert nP;cases fs.toList.all (fun f=> (ba X f.type).isSome) <;>simp) h3 ag
  · rename_i z n e h1 h2
    split at aE
    ·  rename_i s hs
       simp only[Option.map_eq_some_iff] at aE
       obtain⟨as,h3,rfl⟩:=aE
       exact Bg _ hr cZ h1 h2 hs h3 ag
    · simp at aE
  · simp at aE
 case buildSlice t n ps=>
  split at aE
  · rename_i e hd
    split at aE
    ·  rename_i sz z as h1 h2 h3
       injection aE with aE;subst aE
       split at ag
       · exact r6 hr cZ hd h1 h2 h3 ag
       · split at ag
         · exact r5 hr cZ hd h1 h2 h3 ag
         · exact mA hr cZ hd h1 h2 h3 ag
    · simp at aE
  · simp at aE
 case load t x=>
  split at aE
  · rename_i g sz y h1 h2 h3
    injection aE with aE;subst aE
    split at ag
    · exact Ab hr cZ h3 h1 h2 ag
    · exact C4 _ hr cZ h3 h1 h2 ag
  · simp at aE
 case store t x y=>
  split at aE
  · rename_i g sz x' y' h1 h2 h3 h4
    injection aE with aE;subst aE
    exact C9 hr cZ h3 h4 h2 ag
  · simp at aE
 case nilCheck x=>
  simp only[Option.map_eq_some_iff] at aE
  obtain⟨y,h1,rfl⟩:=aE
  exact wE hr cZ h1 ag
 case binOp op t x y t2=>
  split at aE
  · rename_i x' y' h1 h2
    unfold z7 at aE
    split at aE
    ·  rename_i heq
       have Dr:op= .eql∨op= .neq:=by cases op<;>simp[CV] at heq<;>simp
       split at aE
       · rename_i hd
         injection aE with aE;subst aE
         exact La hr cZ Dr hd h1 h2 rfl ag
       · injection aE with aE;subst aE
         exact yU hr cZ h1 h2 ag
       · injection aE with aE;subst aE
         exact yU hr cZ h1 h2 ag
       · rename_i ms hd
         injection aE with aE;subst aE
         exact Lb hr cZ Dr ⟨_,hd⟩ kl h1 h2 rfl ag
       · rename_i e hd
         split at aE
         · rename_i n b5
           injection aE with aE;subst aE
           exact Lc hr cZ Dr hd b5 h1 h2 rfl ag
         · simp at aE
       · rename_i fs hd
         split at aE
         · rename_i hg
           simp only[Option.map_eq_some_iff] at aE
           obtain⟨ks,h3,rfl⟩:=aE
           exact C3 hr cZ Dr hg h3 (by simp[eX,hd]) h1 h2 rfl ag
         · simp at aE
       · rename_i hd
         split at aE
         · rename_i hg
           simp only[Option.map_eq_some_iff] at aE
           obtain⟨ks,h3,rfl⟩:=aE
           exact C3 hr cZ Dr hg h3 (by simp[eX,hd]) h1 h2 rfl ag
         · simp at aE
       · simp at aE
    ·  injection aE with aE;subst aE
       exact yU hr cZ h1 h2 ag
  · simp at aE
 case unOp op t x=>
  simp only[Option.map_eq_some_iff] at aE
  obtain⟨y,h1,rfl⟩:=aE
  exact Q6 hr cZ h1 ag
 case convert s d x=>
  split at aE
  · rename_i k0 k y h1 h2 h3
    injection aE with aE;subst aE
    exact yW hr cZ h1 h2 h3 ag
  · rename_i k0 y h1 h2 h3
    injection aE with aE;subst aE
    exact A6 hr cZ h1 h2 h3 ag
  · rename_i k y h1 h2 h3
    injection aE with aE;subst aE
    exact A7 hr cZ h1 h2 h3 ag
  · rename_i y h1 h2 h3
    injection aE with aE;subst aE
    exact yX hr cZ h1 h2 h3 ag
  · simp at aE
 case makeInterface t x=>
  split at aE
  · simp at aE
  · rename_i n y d cB h1 h2 h3
    injection aE with aE;subst aE
    exact pC hr cZ h1 h2 ⟨_,h3,fun ms e=>cB ms e⟩ ag
  · simp at aE
 case typeAssert x t0 t ok=>
  split at aE
  · simp at aE
  · rename_i n y z d cB h1 h2 h3 h4
    injection aE with aE;subst aE
    exact Bh hr cZ kl h1 h2 h3 ⟨_,h4,fun ms e=>cB ms e⟩ ag
  · simp at aE
 case makeFunc fn first caps=>
  cases fn<;>simp only at aE<;>try (simp at aE;done)
  split at aE
  · rename_i hf
    split at aE
    ·  rename_i n cs h1 h2
       injection aE with aE;subst aE
       exact wF hr cZ hf h1 h2 ag
    · simp at aE
  · simp at aE
 case makeSlice t l c=>
  split at aE
  · rename_i e hd
    split at aE
    ·  rename_i sz i z l' c' h1 h2 h3 h4 h5
       injection aE with aE;subst aE
       exact vq hr cZ hd h1 h2 h3 h4 h5 ag
    · simp at aE
  · simp at aE
 case slice t x lo hi mx=>
  split at aE
  · rename_i e x' Hl wN Ul hd h1 h2 h3 h4
    simp only[Option.map_eq_some_iff] at aE
    obtain⟨sz,hn,rfl⟩:=aE
    exact C5 hr cZ hd hn h1 h2 h3 h4 ag
  · rename_i x' Hl wN hd h1 h2 h3 h4
    injection aE with aE;subst aE
    have EI:mx=none:=by
       cases mx with
       | none=>rfl
       | some m=>simp[pA] at h4
    subst EI
    exact wM hr cZ hd h1 h2 h3 ag
  · simp at aE
 case fieldAddr s x i=>
  split at aE
  · rename_i fs y hd h1
    split at aE
    ·  rename_i f hf
       split at aE
       · rename_i n hn
         injection aE with aE;subst aE
         exact vk hr cZ h1 hd hf hn ag
       · simp at aE
    · simp at aE
  · simp at aE
 case field s x i=>
  split at aE
  · rename_i fs y hd h1
    split at aE
    ·  rename_i f hf
       split at aE
       · rename_i g sz h2 h3
         injection aE with aE;subst aE
         exact CZ hr cZ h1 hd hf h2 h3 ag
       · simp at aE
    · simp at aE
  · simp at aE
 case indexAddr t x i=>
  split at aE
  · rename_i e x' i' hd h1 h2
    simp only[Option.map_eq_some_iff] at aE
    obtain⟨sz,hn,rfl⟩:=aE
    exact vn hr cZ hd hn h1 h2 ag
  · rename_i n e x' i' hd h1 h2
    simp only[Option.map_eq_some_iff] at aE
    obtain⟨sz,hn,rfl⟩:=aE
    exact wJ hr cZ hd hn h1 h2 ag
  · simp at aE
 case index t x i=>
  split at aE
  · rename_i x' i' hd h1 h2
    injection aE with aE;subst aE
    exact wK hr cZ hd h1 h2 ag
  · rename_i n e x' i' hd h1 h2
    split at aE
    ·  rename_i g sz h3 h4
       injection aE with aE;subst aE
       exact wL hr cZ hd h3 h4 h1 h2 ag
    · simp at aE
  · simp at aE
 case extract x i=>
  simp only[Option.map_eq_some_iff] at aE
  obtain⟨y,h1,rfl⟩:=aE
  exact yT hr cZ h1 ag
 case makeMap t rs=>
  cases rs with
  | some _=>simp at aE
  | none=>
    injection aE with aE;subst aE
    exact Dm hr cZ rfl ag
 case range t x=>
  split at aE
  · rename_i x' hd h1
    injection aE with aE;subst aE
    exact za hr cZ hd h1 ag
  · rename_i x' hd h1
    injection aE with aE;subst aE
    exact zb hr cZ hd h1 ag
  · simp at aE
 case next x isS=>
  cases isS with
  | false=>simp at aE
  | true=>
    simp only[Option.map_eq_some_iff] at aE
    obtain⟨y,h1,rfl⟩:=aE
    exact zc hr cZ h1 ag
 case lookup t x i ok=>
  split at aE
  · rename_i kt et x' i' hd h1 h2
    split at aE
    ·  rename_i q z hq hz
       injection aE with aE;subst aE
       obtain⟨d,Dn,hk⟩:=jT hq
       exact Bk hr cZ hd Dn hk hz h1 h2 ag
    · simp at aE
  · simp at aE
 case mapUpdate t m k v=>
  split at aE
  · rename_i kt et m' k' v' hd h1 h2 h3
    simp only[Option.map_eq_some_iff] at aE
    obtain⟨q,hq,rfl⟩:=aE
    obtain⟨d,Dn,hk⟩:=jT hq
    exact uf hr (.inl cZ) hd Dn hk h1 h2 h3 ag
  · simp at aE
 case insert t m k v=>
  split at aE
  · rename_i kt et m' k' v' hd h1 h2 h3
    simp only[Option.map_eq_some_iff] at aE
    obtain⟨q,hq,rfl⟩:=aE
    obtain⟨d,Dn,hk⟩:=jT hq
    exact uf hr (.inr cZ) hd Dn hk h1 h2 h3 ag
  · simp at aE
 case call c=>exact zd hr cZ aE y8 ag
end
end Go.AM
namespace Go.AM
open Go Go.RowKit
def kZ (X:Ctx) (E:Env) (C:aO):Prop:= ∀ (h:Hints) (dst:Nat) (o:Oper) (lY:oS) (a:Go.Act) (T:Nat→V) (μ:Mu) (v:V) (σ':St),Rel X T a μ→td X h dst o.op=some lY→
 (au E lY).run C ⟨T,μ.O⟩=some (v,σ')→σ'.T=T∧ ∀ (next:Go.Act→World→Prop) (Q:Go.Exit→Go.Act→World→Prop),
   (∀val w' φ',aj X ⟨w',φ',σ'.O⟩ v val→Le μ ⟨w',φ',σ'.O⟩→aS X ⟨w',φ',σ'.O⟩→next (a.put o.dst val) w')→o.wp X.P a μ.w next Q
structure Fp where
 tm:Nat
 fl:Nat
 ro:Option Nat
def Marks (n:Fp) (w:World) (ds:List Deferred):Prop:=(n.fl≤w.heap.size∧ ∀l,n.ro=some l→ ∃L,w.heap[l]? =some (.loop L))∧ ∃Ds:List Nat,ds=Ds.map (fun D=> {target:= .collected D,args:= #[]})∧Ds.Nodup∧ ∀D ∈ Ds,n.fl≤D∧w.heap[D]? =some (.deferred (some []))
theorem Marks.nil {n:Fp} {w:World} (h:n.fl≤w.heap.size) (hl: ∀l,n.ro=some l→ ∃L,w.heap[l]? =some (.loop L)):Marks n w []:=⟨⟨h,hl⟩,[],rfl,.nil,by simp⟩
theorem dm {X:Ctx} {μ:Mu} (ho:aS X μ) {D:Nat} {o:Go.Obj} (hD:μ.w.heap[D]? =some o) (h1:o.isCells=false) (h2:o.isWalk=false): ¬μ.own D:=by
 rintro⟨r,hr,_,hc,hb⟩
 obtain⟨es,bp⟩:=Option.isSome_iff_exists.1 hr
 rcases ho.ok r es bp with⟨_,_,_,h4⟩ | ⟨_,_,ob,h3,h4⟩
 · rcases h4 with h4| ⟨c,T,vs,k1,_⟩
   · exact hc h4
   · rw[hb,hD] at k1;injection k1 with k1;subst k1;simp[Obj.isCells] at h1
 · rw[hb,hD] at h3;injection h3 with h3;subst h3
   rcases h4 with⟨_,_,rfl,_⟩ | ⟨_,_,rfl,_⟩ | ⟨_,_,_,rfl,_⟩ <;>simp[Obj.isWalk] at h2
theorem Marks.le {X:Ctx} {μ μ':Mu} {n:Fp} {ds:List Deferred} (h:Marks n μ.w ds) (ho:aS X μ) (le:Le μ μ'):Marks n μ'.w ds:=by
 obtain⟨⟨h0,iG⟩,Ds,h1,h2,h3⟩:=h
 refine⟨⟨Nat.le_trans h0 le.size,fun l hl=>by
  obtain⟨L,k⟩:=iG l hl
  exact⟨L,(le.bZ l (Array.getElem?_eq_some_iff.1 k).1 (dm ho k rfl rfl)).1.trans k⟩⟩,Ds,h1,h2,fun D hD=> ⟨(h3 D hD).1,?_⟩⟩
 have k:=(h3 D hD).2
 rw[(le.bZ D (Array.getElem?_eq_some_iff.1 k).1 (dm ho k rfl rfl)).1]
 exact k
structure gC (X:Ctx) (μ0:Mu) (n:Fp) (σ:St) (a:Go.Act) (w:World):Prop where
 defers:Marks n w a.defers
 size:a.tmps.size=n.1
 rel: ∃φ,Rel X σ.T a ⟨w,φ,σ.O⟩∧Le μ0 ⟨w,φ,σ.O⟩
section
variable {X:Ctx} {E:Env} {C:aO} {μ0:Mu} {n:Fp}
theorem lU {T:Nat→V} {a:Go.Act} {μ μ':Mu} {dst:Option Nat} {v:V} {val:Value} (hr:Rel X T a μ) (le:Le μ μ') (ho:aS X μ') (hv:aj X μ' v val) (hd:dst.all (· <a.tmps.size)=true) (O:Nat→Obj):
   Rel X (St.put ⟨T,O⟩ dst v).T (a.put dst val) μ':=by
 refine⟨fun t=> ?_,ho⟩
 cases dst with
 | none=>exact aj.mono le (hr.tmps t)
 | some d=>
   simp at hd
   simp only[St.put,Go.Act.put,cW]
   split
   · rename_i e
     subst e
     have: (a.tmps.setIfInBounds t val).getD t undef=val:=by simp[hd]
     rw[this];exact hv
   · rename_i cB
     have: (a.tmps.setIfInBounds d val).getD t undef=a.tmps.getD t undef:=by
      simp[Array.getElem?_setIfInBounds_ne (fun e=>cB e.symm)]
     rw[this];exact aj.mono le (hr.tmps t)
theorem jt (a:Go.Act) (dst:Option Nat) (v:Value): (a.put dst v).tmps.size=a.tmps.size:=by cases dst<;>simp[Go.Act.put]
theorem put_defers (a:Go.Act) (dst:Option Nat) (v:Value): (a.put dst v).defers=a.defers:=by cases dst<;>simp[Go.Act.put]
theorem pH {μ:Mu}:aj X μ da undef:=by simp only[da,aj];exact⟨#[],rfl,by simp[ah]⟩
theorem mZ (    H:kZ X E C) {h:Hints} {ops:Array Oper} {i:Nat} {o:Oper} {ao:aX} {σ σ':St} {a:Go.Act} {w:World} {K:Go.Act→World→Prop} {Q:Go.Exit→Go.Act→World→Prop}
   (ho:ops[i]? =some o) (aE:kJ X h ops o=some ao) (hn:h.n=n.1) (hs:gC X μ0 n σ a w) (ag:dB E C ao σ=some σ') (hK: ∀a' w',gC X μ0 n σ' a' w'→K a' w'):
   wpOpIn (Fr n.ro) 0 X.P ops Q i K a w:=by
 obtain⟨gM,b5,φ,hr,hle⟩:=hs
 unfold kJ at aE
 simp only at aE
 split at aE
 · rename_i g hg VY
   injection aE with aE
   subst aE
   have hd:o.dst.all (· <a.tmps.size)=true:=by rw[b5,←hn];exact VY
   simp only[dB] at ag
   split at ag
   · rename_i v σ1 tg
     injection ag with ag
     subst ag
     have runs: (au E ((td X h (o.dst.getD 0) o.op).getD .bad)).run C σ=some (v,σ1)→o.wpIn (Fr n.ro) 0 X.P a w K Q:=fun cZ=>by
       cases Dt:td X h (o.dst.getD 0) o.op with
       | none=>rw[Dt] at cZ;exact absurd cZ Ge
       | some lY=>
         rw[Dt] at cZ
         obtain⟨hT,VZ⟩:=H h _ o lY a σ.T ⟨w,φ,σ.O⟩ v σ1 hr Dt cZ
         refine qY (fun c e=>by rw[e] at Dt;simp[td] at Dt) (VZ K Q fun val w' φ' hv le ew=>hK _ _ ⟨by rw[put_defers];exact gM.le hr.aN le,by rw[jt];exact b5,φ',?_,?_⟩)
         · have:=lU hr le ew hv hd σ1.O
           rw[←hT] at this
           have e: (σ1.put o.dst v).O=σ1.O:=by cases o.dst<;>rfl
           rw[e];exact this
         · have e: (σ1.put o.dst v).O=σ1.O:=by cases o.dst<;>rfl
           rw[e];exact hle.trans le
     have Hs:v=da→σ1=σ→K (a.put o.dst undef) w:=fun hv hσ=>by
       subst hv;subst hσ
       refine hK _ _ ⟨by rw[put_defers];exact gM,by rw[jt];exact b5,φ,?_,?_⟩
       · have:=lU hr (Le.refl _) hr.aN pH hd σ1.O
         have e: (σ1.put o.dst da).O=σ1.O:=by cases o.dst<;>rfl
         rw[e];exact this
       · have e: (σ1.put o.dst da).O=σ1.O:=by cases o.dst<;>rfl
         rw[e];exact hle
     simp only[wpOpIn,ho]
     cases yV:o.guard with
     | none=>
       rw[yV] at hg
       injection hg with hg
       subst hg
       rw[if_pos (by simp[Region.wanted,yV])]
       exact runs (by simpa [cX] using tg)
     | some gw=>
       obtain⟨j,want⟩:=gw
       rw[yV] at hg
       simp only at hg
       split at hg
       · rename_i d XU
         injection hg with hg
         subst hg
         simp only[cX,Act.run] at tg
         have hv:=hr.tmps d
         split at tg
         · rename_i b hb
           rw[hb] at hv
           simp only[aj] at hv
           have bJ:d<a.tmps.size:=by
             rcases Nat.lt_or_ge d a.tmps.size with hl| hl
             · exact hl
             · simp[Array.getElem?_eq_none hl,undef] at hv
           have V0:a.tmps[d]? =some (.bool b):=by
             rw[Array.getElem?_eq_getElem bJ]
             simp[Array.getElem?_eq_getElem bJ] at hv
             rw[hv]
           have hy:yielded ops a.tmps j=some b:=by simp[yielded,XU,V0]
           split at tg
           · rename_i ME
             rw[if_pos (by simp[Region.wanted,yV,hy,ME])]
             exact runs tg
           · rename_i ME
             rw[if_neg (by simp[Region.wanted,yV,hy,ME])]
             obtain⟨e1,e2⟩:=aK tg
             exact⟨fun _ _=>trivial,Hs e1.symm e2⟩
         · rename_i hb
           rw[hb] at hv
           simp only[aj] at hv
           obtain⟨vs,nn,Ur⟩:=hv
           have hy:yielded ops a.tmps j=none:=by
             simp only[yielded,XU,Option.bind_some]
             cases hq:a.tmps[d]? with
             | none=>rfl
             | some x=>
               have:x= .tuple vs:=by simpa [hq] using nn
               rw[this]
           rw[if_neg (by simp[Region.wanted,yV,hy])]
           obtain⟨e1,e2⟩:=aK tg
           exact⟨fun _ _=>trivial,Hs e1.symm e2⟩
         · exact absurd tg aq
       · simp at hg
   · simp at ag
 · simp at aE
theorem iT {h:Hints} {ops:Array Oper}: ∀ {l:List Oper} {as:List aX},eB X h ops l=some as→as.length=l.length∧ ∀ (i:Nat) o,l[i]? =some o→ ∃ao,as[i]? =some ao∧kJ X h ops o=some ao
 | [],as,h'=>by simp[eB] at h';subst h';simp
 | o::l,as,h'=>by
   simp only[eB] at h'
   split at h'
   · rename_i ao Un h1 h2
     injection h' with h';subst h'
     obtain⟨k1,k2⟩:=iT h2
     refine⟨by simp[k1],fun i o' hi=> ?_⟩
     cases i with
     | zero=>simp at hi;subst hi;exact⟨ao,by simp,h1⟩
     | succ i=>simpa using k2 i o' (by simpa using hi)
   · simp at h'
theorem Bp {ao:aX} {σ:St} {p:List Nat}:dB E C {ao with pre:=p} σ=dB E C ao σ:=rfl
theorem dz (H:kZ X E C) {h:Hints} {ops:Array Oper} {as:List aX} (hn:h.n=n.1) (aE:eB X h ops ops.toList=some as) {Q:Go.Exit→Go.Act→World→Prop}:
   ∀ (m k:Nat),k+m=ops.size→ ∀ {σ σ':St} {a:Go.Act} {w:World},gC X μ0 n σ a w→gl E C ((as.drop k).map fun o=> {o with pre:=[]}) σ=some σ'→
     (∀a' w',gC X μ0 n σ' a' w'→Q .normal a' w')→wpOpsIn (Fr n.ro) 0 X.P ops Q (List.range' k m) a w
 | 0,k,hk,σ,σ',a,w,hs,ag,hQ=>by
   obtain⟨hl,_⟩:=iT aE
   have:as.drop k=[]:=by simp at hl;simp;omega
   rw[this] at ag
   simp[gl] at ag
   subst ag
   simpa [wpOpsIn] using hQ a w hs
 | m+1,k,hk,σ,σ',a,w,hs,ag,hQ=>by
   obtain⟨hl,kY⟩:=iT aE
   have Ud:k<ops.size:=by omega
   obtain⟨ao,Bq,ju⟩:=kY k ops[k] (by simp[Ud])
   have XV:k<as.length:=by simp at hl;omega
   have hd:as.drop k=ao::as.drop (k+1):=by
     rw[List.drop_eq_getElem_cons XV]
     rw[List.getElem?_eq_getElem XV] at Bq
     injection Bq with Bq;rw[Bq]
   rw[hd] at ag
   simp only[List.map_cons,gl,Bp] at ag
   split at ag
   · rename_i σ1 h1
     rw[List.range'_succ,wpOpsIn_cons]
     refine mZ H (o:=ops[k]) (by simp[Ud]) ju hn hs h1 fun a' w' ji=> ?_
     exact dz H hn aE m (k+1) (by omega) ji ag hQ
   · simp at ag
end
end Go.AM
namespace Go.AM
open Go Go.RowKit
inductive Cell where
 | v (x:V)
 | o (x:Obj)
def St.at (σ:St):Loc→Cell
 | .t n=> .v (σ.T n)
 | .o n=> .o (σ.O n)
theorem St.ext' {σ τ:St} (h: ∀l,σ.at l=τ.at l):σ=τ:=by
 cases σ;cases τ
 congr
 · funext n;have:=h (.t n);simpa [St.at] using this
 · funext n;have:=h (.o n);simpa [St.at] using this
theorem jv {C:aO}: ∀ (act:Act) {σ τ σ':St} {v:V},act.run C σ=some (v,σ')→(∀l ∈ (act.c9 C σ).reads,σ.at l=τ.at l)→
   ∃τ',act.run C τ=some (v,τ')∧act.c9 C τ=act.c9 C σ∧ ∀l,(l ∈ (act.c9 C σ).writes→τ'.at l=σ'.at l)∧(l ∉ (act.c9 C σ).writes→τ'.at l=τ.at l∧σ'.at l=σ.at l)
 | .done u,σ,τ,σ',v,h,_=>by
   simp only[Act.run,Option.some.injEq,Prod.mk.injEq] at h
   obtain⟨rfl,rfl⟩:=h
   exact⟨τ,rfl,rfl,fun l=> ⟨fun hl=>by simp[Act.c9] at hl,fun _=> ⟨rfl,rfl⟩⟩⟩
 | .fail,_,_,_,_,h,_=>by simp[Act.run] at h
 | .ke t k,σ,τ,σ',v,h,hr=>by
   simp only[Act.run] at h
   have e:σ.T t=τ.T t:=by have:=hr (.t t) (by simp[Act.c9]);simpa [St.at] using this
   obtain⟨τ',h1,h2,h3⟩:=jv (k (σ.T t)) h (fun l hl=>hr l (by simp[Act.c9,hl]))
   exact⟨τ',by simp only[Act.run,←e];exact h1,by simp only[Act.c9,←e,h2],by simpa [Act.c9] using h3⟩
 | .bB r k,σ,τ,σ',v,h,hr=>by
   simp only[Act.run] at h
   have e:σ.O r=τ.O r:=by have:=hr (.o r) (by simp[Act.c9]);simpa [St.at] using this
   obtain⟨τ',h1,h2,h3⟩:=jv (k (σ.O r)) h (fun l hl=>hr l (by simp[Act.c9,hl]))
   exact⟨τ',by simp only[Act.run,←e];exact h1,by simp only[Act.c9,←e,h2],by simpa [Act.c9] using h3⟩
 | .bg r o k,σ,τ,σ',v,h,hr=>by
   simp only[Act.run] at h
   obtain⟨τ',h1,h2,h3⟩:=jv k (τ:={τ with O:=cW τ.O r o}) h (fun l hl=>by
     have:=hr l (by simp[Act.c9,hl])
     cases l with
     | t n=>simpa [St.at] using this
     | o n=>
       simp only[St.at,Cell.o.injEq] at this ⊢
       by_cases hn:n=r
       · subst hn;simp[av]
       · simp[aL _ _ hn,this])
   refine⟨τ',by simp only[Act.run];exact h1,by simp only[Act.c9,h2],fun l=> ⟨fun hl=> ?_,fun hl=> ?_⟩⟩
   · simp only[Act.c9,List.mem_cons] at hl
     by_cases hw:l ∈ (k.c9 C {σ with O:=cW σ.O r o}).writes
     · exact(h3 l).1 hw
     · obtain⟨e1,e2⟩:=(h3 l).2 hw
       rcases hl with rfl| hl
       · rw[e1,e2];simp[St.at,av]
       · exact absurd hl hw
   · simp only[Act.c9,List.mem_cons,not_or] at hl
     obtain⟨e1,e2⟩:=(h3 l).2 hl.2
     rw[e1,e2]
     cases l with
     | t n=>simp[St.at]
     | o n=>
       have hn:n≠r:=fun e=>hl.1 (by rw[e])
       simp[St.at,aL _ _ hn]
 | .call f as k,σ,τ,σ',v,h,hr=>by
   simp only[Act.run] at h
   split at h
   · rename_i res kn
     obtain⟨τ',h1,h2,h3⟩:=jv (k res) h (fun l hl=>hr l (by simp[Act.c9,kn,hl]))
     exact⟨τ',by simp only[Act.run,kn];exact h1,by simp only[Act.c9,kn,h2],by simpa [Act.c9,kn] using h3⟩
   · simp at h
theorem Du (σ:St) (dst:Option Nat) (v:V) (l:Loc): (σ.put dst v).at l=if dst.any (fun d=>l= .t d) then .v v else σ.at l:=by
 cases dst with
 | none=>simp[St.put]
 | some d=>
   cases l with
   | t n=>
     simp only[St.put,St.at,cW,Option.any_some,Loc.t.injEq]
     by_cases h:n=d<;>simp[h]
   | o n=>simp[St.put,St.at]
theorem ql {E:Env} {C:aO} {o:aX} {σ τ σ':St} (h:dB E C o σ=some σ') (hr: ∀l ∈ (cn E C o σ).reads,σ.at l=τ.at l):
   ∃τ',dB E C o τ=some τ'∧ ∀l,(l ∈ (cn E C o σ).writes→τ'.at l=σ'.at l)∧(l ∉ (cn E C o σ).writes→τ'.at l=τ.at l∧σ'.at l=σ.at l):=by
 simp only[dB] at h
 split at h
 · rename_i v σ1 tg
   injection h with h
   subst h
   obtain⟨τ1,h1,h2,h3⟩:=jv (cX E o) tg hr
   refine⟨τ1.put o.dst v,by simp only[dB,h1],fun l=> ?_⟩
   rw[Du,Du]
   have hw: (cn E C o σ).writes=(match o.dst with| some d=> [Loc.t d] | none=> [])++((cX E o).c9 C σ).writes:=rfl
   rw[hw]
   cases hd:o.dst with
   | none=>simpa using h3 l
   | some d=>
     by_cases hl:l= .t d
     · subst hl;simp
     · refine⟨fun hm=> ?_,fun hm=> ?_⟩
       · simp[hl] at hm
         simp[hl]
         exact(h3 l).1 hm
       · simp[hl] at hm
         simp[hl]
         exact(h3 l).2 hm
 · simp at h
structure Trace (E:Env) (C:aO) (as:List aX) (S:Nat→St) (F:Nat→dt) (W:Nat→List Nat):Prop where
 step: ∀ (i:Nat) ao,as[i]? =some ao→dB E C ao (S i)=some (S (i+1))∧F i=cn E C ao (S i)∧W i=ao.pre++ao.pre.flatMap W∧(∀p ∈ ao.pre,p<i)∧
  ∀j,j<i→j ∈ W i∨(F j).j5 (F i)=false
theorem w5 {bE:List dt} {wait:List Nat} {f:dt}: ∀ {k:Nat},fits bE wait f k=true→ ∀j,j<k→j ∈ wait∨(bE.getD j ⟨[],[]⟩).j5 f=false
 | 0,_,j,hj=>by omega
 | k+1,h,j,hj=>by
   simp only[fits,Bool.and_eq_true,Bool.or_eq_true,Bool.not_eq_true'] at h
   by_cases e:j=k
   · subst e
     rcases h.1 with h1| h1
     · exact .inl (by simpa using h1)
     · exact .inr h1
   · exact w5 h.2 j (by omega)
theorem lh {α β:Type} {f g:α→List β}: ∀ {l:List α},(∀x ∈ l,f x=g x)→l.flatMap f=l.flatMap g
 | [],_=>rfl
 | x::l,h=>by
   simp only[List.flatMap_cons]
   rw[h x (by simp),lh fun y hy=>h y (by simp[hy])]
theorem qm {  E:Env} {C:aO}: ∀ (l:List aX) (bE:List dt) (before:List (List Nat)) (σ σ':St),bE.length=before.length→c6 E C l bE before σ=some σ'→
   ∃ (S:Nat→St) (F:Nat→dt) (W:Nat→List Nat),S bE.length=σ∧S (bE.length+l.length)=σ'∧(∀k,k<bE.length→F k=bE.getD k ⟨[],[]⟩∧W k=before.getD k [])∧
     ∀ (i:Nat) ao,l[i]? =some ao→dB E C ao (S (bE.length+i))=some (S (bE.length+i+1))∧F (bE.length+i)=cn E C ao (S (bE.length+i))∧
       W (bE.length+i)=ao.pre++ao.pre.flatMap W∧(∀p ∈ ao.pre,p<bE.length+i)∧ ∀j,j<bE.length+i→j ∈ W (bE.length+i)∨(F j).j5 (F (bE.length+i))=false
 | [],bE,before,σ,σ',hl,h=>by
   simp only[c6,Option.some.injEq] at h
   subst h
   exact⟨fun _=>σ,fun k=>bE.getD k ⟨[],[]⟩,fun k=>before.getD k [],rfl,rfl,fun k _=> ⟨rfl,rfl⟩,fun i ao hi=>by simp at hi⟩
 | o::l,bE,before,σ,σ',hl,h=>by
   simp only[c6] at h
   split at h
   · rename_i hf
     simp only[Bool.and_eq_true,List.all_eq_true,decide_eq_true_eq] at hf
     split at h
     · rename_i σ1 h1
       obtain⟨S,F,W,s1,s2,s3,s4⟩:=qm l (bE++[cn E C o σ]) (before++[closure before o.pre]) σ1 σ' (by simp[hl]) h
       simp only[List.length_append,List.length_singleton] at s1 s2 s3 s4
       let S':Nat→St:=fun k=>if k=bE.length then σ else S k
       have e1:S' (bE.length+1)=σ1:=by simp[S',s1]
       have e2: ∀k,bE.length<k→S' k=S k:=fun k hk=>by simp[S'];intro e;omega
       have MG:F bE.length=cn E C o σ:=by
         have:=(s3 bE.length (by omega)).1
         simpa using this
       have XW:W bE.length=closure before o.pre:=by
         have:=(s3 bE.length (by omega)).2
         rw[hl] at this
         simpa [hl] using this
       have Rj: ∀k,k<bE.length→W k=before.getD k []:=fun k hk=>by
         have:=(s3 k (by omega)).2
         rw[this]
         simp[List.getElem?_append_left (show k<before.length by omega)]
       have Rk: ∀k,k<bE.length→F k=bE.getD k ⟨[],[]⟩:=fun k hk=>by
         have:=(s3 k (by omega)).1
         rw[this]
         simp[List.getElem?_append_left hk]
       refine⟨S',F,W,by simp[S'],?_,fun k hk=> ⟨Rk k hk,Rj k hk⟩,fun i ao hi=> ?_⟩
       · rw[e2 _ (by simp)]
         rw[←s2];congr 1;simp;omega
       · cases i with
         | zero=>
           simp at hi
           subst hi
           simp only[Nat.add_zero]
           have hS:S' bE.length=σ:=by simp[S']
           rw[hS,e1]
           refine⟨h1,MG,?_,hf.2,fun j hj=> ?_⟩
           · rw[XW,closure]
             congr 1
             apply lh
             intro p hp
             exact(Rj p (hf.2 p hp)).symm
           · rw[MG,XW,Rk j hj]
             exact w5 hf.1 j hj
         | succ i=>
           have:=s4 i ao (by simpa using hi)
           have ea:bE.length+1+i=bE.length+(i+1):=by omega
           rw[ea] at this
           rw[e2 _ (by omega),e2 _ (by omega)]
           exact this
     · simp at h
   · simp at h
def jU (S:Nat→St) (F:Nat→dt) (D:Nat→Bool) (l:Loc):Nat→Cell
 | 0=> (S 0).at l
 | i+1=>if D i=true∧l ∈ (F i).writes then(S (i+1)).at l else jU S F D l i
theorem m7 {S:Nat→St} {F:Nat→dt} {D D':Nat→Bool} {l:Loc}: ∀ {n:Nat},(∀i,i<n→l ∈ (F i).writes→D i=D' i)→jU S F D l n=jU S F D' l n
 | 0,_=>rfl
 | n+1,h=>by
   simp only[jU]
   rw[m7 fun i hi=>h i (by omega)]
   by_cases hl:l ∈ (F n).writes
   · rw[h n (by omega) hl]
   · simp[hl]
theorem lV {  S:Nat→St} {F:Nat→dt} {D:Nat→Bool} {l:Loc} {m:Nat}: ∀ {n:Nat},m≤n→(∀i,m≤i→i<n→l ∈ (F i).writes→D i=false)→jU S F D l n=jU S F D l m
 | 0,h,_=>by have:m=0:=by omega
             subst this;rfl
 | n+1,h,hh=>by
   by_cases e:m=n+1
   · subst e;rfl
   · simp only[jU]
     rw[if_neg (by rintro⟨h1,h2⟩;have:=hh n (by omega) (by omega) h2;simp[this] at h1)]
     exact lV (by omega) fun i h1 h2=>hh i h1 (by omega)
theorem sa {E:Env} {C:aO} {as:List aX} {S:Nat→St} {F:Nat→dt} {W:Nat→List Nat} (tr:Trace E C as S F W) {D:Nat→Bool} {l:Loc}:
   ∀ {n:Nat},n≤as.length→(∀i,i<n→D i=true)→jU S F D l n=(S n).at l
 | 0,_,_=>rfl
 | n+1,hn,hD=>by
   obtain⟨ao,Bq⟩: ∃ao,as[n]? =some ao:=⟨as[n],List.getElem?_eq_getElem (by omega)⟩
   obtain⟨h1,h2,_⟩:=tr.step n ao Bq
   simp only[jU,hD n (by omega),true_and]
   split
   · rfl
   · rename_i hl
     rw[sa tr (by omega) fun i hi=>hD i (by omega)]
     obtain⟨_,_,h3⟩:=ql h1 (τ:=S n) fun _ _=>rfl
     rw[h2] at hl
     exact((h3 l).2 hl).2.symm
theorem sb {a b:dt} {l:Loc} (h: (l ∈ a.writes∧l ∈ b.writes)∨(l ∈ a.writes∧l ∈ b.reads)∨(l ∈ a.reads∧l ∈ b.writes)):a.j5 b=true:=by
 simp only[dt.j5,meets,Bool.or_eq_true,List.any_eq_true,List.contains_iff_mem]
 rcases h with⟨h1,h2⟩ | ⟨h1,h2⟩ | ⟨h1,h2⟩
 · exact .inl (.inl ⟨l,h1,h2⟩)
 · exact .inl (.inr ⟨l,h1,h2⟩)
 · exact .inr ⟨l,h1,h2⟩
structure lj (S:Nat→St) (F:Nat→dt) (W:Nat→List Nat) (m:Nat) (D:Nat→Bool) (τ:St):Prop where
 closed: ∀i,D i=true→ ∀p ∈ W i,D p=true
 state: ∀l,τ.at l=jU S F D l m
theorem th {E:Env} {C:aO} {as:List aX} {S:Nat→St} {F:Nat→dt} {W:Nat→List Nat} (tr:Trace E C as S F W) {D:Nat→Bool} {τ:St} (hA:lj S F W as.length D τ)
   {j:Nat} {ao:aX} (hj:as[j]? =some ao) (hD:D j=false) (w6: ∀p ∈ ao.pre,D p=true):
   ∃τ',dB E C ao τ=some τ'∧lj S F W as.length (fun i=>i==j || D i) τ':=by
 obtain⟨h1,h2,h3,h4,h5⟩:=tr.step j ao hj
 have EP:j<as.length:=(List.getElem?_eq_some_iff.1 hj).1
 have hW: ∀p ∈ W j,D p=true:=by
   rw[h3]
   intro p hp
   simp only[List.mem_append,List.mem_flatMap] at hp
   rcases hp with hp| ⟨q,hq,hp⟩
   · exact w6 p hp
   · exact hA.closed q (w6 q hq) p hp
 have key: ∀i,i≠j→i<as.length→(F i).j5 (F j)=true∨(F j).j5 (F i)=true→(D i=true↔i<j):=by
   intro i cB hi hc
   rcases Nat.lt_or_ge i j with bJ| qd
   · refine⟨fun _=>bJ,fun _=> ?_⟩
     rcases h5 i bJ with h| h
     · exact hW i h
     · rcases hc with hc| hc
       · rw[h] at hc;cases hc
       · exfalso
         have: (F i).j5 (F j)=true:=by
          simp only[dt.j5,Bool.or_eq_true,meets,List.any_eq_true,List.contains_iff_mem] at hc ⊢
          rcases hc with(⟨l,a,b⟩ | ⟨l,a,b⟩) | ⟨l,a,b⟩
          · exact .inl (.inl ⟨l,b,a⟩)
          · exact .inr ⟨l,b,a⟩
          · exact .inl (.inr ⟨l,b,a⟩)
         rw[h] at this;cases this
   · have Zp:j<i:=by omega
     refine⟨fun MH=> ?_,fun h=>by omega⟩
     obtain⟨V1,V2⟩: ∃V1,as[i]? =some V1:=⟨as[i],List.getElem?_eq_getElem hi⟩
     obtain⟨_,_,_,_,g5⟩:=tr.step i V1 V2
     rcases g5 j Zp with h| h
     · have:=hA.closed i MH j h
       rw[hD] at this;cases this
     · exfalso
       rcases hc with hc| hc
       · have: (F j).j5 (F i)=true:=by
          simp only[dt.j5,Bool.or_eq_true,meets,List.any_eq_true,List.contains_iff_mem] at hc ⊢
          rcases hc with(⟨l,a,b⟩ | ⟨l,a,b⟩) | ⟨l,a,b⟩
          · exact .inl (.inl ⟨l,b,a⟩)
          · exact .inr ⟨l,b,a⟩
          · exact .inl (.inr ⟨l,b,a⟩)
         rw[h] at this;cases this
       · rw[h] at hc;cases hc
 have nQ: ∀l ∈ (F j).reads,(S j).at l=τ.at l:=by
   intro l hl
   rw[hA.state l]
   have e1:jU S F D l as.length=jU S F D l j:=lV (by omega) fun i pt yS hw=>by
     by_cases e:i=j
     · subst e;exact hD
     · have:=key i e yS (.inl (sb (.inr (.inl ⟨hw,hl⟩))))
       cases MH:D i with
       | false=>rfl
       | true=>have:=this.1 MH;omega
   have e2:jU S F D l j=jU S F (fun i=>decide (i<j)) l j:=m7 fun i hi hw=>by
     have:=(key i (by omega) (by omega) (.inl (sb (.inr (.inl ⟨hw,hl⟩))))).2 hi
     simp[this,hi]
   rw[e1,e2]
   exact(sa tr (by omega) fun i hi=>by simp[hi]).symm
 rw[h2] at nQ
 obtain⟨τ',k1,k2⟩:=ql h1 nQ
 rw[←h2] at k2
 refine⟨τ',k1,fun i hi p hp=> ?_,fun l=> ?_⟩
 · simp only[Bool.or_eq_true,beq_iff_eq] at hi ⊢
   rcases hi with rfl| hi
   · exact .inr (hW p hp)
   · exact .inr (hA.closed i hi p hp)
 · by_cases hl:l ∈ (F j).writes
   · rw[(k2 l).1 hl]
     have e1:jU S F (fun i=>i==j || D i) l as.length=jU S F (fun i=>i==j || D i) l (j+1):=lV (by omega) fun i pt yS hw=>by
       have cB:i≠j:=by omega
       have:=key i cB yS (.inl (sb (.inl ⟨hw,hl⟩)))
       cases MH:D i with
       | false=>simp[cB,MH]
       | true=>have:=this.1 MH;omega
     rw[e1]
     simp[jU,hl]
   · rw[((k2 l).2 hl).1,hA.state l]
     exact m7 fun i _ hw=>by
       by_cases e:i=j
       · subst e;exact absurd hw hl
       · simp[e]
theorem vv {E:Env} {C:aO} {as:List aX} {S:Nat→St} {F:Nat→dt} {W:Nat→List Nat} (tr:Trace E C as S F W) {D:Nat→Bool} {τ:St} (hA:lj S F W as.length D τ)
  (nP: ∀i,i<as.length→D i=true):τ=S as.length:=
 St.ext' fun l=>by rw[hA.state l,sa tr (Nat.le_refl _) nP]
section
variable {X:Ctx} {E:Env} {C:aO} {μ0:Mu} {n:Fp}
theorem Dv {σ:St} {a:Go.Act} {w:World} (h:gC X μ0 n σ a w):gC X μ0 n σ a {w with drawn:=w.drawn+1}:=by
 obtain⟨h1,h2,φ,hr,hle⟩:=h
 obtain⟨Rh,VR⟩:=Le.drew (X:=X) (μ:=⟨w,φ,σ.O⟩) hr.aN
 exact⟨h1,h2,φ,⟨fun t=>aj.mono Rh (hr.tmps t),VR⟩,hle.trans Rh⟩
theorem Bt ( H:kZ X E C) {h:Hints} {ops:Array Oper} {as:List aX} (hn:h.n=n.1) (aE:eB X h ops ops.toList=some as) {S:Nat→St} {F:Nat→dt} {W:Nat→List Nat}
   (tr:Trace E C as S F W) {Q:Go.Exit→Go.Act→World→Prop} (hQ: ∀a w,gC X μ0 n (S as.length) a w→Q .normal a w):
   ∀ (fuel:Nat) (aT:Array Bool) (τ:St) (a:Go.Act) (w:World),aT.size=ops.size→((List.range ops.size).filter fun i=> !aT.getD i true).length≤fuel→
     lj S F W as.length (fun i=>aT.getD i false) τ→gC X μ0 n τ a w→wpAnyIn (Fr n.ro) 0 X.P .any ops Q fuel aT a w:=by
 obtain⟨hlen,kY⟩:=iT aE
 have qi:as.length=ops.size:=by simpa using hlen
 have ready: ∀ (aT:Array Bool) (j:Nat),j ∈ Region.ready .any ops aT→ ∃o ao,ops[j]? =some o∧as[j]? =some ao∧kJ X h ops o=some ao∧aT.getD j true=false∧ ∀p ∈ ao.pre,aT.getD p false=true:=by
   intro aT j hj
   simp only[Region.ready,List.mem_filter,List.mem_range,Bool.and_eq_true,Bool.not_eq_true'] at hj
   obtain⟨bJ,hl,hr⟩:=hj
   have ho:ops[j]? =some ops[j]:=by simp[bJ]
   obtain⟨ao,Bq,ju⟩:=kY j ops[j] (by simp[bJ])
   refine⟨_,ao,ho,Bq,ju,hl,fun p hp=> ?_⟩
   rw[ho] at hr
   simp only[Option.map_some,Option.getD_some] at hr
   have w6:ao.pre=(ops[j].after.toList.filter (Region.binds .any)).map (·.on):=by
     unfold kJ at ju
     simp only at ju
     split at ju
     · injection ju with ju;rw[←ju]
     · simp at ju
   rw[w6] at hp
   simp only[List.mem_map,List.mem_filter] at hp
   obtain⟨e,⟨Zq,VE⟩,rfl⟩:=hp
   rw[Array.all_eq_true'] at hr
   have:=hr e (by simpa using Zq)
   simpa [VE] using this
 have done: ∀ (aT:Array Bool),Region.ready .any ops aT=[]→aT.size=ops.size→ ∀i,i<as.length→aT.getD i false=true:=by
   intro aT Bu b5 i
   induction i using Nat.strongRecOn with
   | _ i ih=>
     intro hi
     cases hl:aT.getD i false with
     | true=>rfl
     | false=>
       exfalso
       have bJ:i<ops.size:=by omega
       have jd:i<aT.size:=by omega
       have Zr:aT.getD i true=false:=by simpa [jd] using hl
       obtain⟨ao,Bq,ju⟩:=kY i ops[i] (by simp[bJ])
       obtain⟨_,_,_,Uh,_⟩:=tr.step i ao Bq
       have w6:ao.pre=(ops[i].after.toList.filter (Region.binds .any)).map (·.on):=by
         unfold kJ at ju
         simp only at ju
         split at ju
         · injection ju with ju;rw[←ju]
         · simp at ju
       have:i ∈ Region.ready .any ops aT:=by
         simp only[Region.ready,List.mem_filter,List.mem_range,Bool.and_eq_true,Bool.not_eq_true']
         refine⟨bJ,Zr,?_⟩
         have ho:ops[i]? =some ops[i]:=by simp[bJ]
         rw[ho]
         simp only[Option.map_some,Option.getD_some]
         rw[Array.all_eq_true']
         intro e he
         cases hb:Region.binds .any e with
         | false=>simp
         | true=>
           have hm:e.on ∈ ao.pre:=by
            rw[w6];simp only[List.mem_map,List.mem_filter]
            exact⟨e,⟨by simpa using he,hb⟩,rfl⟩
           have h1:=Uh _ hm
           simpa using ih e.on h1 (by omega)
       rw[Bu] at this
       cases this
 have finish: ∀ (aT:Array Bool) (τ:St) (a:Go.Act) (w:World),aT.size=ops.size→lj S F W as.length (fun i=>aT.getD i false) τ→gC X μ0 n τ a w→Region.ready .any ops aT=[]→Q .normal a w:=by
   intro aT τ a w b5 hA hs Bu
   have:=vv tr hA (done aT Bu b5)
   exact hQ a w (this ▸ hs)
 intro fuel
 induction fuel with
 | zero=>
   intro aT τ a w b5 hf hA hs
   have Bu:Region.ready .any ops aT=[]:=by
     simp only[Nat.le_zero,List.length_eq_zero_iff,List.filter_eq_nil_iff,List.mem_range] at hf
     simp only[Region.ready,List.filter_eq_nil_iff,List.mem_range]
     intro i hi
     have:=hf i hi
     simp at this
     simp[this]
   exact⟨Bu,finish aT τ a w b5 hA hs Bu⟩
 | succ fuel ih=>
   intro aT τ a w b5 hf hA hs
   refine⟨finish aT τ a w b5 hA hs,fun j hj=> ?_⟩
   obtain⟨o,ao,ho,Bq,ju,hl,w6⟩:=ready aT j hj
   have EP:j<ops.size:=by rw[←qi];exact(List.getElem?_eq_some_iff.1 Bq).1
   have Zs:aT.getD j false=false:=by
     have h1:j<aT.size:=by omega
     simpa [h1] using hl
   obtain⟨τ',k1,k2⟩:=th tr hA Bq Zs w6
   refine mZ H ho ju hn hs k1 fun a' w' ji=>ih _ τ' a' w' (by simpa using b5) ?_ ?_ ji
   ·
     have CM: ∀ (L:List Nat),L.Nodup→j ∈ L→(L.filter fun i=> !(aT.setIfInBounds j true).getD i true).length+1≤(L.filter fun i=> !aT.getD i true).length:=by
       intro L
       induction L with
       | nil=>intro _ h;cases h
       | cons x L Zt=>
         intro ER hm
         have cB: ∀i,i≠j→(aT.setIfInBounds j true).getD i true=aT.getD i true:=fun i hi=>by
           simp[Array.getElem?_setIfInBounds_ne (fun e=>hi e.symm)]
         have Zu: (aT.setIfInBounds j true).getD j true=true:=by
           have h1:j<aT.size:=by omega
           simp[h1]
         by_cases e:x=j
         · subst e
           have wG: (L.filter fun i=> !(aT.setIfInBounds x true).getD i true)=L.filter fun i=> !aT.getD i true:=by
            apply List.filter_congr
            intro i hi
            have:i≠x:=fun e=>by rw[List.nodup_cons] at ER;exact ER.1 (e ▸ hi)
            rw[cB i this]
           simp only[List.filter_cons,Zu,hl,wG]
           simp
         · have Gf:j ∈ L:=by
            rcases List.mem_cons.1 hm with h1| h1
            · exact absurd h1.symm e
            · exact h1
           have:=Zt (List.nodup_cons.1 ER).2 Gf
           simp only[List.filter_cons,cB x e]
           split
           · simp only[List.length_cons];omega
           · omega
     have:=CM (List.range ops.size) List.nodup_range (by simp[EP])
     omega
   · have V3: (fun i=>i==j || aT.getD i false)=fun i=> (aT.setIfInBounds j true).getD i false:=by
       funext i
       have h1:j<aT.size:=by omega
       by_cases e:i=j
       · subst e;simp[h1]
       · simp[e,Array.getElem?_setIfInBounds_ne (fun e'=>e e'.symm)]
     rw[V3] at k2
     exact k2
theorem w7 (H:kZ X E C) (hm:X.P.follows .mixedOrders=true) {h:Hints} {ops:Array Oper} {as:List aX} (hn:h.n=n.1) (aE:eB X h ops ops.toList=some as) {id:Nat}
   {σ σ':St} {a:Go.Act} {w:World} (hs:gC X μ0 n σ a w) (ag:c6 E C as [] [] σ=some σ') {Q:Go.Exit→Go.Act→World→Prop} (hQ: ∀a' w',gC X μ0 n σ' a' w'→Q .normal a' w'):
   (Code.region id ops true).wpIn (Fr n.ro) 0 X.P Q a w:=by
 obtain⟨S,F,W,s1,s2,_,s4⟩:=qm as [] [] σ σ' rfl ag
 simp only[List.length_nil,Nat.zero_add] at s1 s2 s4
 have tr:Trace E C as S F W:=⟨fun i ao hi=>s4 i ao hi⟩
 refine wpIn_region_any hm ?_
 refine Bt H hn aE tr (by rw[s2];exact hQ) ops.size _ σ _ _ (by simp) ?_ ?_ (Dv hs)
 · exact Nat.le_trans (List.length_filter_le _ _) (by simp)
 · have Dw: ∀i,(Array.replicate ops.size false).getD i false=false:=fun i=>by
    simp only[Array.getD_eq_getD_getElem?,Array.getElem?_replicate];split<;>rfl
   refine⟨(fun i hi=>by rw[Dw i] at hi;cases hi),fun l=> ?_⟩
   rw[←s1]
   have:jU S F (fun i=> (Array.replicate ops.size false).getD i false) l as.length=jU S F (fun i=> (Array.replicate ops.size false).getD i false) l 0:=lV (Nat.zero_le _) fun i _ _ _=>Dw i
   rw[this];rfl
end
end Go.AM
namespace Go.AM
open Go Go.RowKit
theorem Dx {P:Program} {w:World} {ty:TypeId} {bi bm since:Nat} {seen:Array Nat} {es:Array MapEntry} (hi:w.heap[bi]? =some (.mapIter (some bm) since seen since)) (hb:w.heap[bm]? =some (.map es since)) (hold: ∀x ∈ es.toList,x.born<since):
   ((leftOf es seen).size=0∧(Instr.next (.pointer (some ⟨bi,0,none⟩)) false ty).run P w= .ok (.tuple #[.bool false]) w)∨
   ∃e ∈ (leftOf es seen).toList,∃d,(Instr.next (.pointer (some ⟨bi,0,none⟩)) false ty).run P w= .ok (.tuple #[.bool true,e.key,e.val]) {w with drawn:=w.drawn+d,heap:=w.heap.setIfInBounds bi (.mapIter (some bm) since (seen.push e.born) since)}:=by
 simp only[Instr.next,getObj,Sem.run_bind,Sem.run,hi,hb,Result.andThen,next_test_false seen es since since hold (Nat.le_refl _),Bool.false_eq_true,if_false]
 unfold leftOf
 have il: ∀x ∈ (Array.filter (fun e=> !seen.contains e.born) es).toList,x.born<since:=fun x hx=>hold x (by simp at hx ⊢;exact hx.1)
 generalize Array.filter (fun e=> !seen.contains e.born) es=L at il ⊢
 have e1:L.filter (fun x=>decide (x.born<since))=L:=Array.filter_eq_self.2 (fun x hx=>by simpa using il x (by simpa using hx))
 have e2:L.filter (fun x=>decide (x.born≥since))= #[]:=by
   rw[Array.filter_eq_empty_iff]
   intro x hx
   have:=il x (by simpa using hx)
   simp
   omega
 simp only[e1,e2,Array.append_empty]
 by_cases h0:L.size=0
 · left
   have:L= #[]:=Array.eq_empty_of_size_eq_zero h0
   subst this
   refine⟨rfl,?_⟩
   simp[choose,Sem.run,Question.forced]
 · right
   have cB:L.isEmpty=false:=by simp[Array.isEmpty,h0]
   simp only[cB,Bool.false_eq_true,if_false,Array.empty_append,Array.size_map]
   have Rg: ∃ (j d:Nat),j<L.size∧(choose (Question.mapNext L.size)).run P w= .ok j {w with drawn:=w.drawn+d}:=by
    by_cases hf:L.size≤1
    · exact⟨0,0,by omega,by simp[choose,Sem.run,Question.forced,hf]⟩
    · exact⟨w.tape w.drawn (Question.mapNext L.size) % L.size,1,Nat.mod_lt _ (by omega),by
       simp only[choose,Sem.run,Question.forced,decide_eq_true_eq,hf,if_false,Question.cut]⟩
   obtain⟨j,d,hj,ag⟩:=Rg
   refine⟨L[j],by simp,d,?_⟩
   have CU: ∀ (o':Go.Obj),(setObj bi o').run P {w with drawn:=w.drawn+d}= .ok () {w with drawn:=w.drawn+d,heap:=w.heap.setIfInBounds bi o'}:=fun o'=>by
    simp only[setObj,Sem.run,hi]
   simp only[ag,Array.getElem?_map,Array.getElem?_eq_getElem hj,Option.map_some,Sem.run_bind,CU,Result.andThen]
   rfl
theorem Dy {P:Program} {w:World} {ty:TypeId} {bi a b:Nat} {s:Array Nat} (hi:w.heap[bi]? =some (.mapIter none a s b)):
  (Instr.next (.pointer (some ⟨bi,0,none⟩)) false ty).run P w= .ok (.tuple #[.bool false]) w:=by
 simp only[Instr.next,getObj,Sem.run_bind,Sem.run,hi,Result.andThen]
 rfl
structure gz (X:Ctx) (μ:Mu) (w':World):Prop where
 cell: ∀a c,μ.w.cell? a=some c→w'.cell? a=some c
 map: ∀ (a:Nat) ents clock,μ.w.heap[a]? =some (.map ents clock)→w'.heap[a]? =some (.map ents clock)
 size:μ.w.heap.size≤w'.heap.size
section
variable {X:Ctx} {μ:Mu} {w':World}
theorem gz.row (h:gz X μ w') {b off sz:Nat} {vs:List Value} (hr:cH μ.w b off sz vs):cH w' b off sz vs:=
 fun i v hv=> ⟨(hr i v hv).1,fun j c hc=>h.cell _ _ ((hr i v hv).2 j c hc)⟩
mutual
theorem aj.bV (h:gz X μ w'): ∀ {x:V} {v:Value},aj X μ x v→aj X ⟨w',μ.φ,μ.O⟩ x v
 | .bool _,_,k| .int ..,_,k| .float _,_,k| .str _,_,k| .nilp,_,k| .nilfn,_,k| .nili,_,k| .nils,_,k| .sl ..,_,k| .ptr ..,_,k| .mp ..,_,k| .it ..,_,k=>by simpa [aj] using k
 | .any,_,_=>by simp[aj]
 | .own ..,_,k| .msl ..,_,k| .mptr ..,_,k=>by simp[aj] at k
 | .agg cs,_,k=>by
   simp only[aj] at k ⊢
   obtain⟨h1,vs,rfl,h2⟩:=k
   exact⟨h1,vs,rfl,ah.bV h h2⟩
 | .tuple cs,_,k=>by
   simp only[aj] at k ⊢
   obtain⟨vs,rfl,h2⟩:=k
   exact⟨vs,rfl,ah.bV h h2⟩
 | .fn f cs,_,k=>by
   simp only[aj] at k ⊢
   obtain⟨F,cv,rfl,h1,h2⟩:=k
   exact⟨F,cv,rfl,h1,ah.bV h h2⟩
 | .iface t x,_,k=>by
   simp only[aj] at k ⊢
   obtain⟨F,y,rfl,h1,h2⟩:=k
   exact⟨F,y,rfl,h1,aj.bV h h2⟩
 | .lit sz xs,_,k=>by
   simp only[aj] at k ⊢
   obtain⟨h0,iG,a,cap,vs,rfl,h1,h2,h3⟩:=k
   refine⟨h0,iG,a,cap,vs,rfl,h1,ah.bV h h2,h3.imp id ?_⟩
   rintro⟨b,o,rfl,hb,hs,hr⟩
   exact⟨b,o,rfl,hb,Nat.lt_of_lt_of_le hs h.size,h.row hr⟩
 | .litk sz xs,_,k=>by
   simp only[aj] at k ⊢
   obtain⟨h0,iG,a,cap,vs,rfl,h1,h2,h3⟩:=k
   refine⟨h0,iG,a,cap,vs,rfl,h1,ah.bV h h2,h3.imp id ?_⟩
   rintro⟨rfl,hb,hs,hr⟩
   exact⟨rfl,hb,Nat.lt_of_lt_of_le hs h.size,h.row hr⟩
 | .eptr e off,_,k=>by
   simp only[aj] at k ⊢
   obtain⟨h0,iG,b,o,sz,x,rfl,hb,hs,h1,hr⟩:=k
   exact⟨h0,iG,b,o,sz,x,rfl,hb,Nat.lt_of_lt_of_le hs h.size,aj.bV h h1,h.row hr⟩
 | .epk i sz e off,_,k=>by
   simp only[aj] at k ⊢
   obtain⟨h0,iG,x,rfl,hb,hs,h1,hr⟩:=k
   exact⟨h0,iG,x,rfl,hb,Nat.lt_of_lt_of_le hs h.size,aj.bV h h1,h.row hr⟩
 | .mlit es,_,k=>by
   simp only[aj] at k ⊢
   obtain⟨h0,k⟩:=k
   refine⟨h0,k.imp id ?_⟩
   rintro⟨a,ents,clock,rfl,hb,hs,h1,h2⟩
   exact⟨a,ents,clock,rfl,hb,Nat.lt_of_lt_of_le hs h.size,⟨h.map _ _ _ h1.1,h1.2⟩,ah.bV h h2⟩
theorem ah.bV (h:gz X μ w'): ∀ {xs:List V} {vs:List Value},ah X μ xs vs→ah X ⟨w',μ.φ,μ.O⟩ xs vs
 | [],[],_=>by simp[ah]
 | [],_::_,k=>by simp[ah] at k
 | _::_,[],k=>by simp[ah] at k
 | x::xs,v::vs,k=>by
   simp only[ah] at k ⊢
   exact⟨aj.bV h k.1,ah.bV h k.2⟩
end
theorem aS.bV (h:gz X μ w') (ho:aS X μ) (hb: ∀r,(μ.O r).es.isSome=true→(μ.φ r).cap≠0→w'.heap[(μ.φ r).cD]? =μ.w.heap[(μ.φ r).cD]?):aS X ⟨w',μ.φ,μ.O⟩ where
 ok:=fun r es bp=>by
  have Lq: (μ.O r).es.isSome=true:=by rw[bp];rfl
  rcases ho.ok r es bp with⟨h1,h2,h3,h4⟩ | ⟨h1,h2,ob,h3,h4⟩
  · refine .inl ⟨h1,h2,h3,?_⟩
    rcases h4 with h4| ⟨c,T,vs,k1,k2,k3,k4⟩
    · exact .inl h4
    · by_cases hc: (μ.φ r).cap=0
      · exact .inl hc
      · exact .inr ⟨c,T,vs,by show w'.heap[(μ.φ r).cD]? =_;rw[hb r Lq hc];exact k1,k2,ah.bV h k3,h.row k4⟩
  · refine .inr ⟨h1,h2,ob,by show w'.heap[(μ.φ r).cD]? =_;rw[hb r Lq h2];exact h3,?_⟩
    rcases h4 with⟨ents,clock,k1,k2,k3⟩ | k| ⟨mo,since,kG,k1,k2,k3⟩
    · exact .inl ⟨ents,clock,k1,ah.bV h k2,k3⟩
    · exact .inr (.inl k)
    · refine .inr (.inr ⟨mo,since,kG,k1,k2,k3.imp id ?_⟩)
      rintro⟨m,ents,l1,l2,l3,l4,l5,l6⟩
      exact⟨m,ents,l1,l2,Nat.lt_of_lt_of_le l3 h.size,h.map _ _ _ l4,l5,ah.bV h l6⟩
 inj:=ho.inj
 p8:=ho.p8
 blt:=fun b p9=>Nat.lt_of_lt_of_le (ho.blt b p9) h.size
end
theorem ug {X:Ctx} {w:World} {φ:Nat→Row} {O O':Nat→Obj} (ho:aS X ⟨w,φ,O⟩) (h: ∀r,O' r=O r∨(O' r).es=none∧((O r).gen< (O' r).gen∨(O' r).gen=(O r).gen∧(O' r).sz=(O r).sz)):
   Le ⟨w,φ,O⟩ ⟨w,φ,O'⟩∧aS X ⟨w,φ,O'⟩:=by
 have Ht: ∀r es,(O' r).es=some es→O' r=O r:=fun r es bp=>by
   rcases h r with h| ⟨h,_⟩
   · exact h
   · rw[h] at bp;simp at bp
 have Lq: ∀r,(O' r).es.isSome=true→O' r=O r:=fun r hr=>by
   obtain⟨es,bp⟩:=Option.isSome_iff_exists.1 hr
   exact Ht r es bp
 have fD: ∀b,(Mu.mk w φ O').own b→(Mu.mk w φ O).own b:=by
   rintro b ⟨r,h1,h2,h3,h4⟩
   have e:=Lq r h1
   have vX: (O' r).es.isSome=true:=h1
   have CY: (O' r).fz=false:=h2
   rw[e] at vX CY
   exact⟨r,vX,CY,h3,h4⟩
 have le:Le ⟨w,φ,O⟩ ⟨w,φ,O'⟩:=by
   refine⟨Nat.le_refl _,fun b _ hn=> ⟨rfl,fun h'=>hn (fD b h')⟩,fun r=> ?_,fun r e=> ?_,rfl,rfl,rfl,fun _ _=>rfl⟩
   · show (O r).gen≤(O' r).gen
     rcases h r with h| ⟨_,h| ⟨h,_⟩⟩
     · rw[h];exact Nat.le_refl _
     · omega
     · omega
   · have e': (O' r).gen=(O r).gen:=e
     refine⟨rfl,?_⟩
     show (O' r).sz=(O r).sz
     rcases h r with h| ⟨_,h| ⟨_,h⟩⟩
     · rw[h]
     · omega
     · exact h
 refine⟨le,fun r es bp=> ?_,fun r r' cB h1 h2 h3 h4=> ?_,fun r h1 h2=> ?_,ho.blt⟩
 · have e:=Ht r es bp
   have en: (O r).es=some es:=by rw[←e];exact bp
   exact ej.bZ (r:=r) (r':=r) le (ho.ok r es en) (by show (O' r).sz=(O r).sz;rw[e]) rfl fun _=>rfl
 · have vX: (O' r).es.isSome=true:=h1
   have CY: (O' r').es.isSome=true:=h2
   rw[Lq r vX] at vX
   rw[Lq r' CY] at CY
   exact ho.inj r r' cB vX CY h3 h4
 · have vX: (O' r).es.isSome=true:=h1
   rw[Lq r vX] at vX
   exact ho.p8 r vX h2
def fp (Z:List (V×MapEntry)) (seen:Array Nat):List (V×MapEntry):=Z.filter fun z=> !seen.contains z.2.born
theorem uh {Z:List (V×MapEntry)} {ents:Array MapEntry} (h:Z.map (·.2)=ents.toList) (seen:Array Nat): (fp Z seen).map (·.2)=(leftOf ents seen).toList:=by
 unfold fp leftOf
 rw[Array.toList_filter,←h,List.filter_map]
 rfl
theorem qn {α:Type} (f:α→Nat): ∀ {l:List α} {z:α},z ∈ l→(l.map f).Nodup→l.Perm (z::l.filter fun x=> !(f x==f z))
 | a::l,z,hz,hn=>by
   rw[List.map_cons,List.nodup_cons] at hn
   rcases List.mem_cons.1 hz with rfl| hz
   · have:l.filter (fun x=> !(f x==f z))=l:=List.filter_eq_self.2 fun x hx=>by
      have:f x≠f z:=fun e=>hn.1 (e ▸ List.mem_map.2 ⟨x,hx,rfl⟩)
      simpa using this
     simp[this]
   · have cB: ¬ (f a=f z):=fun e=>hn.1 (e ▸ List.mem_map.2 ⟨z,hz,rfl⟩)
     have ih:=qn f hz hn.2
     have: (a::l).filter (fun x=> !(f x==f z))=a::l.filter (fun x=> !(f x==f z)):=by
      rw[List.filter_cons_of_pos (by simpa using cB)]
     rw[this]
     exact(ih.cons a).trans (.swap z a _)
theorem ze {Z:List (V×MapEntry)} {seen:Array Nat} (hn: (Z.map fun z=>z.2.born).Nodup) {z:V×MapEntry} (hz:z ∈ fp Z seen): (fp Z seen).Perm (z::fp Z (seen.push z.2.born)):=by
 have h1: ((fp Z seen).map fun z=>z.2.born).Nodup:=hn.sublist (List.filter_sublist.map _)
 have h2:=qn (fun z:V×MapEntry=>z.2.born) hz h1
 have h3: (fp Z seen).filter (fun x=> !(x.2.born==z.2.born))=fp Z (seen.push z.2.born):=by
  unfold fp
  rw[List.filter_filter]
  refine List.filter_congr fun x _=> ?_
  rw[contains_push]
  cases seen.contains x.2.born<;>cases (x.2.born==z.2.born) <;>rfl
 rw[h3] at h2
 exact h2
theorem w8 {X:Ctx} {μ:Mu}: ∀ {es:List V} {l:List MapEntry},ah X μ es (l.map fun e=>Value.tuple #[e.key,e.val])→ ∃Z:List (V×MapEntry),Z.map (·.1)=es∧Z.map (·.2)=l∧ ∀z ∈ Z,aj X μ z.1 (.tuple #[z.2.key,z.2.val])
 | [],[],_=> ⟨[],rfl,rfl,by simp⟩
 | [],_::_,h=>by simp[ah] at h
 | _::_,[],h=>by simp[ah] at h
 | x::es,e::l,h=>by
   simp only[List.map_cons,ah] at h
   obtain⟨Z,h1,h2,h3⟩:=w8 h.2
   refine⟨(x,e)::Z,by simp[h1],by simp[h2],fun z hz=> ?_⟩
   rcases List.mem_cons.1 hz with rfl| hz
   · exact h.1
   · exact h3 z hz
section
variable {X:Ctx} {E:Env} {n:Fp}
def vw (X:Ctx) (n:Fp) (ops:Array Oper) (y:Code) (rec:an→St→Option (aP×St)) (tb:an):Prop:=
 ∀ (σ σ':St) (e:aP) (μ0:Mu) (a:Go.Act) (w:World) (Q K:Go.Exit→Go.Act→World→Prop),rec tb σ=some (e,σ')→gC X μ0 n σ a w→(∀a' w',gC X μ0 n σ' a' w'→Q (match e with| .normal=> .normal| .exit id=> .exit id| .ret=> .ret) a' w')→
  (∀a' w',y.wpIn (Fr n.ro) 0 X.P Q a' w'→K .normal a' w')→wpOpsIn (Fr n.ro) 0 X.P ops K (List.range' 1 (ops.size - 1)) a w
def zf (X:Ctx) (n:Fp) (ops:Array Oper) (z:Code) (b1:Nat) (rec:an→St→Option (aP×St)) (tm:an):Prop:=
 ∀ (σ σ':St) (μ0:Mu) (a:Go.Act) (w:World) (Q:Go.Exit→Go.Act→World→Prop),rec tm σ=some (.normal,σ')→gC X μ0 n σ a w→(∀a' w',gC X μ0 n σ' a' w'→Q .normal a' w')→
  wpOpsIn (Fr n.ro) 0 X.P ops (Exit.then (z.wpIn (Fr n.ro) 0 X.P (Exit.inBlock b1 Q)) (Exit.inBlock b1 Q)) (List.range' 1 (ops.size - 1)) a w
abbrev ll (i0:Nat) (ops:Array Oper) (y:Code) (b1 i5:Nat) (fb:Array Oper) (z5:Code):Code:= .seq (.region i0 ops false) (.seq y (.block b1 (.seq (.region i5 fb false) z5)))
theorem Bv {P:Program} {w:World} {bi bm since:Nat} {seen:Array Nat} {ents:Array MapEntry} {e:MapEntry} (hi:w.heap[bi]? =some (.mapIter (some bm) since (seen.push e.born) since)) (hb:w.heap[bm]? =some (.map ents since)) (he:e ∈ ents.toList) (hn: (ents.toList.map (·.born)).Nodup):
  (Instr.entry (.pointer (some ⟨bi,0,none⟩))).run P w= .ok (.tuple #[e.key,e.val]) w:=by
 have hf:ents.find? (·.born==e.born)=some e:=by
  rw[←Array.find?_toList]
  generalize ents.toList=l at he hn
  induction l with
  | nil=>simp at he
  | cons x l ih=>
    rw[List.map_cons,List.nodup_cons] at hn
    rw[List.find?_cons]
    rcases List.mem_cons.1 he with rfl| he
    · simp
    · have cB: ¬ (x.born==e.born)=true:=by
       intro h
       exact hn.1 (List.mem_map.2 ⟨e,he,(by simpa using h:x.born=e.born).symm⟩)
      simp only[cB]
      exact ih he hn.2
 simp only[Instr.entry,getObj,Sem.run_bind,Sem.run,hi,hb,Result.andThen,Array.back?_push,bne_self_eq_false,Bool.false_eq_true,if_false,hf]
 rfl
structure vx (X:Ctx) (n:Fp) (μ0:Mu) (rec:an→St→Option (aP×St)) (tl:an) (Good:St→Prop) (a:Go.Act) (w:World):Prop where
 h: ∃σe σp,gC X μ0 n σe a w∧rec tl σe=some (.normal,σp)∧Good σp
variable {ops fb:Array Oper} {o1 o5:Oper} {y z5:Code} {it nx ne id b1 r g:Nat} {μ0:Mu} {rec:an→St→Option (aP×St)} {tb tm tl:an} {Good:St→Prop} {i0 i5:Nat}
theorem se (h0:ops[0]? =some o1) (hd: ∀c,o1.op≠ .defer c) (hg:o1.guard=none) {a:Go.Act} {w w1:World} {v:Value} (iO: (execOp a.eval o1).run X.P w= .ok (.value v) w1) {Q:Go.Exit→Go.Act→World→Prop}
  (h:wpOpsIn (Fr n.ro) 0 X.P ops Q (List.range' 1 (ops.size - 1)) (a.put o1.dst v) w1): (Code.region i0 ops false).wpIn (Fr n.ro) 0 X.P Q a w:=by
 refine wpIn_region ?_
 have b5:0 <ops.size:=(Array.getElem?_eq_some_iff.1 h0).1
 have hr:List.range ops.size=0::List.range' 1 (ops.size - 1):=by
  rw[List.range_eq_range']
  obtain⟨k,hk⟩: ∃k,ops.size=k+1:=⟨ops.size - 1,by omega⟩
  rw[hk,List.range'_succ]
  rfl
 rw[hr,wpOpsIn_cons]
 simp only[wpOpIn,h0]
 rw[if_pos (by simp[Region.wanted,hg])]
 refine qY hd ?_
 unfold Oper.wp
 rw[iO,Oper.upon_value]
 exact h
theorem ui (cZ:o1.op= .next (.tmp it) false) {a:Go.Act} {w w1:World} {v:Value} (ag: (Instr.next (a.eval (.tmp it)) false o1.type).run X.P w= .ok v w1): (execOp a.eval o1).run X.P w= .ok (.value v) w1:=by
 simp only[execOp,cZ]
 exact bM ag
theorem zg (cZ:o5.op= .entry (.tmp it)) {a:Go.Act} {w w1:World} {v:Value} (ag: (Instr.entry (a.eval (.tmp it))).run X.P w= .ok v w1): (execOp a.eval o5).run X.P w= .ok (.value v) w1:=by
 simp only[execOp,cZ]
 exact bM ag
theorem uj {Q:Go.Exit→Go.Act→World→Prop} (hQ: ∀a w,vx X n μ0 rec tl Good a w→Q (.exit id) a w) (hB:vw X n ops y rec tb) (h0:ops[0]? =some o1) (cZ:o1.op= .next (.tmp it) false) (hd:o1.dst=some nx) (hg:o1.guard=none) (yl:nx<n.1)
   {σ σp:St} {a:Go.Act} {w:World} (hs:gC X μ0 n σ a w) (ag: (Instr.next (a.eval (.tmp it)) false o1.type).run X.P w= .ok (.tuple #[.bool false]) w)
   (hk:runK rec it r g nx ne id tb tm tl [] σ=some σp) (w9:Good σp) (m:Nat):
   Code.roundsIn (Fr n.ro) 0 X.P (ll i0 ops y b1 i5 fb z5) Q (m+1) a w:=by
 rw[roundsIn_succ]
 simp only[runK] at hk
 split at hk
 · split at hk
   · rename_i iF σe jw
     split at hk
     · rename_i G7
       subst G7
       split at hk
       · rename_i σ'' Ac
         injection hk with hk;subst hk
         refine wpIn_seq (se (X:=X) h0 (by rw[cZ];simp) hg (ui cZ ag) ?_)
         obtain⟨gM,b5,φ,hr,hle⟩:=hs
         have qE:gC X μ0 n (σ.put (some nx) (.tuple [.bool false])) (a.put o1.dst (.tuple #[.bool false])) w:=by
          rw[hd]
          exact⟨by rw[put_defers];exact gM,by rw[jt];exact b5,φ,lU hr (Le.refl _) hr.aN (by simp only[aj];exact⟨_,rfl,by simp[ah,aj]⟩) (by simp;omega) σ.O,hle⟩
         exact hB _ _ _ _ _ _ (Exit.then (Code.wpIn (Fr n.ro) 0 X.P (.block b1 (.seq (.region i5 fb false) z5)) (Exit.then (Code.roundsIn (Fr n.ro) 0 X.P (ll i0 ops y b1 i5 fb z5) Q m) Q)) (Exit.then (Code.roundsIn (Fr n.ro) 0 X.P (ll i0 ops y b1 i5 fb z5) Q m) Q)) _ jw qE (fun a' w' ji=>hQ _ _ ⟨σe,σ'',ji,Ac,w9⟩) fun a' w' h=>wpIn_seq h
       · simp at hk
     · simp at hk
   · simp at hk
 · simp at hk
theorem sf {σ:St} (h:qD it r g σ=true):σ.T it= .it r g∧(σ.O r).gen=g:=by
 unfold qD at h
 split at h
 · rename_i r' g' e
   simp only[Bool.and_eq_true,Nat.beq_eq] at h
   obtain⟨rfl,rfl,h⟩:=h
   exact⟨e,h⟩
 · simp at h
theorem oz { Q:Go.Exit→Go.Act→World→Prop} (hQ: ∀a w,vx X n μ0 rec tl Good a w→Q (.exit id) a w) (hB:vw X n ops y rec tb) (hM:zf X n fb z5 b1 rec tm) (h0:ops[0]? =some o1) (cZ:o1.op= .next (.tmp it) false) (hd:o1.dst=some nx) (hg:o1.guard=none) (yl:nx<n.1)
   (k0:fb[0]? =some o5) (V4:o5.op= .entry (.tmp it)) (kd:o5.dst=some ne) (kg:o5.guard=none) (cB:ne<n.1)
   {bi bm since:Nat} {ents:Array MapEntry} {Z:List (V×MapEntry)} (hZ:Z.map (·.2)=ents.toList) (jo:rP ents since):
   ∀ (m:Nat) (seen:Array Nat) (σ:St) (a:Go.Act) (w:World) (φ:Nat→Row),(fp Z seen).length=m→Marks n w a.defers→a.tmps.size=n.1→Rel X σ.T a ⟨w,φ,σ.O⟩→Le μ0 ⟨w,φ,σ.O⟩→
    (φ r).cD=bi→w.heap[bi]? =some (.mapIter (some bm) since seen since)→ ¬ (Mu.mk w φ σ.O).own bi→(bi<μ0.w.heap.size→μ0.own bi)→
    (∀r',(σ.O r').es.isSome=true→(φ r').cap≠0→(φ r').cD≠bi)→w.heap[bm]? =some (.map ents since)→ ¬Own X ⟨w,φ,σ.O⟩ bm→
    (∀z ∈ Z,aj X ⟨w,φ,σ.O⟩ z.1 (.tuple #[z.2.key,z.2.val]))→
    (∀p,p.Perm ((fp Z seen).map (·.1))→ ∃σp,runK rec it r g nx ne id tb tm tl p σ=some σp∧Good σp)→
    Code.roundsIn (Fr n.ro) 0 X.P (ll i0 ops y b1 i5 fb z5) Q (m+1) a w
 | m,seen,σ,a,w,φ,hm,gM,b5,hr,hle,hφ,Hu,ef,jN,ew,MI,M3,bz,sg=>by
   have po:qD it r g σ=true:=by
    obtain⟨σp,hk,_⟩:=sg _ (.refl _)
    cases hl: (fp Z seen).map (·.1) with
    | nil=>
      rw[hl] at hk
      simp only[runK] at hk
      split at hk
      · rename_i h;exact h
      · simp at hk
    | cons e p=>
      rw[hl] at hk
      simp only[runK] at hk
      split at hk
      · split at hk
        · rename_i h;exact h
        · simp at hk
      · simp at hk
   obtain⟨hT,bU⟩:=sf po
   have MC:a.eval (.tmp it)= .pointer (some ⟨bi,0,none⟩):=by
    have:=hr.tmps it
    rw[hT] at this
    simp only[aj] at this
    obtain⟨a0,h1,_,h2⟩:=this
    obtain⟨_,rfl⟩:=h2 bU
    show a.tmps.getD it undef=_
    rw[h1,hφ]
   have jx:gC X μ0 n σ a w:=⟨gM,b5,φ,hr,hle⟩
   have bJ:bi<w.heap.size:=(Array.getElem?_eq_some_iff.1 Hu).1
   rcases Dx (P:=X.P) (ty:=o1.type) Hu MI jo.1 with⟨hz,ag⟩ | ⟨e,he,d,ag⟩
   ·
    have hl:fp Z seen=[]:=by
      have:=uh hZ seen
      rw[Array.eq_empty_of_size_eq_zero hz] at this
      exact List.map_eq_nil_iff.1 this
    obtain⟨σp,hk,w9⟩:=sg [] (by rw[hl];exact .refl _)
    exact uj hQ hB h0 cZ hd hg yl jx (by rw[MC];exact ag) hk w9 m
   ·
    rw[←uh hZ seen] at he
    obtain⟨z,hz,rfl⟩:=List.mem_map.1 he
    have ER: (Z.map fun z=>z.2.born).Nodup:=by
      have:=jo.2
      rw[←hZ,List.map_map] at this
      exact this
    have Ai:=ze ER hz
    obtain⟨m',rfl⟩: ∃m',m=m'+1:=by
      have:=Ai.length_eq
      simp only[List.length_cons] at this
      exact⟨_,by rw[←hm];exact this⟩
    have XX:z ∈ Z:=(List.mem_filter.1 hz).1
    have rX:=bz z XX
    obtain⟨σp1,vQ,_⟩:=sg (z.1:: (fp Z (seen.push z.2.born)).map (·.1)) (by have:=(Ai.map (·.1)).symm;simpa using this)
    obtain⟨ k,v,σm,σ',XY,Dz,Gg,jw⟩: ∃k v σm σ',z.1= .tuple [k,v]∧rec tb (σ.put (some nx) (.tuple [.bool true,k,v]))=some (.normal,σm)∧qD it r g σm=true∧rec tm (σm.put (some ne) (.tuple [k,v]))=some (.normal,σ'):=by
      simp only[runK] at vQ
      split at vQ
      · rename_i k v MJ
        rw[if_pos po] at vQ
        split at vQ
        · rename_i σm hb
          split at vQ
          · rename_i Gg
            split at vQ
            · rename_i σ' p9;exact⟨k,v,σm,σ',MJ,hb,Gg,p9⟩
            · simp at vQ
          · simp at vQ
        · simp at vQ
      · simp at vQ
    have MJ:aj X ⟨w,φ,σ.O⟩ k z.2.key∧aj X ⟨w,φ,σ.O⟩ v z.2.val:=by
      rw[XY] at rX
      simp only[aj] at rX
      obtain⟨vs,h1,h2⟩:=rX
      injection h1 with h1
      subst h1
      simpa [ah] using h2
    rw[roundsIn_succ]
    refine wpIn_seq (se (X:=X) h0 (by rw[cZ];simp) hg (ui cZ (by rw[MC];exact ag)) ?_)
    generalize yh: ({w with drawn:=w.drawn+d,heap:=w.heap.setIfInBounds bi (.mapIter (some bm) since (seen.push z.2.born) since)}:World)=w2
    have gj: ∀b,b≠bi→w2.heap[b]? =w.heap[b]? :=fun b hb=>by
      rw[←yh];exact Array.getElem?_setIfInBounds_ne (fun e=>hb e.symm)
    have Lr:w2.heap[bi]? =some (.mapIter (some bm) since (seen.push z.2.born) since):=by
      rw[←yh];simp[bJ]
    have wD:w2.heap.size=w.heap.size:=by rw[←yh];simp
    have st:gz X ⟨w,φ,σ.O⟩ w2:=by
      refine⟨fun ad c hc=> ?_,fun b es cl hb=> ?_,by show w.heap.size≤w2.heap.size;omega⟩
      · have cB:ad.block≠bi:=fun e=>by
          have ye:w.cell? ad=some c:=hc
          simp[World.cell?,e,Hu] at ye
        have ye:w.cell? ad=some c:=hc
        simp only[World.cell?,gj _ cB] at ye ⊢
        exact ye
      · have p9:w.heap[b]? =some (.map es cl):=hb
        rw[gj b (fun e=>by rw[e,Hu] at p9;simp at p9)]
        exact p9
    have Rm:aS X ⟨w2,φ,σ.O⟩:=hr.aN.bV st fun r' h1 h2=>gj _ (ew r' h1 h2)
    have Ls:Le μ0 ⟨w2,φ,σ.O⟩:=by
      refine⟨by have:=hle.size;show μ0.w.heap.size≤w2.heap.size;have h2:μ0.w.heap.size≤w.heap.size:=this;omega,fun b hb hn=> ?_,hle.gen,hle.row,?_,?_,?_,fun ad Lt=> ?_⟩
      · have cB:b≠bi:=fun e=>by subst e;exact hn (jN hb)
        obtain⟨k1,k2⟩:=hle.bZ b hb hn
        exact⟨(gj b cB).trans k1,k2⟩
      · rw[←hle.os,←yh]
      · rw[←hle.output,←yh]
      · rw[←hle.tape,←yh]
      · have k1:w.frozen? ad=μ0.w.frozen? ad:=hle.frozen ad Lt
        show w2.frozen? ad=_
        rw[←k1]
        by_cases e:ad.block=bi
        · simp only[World.frozen?,e,Hu,Lr]
        · simp only[World.frozen?,gj _ e]
    have mC:Rel X σ.T a ⟨w2,φ,σ.O⟩:=⟨fun t=>aj.bV st (hr.tmps t),Rm⟩
    have DA:Marks n w2 a.defers:=by
      obtain⟨⟨m0,Zv⟩,Ds,m1,m2,m3⟩:=gM
      exact⟨⟨by omega,fun l hl=>by
        obtain⟨L,k⟩:=Zv l hl
        exact⟨L,(gj l (fun e=>by rw[e,Hu] at k;simp at k)).trans k⟩⟩,Ds,m1,m2,fun D hD=> ⟨(m3 D hD).1,(gj D (fun e=>by have:=(m3 D hD).2;rw[e,Hu] at this;simp at this)).trans (m3 D hD).2⟩⟩
    have vS:gC X ⟨w2,φ,σ.O⟩ n (σ.put (some nx) (.tuple [.bool true,k,v])) (a.put o1.dst (.tuple #[.bool true,z.2.key,z.2.val])) w2:=by
      rw[hd]
      refine⟨by rw[put_defers];exact DA,by rw[jt];exact b5,φ,lU mC (Le.refl _) Rm ?_ (by simp;omega) σ.O,Le.refl _⟩
      simp only[aj]
      exact⟨_,rfl,by simp only[ah,aj];exact⟨trivial,aj.bV st MJ.1,aj.bV st MJ.2,trivial⟩⟩
    refine hB _ _ _ _ _ _ (Exit.then (Code.wpIn (Fr n.ro) 0 X.P (.block b1 (.seq (.region i5 fb false) z5)) (Exit.then (Code.roundsIn (Fr n.ro) 0 X.P (ll i0 ops y b1 i5 fb z5) Q (m'+1)) Q)) (Exit.then (Code.roundsIn (Fr n.ro) 0 X.P (ll i0 ops y b1 i5 fb z5) Q (m'+1)) Q)) _ Dz vS (fun am wm yg=> ?_) fun a' w' h=>wpIn_seq h
    have jd:bi<w2.heap.size:=by omega
    have Hv:bm<w2.heap.size:=by rw[wD];exact(Array.getElem?_eq_some_iff.1 MI).1
    have Hw:bm≠bi:=fun e=>by rw[e,Hu] at MI;simp at MI
    obtain⟨V5,Hx⟩:=sf Gg
    have Zw:=yg
    obtain⟨Rn,V6,φm,Ro,Bw⟩:=yg
    have Zx:φm r=φ r:=(Bw.row r (by show (σm.O r).gen=(σ.O r).gen;rw[Hx,bU])).1
    have V7:wm.heap[bi]? =some (.mapIter (some bm) since (seen.push z.2.born) since):=(Bw.bZ bi jd ef).1.trans Lr
    have V8:wm.heap[bm]? =some (.map ents since):=(Bw.bZ bm Hv (fun h=>M3 (.inl h))).1.trans ((gj bm Hw).trans MI)
    have V9:am.eval (.tmp it)= .pointer (some ⟨bi,0,none⟩):=by
      have:=Ro.tmps it
      rw[V5] at this
      simp only[aj] at this
      obtain⟨a0,h1,_,h2⟩:=this
      obtain⟨_,rfl⟩:=h2 Hx
      show am.tmps.getD it undef=_
      rw[h1,Zx,hφ]
    have Zy:z.2 ∈ ents.toList:=by rw[←hZ];exact List.mem_map.2 ⟨z,XX,rfl⟩
    refine wpIn_block (wpIn_seq (se (X:=X) k0 (by rw[V4];simp) kg (zg V4 (by rw[V9];exact Bv V7 V8 Zy jo.2)) ?_))
    have z6:gC X ⟨w2,φ,σ.O⟩ n (σm.put (some ne) (.tuple [k,v])) (am.put o5.dst (.tuple #[z.2.key,z.2.val])) wm:=by
      rw[kd]
      refine⟨by rw[put_defers];exact Rn,by rw[jt];exact V6,φm,lU Ro (Le.refl _) Ro.aN ?_ (by simp;omega) σm.O,Bw⟩
      simp only[aj]
      exact⟨_,rfl,by simp only[ah];exact⟨aj.mono Bw (aj.bV st MJ.1),aj.mono Bw (aj.bV st MJ.2),trivial⟩⟩
    refine hM _ _ _ _ _ _ jw z6 fun a' w' ji=> ?_
    obtain⟨Rp,F9,φ',qk,oA⟩:=ji
    have DB: ∀p,p.Perm ((fp Z (seen.push z.2.born)).map (·.1))→ ∃σp,runK rec it r g nx ne id tb tm tl p σ'=some σp∧Good σp:=fun p hp=>by
      obtain⟨σp,hk,yV⟩:=sg (z.1::p) ((hp.cons z.1).trans (by have:=(Ai.map (·.1)).symm;simpa using this))
      refine⟨σp,?_,yV⟩
      rw[XY] at hk
      simp only[runK,po,Gg,if_true,Dz,jw] at hk
      exact hk
    have Wa:qD it r g σ'=true:=by
      obtain⟨σp,hk,_⟩:=DB _ (.refl _)
      cases hl: (fp Z (seen.push z.2.born)).map (·.1) with
      | nil=>
        rw[hl] at hk
        simp only[runK] at hk
        split at hk
        · rename_i h;exact h
        · simp at hk
      | cons e p=>
        rw[hl] at hk
        simp only[runK] at hk
        split at hk
        · split at hk
          · rename_i h;exact h
          · simp at hk
        · simp at hk
    have sh: (σ'.O r).gen=g:=(sf Wa).2
    obtain⟨Zz,ZA⟩:=oA.bZ bi jd ef
    obtain⟨ZB,ZC⟩:=oA.bZ bm Hv (fun h=>M3 (.inl h))
    have Lu:w'.heap[bi]? =some (.mapIter (some bm) since (seen.push z.2.born) since):=Zz.trans Lr
    have hlen: (fp Z (seen.push z.2.born)).length=m':=by
      have:=Ai.length_eq
      rw[hm,List.length_cons] at this
      omega
    refine oz hQ hB hM h0 cZ hd hg yl k0 V4 kd kg cB hZ jo m' (seen.push z.2.born) σ' a' w' φ' hlen Rp F9 qk (Ls.trans oA) ?_ Lu ZA jN ?_ (ZB.trans ((gj bm Hw).trans MI)) ?_ (fun x hx=>aj.mono oA (aj.bV st (bz x hx))) DB
    · have:=(oA.row r (by show (σ'.O r).gen=(σ.O r).gen;rw[sh,bU])).1
      rw[show φ' r=φ r from this];exact hφ
    · intro r' h1 h2 hb
      obtain⟨es,bp⟩:=Option.isSome_iff_exists.1 h1
      rcases qk.aN.ok r' es bp with⟨_,_,_,h4⟩ | ⟨_,_,ob,h3,h4⟩
      · rcases h4 with h4| ⟨c,T,vs,k1,_⟩
        · exact h2 h4
        · have XZ:w'.heap[(φ' r').cD]? =some (.cells c T (0,0)):=k1
          rw[hb,Lu] at XZ;simp at XZ
      · have Hy:w'.heap[(φ' r').cD]? =some ob:=h3
        rw[hb,Lu] at Hy
        injection Hy with Hy
        rcases h4 with⟨_,_,k1,_⟩ | ⟨_,_,k1,_⟩ | ⟨_,_,_,k1,_⟩
        · rw[←Hy] at k1;simp at k1
        · rw[←Hy] at k1;simp at k1
        · rw[←Hy] at k1
          injection k1 with _ _ k1 _
          have:=congrArg Array.size k1
          simp at this
    · rintro(h| h)
      · exact ZC h
      · exact M3 (.inr h)
termination_by m=>m
theorem si {      kT kO:List Nat} (hB:vw X n ops y rec tb) (hM:zf X n fb z5 b1 rec tm) (h0:ops[0]? =some o1) (cZ:o1.op= .next (.tmp it) false) (hd:o1.dst=some nx) (hg:o1.guard=none) (yl:nx<n.1)
   (l0:fb[0]? =some o5) (ZD:o5.op= .entry (.tmp it)) (ld:o5.dst=some ne) (lg:o5.guard=none) (cB:ne<n.1)
   {C:aO} {σ σ2:St} {e:aP} {a:Go.Act} {w:World} (ag:aA E C rec (.keys it nx ne id kT kO tb tm tl) σ=some (e,σ2)) (hs:gC X μ0 n σ a w):
   e= .normal∧(Code.block id (.loop (ll i0 ops y b1 i5 fb z5))).wpIn (Fr n.ro) 0 X.P (fun ex a' w'=>ex= .normal∧ ∃σe σp,gC X μ0 n σe a' w'∧rec tl σe=some (.normal,σp)∧ ∀Ch Aj,gC X μ0 n σp Ch Aj→gC X μ0 n σ2 Ch Aj) a w:=by
 simp only[aA] at ag
 split at ag
 · rename_i r g hT
   split at ag
   · rename_i es hO
     split at ag
     · rename_i hc
       obtain⟨bU,Rq,fm⟩:=hc
       split at ag
       · rename_i σ1 σs nP
         split at ag
         · rename_i Lv
           simp only[Option.some.injEq,Prod.mk.injEq] at ag
           obtain⟨rfl,rfl⟩:=ag
           refine⟨rfl,?_⟩
           let Good:St→Prop:=fun σp=> ∀Ch Aj,gC X μ0 n σp Ch Aj→gC X μ0 n (forget kT kO σ1 σs) Ch Aj
           have w9: ∀σp ∈ σ1::σs,Good σp:=by
            rintro σp hp Ch Aj ⟨gM,b5,φ,hr,hle⟩
            have Ue:nQ kT kO σ1 σp=true∨σp=σ1:=by
              rcases List.mem_cons.1 hp with h| h
              · exact .inr h
              · exact .inl (List.all_eq_true.1 Lv σp h)
            have ZE: ∀t,t ∈ kT→σp.T t=σ1.T t:=fun t ht=>by
              rcases Ue with h| h
              · simp only[nQ,Bool.and_eq_true,List.all_eq_true] at h
                exact V.beq_eq (h.1 t ht)
              · rw[h]
            have ZF: ∀x,x ∈ kO→σp.O x=σ1.O x:=fun x hx=>by
              rcases Ue with h| h
              · simp only[nQ,Bool.and_eq_true,List.all_eq_true] at h
                exact Obj.beq_eq (h.2 x hx)
              · rw[h]
            have Ce:=ug (O':=(forget kT kO σ1 σs).O) hr.aN fun x=>by
              simp only[forget]
              by_cases hx:kO.contains x=true
              · rw[if_pos hx]
                exact .inl (ZF x (by simpa using hx)).symm
              · rw[if_neg hx]
                refine .inr ⟨rfl,.inl ?_⟩
                have:=nU (fun σ:St=> (σ.O x).gen) hp
                show (σp.O x).gen<_+1
                omega
            refine⟨gM,b5,φ,⟨fun t=> ?_,Ce.2⟩,hle.trans Ce.1⟩
            simp only[forget]
            split
            · rename_i ht
              rw[←ZE t (by simpa using ht)]
              exact aj.mono Ce.1 (hr.tmps t)
            · simp[aj]
           have sg: ∀p,p.Perm es→ ∃σp,runK rec it r g nx ne id tb tm tl p ⟨σ.T,cW σ.O r ⟨g,0,false,false,none⟩⟩=some σp∧Good σp:=fun p hp=>by
            obtain⟨σp,h1,h2⟩:=pT nP p (kB hp)
            exact⟨σp,h2,w9 σp h1⟩
           obtain⟨gM,b5,φ,hr,hle⟩:=hs
           have Ce:=ug (O':=cW σ.O r ⟨g,0,false,false,none⟩) hr.aN fun x=>by
            by_cases hx:x=r
            · subst hx
              rw[av]
              exact .inr ⟨rfl,.inr ⟨bU.symm,Rq.symm⟩⟩
            · rw[aL _ _ hx];exact .inl rfl
           have mC:Rel X σ.T a ⟨w,φ,cW σ.O r ⟨g,0,false,false,none⟩⟩:=⟨fun t=>aj.mono Ce.1 (hr.tmps t),Ce.2⟩
           obtain⟨_,cP,ob,EG,hh⟩:=hr.aN.map r _ hO Rq
           have fD: (Mu.mk w φ σ.O).own (φ r).cD:=⟨r,by show (σ.O r).es.isSome=true;rw[hO];rfl,fm,cP,rfl⟩
           have ef: ¬ (Mu.mk w φ (cW σ.O r ⟨g,0,false,false,none⟩)).own (φ r).cD:=by
            rintro⟨r',h1,h2,h3,h4⟩
            by_cases hx:r'=r
            · subst hx;simp[av] at h1
            · have vX: (σ.O r').es.isSome=true:=by have:=h1;simp only[aL _ _ hx] at this;exact this
              exact hr.aN.inj r' r hx vX (by show (σ.O r).es.isSome=true;rw[hO];rfl) h3 cP h4
           have jN: (φ r).cD<μ0.w.heap.size→μ0.own (φ r).cD:=fun bJ=>Classical.byContradiction fun hn=> (hle.bZ _ bJ hn).2 fD
           have ew: ∀r',((cW σ.O r ⟨g,0,false,false,none⟩) r').es.isSome=true→(φ r').cap≠0→(φ r').cD≠(φ r).cD:=fun r' h1 h2 h4=>by
            by_cases hx:r'=r
            · subst hx;simp[av] at h1
            · have vX: (σ.O r').es.isSome=true:=by have:=h1;simp only[aL _ _ hx] at this;exact this
              exact hr.aN.inj r' r hx vX (by show (σ.O r).es.isSome=true;rw[hO];rfl) h2 cP h4
           have hQ: ∀a' w',vx X n μ0 rec tl Good a' w'→Exit.inBlock id (fun ex a' w'=>ex= .normal∧ ∃σe σp,gC X μ0 n σe a' w'∧rec tl σe=some (.normal,σp)∧ ∀Ch Aj,gC X μ0 n σp Ch Aj→gC X μ0 n (forget kT kO σ1 σs) Ch Aj) (.exit id) a' w':=by
            rintro a' w' ⟨σe,σp,q1,q2,q3⟩
            simp only[Go.Exit.inBlock,if_true]
            exact⟨trivial,σe,σp,q1,q2,q3⟩
           have key: ∃m,Code.roundsIn (Fr n.ro) 0 X.P (ll i0 ops y b1 i5 fb z5) (Exit.inBlock id (fun ex a' w'=>ex= .normal∧ ∃σe σp,gC X μ0 n σe a' w'∧rec tl σe=some (.normal,σp)∧ ∀Ch Aj,gC X μ0 n σp Ch Aj→gC X μ0 n (forget kT kO σ1 σs) Ch Aj)) (m+1) a w:=by
            rcases hh with⟨ents,clock,k1,hh,_⟩ | ⟨s,pos,_,hh⟩ | ⟨mo,since,kG,h1,h2,h3⟩
            · exfalso
              cases he:ents.toList with
              | nil=>rw[he] at hh;simp[ah] at hh
              | cons x xs=>rw[he] at hh;simp[ah,aj] at hh
            · simp at hh
            · simp only[List.cons.injEq,V.mlit.injEq,and_true] at h2
              subst h2
              subst h1
              rcases h3 with⟨rfl,rfl⟩ | ⟨bm,ents,rfl,k2,k3,k4,k5,k6⟩
              · obtain⟨σp,hk,yV⟩:=sg [] (.refl _)
                have po:a.eval (.tmp it)= .pointer (some ⟨(φ r).cD,0,none⟩):=by
                  have:=hr.tmps it
                  rw[hT] at this
                  simp only[aj] at this
                  obtain⟨a0,e1,_,e2⟩:=this
                  obtain⟨_,rfl⟩:=e2 bU
                  exact e1
                exact⟨0,uj hQ hB h0 cZ hd hg yl ⟨gM,b5,φ,mC,hle.trans Ce.1⟩ (by rw[po];exact Dy EG) hk yV 0⟩
              · obtain⟨Z,z1,z2,z3⟩:=w8 k6
                have r7:fp Z #[]=Z:=List.filter_eq_self.2 fun z _=>by simp
                refine⟨_,oz (r:=r) (g:=g) hQ hB hM h0 cZ hd hg yl l0 ZD ld lg cB z2 k5 _ #[] ⟨σ.T,cW σ.O r ⟨g,0,false,false,none⟩⟩ a w φ rfl gM b5 mC (hle.trans Ce.1) rfl EG ef jN ew k4 ?_ (fun z hz=>aj.mono Ce.1 (z3 z hz)) ?_⟩
                · rintro(⟨r',h1,h2,h3,h4⟩ | h)
                  · refine k2 (.inl ⟨r',?_,?_,h3,h4⟩)
                    · by_cases hx:r'=r
                      · subst hx;simp[av] at h1
                      · have:=h1;simp only[aL _ _ hx] at this;exact this
                    · by_cases hx:r'=r
                      · subst hx;exact fm
                      · have:=h2;simp only[aL _ _ hx] at this;exact this
                  · exact k2 (.inr h)
                · rw[r7,z1];exact sg
           obtain⟨m,hm⟩:=key
           exact wpIn_block (wpIn_loop_rounds (m+1) hm)
         · simp at ag
       · simp at ag
     · simp at ag
   · simp at ag
 · simp at ag
end
end Go.AM
namespace Go.AM
open Go Go.RowKit
theorem DC {X:Ctx} {μ:Mu} (ho:aS X μ) {D:Nat} {o:Go.Obj} (hD:μ.w.heap[D]? =some o) (h1:o.isCells=false) (h2:o.isWalk=false) {r:Nat} (hr: (μ.O r).es.isSome=true) (hc: (μ.φ r).cap≠0): (μ.φ r).cD≠D:=fun hb=>by
 obtain⟨es,bp⟩:=Option.isSome_iff_exists.1 hr
 rcases ho.ok r es bp with⟨_,_,_,h4⟩ | ⟨_,_,ob,h3,h4⟩
 · rcases h4 with h4| ⟨c,T,vs,k1,_⟩
   · exact hc h4
   · rw[hb,hD] at k1;injection k1 with k1;subst k1;simp[Obj.isCells] at h1
 · rw[hb,hD] at h3;injection h3 with h3;subst h3
   rcases h4 with⟨_,_,rfl,_⟩ | ⟨_,_,rfl,_⟩ | ⟨_,_,_,rfl,_⟩ <;>simp[Obj.isWalk] at h2
theorem iw {X:Ctx} {μ:Mu} {D:Nat} {o o':Go.Obj} (hD:μ.w.heap[D]? =some o) (h1:o.isCells=false) (h2:o.isWalk=false):gz X μ (μ.w.putObj D o'):=by
 refine⟨fun ad c hc=> ?_,fun b es cl hb=> ?_,by simp[World.putObj]⟩
 · have cB:ad.block≠D:=fun e=>by
    simp only[World.cell?,e,hD] at hc
    cases o<;>simp_all[Obj.isCells]
   simp only[World.cell?,World.putObj_heap_other cB] at hc ⊢
   exact hc
 · rw[World.putObj_heap_other (fun e=>by rw[e,hD] at hb;injection hb with hb;subst hb;simp[Obj.isWalk] at h2)]
   exact hb
theorem zh {μ0:Mu} {w:World} {φ:Nat→Row} {O:Nat→Obj} (le:Le μ0 ⟨w,φ,O⟩) {D:Nat} {o':Go.Obj} (hf:μ0.w.heap.size≤D):Le μ0 ⟨w.putObj D o',φ,O⟩:=by
 refine⟨by have:=le.size;simpa [World.putObj] using this,fun b hb hn=> ?_,le.gen,le.row,le.os,le.output,le.tape,fun ad Lt=> ?_⟩
 · have cB:b≠D:=by omega
   exact⟨(World.putObj_heap_other cB).trans (le.bZ b hb hn).1,(le.bZ b hb hn).2⟩
 · have cB:ad.block≠D:=by omega
   have:=le.frozen ad Lt
   simp only[World.frozen?] at this ⊢
   show (match (w.putObj D o').heap[ad.block]? with| some (.cells _ _ (lo,hi))=>_| _=>false)=_
   rw[World.putObj_heap_other cB]
   exact this
theorem uk {X:Ctx} {w:World} {φ:Nat→Row} {O:Nat→Obj} (ho:aS X ⟨w,φ,O⟩) {D:Nat} (h2:w.heap[D]? =some (.deferred (some []))):aS X ⟨w.putObj D (.deferred none),φ,O⟩:=
 ho.bV (iw (μ:=⟨w,φ,O⟩) h2 rfl rfl) fun r h3 h4=>World.putObj_heap_other (DC ho h2 rfl rfl h3 h4)
def Kept (μ:Mu) (W W':World):Prop:= ∀b,b<μ.w.heap.size→ ¬μ.own b→W'.heap[b]? =W.heap[b]?
def Abides (J:Nat→World→Prop):Prop:= ∀k A B,J k A→A.grownBy B none→J k B
structure Gh (J:Nat→(Nat→Prop)→World→Prop):Prop where
 grow: ∀k F A B,J k F A→A.grownBy B none→J k (fun b=>F b∨(A.heap.size≤b∧b<B.heap.size)) B
 less: ∀k F F' A,J k F A→(∀b,F' b→F b)→J k F' A
structure qZ (X:Ctx) (μ:Mu) (gf:Nat) (lb:Array Value) (xs:List (List V)):Prop where
 enters: ∀args w,(callFunc gf args).run X.P w= .ok (.enter gf args) w
 ex: ∃tj:List (Array Value),tj.length=xs.length∧(∀ (i:Nat) x v,xs[i]? =some x→tj[i]? =some v→ah X μ x v.toList)∧
  ∀ (l:Nat) (J:Nat→(Nat→Prop)→World→Prop) (Jx:Nat→World→Prop) (W0:World),Below μ.w.heap.size μ.w W0→Gh J→Abides Jx→
   (∀ (k:Nat) F W1 v,tj[k]? =some v→J k F W1→YieldAt (Fr none) 0 X.P l v W1 fun e W'=> (e= .returned (.bool true)∧J (k+1) F W'∧Kept μ W1 W'∧ ∀b,F b→W'.heap[b]? =W1.heap[b]?)∨(e= .returned (.bool false)∧Jx (k+1) W'))→
   J 0 (fun _=>False) W0→CallsIn (Fr none) 0 X.P gf (#[.func (.yield l) #[] #[]]++lb) W0 fun e W'=> (∃v,e= .returned v)∧((∃F,J tj.length F W')∨ ∃k,k≤tj.length∧Jx k W')
theorem qo {X:Ctx} {μ:Mu} {W':World} (h:μ.w.grownBy W' none):gz X μ W':=by
 have hb: ∀k,k<μ.w.heap.size→W'.heap[k]? =μ.w.heap[k]? :=fun k hk=>h.block k hk (by simp)
 refine⟨fun ad c hc=> ?_,fun b es cl hc=> ?_,h.size⟩
 · have bJ:ad.block<μ.w.heap.size:=by
    rcases Nat.lt_or_ge ad.block μ.w.heap.size with hl| hl
    · exact hl
    · simp[World.cell?,Array.getElem?_eq_none hl] at hc
   simp only[World.cell?,hb _ bJ] at hc ⊢
   exact hc
 · rw[hb _ (Array.getElem?_eq_some_iff.1 hc).1];exact hc
theorem zi {X:Ctx} {μ:Mu} (ho:aS X μ) {r:Nat} (hr: (μ.O r).es.isSome=true) (hc: (μ.φ r).cap≠0): (μ.φ r).cD<μ.w.heap.size:=by
 obtain⟨es,bp⟩:=Option.isSome_iff_exists.1 hr
 rcases ho.ok r es bp with⟨_,_,_,h4⟩ | ⟨_,_,ob,h3,h4⟩
 · rcases h4 with h4| ⟨c,T,vs,k1,_⟩
   · exact absurd h4 hc
   · exact(Array.getElem?_eq_some_iff.1 k1).1
 · exact(Array.getElem?_eq_some_iff.1 h3).1
structure eo (X:Ctx) (μb:Mu) (T:Nat→V) (a:Go.Act) (l:Nat) (Dq:Option Nat) (L:Loop) (O:Nat→Obj) (φ:Nat→Row) (W:World):Prop where
 rel:Rel X T a ⟨W,φ,O⟩
 le:Le μb ⟨W,φ,O⟩
 uo:W.heap[l]? =some (.loop L)
 Lw: ∀D,Dq=some D→W.heap[D]? =some (.deferred (some []))
section
variable {X:Ctx} {μb:Mu} {T:Nat→V} {a:Go.Act} {l:Nat} {Dq:Option Nat} {L L':Loop} {O:Nat→Obj} {φ:Nat→Row} {W W':World}
theorem eo.grow (h:eo X μb T a l Dq L O φ W) (hg:W.grownBy W' none):eo X μb T a l Dq L O φ W':=by
 have st:gz X ⟨W,φ,O⟩ W':=qo (μ:=⟨W,φ,O⟩) hg
 have hb: ∀k,k<W.heap.size→W'.heap[k]? =W.heap[k]? :=fun k hk=>hg.block k hk (by simp)
 refine⟨⟨fun t=>aj.bV st (h.rel.tmps t),h.rel.aN.bV st fun r h1 h2=>hb _ (zi h.rel.aN h1 h2)⟩,?_,(hb _ (Array.getElem?_eq_some_iff.1 h.uo).1).trans h.uo,fun D hD=> (hb _ (Array.getElem?_eq_some_iff.1 (h.Lw D hD)).1).trans (h.Lw D hD)⟩
 have le:=h.le
 have b5:μb.w.heap.size≤W.heap.size:=le.size
 exact⟨Nat.le_trans b5 hg.size,fun b p9 hn=> ⟨(hb b (by omega)).trans (le.bZ b p9 hn).1,(le.bZ b p9 hn).2⟩,le.gen,le.row,hg.os.trans le.os,hg.output.trans le.output,hg.tape.trans le.tape,fun ad Lt=>by
  have:=le.frozen ad Lt
  rw[←this]
  show W'.frozen? ad=W.frozen? ad
  simp only[World.frozen?,hb ad.block (by omega)]⟩
theorem eo.put (h:eo X μb T a l Dq L O φ W) (hl:μb.w.heap.size≤l) (hD: ∀D,Dq=some D→D≠l):eo X μb T a l Dq L' O φ (W.putObj l (.loop L')):=by
 have st:gz X ⟨W,φ,O⟩ (W.putObj l (.loop L')):=iw (μ:=⟨W,φ,O⟩) h.uo rfl rfl
 refine⟨⟨fun t=>aj.bV st (h.rel.tmps t),h.rel.aN.bV st fun r h3 h4=>World.putObj_heap_other (DC h.rel.aN h.uo rfl rfl h3 h4)⟩,zh h.le hl,World.putObj_heap_same (Array.getElem?_eq_some_iff.1 h.uo).1,fun D hd=> (World.putObj_heap_other (hD D hd)).trans (h.Lw D hd)⟩
end
def aP.conv:aP→Go.Exit
 | .normal=> .normal
 | .exit id=> .exit id
 | .ret=> .ret
def DD (X:Ctx) (n:Fp) (c:Code) (rec:an→St→Option (aP×St)) (tc:an):Prop:=
 ∀ (σ σ':St) (e:aP) (μ0:Mu) (a:Go.Act) (w:World),rec tc σ=some (e,σ')→gC X μ0 n σ a w→c.wpIn (Fr n.ro) 0 X.P (fun ex a' w'=>ex=e.conv∧gC X μ0 n σ' a' w') a w
theorem Ak {X:Ctx} {μ:Mu}: ∀ {ps:List Nat} {x:List V} {vs:List Value} {T:Nat→V} {tmps:Array Value},ah X μ x vs→(∀t,aj X μ (T t) (tmps.getD t undef))→(∀p ∈ ps,p<tmps.size)→
   (∀t,aj X μ (kA T ps x t) (((ps.zip vs).foldl (fun t p=>t.setIfInBounds p.1 p.2) tmps).getD t undef))∧((ps.zip vs).foldl (fun t p=>t.setIfInBounds p.1 p.2) tmps).size=tmps.size
 | [],x,vs,T,tmps,_,h,_=> ⟨by simpa [kA] using h,rfl⟩
 | p::ps,[],[],T,tmps,_,h,_=> ⟨by simpa [kA] using h,rfl⟩
 | p::ps,[],_::_,T,tmps,hx,_,_=>by simp[ah] at hx
 | p::ps,_::_,[],T,tmps,hx,_,_=>by simp[ah] at hx
 | p::ps,x::xs,v::vs,T,tmps,hx,h,hp=>by
   simp only[ah] at hx
   have bJ:=hp p (by simp)
   obtain⟨k1,k2⟩:=Ak (ps:=ps) (T:=cW T p x) (tmps:=tmps.setIfInBounds p v) hx.2 (fun t=>by
    unfold cW
    split
    · rename_i e;subst e
      have: (tmps.setIfInBounds t v).getD t undef=v:=by simp[bJ]
      rw[this];exact hx.1
    · rename_i cB
      have: (tmps.setIfInBounds p v).getD t undef=tmps.getD t undef:=by
       simp[Array.getElem?_setIfInBounds_ne (fun e=>cB e.symm)]
      rw[this];exact h t) (fun q hq=>by simpa using hp q (by simp[hq]))
   exact⟨k1,by simpa using k2⟩
theorem By {P:Program} {w:World} (ro:Option Nat) (h: ∀l,ro=some l→ ∃L,w.heap[l]? =some (.loop L)) (fn:FuncId) (tmps:Array Value) (ps:Array Tmp) (assign body:Code):
   ∃ (l:Nat) (Dq:Option Nat) (dD:Nat) (W1:World),(Instr.enterLoop fn tmps ps assign body ro).run P w= .ok (l,Dq.toList.map fun D=> {target:= .collected D,args:= #[]}) W1∧w.grownBy W1 none∧w.heap.size≤l∧
     W1.heap[l]? =some (.loop {state:= .ready,pending:=none,fn,tmps,params:=ps,assign,body,defers:=dD})∧ ∀D,Dq=some D→w.heap.size≤D∧D≠l∧W1.heap[D]? =some (.deferred (some [])):=by
 cases ro with
 | none=>
   have b5: (w.alloc (.deferred (some []))).heap.size=w.heap.size+1:=World.size_alloc _ _
   refine⟨w.heap.size+1,some w.heap.size,w.heap.size,_,run_enterLoop_outer fn tmps ps assign body,?_,by omega,?_,?_⟩
   · have b1:Below w.heap.size w ((w.alloc (.deferred (some []))).alloc (.loop {state:= .ready,pending:=none,fn,tmps,params:=ps,assign,body,defers:=w.heap.size})):=((Below.refl _ w).alloc (Nat.le_refl _) _).alloc (by simp) _
     exact⟨b1.os,b1.tape,b1.output,b1.size,fun k hk _=>b1.block k hk⟩
   · have:=World.alloc_heap_new (w.alloc (.deferred (some []))) (.loop {state:= .ready,pending:=none,fn,tmps,params:=ps,assign,body,defers:=w.heap.size})
     rwa [b5] at this
   · rintro D hD
     injection hD with hD;subst hD
     exact⟨Nat.le_refl _,by omega,(Below.heap_alloc _ _ _ (by rw[b5];omega)).trans (World.alloc_heap_new w _)⟩
 | some l0=>
   obtain⟨L,hL⟩:=h l0 rfl
   refine⟨w.heap.size,none,L.defers,_,run_enterLoop_inner hL fn tmps ps assign body,?_,Nat.le_refl _,World.alloc_heap_new w _,by simp⟩
   have b1:Below w.heap.size w (w.alloc (.loop {state:= .ready,pending:=none,fn,tmps,params:=ps,assign,body,defers:=L.defers})):=(Below.refl _ w).alloc (Nat.le_refl _) _
   exact⟨b1.os,b1.tape,b1.output,b1.size,fun k hk _=>b1.block k hk⟩
theorem uq {X:Ctx} {μ0:Mu} {n:Fp} {T:Nat→V} {a:Go.Act} {w W:World} {φ φ':Nat→Row} {O0 O:Nat→Obj} {l:Nat} {Dq:Option Nat} {L:Loop} (gM:Marks n w a.defers) (b5:a.tmps.size=n.tm) (ho:aS X ⟨w,φ,O0⟩) (hle:Le μ0 ⟨w,φ,O0⟩)
   (h:eo X ⟨w,φ,O0⟩ T a l Dq L O φ' W) (hD: ∀D,Dq=some D→w.heap.size≤D):gC X μ0 n ⟨T,O⟩ {a with defers:=(Dq.toList.map fun D=> {target:= .collected D,args:= #[]})++a.defers} W:=by
 refine⟨?_,b5,φ',⟨h.rel.tmps,h.rel.aN⟩,hle.trans h.le⟩
 obtain⟨h0,Ds,h1,h2,h3⟩:=gM.le ho h.le
 refine⟨h0,Dq.toList++Ds,by simp[h1],?_,fun D hd=> ?_⟩
 · cases Dq with
   | none=>simpa using h2
   | some D=>
     simp only[Option.toList_some,List.cons_append,List.nil_append,List.nodup_cons]
     refine⟨fun hm=> ?_,h2⟩
     obtain⟨_,ZG,k1,_,k3⟩:=gM
     have:Ds=ZG:=by
       rw[h1] at k1
       have kl:Function.Injective (fun D:Nat=> ({target:= .collected D,args:= #[]}:Deferred)):=fun x y e=>by injection e with e;injection e
       exact List.map_inj_right (fun x y e=>kl e) |>.1 k1
     subst this
     have:=(Array.getElem?_eq_some_iff.1 (k3 D hm).2).1
     have:=hD D rfl
     omega
 · rcases List.mem_append.1 hd with hd| hd
   · cases Dq with
     | none=>simp at hd
     | some D'=>
       simp at hd;subst hd
       exact⟨Nat.le_trans gM.1.1 (hD _ rfl),h.Lw _ rfl⟩
   · exact h3 D hd
theorem xa {X:Ctx} {n:Fp} {g:Operand} {ps:Array Tmp} {assign body:Code} {rec:an→St→Option (aP×St)} {ta tb:an} (hA: ∀l,DD X ⟨n.tm,0,some l⟩ assign rec ta) (hB: ∀l,DD X ⟨n.tm,0,some l⟩ body rec tb)
   {μ0:Mu} {σ σ':St} {e:aP} {a:Go.Act} {w:World} (hs:gC X μ0 n σ a w) (wh: ∀p ∈ ps.toList,p<n.tm) {gf:Nat} {lb:Array Value} {xs:List (List V)} (hg:a.eval g= .func (.func gf) #[] lb)
   (hI: ∀φ,Rel X σ.T a ⟨w,φ,σ.O⟩→qZ X ⟨w,φ,σ.O⟩ gf lb xs) (hlen: ∀x ∈ xs,x.length=ps.size) (ag:nO rec ps.toList ta tb σ.T xs σ.O=some (e,σ')):
   (Code.rangeFunc g ps assign body).wpIn (Fr n.ro) 0 X.P (fun ex a' w'=>ex=e.conv∧gC X μ0 n σ' a' w') a w:=by
 obtain⟨gM,b5,φ,hr,hle⟩:=hs
 obtain⟨enters,tj,y9,ym,Rs⟩:=hI φ hr
 refine wpIn_rangeFunc fun fn qV=> ?_
 obtain⟨l,Dq,dD,W1,Wb,js,hl,Wc,Us⟩:=By (P:=X.P) n.ro gM.1.2 fn a.tmps ps assign body
 obtain⟨ez,jy⟩: ∃ez:LoopState→Option Code→Loop,ez=fun st pe=> {state:=st,pending:=pe,fn,tmps:=a.tmps,params:=ps,assign,body,defers:=dD}:=⟨_,rfl⟩
 have cB: ∀D,Dq=some D→D≠l:=fun D hD=> (Us D hD).2.1
 have Rt:eo X ⟨w,φ,σ.O⟩ σ.T a l Dq (ez .ready none) σ.O φ W1:=by
   have st:gz X ⟨w,φ,σ.O⟩ W1:=qo (μ:=⟨w,φ,σ.O⟩) js
   have hb: ∀k,k<w.heap.size→W1.heap[k]? =w.heap[k]? :=fun k hk=>js.block k hk (by simp)
   refine⟨⟨fun t=>aj.bV st (hr.tmps t),hr.aN.bV st fun r h1 h2=>hb _ (zi hr.aN h1 h2)⟩,?_,by rw[jy];exact Wc,fun D hD=> (Us D hD).2.2⟩
   exact⟨js.size,fun b p9 hn=> ⟨hb b p9,hn⟩,fun _=>Nat.le_refl _,fun _ _=> ⟨rfl,rfl⟩,js.os,js.output,js.tape,fun ad Lt=>by simp only[World.frozen?,hb ad.block Lt]⟩
 refine⟨l,_,W1,{target:= .fn (.func gf) lb,args:= #[.func (.yield l) #[] #[]]},W1,gf,#[.func (.yield l) #[] #[]]++lb,W1,Wb,?_,fun _ _=>trivial,?_,fun h=>by simp[Fr,Fence.wide] at h,?_⟩
 · simp only[resolve,hg]
   simp[go_sem]
 · simp[invoke,go_sem,enters]
 have key:=Rs l (fun k F W=> ∃O φ',eo X ⟨w,φ,σ.O⟩ σ.T a l Dq (ez .ready none) O φ' W∧nO rec ps.toList ta tb σ.T (xs.drop k) O=some (e,σ')∧ ∀b,F b→b<W.heap.size∧ ¬Mu.own ⟨W,φ',O⟩ b∧b≠l)
   (fun k W=> ∃O φ' c,eo X ⟨w,φ,σ.O⟩ σ.T a l Dq (ez .done (some c)) O φ' W∧σ'=⟨σ.T,O⟩∧(e= .ret∧c= .ret∨ ∃id,e= .exit id∧c= .exit id)) W1
   ⟨js.os,js.tape,js.output,js.size,fun k hk=>js.block k hk (by simp)⟩
   ⟨fun k F A B ⟨O,φ',h1,h2,h3⟩ hg=> ⟨O,φ',h1.grow hg,h2,fun b hb=>by
     rcases hb with hb| ⟨EH,Gi⟩
     · exact⟨Nat.lt_of_lt_of_le (h3 b hb).1 hg.size,(h3 b hb).2⟩
     · refine⟨Gi,?_,fun jQ=> ?_⟩
       · rintro⟨r,q1,_,q3,q4⟩
         have:=zi (μ:=⟨A,φ',O⟩) h1.rel.aN q1 q3
         have hq: (φ' r).cD=b:=q4
         have: (φ' r).cD<A.heap.size:=this
         omega
       · subst jQ
         have:=(Array.getElem?_eq_some_iff.1 h1.uo).1
         omega⟩,fun k F F' A ⟨O,φ',h1,h2,h3⟩ hF=> ⟨O,φ',h1,h2,fun b hb=>h3 b (hF b hb)⟩⟩ (fun k A B ⟨O,φ',c,h1,h2⟩ hg=> ⟨O,φ',c,h1.grow hg,h2⟩) ?round ⟨σ.O,φ,Rt,by simpa using ag,fun b hb=>hb.elim⟩
 case round=>
   rintro k F W v hv ⟨O,φ',jN,qG,hF⟩
   have hk:k<xs.length:=by rw[←y9];exact(List.getElem?_eq_some_iff.1 hv).1
   have hx:xs[k]? =some xs[k]:=List.getElem?_eq_getElem hk
   rw[List.drop_eq_getElem_cons hk] at qG
   generalize xs[k]=x at hx qG
   have qe:=ym k x v hx hv
   have Lj:=hlen x (List.mem_of_getElem? hx)
   simp only[nO] at qG
   split at qG
   rotate_left
   · simp at qG
   rename_i σ1 h1
   have Wd:=jN.le
   have We:ah X ⟨W,φ',O⟩ x v.toList:=ah.mono Wd qe
   have nn:v.size=ps.size:=by
     have:=qe.length
     rw[←Lj,this];simp
   have Mr:=Ak (ps:=ps.toList) (T:=σ.T) (tmps:=a.tmps) We jN.rel.tmps (by rw[b5];exact wh)
   have Wf: ((ps.zip v).foldl (fun tmps (p:Tmp×Value)=>tmps.setIfInBounds p.1 p.2) a.tmps)=(ps.toList.zip v.toList).foldl (fun t p=>t.setIfInBounds p.1 p.2) a.tmps:=by
     rw[←Array.foldl_toList,Array.toList_zip]
   have hy:=run_yield (P:=X.P) (args:=v) jN.uo (by rw[jy];exact nn)
   rw[jy] at hy
   refine⟨fn,_,assign,body,hy,roundIn_of_wpIn qV ?_⟩
   have jx:gC X ⟨W,φ',O⟩ ⟨n.tm,0,some l⟩ ⟨kA σ.T ps.toList x,O⟩ {tmps:=(ps.zip v).foldl (fun tmps (p:Tmp×Value)=>tmps.setIfInBounds p.1 p.2) a.tmps,defers:=[]} W:=by
     refine⟨Marks.nil (Nat.zero_le _) (fun l' yI=>by injection yI with yI;subst yI;exact⟨_,jN.uo⟩),by show Array.size _=n.tm;rw[Wf,Mr.2];exact b5,φ',⟨fun t=> ?_,jN.rel.aN⟩,Le.refl _⟩
     show aj X _ _ (Array.getD _ t undef)
     rw[Wf];exact Mr.1 t
   refine wpIn_mono (hA l _ _ _ _ _ _ h1 jx) fun ex a1 w1 hq=> ?_
   obtain⟨rfl,yK,sW,φ1,Gj,DE⟩:=hq
   have Hz: ∀ {b:Nat} {o:Go.Obj},W.heap[b]? =some o→o.isCells=false→o.isWalk=false→w1.heap[b]? =some o:=fun {b o} hb i1 i2=>
     (DE.bZ b (Array.getElem?_eq_some_iff.1 hb).1 (dm jN.rel.aN hb i1 i2)).1.trans hb
   have Gk:eo X ⟨w,φ,σ.O⟩ σ.T a l Dq (ez .ready none) σ1.O φ1 w1:=⟨⟨fun t=>aj.mono DE (jN.rel.tmps t),Gj.aN⟩,jN.le.trans DE,Hz jN.uo rfl rfl,fun D hD=>Hz (jN.Lw D hD) rfl rfl⟩
   show ∃w₂,_∧_
   refine⟨_,run_beginRound Gk.uo (by rw[jy]),?_⟩
   have pI:eo X ⟨w,φ,σ.O⟩ σ.T a l Dq (ez .busy none) σ1.O φ1 (w1.putObj l (.loop (ez .busy none))):=Gk.put hl cB
   have Ru: ({ez .ready none with state:= .busy}:Loop)=ez .busy none:=by rw[jy]
   rw[Ru]
   have ZH:gz X ⟨w1,φ1,σ1.O⟩ (w1.putObj l (.loop (ez .busy none))):=iw (μ:=⟨w1,φ1,σ1.O⟩) Gk.uo rfl rfl
   have HA:gC X ⟨w1.putObj l (.loop (ez .busy none)),φ1,σ1.O⟩ ⟨n.tm,0,some l⟩ σ1 a1 (w1.putObj l (.loop (ez .busy none))):=by
     refine⟨?_,sW,φ1,⟨fun t=>aj.bV ZH (Gj.tmps t),pI.rel.aN⟩,Le.refl _⟩
     obtain⟨_,Ds,m1,m2,m3⟩:=yK
     refine⟨⟨Nat.zero_le _,fun l' yI=>by injection yI with yI;subst yI;exact⟨_,pI.uo⟩⟩,Ds,m1,m2,fun D hD=> ⟨Nat.zero_le _,?_⟩⟩
     rw[World.putObj_heap_other (fun e=>by have:=(m3 D hD).2;rw[e,Gk.uo] at this;simp at this)]
     exact(m3 D hD).2
   split at qG
   ·
     rename_i σ2 h2
     refine wpIn_mono (hB l _ _ _ _ _ _ h2 HA) fun ex a3 w3 hq=> ?_
     obtain⟨rfl,_,_,φ3,Rv,vy⟩:=hq
     have xb: ∀ {b:Nat} {o:Go.Obj},(w1.putObj l (.loop (ez .busy none))).heap[b]? =some o→o.isCells=false→o.isWalk=false→w3.heap[b]? =some o:=fun {b o} hb i1 i2=>
       (vy.bZ b (Array.getElem?_eq_some_iff.1 hb).1 (dm pI.rel.aN hb i1 i2)).1.trans hb
     have Bz:eo X ⟨w,φ,σ.O⟩ σ.T a l Dq (ez .busy none) σ2.O φ3 w3:=⟨⟨fun t=>aj.mono vy (pI.rel.tmps t),Rv.aN⟩,pI.le.trans vy,xb pI.uo rfl rfl,fun D hD=>xb (pI.Lw D hD) rfl rfl⟩
     have DF:eo X ⟨w,φ,σ.O⟩ σ.T a l Dq (ez .ready none) σ2.O φ3 (w3.putObj l (.loop (ez .ready none))):=Bz.put hl cB
     have e4: ({ez .busy none with state:=if (none:Option Code).isNone then .ready else .done,pending:=none}:Loop)=ez .ready none:=by rw[jy];rfl
     have MG: ∀b,F b→(w3.putObj l (.loop (ez .ready none))).heap[b]? =W.heap[b]? ∧b<w3.heap.size∧ ¬Mu.own ⟨w3,φ3,σ2.O⟩ b:=fun b hb=>by
       obtain⟨f1,f2,f3⟩:=hF b hb
       have g1:=DE.bZ b f1 f2
       have s1:W.heap.size≤w1.heap.size:=DE.size
       have s2: (w1.putObj l (.loop (ez .busy none))).heap.size≤w3.heap.size:=vy.size
       have s3: (w1.putObj l (.loop (ez .busy none))).heap.size=w1.heap.size:=World.putObj_size ..
       have g2:=vy.bZ b (by show b< (w1.putObj l (.loop (ez .busy none))).heap.size;omega) g1.2
       refine⟨?_,by omega,g2.2⟩
       rw[World.putObj_heap_other f3,show w3.heap[b]? =(w1.putObj l (.loop (ez .busy none))).heap[b]? from g2.1,World.putObj_heap_other f3]
       exact g1.1
     refine⟨_,_,run_endRound none Bz.uo,.inl ⟨rfl,⟨σ2.O,φ3,by rw[e4];exact DF,qG,fun b hb=> ?_⟩,fun b hb hn=> ?_,fun b hb=> ?_⟩⟩
     · rw[e4]
       refine⟨?_,(MG b hb).2.2,(hF b hb).2.2⟩
       rw[show (w3.putObj l (.loop (ez .ready none))).heap.size=w3.heap.size from World.putObj_size ..]
       exact(MG b hb).2.1
     · rw[e4]
       exact(DF.le.bZ b hb hn).1.trans (jN.le.bZ b hb hn).1.symm
     · rw[e4];exact(MG b hb).1
   ·
     rename_i e2 σ2 ZI h2
     simp only[Option.some.injEq,Prod.mk.injEq] at qG
     obtain⟨rfl,rfl⟩:=qG
     refine wpIn_mono (hB l _ _ _ _ _ _ h2 HA) fun ex a3 w3 hq=> ?_
     obtain⟨rfl,_,_,φ3,Rv,vy⟩:=hq
     have xb: ∀ {b:Nat} {o:Go.Obj},(w1.putObj l (.loop (ez .busy none))).heap[b]? =some o→o.isCells=false→o.isWalk=false→w3.heap[b]? =some o:=fun {b o} hb i1 i2=>
       (vy.bZ b (Array.getElem?_eq_some_iff.1 hb).1 (dm pI.rel.aN hb i1 i2)).1.trans hb
     have Bz:eo X ⟨w,φ,σ.O⟩ σ.T a l Dq (ez .busy none) σ2.O φ3 w3:=⟨⟨fun t=>aj.mono vy (pI.rel.tmps t),Rv.aN⟩,pI.le.trans vy,xb pI.uo rfl rfl,fun D hD=>xb (pI.Lw D hD) rfl rfl⟩
     have DF: ∀c,eo X ⟨w,φ,σ.O⟩ σ.T a l Dq (ez .done (some c)) σ2.O φ3 (w3.putObj l (.loop (ez .done (some c)))):=fun c=>Bz.put hl cB
     have e4: ∀c,({ez .busy none with state:=if (some c:Option Code).isNone then .ready else .done,pending:=some c}:Loop)=ez .done (some c):=fun c=>by rw[jy];rfl
     cases e2 with
     | normal=>exact absurd rfl (ZI ·)
     | exit id=>exact⟨_,_,run_endRound (some (.exit id)) Bz.uo,.inr ⟨rfl,σ2.O,φ3,_,by rw[e4];exact DF _,rfl,.inr ⟨id,rfl,rfl⟩⟩⟩
     | ret=>exact⟨_,_,run_endRound (some .ret) Bz.uo,.inr ⟨rfl,σ2.O,φ3,_,by rw[e4];exact DF _,rfl,.inl ⟨rfl,rfl⟩⟩⟩
   · simp at qG
 refine CallsIn.mono (show CallsIn (Fr n.ro) (0 - 1) X.P gf _ W1 _ from key) ?_
 rintro ending W' ⟨⟨v,rfl⟩,(⟨_,O,φ',jN,qG,_⟩ | ⟨k,_,O,φ',c,jN,hσ,hc⟩)⟩
 · rw[List.drop_of_length_le (by omega)] at qG
   simp only[nO,Option.some.injEq,Prod.mk.injEq] at qG
   obtain⟨rfl,rfl⟩:=qG
   exact⟨none,_,by have:=run_endLoop (P:=X.P) jN.uo (by rw[jy];simp);rw[this,jy],rfl,uq gM b5 hr.aN hle (jN.put hl cB) fun D hD=> (Us D hD).1⟩
 · subst hσ
   refine⟨some c,_,by have:=run_endLoop (P:=X.P) jN.uo (by rw[jy];simp);rw[this,jy],?_⟩
   have jx:=uq gM b5 hr.aN hle (jN.put (L':=ez .exhausted (some c)) hl cB) fun D hD=> (Us D hD).1
   rcases hc with⟨rfl,rfl⟩ | ⟨id,rfl,rfl⟩
   · refine wpIn_ret ⟨rfl,?_⟩
     rw[jy] at jx;exact jx
   · refine wpIn_exit ⟨rfl,?_⟩
     rw[jy] at jx;exact jx
end Go.AM
namespace Go.AM
open Go Go.RowKit
def Ends (X:Ctx) (μ0:Mu) (n:Fp) (e:aP) (σ:St):Go.Exit→Go.Act→World→Prop:=fun ex a w=>ex=e.conv∧gC X μ0 n σ a w
section
variable {X:Ctx} {E:Env} {μ0:Mu} {n:Fp}
theorem sj {σ:St} {a:Go.Act} {w:World} (hs:gC X μ0 n σ a w) {c:Operand} {c':aI} (hc:cm X c=some c') {b:Bool} (hb:aQ σ c'= .bool b):a.eval c= .bool b:=by
 obtain⟨_,_,φ,hr,_⟩:=hs
 have:=aG hr hc σ.O
 have e:aQ ⟨σ.T,σ.O⟩ c'=aQ σ c':=rfl
 rw[e,hb] at this
 simpa [aj] using this
theorem iU {h:Hints} {i:Nat} {ops:Array Oper} {d:Bool} {b:Code} {ta tb:an}:wA h (.region i ops d) b ta tb= .seq ta tb:=by
 simp[wA,vh]
theorem BA {h:Hints} {c:Operand} {x y b:Code} {ta tb:an}:wA h (.cond c x y) b ta tb= .seq ta tb:=by
 simp[wA,vh]
theorem zj {    h:Hints} {x y:Code} {ax ay:an}:wA h x y ax ay= .seq ax ay∨ ∃iR BB dR i0 ops cc cx cy b1 i5 fb z5 id iS DG dS rest it nx ne kT kO o1 o5 iF Rw as tc bs tz tR tS rO,
   x= .seq (.region iR BB dR) (.block id (.loop (.seq (.region i0 ops false) (.seq (.cond cc cx cy) (.block b1 (.seq (.region i5 fb false) z5))))))∧y= .seq (.region iS DG dS) rest∧(ops[0]? =some o1∧o1.op= .next (.tmp it) false∧o1.dst=some nx∧o1.guard=none∧nx<h.n)∧
   (fb[0]? =some o5∧o5.op= .entry (.tmp it)∧o5.dst=some ne∧o5.guard=none∧ne<h.n)∧
   ax= .seq tR (.block iF (.loop (.seq (.region as) (.seq tc (.block Rw (.seq (.region bs) tz))))))∧ay= .seq tS rO∧wA h x y ax ay= .seq tR (.seq (.keys it nx ne id kT kO (.seq (.region (as.drop 1)) tc) (.block Rw (.seq (.region (bs.drop 1)) tz)) tS) rO):=by
 unfold wA
 split
 · rename_i it nx ne id kT kO tR iF as tc Rw bs tz tS rO hk hr
   right
   unfold vh at hk
   split at hk
   · rename_i iR BB dR ZJ i0 ops cc cx cy b1 i5 fb z5
     split at hk
     · rename_i o1 o5 ho Rx
       split at hk
       · rename_i it2 ZK ZL Q0 k1 k2 k3 k4 k5 k6
         split at hk
         · split at hk
           · rename_i hn
             simp only[Option.some.injEq,Prod.mk.injEq] at hk
             obtain⟨rfl,rfl,rfl,rfl,rfl,rfl⟩:=hk
             obtain⟨Mv,Xy,rfl⟩:=hn
             unfold wz at hr
             split at hr
             · rename_i iS DG dS rest
               exact⟨iR,BB,dR,i0,ops,cc,cx,cy,b1,i5,fb,z5,ZJ,iS,DG,dS,rest,ZL,ZK,Q0,_,_,o1,o5,iF,Rw,as,tc,bs,tz,tR,tS,rO,rfl,rfl,⟨ho,k1,k2,k3,Mv⟩,⟨Rx,k4,k5,k6,Xy⟩,rfl,rfl,rfl⟩
             · simp at hr
           · simp at hk
         · simp at hk
       · simp at hk
     · simp at hk
   · simp at hk
 · exact .inl rfl
def Gl (X:Ctx) (E:Env):Prop:= ∀g F caps xs,E.iter g caps=some xs→X.ig F=some g→ ∀ (μ:Mu) (lb:Array Value),ah X μ caps lb.toList→aS X μ→qZ X μ F lb xs
theorem zk (     hm:X.P.follows .mixedOrders=true) (po:Gl X E) {h:Hints}: ∀ (fuel:Nat),(∀m,m<fuel→kZ X E (cK E (exec E m)))→ ∀ {n:Fp} (hn:h.n=n.1) {μ0:Mu} (c:Code) (ac:an) (σ σ':St) (e:aP) (a:Go.Act) (w:World),
   ck X h c=some ac→exec E fuel ac σ=some (e,σ')→gC X μ0 n σ a w→c.wpIn (Fr n.ro) 0 X.P (Ends X μ0 n e σ') a w:=by
 intro fuel
 induction fuel using Nat.strongRecOn with
 | _ xd MK=>
   intro hH n hn μ0 c
   rcases Nat.eq_zero_or_pos xd with h0| xe
   · subst h0;intro ac σ σ' e a w _ ag;simp[exec] at ag
   obtain⟨fuel,rfl⟩: ∃f,xd=f+1:=⟨xd - 1,by omega⟩
   have Ci: ∀m,m<fuel→kZ X E (cK E (exec E m)):=fun m Gf=>hH m (by omega)
   have ih:=MK fuel (by omega)
   have H:=hH fuel (by omega)
   cases c with
   | skip=>
     intro ac σ σ' e a w aE ag hs
     simp[ck] at aE;subst aE
     simp[exec,aA] at ag
     obtain⟨rfl,rfl⟩:=ag
     exact wpIn_skip ⟨rfl,hs⟩
   | region id ops d=>
     intro ac σ σ' e a w aE ag hs
     cases d with
     | false=>
       simp only[ck,Option.map_eq_some_iff] at aE
       obtain⟨as,h1,rfl⟩:=aE
       simp only[exec,aA,Option.map_eq_some_iff,Prod.mk.injEq] at ag
       obtain⟨σ1,h2,rfl,rfl⟩:=ag
       refine wpIn_region ?_
       rw[List.range_eq_range']
       exact dz H hn h1 ops.size 0 (by omega) hs (by simpa using h2) fun a' w' ji=> ⟨rfl,ji⟩
     | true=>
       simp only[ck,Option.map_eq_some_iff] at aE
       obtain⟨as,h1,rfl⟩:=aE
       simp only[exec,aA,Option.map_eq_some_iff,Prod.mk.injEq] at ag
       obtain⟨σ1,h2,rfl,rfl⟩:=ag
       exact w7 H hm hn h1 hs h2 fun a' w' ji=> ⟨rfl,ji⟩
   | seq x y=>
     intro ac σ σ' e a w aE ag hs
     simp only[ck] at aE
     split at aE
     · rename_i ax ay h1 h2
       injection aE with aE;subst aE
       rcases zj (h:=h) (x:=x) (y:=y) (ax:=ax) (ay:=ay) with hk| hk
       rotate_left
       · obtain⟨iR,BB,dR,i0,ops,cc,cx,cy,b1,i5,fb,z5,id,iS,DG,dS,rest,it,nx,ne,kT,kO,o1,o5,iF,Rw,as,tc,bs,tz,tR,tS,rO,rfl,rfl,⟨ho,k1,k2,k3,yl⟩,⟨Rx,k4,k5,k6,cB⟩,rfl,rfl,hk⟩:=hk
         rw[hk] at ag
         simp only[ck] at h1 h2
         split at h1
         rotate_left
         · simp at h1
         rename_i t1 t2 g1 g2
         rw[iU] at h1
         simp only[Option.some.injEq,an.seq.injEq] at h1
         obtain⟨rfl,rfl⟩:=h1
         split at h2
         rotate_left
         · simp at h2
         rename_i t3 t4 g3 g4
         rw[iU] at h2
         simp only[Option.some.injEq,an.seq.injEq] at h2
         obtain⟨rfl,rfl⟩:=h2
         rw[Option.map_eq_some_iff] at g2
         obtain⟨q1,g2,e2⟩:=g2
         rw[Option.map_eq_some_iff] at g2
         obtain⟨q2,g2,e1⟩:=g2
         subst e1
         simp only[an.block.injEq,an.loop.injEq] at e2
         obtain⟨rfl,e2⟩:=e2
         subst e2
         split at g2
         rotate_left
         · simp at g2
         rename_i t5 t6 g5 g6
         rw[iU] at g2
         simp only[Option.some.injEq,an.seq.injEq] at g2
         obtain⟨e3,e4⟩:=g2
         subst e3 e4
         rw[Option.map_eq_some_iff] at g5
         obtain⟨l,g5,e4⟩:=g5
         simp only[an.region.injEq] at e4
         subst e4
         split at g6
         rotate_left
         · simp at g6
         rename_i t7 t8 g7 g8
         rw[BA] at g6
         simp only[Option.some.injEq,an.seq.injEq] at g6
         obtain⟨e5,e6⟩:=g6
         subst e5 e6
         rw[Option.map_eq_some_iff] at g8
         obtain⟨q3,g8,e7⟩:=g8
         simp only[an.block.injEq] at e7
         obtain⟨rfl,e7⟩:=e7
         subst e7
         split at g8
         rotate_left
         · simp at g8
         rename_i t9 t10 g9 Wg
         rw[iU] at g8
         simp only[Option.some.injEq,an.seq.injEq] at g8
         obtain⟨e8,e9⟩:=g8
         subst e8 e9
         rw[Option.map_eq_some_iff] at g9
         obtain⟨l5,g9,X1⟩:=g9
         simp only[an.region.injEq] at X1
         subst X1
         simp only[exec,aA] at ag
         refine wpIn_seq (wpIn_seq ?_)
         split at ag
         rotate_left
         · rename_i r rR
           refine wpIn_mono (ih Ci hn (.region iR BB dR) _ σ σ' e a w (by simpa only[ck] using g1) ag hs) fun ex a' w' hq=> ?_
           obtain⟨rfl,ji⟩:=hq
           cases e with
           | normal=>exact absurd ag (rR σ')
           | exit id=>exact⟨rfl,ji⟩
           | ret=>exact⟨rfl,ji⟩
         rename_i σ1 hx
         refine wpIn_mono (ih Ci hn (.region iR BB dR) _ σ σ1 .normal a w (by simpa only[ck] using g1) hx hs) fun ex a' w' hq=> ?_
         obtain⟨rfl,qE⟩:=hq
         rcases Nat.eq_zero_or_pos fuel with hf| hf
         · subst hf;simp[exec] at ag
         obtain⟨f1,rfl⟩: ∃f,fuel=f+1:=⟨fuel - 1,by omega⟩
         simp only[exec,aA] at ag
         rcases Nat.eq_zero_or_pos f1 with Ut| Ut
         · subst Ut;simp[exec] at ag
         obtain⟨f2,rfl⟩: ∃f,f1=f+1:=⟨f1 - 1,by omega⟩
         have hB:vw X n ops (.cond cc cx cy) (exec E f2) (.seq (.region ((l.map fun o=> {o with pre:=[]}).drop 1)) t7):=by
           intro s s' e' μ1 a1 w1 Q K hb jx hQ hK
           rcases Nat.eq_zero_or_pos f2 with Gm| Gm
           · subst Gm;simp[exec] at hb
           obtain⟨f3,rfl⟩: ∃f,f2=f+1:=⟨f2 - 1,by omega⟩
           simp only[exec,aA] at hb
           rcases Nat.eq_zero_or_pos f3 with Ry| Ry
           · subst Ry;simp[exec] at hb
           obtain⟨f4,rfl⟩: ∃f,f3=f+1:=⟨f3 - 1,by omega⟩
           have b5:0 <ops.size:=(Array.getElem?_eq_some_iff.1 ho).1
           split at hb
           rotate_left
           · rename_i r rR
             simp only[exec,aA,Option.map_eq_some_iff,Prod.mk.injEq] at hb
             obtain⟨s1,h3,rfl,rfl⟩:=hb
             exact absurd (by simp only[exec,aA,h3,Option.map_some]) (rR s1)
           rename_i s1 DH
           simp only[exec,aA,Option.map_eq_some_iff,Prod.mk.injEq,true_and] at DH
           obtain⟨s2,h3,rfl⟩:=DH
           refine dz (hH f4 (by omega)) hn g5 (ops.size - 1) 1 (by omega) jx (by rw[List.map_drop];exact h3) fun a2 w2 vS=>hK _ _ ?_
           refine wpIn_mono (MK (f4+1) (by omega) (fun m Gf=>hH m (by omega)) hn (.cond cc cx cy) t7 s2 s' e' a2 w2 (by simpa only[ck] using g7) hb vS) fun ex a3 w3 hq=> ?_
           obtain⟨rfl,z6⟩:=hq
           have:=hQ a3 w3 z6
           cases e'<;>exact this
         have hM:zf X n fb z5 b1 (exec E f2) (.block b1 (.seq (.region ((l5.map fun o=> {o with pre:=[]}).drop 1)) t10)):=by
           intro s s' μ1 a1 w1 Q hb jx hQ
           rcases Nat.eq_zero_or_pos f2 with Gm| Gm
           · subst Gm;simp[exec] at hb
           obtain⟨f3,rfl⟩: ∃f,f2=f+1:=⟨f2 - 1,by omega⟩
           simp only[exec,aA] at hb
           rcases Nat.eq_zero_or_pos f3 with Ry| Ry
           · subst Ry;simp[exec] at hb
           obtain⟨f4,rfl⟩: ∃f,f3=f+1:=⟨f3 - 1,by omega⟩
           have b5:0 <fb.size:=(Array.getElem?_eq_some_iff.1 Rx).1
           have inner: ∀e' (R:Go.Exit→Go.Act→World→Prop),exec E (f4+1) (.seq (.region ((l5.map fun o=> {o with pre:=[]}).drop 1)) t10) s=some (e',s')→(∀a' w',gC X μ1 n s' a' w'→R e'.conv a' w')→wpOpsIn (Fr n.ro) 0 X.P fb (Exit.then (z5.wpIn (Fr n.ro) 0 X.P R) R) (List.range' 1 (fb.size - 1)) a1 w1:=by
             intro e' R hb hR
             simp only[exec,aA] at hb
             rcases Nat.eq_zero_or_pos f4 with X2| X2
             · subst X2;simp[exec] at hb
             obtain⟨f5,rfl⟩: ∃f,f4=f+1:=⟨f4 - 1,by omega⟩
             split at hb
             rotate_left
             · rename_i r rR
               simp only[exec,aA,Option.map_eq_some_iff,Prod.mk.injEq] at hb
               obtain⟨s1,h3,rfl,rfl⟩:=hb
               exact absurd (by simp only[exec,aA,h3,Option.map_some]) (rR s1)
             rename_i s1 DH
             simp only[exec,aA,Option.map_eq_some_iff,Prod.mk.injEq,true_and] at DH
             obtain⟨s2,h3,rfl⟩:=DH
             refine dz (hH f5 (by omega)) hn g9 (fb.size - 1) 1 (by omega) jx (by rw[List.map_drop];exact h3) fun a2 w2 vS=> ?_
             refine wpIn_mono (MK (f5+1) (by omega) (fun m Gf=>hH m (by omega)) hn z5 t10 s2 s' e' a2 w2 Wg hb vS) fun ex a3 w3 hq=> ?_
             obtain⟨rfl,z6⟩:=hq
             exact hR a3 w3 z6
           split at hb
           · rename_i iF s1 jN
             split at hb
             · rename_i heq
               simp only[Option.some.injEq,Prod.mk.injEq,true_and] at hb
               subst hb;subst heq
               exact inner _ _ jN fun a' w' ji=>by
                simp only[aP.conv,Go.Exit.inBlock,if_true]
                exact hQ a' w' ji
             · simp at hb
           · exact inner _ _ hb fun a' w' ji=>hQ a' w' ji
         split at ag
         rotate_left
         · rename_i r rR
           obtain⟨rfl,_⟩:=si (μ0:=μ0) (i0:=i0) (i5:=i5) hB hM ho k1 k2 k3 (by rw[←hn];exact yl) Rx k4 k5 k6 (by rw[←hn];exact cB) ag qE
           exact absurd ag (rR σ')
         rename_i σ2 Wh
         obtain⟨_,VZ⟩:=si (μ0:=μ0) (i0:=i0) (i5:=i5) hB hM ho k1 k2 k3 (by rw[←hn];exact yl) Rx k4 k5 k6 (by rw[←hn];exact cB) Wh qE
         refine wpIn_mono VZ fun ex a2 w2 hq=> ?_
         obtain⟨rfl,σe,σp,q1,q2,q3⟩:=hq
         refine wpIn_seq ?_
         refine wpIn_mono (MK f2 (by omega) (fun m Gf=>hH m (by omega)) hn (.region iS DG dS) _ σe σp .normal a2 w2 (by simpa only[ck] using g3) q2 q1) fun ex a3 w3 hq=> ?_
         obtain⟨rfl,z6⟩:=hq
         exact MK (f2+1) (by omega) (fun m Gf=>hH m (by omega)) hn rest _ σ2 σ' e a3 w3 g4 ag (q3 a3 w3 z6)
       rw[hk] at ag
       simp only[exec,aA] at ag
       refine wpIn_seq ?_
       split at ag
       · rename_i σ1 hx
         refine wpIn_mono (ih Ci hn x ax σ σ1 .normal a w h1 hx hs) fun ex a' w' hq=> ?_
         obtain⟨rfl,ji⟩:=hq
         exact ih Ci hn y ay σ1 σ' e a' w' h2 ag ji
       · rename_i r cB
         refine wpIn_mono (ih Ci hn x ax σ σ' e a w h1 ag hs) fun ex a' w' hq=> ?_
         obtain⟨rfl,ji⟩:=hq
         cases e with
         | normal=>exact absurd ag (cB σ')
         | exit id=>exact⟨rfl,ji⟩
         | ret=>exact⟨rfl,ji⟩
     · simp at aE
   | cond c x y=>
     intro ac σ σ' e a w aE ag hs
     simp only[ck] at aE
     split at aE
     · rename_i c' ax ay h0 h1 h2
       injection aE with aE;subst aE
       simp only[exec,aA] at ag
       split at ag
       · rename_i hb
         exact wpIn_cond_true (sj hs h0 hb) (ih Ci hn x ax σ σ' e a w h1 ag hs)
       · rename_i hb
         exact wpIn_cond_false (sj hs h0 hb) (ih Ci hn y ay σ σ' e a w h2 ag hs)
       · simp at ag
     · simp at aE
   | block id b=>
     intro ac σ σ' e a w aE ag hs
     simp only[ck,Option.map_eq_some_iff] at aE
     obtain⟨ab,h1,rfl⟩:=aE
     simp only[exec,aA] at ag
     refine wpIn_block ?_
     split at ag
     · rename_i iF σ1 hb
       refine wpIn_mono (ih Ci hn b ab σ σ1 (.exit iF) a w h1 hb hs) fun ex a' w' hq=> ?_
       obtain⟨rfl,ji⟩:=hq
       simp only[aP.conv,Go.Exit.inBlock]
       split at ag
       · rename_i heq
         simp only[Option.some.injEq,Prod.mk.injEq] at ag
         obtain⟨rfl,rfl⟩:=ag
         rw[if_pos heq]
         exact⟨rfl,ji⟩
       · rename_i cB
         simp only[Option.some.injEq,Prod.mk.injEq] at ag
         obtain⟨rfl,rfl⟩:=ag
         rw[if_neg cB]
         exact⟨rfl,ji⟩
     · rename_i r cB
       refine wpIn_mono (ih Ci hn b ab σ σ' e a w h1 ag hs) fun ex a' w' hq=> ?_
       obtain⟨rfl,ji⟩:=hq
       cases e with
       | normal=>exact⟨rfl,ji⟩
       | exit iF=>exact absurd ag (cB iF σ')
       | ret=>exact⟨rfl,ji⟩
   | loop b=>
     intro ac σ σ' e a w aE ag hs
     simp only[ck,Option.map_eq_some_iff] at aE
     obtain⟨ab,h1,rfl⟩:=aE
     have rounds: ∀ (k:Nat),k≤fuel+1→ ∀ (σ:St),exec E k (.loop ab) σ=some (e,σ')→ ∃m,∀a w,gC X μ0 n σ a w→Code.roundsIn (Fr n.ro) 0 X.P b (Ends X μ0 n e σ') m a w:=by
       intro k
       induction k with
       | zero=>intro _ σ hr;simp[exec] at hr
       | succ k ZM=>
         intro hk σ hr
         simp only[exec,aA] at hr
         have body: ∀ (σ1:St) (e1:aP),exec E k ab σ=some (e1,σ1)→ ∀a w,gC X μ0 n σ a w→b.wpIn (Fr n.ro) 0 X.P (Ends X μ0 n e1 σ1) a w:=fun σ1 e1 hx a w hs=>
           MK k (by omega) (fun m Gf=>hH m (by omega)) hn b ab σ σ1 e1 a w h1 hx hs
         split at hr
         · rename_i σ1 hx
           obtain⟨m,Lx⟩:=ZM (by omega) σ1 hr
           refine⟨m+1,fun a w hs=> ?_⟩
           rw[roundsIn_succ]
           refine wpIn_mono (body σ1 .normal hx a w hs) fun ex a' w' hq=> ?_
           obtain⟨rfl,ji⟩:=hq
           exact Lx a' w' ji
         · rename_i r cB
           refine⟨1,fun a w hs=> ?_⟩
           rw[roundsIn_succ]
           refine wpIn_mono (body σ' e hr a w hs) fun ex a' w' hq=> ?_
           obtain⟨rfl,ji⟩:=hq
           cases e with
           | normal=>exact absurd hr (cB σ')
           | exit iF=>exact⟨rfl,ji⟩
           | ret=>exact⟨rfl,ji⟩
     obtain⟨m,Gf⟩:=rounds (fuel+1) (Nat.le_refl _) σ ag
     exact wpIn_loop_rounds m (Gf a w hs)
   | exit id=>
     intro ac σ σ' e a w aE ag hs
     simp[ck] at aE;subst aE
     simp[exec,aA] at ag
     obtain⟨rfl,rfl⟩:=ag
     exact wpIn_exit ⟨rfl,hs⟩
   | ret=>
     intro ac σ σ' e a w aE ag hs
     simp[ck] at aE;subst aE
     simp[exec,aA] at ag
     obtain⟨rfl,rfl⟩:=ag
     exact wpIn_ret ⟨rfl,hs⟩
   | label l=>
     intro ac σ σ' e a w aE ag hs
     simp[ck] at aE;subst aE
     simp[exec,aA] at ag
     obtain⟨rfl,rfl⟩:=ag
     exact wpIn_label ⟨rfl,hs⟩
   | scope b=>
     intro ac σ σ' e a w aE ag hs
     simp only[ck,Option.map_eq_some_iff] at aE
     obtain⟨ab,h1,rfl⟩:=aE
     simp only[exec,aA] at ag
     refine zl ?_
     refine wpIn_mono (ih Ci hn b ab σ σ' e a w h1 ag hs) fun ex a' w' hq=> ?_
     obtain⟨rfl,ji⟩:=hq
     cases e<;>exact⟨rfl,ji⟩
   | rangeFunc f ps x y=>
     intro ac σ σ' e a w aE ag hs
     simp only[ck] at aE
     split at aE
     rotate_left
     · simp at aE
     rename_i f' ax ay h0 h1 h2
     split at aE
     rotate_left
     · simp at aE
     rename_i wh
     injection aE with aE;subst aE
     simp only[exec,aA] at ag
     split at ag
     · rename_i g caps qV
       split at ag
       · rename_i xs zO
         split at ag
         · rename_i hlen
           obtain⟨gM,b5,φ,hr,hle⟩:=hs
           have hf:=aG hr h0 σ.O
           have ZN:aQ ⟨σ.T,σ.O⟩ f'= .fn g caps:=qV
           rw[ZN] at hf
           simp only[aj] at hf
           obtain⟨F,cv,hF,Ly,HB⟩:=hf
           refine xa (lb:=cv) (xs:=xs) (rec:=exec E fuel) ?_ ?_ ⟨gM,b5,φ,hr,hle⟩ ?_ hF ?_ ?_ ag
           · intro l s s' e' m b v hb jx
             exact ih Ci (n:=⟨n.tm,0,some l⟩) hn x ax s s' e' b v h1 hb jx
           · intro l s s' e' m b v hb jx
             exact ih Ci (n:=⟨n.tm,0,some l⟩) hn y ay s s' e' b v h2 hb jx
           · intro p hp
             rw[List.all_eq_true] at wh
             have:=wh p hp
             rw[Nat.blt_eq] at this
             rw[hn] at this
             exact this
           · intro φ2 mC
             exact po g F caps xs zO Ly ⟨w,φ2,σ.O⟩ cv (by
               have Gm:=aG mC h0 σ.O
               have Wi:aQ ⟨σ.T,σ.O⟩ f'= .fn g caps:=qV
               rw[Wi] at Gm
               simp only[aj] at Gm
               obtain⟨F2,cv2,X3,_,Lz⟩:=Gm
               rw[hF] at X3
               injection X3 with _ _ e3
               rw[e3];exact Lz) mC.aN
           · intro x hx
             rw[List.all_eq_true] at hlen
             have:=hlen x hx
             rw[Nat.beq_eq] at this
             simpa using this
         · simp at ag
       · simp at ag
     · simp at ag
   | goto l=>
     intro ac σ σ' e a w aE ag hs
     simp[ck] at aE;subst aE
     simp[exec,aA] at ag
   | refuse y=>
     intro ac σ σ' e a w aE ag hs
     simp[ck] at aE;subst aE
     simp[exec,aA] at ag
end
end Go.AM
