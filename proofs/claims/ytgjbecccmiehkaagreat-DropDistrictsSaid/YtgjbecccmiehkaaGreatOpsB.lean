/- Texts of the proof. -/
import Derived.Test.YtgjbecccmiehkaaGreatOpsA
import Derived.Test.YtgjbecccmiehkaaGreatTail
import Derived.MapKept
import Derived.WideKeyRuns
import Derived.Scope
import Derived.Laws.IdiomRangeMap
set_option linter.unusedSimpArgs false
set_option linter.unusedVariables false
namespace Go.AM
open Go Go.RowKit
section
variable {X:Ctx} {E:Env} {C:aQ} {o:Oper} {a:Go.Act} {T:Nat→V} {μ:Mu} {v:V} {σ':St}
theorem Cs (bs:List UInt8):flat (bs.map fun b=>Value.int .u8 b.toNat)=bs.map fun b=>Value.int .u8 b.toNat:=by
 induction bs with
 | nil=>rfl
 | cons b bs ih=>simp only[List.map_cons,flat,List.flatMap_cons] at ih ⊢;rw[ih];rfl
theorem ah.bytes (bs:List UInt8):ah X μ (bs.map fun b=>V.int .u8 b.toNat) (bs.map fun b=>Value.int .u8 b.toNat):=by
 induction bs with
 | nil=>simp[ah]
 | cons b bs ih=>simp only[List.map_cons,ah];exact⟨by simp[aj],ih⟩
theorem vI {sz:Nat} {x:V} {xv:Value} {k:List V→Act} {p:V×St} (ho:aP X μ) (hx:aj X μ x xv) (ag: (content sz x k).run C ⟨T,μ.O⟩=some p):
  ∃ys us,(k ys).run C ⟨T,μ.O⟩=some p∧ah X μ ys us∧(Builtin.lenOf xv).run X.P μ.w= .ok ys.length μ.w∧
   ∀w',w'.heap=μ.w.heap→ ∀n,n≤ys.length→(Builtin.firstCells sz n xv).run X.P w'= .ok (flat (us.take n)).toArray w':=by
 cases x<;>simp only[content] at ag<;>try exact absurd ag ak
 ·
  split at ag
  ·rename_i s hs
   simp only[aj] at hx
   obtain⟨bs,rfl,rfl⟩:=hx
   refine⟨_,_,ag,ah.bytes _,?_,fun w' iP n hn=> ?_⟩
   ·simp only[Builtin.lenOf,Sem.run_pure,List.length_map];rw[bI];rfl
   ·have: (bs.extract 0 n).data.map (fun b=>Value.int .u8 b.toNat)=(flat ((bs.data.toList.map fun b=>Value.int .u8 b.toNat).take n)).toArray:=by
     rw[←List.map_take,Cs]
     apply Array.ext'
     simp[ByteArray.data_extract,aaE,aan]
    simp only[Builtin.firstCells,Sem.run_pure,this]
  ·exact absurd ag ak
 ·
  simp only[aj] at hx
  obtain⟨q,rfl⟩:=hx
  refine⟨[],[],ag,by simp[ah],by simp[Builtin.lenOf],fun w' iP n hn=> ?_⟩
  have:n=0:=by simpa using hn
  subst this
  cases q<;>simp[Builtin.firstCells,loadCells,loadCellsFrom,flat]
 ·
  split at ag
  ·rename_i sz' xs hs
   subst hs
   simp only[aj] at hx
   obtain⟨_,_,q,cap,vs,rfl,_,la,jw⟩:=hx
   refine⟨xs,vs,ag,la,by simp[Builtin.lenOf],fun w' iP n hn=> ?_⟩
   rcases jw with rfl| ⟨b,q',rfl,_,_,cE⟩
   ·have:n=0:=by simpa using hn
    subst this
    cases q<;>simp[Builtin.firstCells,loadCells,loadCellsFrom,flat]
   ·simp only[Builtin.firstCells]
    exact rM (cE.bR (by rw[iP])) (by rw[←la.length];exact hn)
  ·exact absurd ag ak
 ·
  rename_i r g off len
  simp only[Act.run] at ag
  split at ag
  ·rename_i es aZ
   split at ag
   ·rename_i hc
    obtain⟨rG,qd,Mk⟩:=hc
    simp only[aj] at hx
    obtain⟨q,cap,rfl,hle,_,bq⟩:=hx
    obtain⟨k0,k1,k2⟩:=bq rG
    have kZ: (aw es off len).length=len:=by simp[aw];omega
    obtain⟨q1,q2,q3,q4⟩:=ho.row r es aZ k0
    by_cases b7:cap=0
    ·have Bb:len=0:=Zl
     subst Bb
     refine⟨_,[],ag,by simp[aw,ah],by simp[Builtin.lenOf,aw],fun w' iP n hn=> ?_⟩
     have:n=0:=by simpa [aw] using hn
     subst this
     cases q<;>simp[Builtin.firstCells,loadCells,loadCellsFrom,flat]
    ·rcases q4 with q4| ⟨cc,TT,vs,p1,p2,p3,p4⟩
     ·omega
     ·have Em:=k2.resolve_left b7
      subst Em
      refine⟨_,(vs.drop off).take len,ag,ah.take _ (ah.drop _ p3),by simp only[Builtin.lenOf,Sem.run_pure,kZ],fun w' iP n hn=> ?_⟩
      simp only[Builtin.firstCells]
      have ov:=(p4.drop off).take len
      rw[qd] at ov
      rw[qd]
      refine rM (ov.bR (by rw[iP])) ?_
      rw[kZ] at hn
      have:=p3.length
      simp;omega
   ·exact absurd ag ak
  ·exact absurd ag ak
theorem wQ (bu:Nat): ∀ (k c:Nat),c≤bu+(bu+768) / 4→Builtin.growBy bu k c≤bu+(bu+768) / 4
 | 0,c,h=>h
 | k+1,c,h=>by
   simp only[Builtin.growBy]
   split
   ·exact h
   ·exact wQ bu k _ Zl
theorem Ct {bu old:Nat} (h:old<bu):Builtin.nextslicecap bu old≤2*bu+192:=by
 unfold Builtin.nextslicecap
 split
 ·omega
 ·split
  ·omega
  ·have:=wQ bu 4 old Zl
   omega
theorem Hy {bu old bytes:Nat} (h:old<bu) (hl:bu≤qu bytes): ¬Builtin.nextslicecap bu old*bytes >2 ^ 48∧ ¬ ((bu:Int) >IntKind.i64.max):=by
 unfold qu at hl
 rw[aay,Nat.sub_mul_div] at hl
 have h1:=Ct h
 have h2:bu+200≤140737488355328 / (bytes+1):=Zl
 have h3: (bu+200)*(bytes+1)≤140737488355328:=(Nat.le_div_iff_mul_le Zl).1 h2
 have h4:Builtin.nextslicecap bu old*bytes≤(2*(bu+200))*(bytes+1):=Nat.mul_le_mul Zl Zl
 have h5: (2*(bu+200))*(bytes+1)=2*((bu+200)*(bytes+1)):=by rw[Nat.mul_assoc]
 have h6: (2:Nat) ^ 48=281474976710656:=Zn
 have h7:bu+200≤(bu+200)*(bytes+1):=Nat.le_mul_of_pos_right _ Zl
 have h8:IntKind.i64.max=9223372036854775807:=Zn
 refine⟨Zl,by rw[h8];omega⟩
theorem iq {sT xT e:TypeId} {d:TypeDesc} {sz n sLen sCap:Nat} {base:Option Addr} {xv:Value} {new:Array Value} {w w':World} {ty:TypeId}
  (hd:X.P.underlying sT=some (.slice e)) (hx:X.P.underlying xT=some d) (ER: ∀k,d≠ .int k) (hn:bj X e=some sz) (hl: (Builtin.lenOf xv).run X.P w= .ok n w)
  (gY:sLen+n≤sCap) (iO: (Builtin.firstCells sz n xv).run X.P w= .ok new w)
  (lX:match base with| some p=> (storeCells (p.add (sLen*sz)) new.toList).run X.P w= .ok () w'| none=>w'=w):
  (Builtin.append_ #[sT,xT] ty #[.slice base sLen sCap,xv]).run X.P w= .ok (.slice base (sLen+n) sCap) w':=by
 have hm: (match d with| .int _=>true| _=>false)=false:=by
  cases d<;>first| rfl| exact absurd rfl (ER _)
 have Iy: (#[sT,xT]:Array TypeId)[0]? =some sT:=rfl
 have Hd: (#[sT,xT]:Array TypeId)[1]? =some xT:=rfl
 have KD: (#[Value.slice base sLen sCap,xv]:Array Value)[0]? =some (.slice base sLen sCap):=rfl
 have KP: (#[Value.slice base sLen sCap,xv]:Array Value)[1]? =some xv:=rfl
 simp only[Builtin.append_,Iy,Hd,KD,KP,Sem.run_bind,run_underlying hd,Result.andThen_ok,dx hn,run_underlying hx,Sem.run_pure,hm,ZB,if_false,hl]
 rw[if_pos gY]
 simp only[Bool.not_false,if_true,Sem.run_bind,iO,Result.andThen_ok]
 cases base with
 | none=>simp only at lX;subst lX;simp
 | some p=>simp only at lX;simp[Sem.run_bind,lX]
theorem lZ {sT xT e:TypeId} {d:TypeDesc} {sz n sLen sCap:Nat} {base:Option Addr} {xv zv:Value} {old new:Array Value} {w:World} {ty:TypeId} {i:TypeInfo}
  (hd:X.P.underlying sT=some (.slice e)) (hx:X.P.underlying xT=some d) (ER: ∀k,d≠ .int k) (hn:bj X e=some sz) (hi:X.P.info? e=some i)
  (hz: ∀w,(zeroValue e).run X.P w= .ok zv w) (hl: (Builtin.lenOf xv).run X.P w= .ok n w) (kN:sCap<sLen+n) (Ap:sLen+n≤qu i.bytes)
  (hold: (Builtin.firstCells sz sLen (.slice base sLen sCap)).run X.P w.drew= .ok old w.drew) (iO: (Builtin.firstCells sz n xv).run X.P w.drew= .ok new w.drew):
  ∃newCap,sLen+n≤newCap∧(Builtin.append_ #[sT,xT] ty #[.slice base sLen sCap,xv]).run X.P w=
   .ok (.slice (some ⟨w.heap.size,0,none⟩) (sLen+n) newCap) (w.drew.alloc (.cells (old++new++Builtin.zeroCells zv.cells (newCap - (sLen+n))) e)):=by
 have hm: (match d with| .int _=>true| _=>false)=false:=by
  cases d<;>first| rfl| exact absurd rfl (ER _)
 have Iy: (#[sT,xT]:Array TypeId)[0]? =some sT:=rfl
 have Hd: (#[sT,xT]:Array TypeId)[1]? =some xT:=rfl
 have KD: (#[Value.slice base sLen sCap,xv]:Array Value)[0]? =some (.slice base sLen sCap):=rfl
 have KP: (#[Value.slice base sLen sCap,xv]:Array Value)[1]? =some xv:=rfl
 obtain⟨r1,r2⟩:=Hy kN Ap
 refine⟨(Question.appendCap (sLen+n) sCap e).cut (w.tape w.drawn (.appendCap (sLen+n) sCap e)),by simp[Question.cut],?_⟩
 simp only[Builtin.append_,Iy,Hd,KD,KP,Sem.run_bind,run_underlying hd,Result.andThen_ok,dx hn,run_underlying hx,Sem.run_pure,hm,ZB,if_false,hl]
 rw[if_neg Zl]
 simp only[Sem.run_bind,run_typeInfo w hi,Result.andThen_ok]
 have c2: ¬ (((sLen+n:Nat):Int) >IntKind.i64.max∧(False∨i.bytes=0)):=fun h=>r2 h.1
 rw[if_neg c2]
 simp only[Sem.run_bind,run_typeInfo w hi,Result.andThen_ok]
 rw[if_neg r1]
 have TH: (choose (.appendCap (sLen+n) sCap e)).run X.P w= .ok ((Question.appendCap (sLen+n) sCap e).cut (w.tape w.drawn (.appendCap (sLen+n) sCap e))) w.drew:=by
  rw[run_choose];simp only[Question.forced,ZB,if_false];rfl
 simp only[Sem.run_bind,TH,Result.andThen_ok,run_typeInfo w.drew hi,run_askRoom,hold,Bool.not_false,if_true,iO,hz,Sem.run_pure,newRow,run_newObj]
 rfl
theorem Aq {us rest:List Value} {sz:Nat} (h: ∀u ∈ us,u.cells.size=sz):cR (flat us++rest) 0 sz us:=by
 intro i v hv
 have hm:=h v (List.mem_of_getElem? hv)
 refine⟨hm,fun j x hx=> ?_⟩
 have:=qB h hv hx
 have bz:i*sz+j< (flat us).length:=(Zs.1 this).1
 rw[aaa,ZW bz];exact this
theorem Ar (us vs:List Value):flat (us++vs)=flat us++flat vs:=by simp[flat]
theorem mR {zv:Value} {sz n:Nat} (h:zv.cells.size=sz): (Builtin.zeroCells zv.cells n).size=n*sz:=by simp[Builtin.zeroCells,h]
theorem ES {α:Type} {n:Nat} {l:List α} (h:l.length≤n):l.take n=l:=List.take_of_length_le h
theorem As {O1:Nat→Obj} (hO:aP X ⟨μ.w,μ.φ,O1⟩) {r sz newCap:Nat} {olds ys:List V} {ous us:List Value} {zv:Value} {e:TypeId} {o0:Obj}
  (Xu:o0={gen:=o0.gen,sz:=sz,arr:=true,fz:=false,es:=some (olds++ys)}) (Rt:o0.gen=(O1 r).gen+1)
  (bM:0 <sz) (h1:ah X ⟨μ.w,μ.φ,O1⟩ olds ous) (h2:ah X ⟨μ.w,μ.φ,O1⟩ ys us) (b1:olds.all (aJ · sz)=true) (b2:ys.all (aJ · sz)=true)
  (hz:zv.cells.size=sz) (b7:olds.length+ys.length≤newCap):
  let μ':Mu:=⟨μ.w.drew.alloc (.cells ((flat ous).toArray++(flat us).toArray++Builtin.zeroCells zv.cells (newCap - (olds.length+ys.length))) e),cC μ.φ r ⟨μ.w.heap.size,0,newCap⟩,cC O1 r o0⟩
  Le ⟨μ.w,μ.φ,O1⟩ μ'∧aP X μ':=by
 intro μ'
 obtain⟨PT,TI⟩:=Le.drew (X:=X) (μ:=⟨μ.w,μ.φ,O1⟩) hO
 have aV:ah X ⟨μ.w.drew,μ.φ,O1⟩ (olds++ys) (ous++us):=ah.mono PT (h1.append h2)
 have hs: ∀u ∈ ous++us,u.cells.size=sz:=((h1.append h2).cells_one (sz:=sz) (by simp only[aao,b1,b2,Z6])).1
 have Ny:=h1.length
 have xD:=h2.length
 have Al:=ft hs
 have nT: ((flat ous).toArray++(flat us).toArray++Builtin.zeroCells zv.cells (newCap - (olds.length+ys.length))).toList=flat (ous++us)++(Builtin.zeroCells zv.cells (newCap - (olds.length+ys.length))).toList:=by
  simp[Ar]
 have mD:newCap*sz≤((flat ous).toArray++(flat us).toArray++Builtin.zeroCells zv.cells (newCap - (olds.length+ys.length))).size:=by
  rw[←bI,nT,List.length_append,Al,bI (Builtin.zeroCells _ _),mR hz,←ZR]
  apply ZY
  rw[List.length_append];omega
 have:=ye (X:=X) (μ:=⟨μ.w.drew,μ.φ,O1⟩) TI r sz newCap true (es:=olds++ys) (vs:=ous++us) (c:=(flat ous).toArray++(flat us).toArray++Builtin.zeroCells zv.cells (newCap - (olds.length+ys.length))) e bM
  (by simp;omega) (by simp only[aao,b1,b2,Z6]) aV mD (fun i u hu=>by
    have wF:=Aq (rest:=(Builtin.zeroCells zv.cells (newCap - (olds.length+ys.length))).toList) hs
    rw[←nT] at wF
    obtain⟨m1,m2⟩:=wF i u hu
    refine⟨m1,fun j x hx=> ?_⟩
    have:=m2 j x hx
    rw[aaa] at this
    rw[←aaP];exact this)
 have heq: ({gen:=(O1 r).gen+1,sz:=sz,arr:=true,fz:=false,es:=some (olds++ys)}:Obj)=o0:=by rw[Xu,Rt]
 simp only[heq] at this
 exact⟨PT.trans this.1,this.2⟩
theorem mS {sz:Nat} {p:Option Addr} {n m:Nat} {w:World}: (Builtin.firstCells sz 0 (.slice p n m)).run X.P w= .ok #[] w:=by
 cases p<;>simp[Builtin.firstCells,loadCells,loadCellsFrom]
theorem uT (bR:Bool) {c:Call} {s x:Operand} {sT xT e:TypeId} {d:TypeDesc} {s' x':aD} {r sz:Nat} {i:TypeInfo} {z:V} (hr:Rel X T a μ) (ho:o.op= .call c) (hc:c.callee= .builtin .append)
  (ia:c.args= #[s,x]) (Cu:c.argTypes= #[sT,xT]) (hd:bd X sT=some (.slice e)) (hx:bd X xT=some d) (ER: ∀k,d≠ .int k) (hn:bj X e=some sz) (hi:info X e=some i)
  (hz:dU X e=some z) (Hw:aJ z sz=true) (h1:ct X s=some s') (h2:ct X x=some x')
  (ag: (content sz (aT ⟨T,μ.O⟩ x') fun ys=>match bR with| true=>ze r sz (qu i.bytes) (aT ⟨T,μ.O⟩ s') ys| false=>ml ys fun ys=>ze r sz (qu i.bytes) (aT ⟨T,μ.O⟩ s') ys).run C ⟨T,μ.O⟩=some (v,σ')):σ'.T=T∧cg X o a μ σ'.O v:=by
 have hs:=aC hr h1 μ.O
 have Xv:=aC hr h2 μ.O
 have kH:X.P.underlying sT=some (.slice e):=hd
 have wb:X.P.underlying xT=some d:=hx
 have nU:X.P.info? e=some i:=hi
 obtain⟨VC,us,k1,k2,k3,k4⟩:=vI hr.aS Xv ag
 have eB: ∃ys O1,(ze r sz (qu i.bytes) (aT ⟨T,μ.O⟩ s') ys).run C ⟨T,O1⟩=some (v,σ')∧ah X ⟨μ.w,μ.φ,O1⟩ ys us∧Le μ ⟨μ.w,μ.φ,O1⟩∧aP X ⟨μ.w,μ.φ,O1⟩:=by
  cases bR with
  | true=>exact⟨VC,μ.O,k1,k2,Le.refl μ,hr.aS⟩
  | false=>exact uP (μ:=μ) hr.aS k2 k1
 obtain⟨ys,O1,g1,g2,g3,g4⟩:=eB
 unfold ze at g1
 have Xw:ys.length=VC.length:=by rw[g2.length,k2.length]
 rw[←Xw] at k3 k4
 have Fz:us.length=ys.length:=g2.length.symm
 have Hz: ∀w',w'.heap=μ.w.heap→(Builtin.firstCells sz ys.length (a.eval x)).run X.P w'= .ok (flat us).toArray w':=fun w' iP=>by
  have:=k4 w' iP ys.length (Zy _)
  rwa [ES Zl] at this
 have HA:=Hz μ.w rfl
 have HB:=Hz μ.w.drew rfl
 have ij:=aj.mono g3 hs
 have fin: ∀val w',(Builtin.append_ #[sT,xT] o.type #[a.eval s,a.eval x]).run X.P μ.w= .ok val w'→(execOp a.eval o).run X.P μ.w= .ok (.value val) w':=fun val w' hv=>by
  refine eD ho hc ?_
  simp only[builtin,ia,Cu]
  refine cH ?_
  simpa using hv
 split at g1
 ·rename_i hb
  simp only[Zt,decide_eq_true_eq] at hb
  obtain⟨jI,bM⟩:=hb
  obtain⟨zv,qW,wP⟩:=fP hz μ.w
  have VD: ∀w,(zeroValue e).run X.P w= .ok zv w:=fun w=>by
   obtain⟨Xx,q1,q2⟩:=fP hz w
   have:Xx=zv:=by
    simp only[dU,info,Option.bind_eq_some_iff] at hz
    obtain⟨i0,e1,zq,e2,_⟩:=hz
    simp only[zeroValue,Sem.run_bind,run_typeInfo w e1,run_typeInfo μ.w e1,Result.andThen_ok,e2,Sem.run_pure] at q1 qW
    injection q1 with q1 _;injection qW with qW _
    rw[←q1,←qW]
   rw[←this];exact q1
  obtain⟨uS,Cq⟩:=dL (X:=X) (μ:=μ) wP
  have Hx:zv.cells.size=sz:=by rw[uS.dK Cq,(bH Hw).2]
  obtain⟨Hq,yn⟩:=g2.cells_one jI
  have Al:=ft Hq
  have qD:ys.length=0→ ∀ (p:Option Addr) (len cap:Nat),len≤cap→a.eval s= .slice p len cap→(execOp a.eval o).run X.P μ.w= .ok (.value (.slice p len cap)) μ.w:=fun h0 p len cap hle hp=>by
   have Rb:us=[]:=by
    have:us.length=0:=Zl
    simpa using this
   have tj:=iq (X:=X) (sT:=sT) (xT:=xT) (sLen:=len) (sCap:=cap) (base:=p) (ty:=o.type) (w':=μ.w) kH wb ER hn k3 Zl HA (by
     cases p with
     | none=>rfl
     | some q=>simp[Rb,flat,storeCells])
   rw[h0,aaz] at tj
   exact fin _ _ (by rw[hp];exact tj)
  generalize aT ⟨T,μ.O⟩ s'=sv at g1 hs ij
  split at g1
  ·
   simp only[aj] at hs
   obtain⟨p,hp⟩:=hs
   split at g1
   ·rename_i HC
    obtain⟨rfl,rfl⟩:=aI g1
    have Mp:ys.length=0:=by simpa [List.isEmpty_iff] using HC
    exact⟨rfl,.slice p 0 0,μ.w,μ.φ,.inl (qD Mp p 0 0 (Zy _) hp),by simp[aj],g3,g4⟩
   ·rename_i HC
    split at g1
    ·rename_i Ap
     simp only[Act.run,Zr,Zw] at g1
     obtain⟨rfl,rfl⟩:=g1
     have PU:0 <ys.length:=by
      rcases ZM ys.length with h0| h0
      ·exact absurd (by simpa [List.isEmpty_iff] using h0) HC
      ·exact h0
     obtain⟨newCap,Cv,tj⟩:=lZ (X:=X) (sT:=sT) (xT:=xT) (sLen:=0) (sCap:=0) (base:=p) (ty:=o.type) (old:= #[]) kH wb ER hn nU VD k3 Zl (by simpa using Ap) mS HB
     obtain⟨Cr,KO⟩:=As (X:=X) (μ:=μ) (O1:=O1) g4 (r:=r) (sz:=sz) (newCap:=newCap) (olds:=[]) (ous:=[]) (ys:=ys) (us:=us) (zv:=zv) (e:=e)
      (o0:={gen:=(O1 r).gen+1,sz:=sz,arr:=true,fz:=false,es:=some ys}) rfl rfl bM (by simp[ah]) g2 rfl jI Hx (by simpa using Cv)
     have IV: (flat ([]:List Value)).toArray= #[]:=rfl
     simp only[IV,ZL] at Cr KO
     refine⟨rfl,.slice (some ⟨μ.w.heap.size,0,none⟩) (0+ys.length) newCap,_,cC μ.φ r ⟨μ.w.heap.size,0,newCap⟩,.inl (fin _ _ (by rw[hp];exact tj)),?_,g3.trans Cr,KO⟩
     simp only[aj,an]
     exact⟨_,newCap,by rw[aaa],Zl,Zy _,fun _=> ⟨Zl,Zm,Zm⟩⟩
    ·exact absurd g1 ak
  ·
   rename_i sz' xs
   split at g1
   ·rename_i HC
    obtain⟨rfl,rfl⟩:=aI g1
    have Mp:ys.length=0:=by simpa [List.isEmpty_iff] using HC
    have qV:=hs
    simp only[aj] at qV
    obtain⟨_,_,p,cap,_,hp,hle,_⟩:=qV
    exact⟨rfl,a.eval s,μ.w,μ.φ,.inl (by rw[hp];exact qD Mp p _ cap hle hp),ij,g3,g4⟩
   ·exact absurd g1 ak
  ·
   rename_i r' g off len
   simp only[Act.run] at g1
   split at g1
   ·rename_i es aZ
    split at g1
    ·rename_i hc
     obtain⟨bP,iU,eB,fQ,gY,Ap⟩:=hc
     simp only[aj] at ij
     obtain⟨p,cap,hp,hle,mf,bq⟩:=ij
     obtain⟨a0,a1,a2⟩:=bq bP
     obtain⟨q1,q2,q3,q4⟩:=g4.row r' es aZ a0
     simp only at q1 q2 q3 q4
     have dW:O1 r'={O1 r' with es:=some es}:=by rw[←aZ]
     split at g1
     ·rename_i jG
      simp only[Act.run,Zr,Zw] at g1
      obtain⟨rfl,rfl⟩:=g1
      refine⟨rfl,?_⟩
      rcases ZM ys.length with h0| h0
      ·
       have Mp:ys=[]:=by simpa using h0
       have Nx:overwrite es (off+len) ys=es:=by simp[overwrite,Mp]
       have hO:cC O1 r' {O1 r' with es:=some (overwrite es (off+len) ys)}=O1:=by
        funext q
        by_cases hq:q=r'
        ·subst hq;rw[an,Nx];exact dW.symm
        ·rw[aG _ _ hq]
       simp only[hO]
       refine⟨.slice p len cap,μ.w,μ.φ,.inl (qD h0 p len cap hle hp),?_,g3,g4⟩
       rw[h0]
       simp only[aj]
       exact⟨p,cap,rfl,hle,mf,bq⟩
      ·have b7:cap≠0:=Zl
       have gX: (μ.φ r').cap≠0:=Zl
       rcases q4 with q4| ⟨cc,T0,vs,p1,p2,p3,p4⟩
       ·exact absurd q4 gX
       ·have wL:=a2.resolve_left b7
        subst wL
        have yR:=p3.length
        have wF:cR cc.toList (μ.φ r').base sz vs:=by have:=gN p1 p4;rwa [fQ] at this
        rw[fQ] at p2
        have hmul: (off+len+ys.length)*sz≤(μ.φ r').cap*sz:=ZY _ Zl
        rw[ZR] at hmul
        have hw:=wF.write (k:=off+len) (us:=us) Zl Hq (by rw[bI cc,Fz];omega)
        have lX:=gO (P:=X.P) (w:=μ.w) (q:=(μ.φ r').base+(off+len)*sz) p1 (flat us) (by rw[Al,Fz];omega) yn
        have tj:=iq (X:=X) (sT:=sT) (xT:=xT) (sLen:=len) (sCap:=cap) (ty:=o.type) (base:=some ⟨(μ.φ r').bB,(μ.φ r').base+off*(O1 r').sz,none⟩)
         (w':=μ.w.setRow (μ.φ r').bB (bZ cc.toList ((μ.φ r').base+(off+len)*sz) (flat us)).toArray) kH wb ER hn k3 Zl HA (by
           simp only[eE,fQ]
           have: (μ.φ r').base+off*sz+len*sz=(μ.φ r').base+(off+len)*sz:=by rw[ZR];omega
           rw[this];exact lX)
        have HD:=iY (X:=X) (μ:=⟨μ.w,μ.φ,O1⟩) g4 r' aZ eB p1 gX (c':=(bZ cc.toList ((μ.φ r').base+(off+len)*sz) (flat us)).toArray)
         (by
           have: (bZ cc.toList ((μ.φ r').base+(off+len)*sz) (flat us)).length=cc.toList.length:=dZ (by rw[bI cc,Al,Fz];omega)
           simpa using this)
         (O1 r').gen (μ.φ r').base (μ.φ r').cap (es':=overwrite es (off+len) ys) (vs':=vs.take (off+len)++us++vs.drop (off+len+us.length)) (.inl ⟨rfl,rfl,rfl⟩) gX
         (by simp[overwrite];omega)
         (by
           simp only[fQ] at q3 ⊢
           have t1:=iZ (p:=(aJ · sz)) (off+len) q3
           have t2:=kM (p:=(aJ · sz)) (off+len+ys.length) q3
           simp only[overwrite,aao,t1,jI,t2,Z6])
         (by
           have:=((ah.take (off+len) p3).append g2).append (ah.drop (off+len+ys.length) p3)
           rw[Fz];exact this)
         (by rw[fQ];exact p2)
         (fun j y hy=>by
           obtain⟨m1,m2⟩:=hw j y hy
           refine⟨by rw[fQ];exact m1,fun l q hq=> ?_⟩
           have:=m2 l q hq
           simp only[fQ]
           simpa using this)
        refine⟨_,_,_,.inl (fin _ _ (by rw[hp];exact tj)),?_,g3.trans HD.1,HD.2⟩
        simp only[aj,an]
        exact⟨_,cap,rfl,Zl,Zl,fun _=> ⟨a0,a1,.inr rfl⟩⟩
     ·rename_i jG
      simp only[Act.run,Zr,Zw] at g1
      obtain⟨rfl,rfl⟩:=g1
      refine⟨rfl,?_⟩
      have PU:0 <ys.length:=Zl
      have kZ: (aw es off len).length=len:=by simp[aw];omega
      have NJ: (aw es off len).all (aJ · sz)=true:=by
       rw[fQ] at q3;exact iZ _ (kM _ q3)
      by_cases ju:len+ys.length≤cap
      ·
       have b7:cap≠0:=Zl
       have gX: (μ.φ r').cap≠0:=Zl
       rcases q4 with q4| ⟨cc,T0,vs,p1,p2,p3,p4⟩
       ·exact absurd q4 gX
       ·have wL:=a2.resolve_left b7
        subst wL
        have yR:=p3.length
        have wF:cR cc.toList (μ.φ r').base sz vs:=by have:=gN p1 p4;rwa [fQ] at this
        rw[fQ] at p2
        have hmul: (off+len+ys.length)*sz≤(μ.φ r').cap*sz:=ZY _ Zl
        rw[ZR] at hmul
        have hw:=wF.write (k:=off+len) (us:=us) Zl Hq (by rw[bI cc,Fz];omega)
        have lX:=gO (P:=X.P) (w:=μ.w) (q:=(μ.φ r').base+(off+len)*sz) p1 (flat us) (by rw[Al,Fz];omega) yn
        have tj:=iq (X:=X) (sT:=sT) (xT:=xT) (sLen:=len) (sCap:=cap) (ty:=o.type) (base:=some ⟨(μ.φ r').bB,(μ.φ r').base+off*(O1 r').sz,none⟩)
         (w':=μ.w.setRow (μ.φ r').bB (bZ cc.toList ((μ.φ r').base+(off+len)*sz) (flat us)).toArray) kH wb ER hn k3 Zl HA (by
           simp only[eE,fQ]
           have: (μ.φ r').base+off*sz+len*sz=(μ.φ r').base+(off+len)*sz:=by rw[ZR];omega
           rw[this];exact lX)
        have xL:cR (bZ cc.toList ((μ.φ r').base+(off+len)*sz) (flat us)) ((μ.φ r').base+off*sz) sz ((vs.drop off).take len++us):=by
         have h3:=(hw.take (off+len+us.length)).drop off
         have e1: (List.take (off+len+us.length) (vs.take (off+len)++us++vs.drop (off+len+us.length))).drop off=(vs.drop off).take len++us:=by
           have l1: (vs.take (off+len)).length=off+len:=by simp;omega
           have l2: (vs.take (off+len)++us).length=off+len+us.length:=by rw[List.length_append,l1]
           rw[←l2,List.take_left,List.drop_append_of_le_length Zl,List.drop_take]
           congr 2;omega
         rwa [e1] at h3
        have VE:off*sz+cap*sz=(μ.φ r').cap*sz:=by rw[←ZR];congr 1;omega
        have HD:=iY (X:=X) (μ:=⟨μ.w,μ.φ,O1⟩) g4 r' aZ eB p1 gX (c':=(bZ cc.toList ((μ.φ r').base+(off+len)*sz) (flat us)).toArray)
         (by
           have: (bZ cc.toList ((μ.φ r').base+(off+len)*sz) (flat us)).length=cc.toList.length:=dZ (by rw[bI cc,Al,Fz];omega)
           simpa using this)
         (g+1) ((μ.φ r').base+off*sz) cap (es':=aw es off len++ys) (vs':=(vs.drop off).take len++us) (.inr (by simp only;omega)) b7
         (by rw[List.length_append,kZ];omega)
         (by
           simp only[fQ]
           simp only[aao,NJ,jI,Z6])
         ((ah.take len (ah.drop off p3)).append g2)
         (by simp only[fQ];omega)
         (fun j y hy=>by
           obtain⟨m1,m2⟩:=xL j y hy
           refine⟨by rw[fQ];exact m1,fun l q hq=> ?_⟩
           have:=m2 l q hq
           simp only[fQ]
           simpa using this)
        refine⟨_,_,_,.inl (fin _ _ (by rw[hp];exact tj)),?_,g3.trans HD.1,HD.2⟩
        simp only[aj,an]
        exact⟨_,cap,rfl,Zl,Zy _,fun _=> ⟨a0,Zl,.inr (by simp[fQ])⟩⟩
      ·
       have hold: ∃ous,ah X ⟨μ.w,μ.φ,O1⟩ (aw es off len) ous∧(Builtin.firstCells sz len (.slice p len cap)).run X.P μ.w.drew= .ok (flat ous).toArray μ.w.drew:=by
        by_cases b7:cap=0
        ·have Bb:len=0:=Zl
         subst Bb
         exact⟨[],by simp[aw,ah],mS⟩
        ·rcases q4 with q4| ⟨cc,T0,vs,p1,p2,p3,p4⟩
         ·omega
         · have wL:=a2.resolve_left b7
           subst wL
           have yR:=p3.length
           refine⟨(vs.drop off).take len,ah.take _ (ah.drop _ p3),?_⟩
           have ov:=(p4.drop off)
           rw[fQ] at ov ⊢
           have:=rM (P:=X.P) (ov.bR (w':=μ.w.drew) rfl) (n:=len) (by simp;omega)
           simpa [Builtin.firstCells] using this
       obtain⟨ous,KQ,KO⟩:=hold
       obtain⟨newCap,Cv,tj⟩:=lZ (X:=X) (sT:=sT) (xT:=xT) (sLen:=len) (sCap:=cap) (base:=p) (ty:=o.type) kH wb ER hn nU VD k3 Zl Ap KO HB
       obtain⟨Cr,VF⟩:=As (X:=X) (μ:=μ) (O1:=O1) g4 (r:=r') (sz:=sz) (newCap:=newCap) (olds:=aw es off len) (ous:=ous) (ys:=ys) (us:=us) (zv:=zv) (e:=e)
        (o0:={gen:=g+1,sz:=sz,arr:=true,fz:=false,es:=some (aw es off len++ys)}) rfl (by simp only;omega) bM KQ g2 NJ jI Hx (by rw[kZ];exact Cv)
       have hO:cC O1 r' {O1 r' with gen:=g+1,es:=some (aw es off len++ys)}=cC O1 r' {gen:=g+1,sz:=sz,arr:=true,fz:=false,es:=some (aw es off len++ys)}:=by
        have: ({O1 r' with gen:=g+1,es:=some (aw es off len++ys)}:Obj)={gen:=g+1,sz:=sz,arr:=true,fz:=false,es:=some (aw es off len++ys)}:=by
         rw[←fQ,←iU,←eB]
        rw[this]
       simp only[hO]
       rw[kZ] at Cr VF
       refine⟨_,_,cC μ.φ r' ⟨μ.w.heap.size,0,newCap⟩,.inl (fin _ _ (by rw[hp];exact tj)),?_,g3.trans Cr,VF⟩
       simp only[aj,an]
       exact⟨_,newCap,rfl,Zl,Zy _,fun _=> ⟨Zl,Zm,Zm⟩⟩
    ·exact absurd g1 ak
   ·exact absurd g1 ak
  ·exact absurd g1 ak
 ·exact absurd g1 ak
theorem rO {c:Call} {s x:Operand} {sT xT e:TypeId} {d:TypeDesc} {s' x':aD} {r sz:Nat} {i:TypeInfo} {z:V} (hr:Rel X T a μ) (ho:o.op= .call c) (hc:c.callee= .builtin .append)
  (ia:c.args= #[s,x]) (Cu:c.argTypes= #[sT,xT]) (hd:bd X sT=some (.slice e)) (hx:bd X xT=some d) (ER: ∀k,d≠ .int k) (hn:bj X e=some sz) (hi:info X e=some i)
  (hz:dU X e=some z) (Hw:aJ z sz=true) (h1:ct X s=some s') (h2:ct X x=some x')
  (ag: (av E (.append r sz (qu i.bytes) s' x')).run C ⟨T,μ.O⟩=some (v,σ')):σ'.T=T∧cg X o a μ σ'.O v:=by
 refine uT (C:=C) (v:=v) false (r:=r) hr ho hc ia Cu hd hx ER hn hi hz Hw h1 h2 ?_
 simp only[av,aU] at ag
 exact ag
end
end Go.AM
namespace Go.AM
open Go Go.RowKit
section
variable {X:Ctx} {E:Env} {C:aQ} {o:Oper} {a:Go.Act} {T:Nat→V} {μ:Mu} {v:V} {σ':St}
theorem Au (ho:aP X μ) {r g off len sz:Nat} {es ys:List V} {us:List Value} {p:Option Addr} {cap:Nat} (aZ: (μ.O r).es=some es) (eB: (μ.O r).fz=false) (fQ: (μ.O r).sz=sz)
  (bP: (μ.O r).gen=g) (hle:len≤cap) (a0:0 < (μ.O r).sz) (a1:cap+off=(μ.φ r).cap) (a2:cap=0∨p=some ⟨(μ.φ r).bB,(μ.φ r).base+off*(μ.O r).sz,none⟩)
  (gY:off+len≤es.length) (hy:ys.length≤len) (aV:ah X μ ys us) (jI:ys.all (aJ · sz)=true):
  ∃w',(match p with| some q=> (storeCells q (flat us)).run X.P μ.w= .ok () w'| none=>w'=μ.w∧flat us=[])∧
   ∃φ',φ' r=μ.φ r∧Le μ ⟨w',φ',cC μ.O r {μ.O r with es:=some (overwrite es off ys)}⟩∧aP X ⟨w',φ',cC μ.O r {μ.O r with es:=some (overwrite es off ys)}⟩:=by
 have Fz:us.length=ys.length:=aV.length.symm
 obtain⟨Hq,yn⟩:=aV.cells_one jI
 have Al:=ft Hq
 have dW:μ.O r={μ.O r with es:=some es}:=by rw[←aZ]
 rcases ZM ys.length with h0| h0
 ·have Mp:ys=[]:=by simpa using h0
  have Rb:us=[]:=Z3.1 Zl
  have Nx:overwrite es off ys=es:=by simp[overwrite,Mp]
  have hO:cC μ.O r {μ.O r with es:=some (overwrite es off ys)}=μ.O:=by
   funext q
   by_cases hq:q=r
   ·subst hq;rw[an,Nx];exact dW.symm
   ·rw[aG _ _ hq]
  rw[hO]
  refine⟨μ.w,?_,μ.φ,rfl,Le.refl μ,ho⟩
  cases p with
  | none=>simp[Rb,flat]
  | some q=>simp[Rb,flat,storeCells]
 ·obtain⟨q1,q2,q3,q4⟩:=ho.row r es aZ a0
  have b7:cap≠0:=Zl
  have gX: (μ.φ r).cap≠0:=Zl
  rcases q4 with q4| ⟨cc,T0,vs,p1,p2,p3,p4⟩
  ·exact absurd q4 gX
  ·have wL:=a2.resolve_left b7
   subst wL
   have yR:=p3.length
   have wF:cR cc.toList (μ.φ r).base sz vs:=by have:=gN p1 p4;rwa [fQ] at this
   rw[fQ] at p2
   have hmul: (off+ys.length)*sz≤(μ.φ r).cap*sz:=ZY _ Zl
   rw[ZR] at hmul
   have hw:=wF.write (k:=off) (us:=us) Zl Hq (by rw[bI cc,Fz];omega)
   have lX:=gO (P:=X.P) (w:=μ.w) (q:=(μ.φ r).base+off*sz) p1 (flat us) (by rw[Al,Fz];omega) yn
   have HD:=iY (X:=X) (μ:=μ) ho r aZ eB p1 gX (c':=(bZ cc.toList ((μ.φ r).base+off*sz) (flat us)).toArray)
    (by
      have: (bZ cc.toList ((μ.φ r).base+off*sz) (flat us)).length=cc.toList.length:=dZ (by rw[bI cc,Al,Fz];omega)
      simpa using this)
    (μ.O r).gen (μ.φ r).base (μ.φ r).cap (es':=overwrite es off ys) (vs':=vs.take off++us++vs.drop (off+us.length)) (.inl ⟨rfl,rfl,rfl⟩) gX
    (by simp[overwrite];omega)
    (by
      simp only[fQ] at q3 ⊢
      have t1:=iZ (p:=(aJ · sz)) off q3
      have t2:=kM (p:=(aJ · sz)) (off+ys.length) q3
      simp only[overwrite,aao,t1,jI,t2,Z6])
    (by
      have:=((ah.take off p3).append aV).append (ah.drop (off+ys.length) p3)
      rw[Fz];exact this)
    (by rw[fQ];exact p2)
    (fun j y hy=>by
      obtain⟨m1,m2⟩:=hw j y hy
      refine⟨by rw[fQ];exact m1,fun l q hq=> ?_⟩
      have:=m2 l q hq
      simp only[fQ]
      simpa using this)
   refine⟨_,?_,_,?_,HD.1,HD.2⟩
   ·simp only[fQ];exact lX
   ·rw[an]
theorem mT {zv:Value} {sz n:Nat} (hz:zv.cells.size=sz) (bM:0 <sz): (Builtin.zeroCells zv.cells n).toList=flat (List.replicate n zv):=by
 have hs: ∀u ∈ List.replicate n zv,u.cells.size=sz:=fun u hu=>by rw[(List.mem_replicate.1 hu).2];exact hz
 have Al:=ft hs
 rw[aaR] at Al
 apply aah
 intro q
 by_cases hq:q<n*sz
 ·have hi:q / sz<n:=Nat.div_lt_of_lt_mul (by rw[aay];exact hq)
  have wL:q / sz*sz+q % sz=q:=by rw[aay];exact Nat.div_add_mod q sz
  have hm:q % sz<zv.cells.size:=by rw[hz];exact Nat.mod_lt _ bM
  have hc:zv.cells[q % sz]? =some zv.cells[q % sz]:=ZQ hm
  have hv: (List.replicate n zv)[q / sz]? =some zv:=by rw[List.getElem?_replicate];simp[hi]
  have g1:=qB hs hv hc
  rw[wL] at g1
  rw[g1,aaP]
  have hr: (Array.range (n*sz))[q]? =some q:=by simp[hq]
  simp only[Builtin.zeroCells,Array.getElem?_map,hz,hr,ZE]
  rw[getElem!_def,hc]
 ·rw[aab (by rw[bI (Builtin.zeroCells _ _),mR hz];omega),aab Zl]
theorem HE {c:Call} {x:Operand} {t e:TypeId} {x':aD} {sz:Nat} {z:V} (hr:Rel X T a μ) (ho:o.op= .call c) (hc:c.callee= .builtin .clear)
  (ia:c.args= #[x]) (Cu:c.argTypes= #[t]) (hd:bd X t=some (.slice e)) (hz:dU X e=some z) (h1:ct X x=some x')
  (ag: (av E (.clear sz z x')).run C ⟨T,μ.O⟩=some (v,σ')):σ'.T=T∧cg X o a μ σ'.O v:=by
 simp only[av,aU] at ag
 have hx:=aC hr h1 μ.O
 have kH:X.P.underlying t=some (.slice e):=hd
 have fin: ∀w',(Builtin.clear_ #[t] o.type #[a.eval x]).run X.P μ.w= .ok (.tuple #[]) w'→(execOp a.eval o).run X.P μ.w= .ok (.value (.tuple #[])) w':=fun w' hv=>by
  refine eD ho hc ?_
  simp only[builtin,ia,Cu]
  refine cH ?_
  simpa using hv
 have Iy: (#[t]:Array TypeId)[0]? =some t:=rfl
 have KD: ∀y:Value,(#[y]:Array Value)[0]? =some y:=fun _=>rfl
 split at ag
 ·rename_i ex
  obtain⟨rfl,rfl⟩:=aI ag
  rw[ex] at hx;simp only[aj] at hx
  obtain⟨p,hp⟩:=hx
  refine⟨rfl,aB (val:= .tuple #[]) hr.aS (fin _ ?_) (by simp only[aj];exact⟨#[],rfl,by simp[ah]⟩)⟩
  cases p<;>simp[Builtin.clear_,Sem.run_bind,run_underlying kH,hp]
 ·rename_i r g off len ex
  rw[ex] at hx
  simp only[Act.run] at ag
  split at ag
  ·rename_i es aZ
   split at ag
   ·rename_i TJ
    obtain⟨bP,iU,eB,fQ,gY,Hw⟩:=TJ
    simp only[Act.run,Zr,Zw] at ag
    obtain⟨rfl,rfl⟩:=ag
    simp only[aj] at hx
    obtain⟨p,cap,hp,hle,mf,bq⟩:=hx
    obtain⟨a0,a1,a2⟩:=bq bP
    obtain⟨zv,qW,wP⟩:=fP hz μ.w
    obtain⟨uS,Cq⟩:=dL (X:=X) (μ:=μ) wP
    have Hx:zv.cells.size=sz:=by rw[uS.dK Cq,(bH Hw).2]
    have bM:0 <sz:=fQ ▸ a0
    obtain⟨w',lX,φ',hφ,le,dW⟩:=Au (X:=X) hr.aS (us:=List.replicate len zv) aZ eB fQ bP hle a0 a1 a2 gY (ys:=List.replicate len z) Zm (ah.replicate uS len)
     (by simp only[Zx,List.mem_replicate];rintro y ⟨_,rfl⟩;exact Hw)
    refine⟨rfl,.tuple #[],w',φ',.inl (fin _ ?_),by simp only[aj];exact⟨#[],rfl,by simp[ah]⟩,le,dW⟩
    rw[←mT Hx bM] at lX
    rw[hp]
    simp only[Builtin.clear_,Iy,KD,Sem.run_bind,run_underlying kH,Result.andThen_ok]
    rcases ZM len with h0| h0
    ·subst h0
     have JL: (Builtin.zeroCells zv.cells 0).toList=[]:=by rw[mT Hx bM];rfl
     rw[JL] at lX
     have hw:w'=μ.w:=by
       cases p with
       | none=>exact lX.1
       | some q=>simp[storeCells] at lX;exact lX.symm
     subst hw
     cases p<;>simp
    ·cases p with
     | none=>
       have b7:cap≠0:=Zl
       exact absurd (a2.resolve_left b7) Zm
     | some q=>
       obtain⟨n,rfl⟩: ∃n,len=n+1:=⟨len - 1,Zl⟩
       simp only at lX
       simp[Sem.run_bind,qW,lX]
   ·exact absurd ag ak
  ·exact absurd ag ak
 ·exact absurd ag ak
theorem DL {x:Operand} {y:aD} (hr:Rel X T a μ) (ho:o.op= .move x∨o.op= .assign x) (ht:ct X x=some y) (ag: (av E (.deep y)).run C ⟨T,μ.O⟩=some (v,σ')):
  σ'.T=T∧cg X o a μ σ'.O v:=by
 simp only[av,aU] at ag
 have aV:=aC hr ht μ.O
 have fZ: (execOp a.eval o).run X.P μ.w= .ok (.value (a.eval x)) μ.w:=by rcases ho with ho| ho<;>simp[execOp,ho]
 unfold xu at ag
 split at ag
 ·rename_i r g off len he
  rw[he] at aV
  simp only[Act.run] at ag
  split at ag
  ·rename_i es aZ
   split at ag
   rotate_left
   ·exact absurd ag ak
   rename_i bP
   have DM:=aV
   simp only[aj] at DM
   obtain⟨_,_,_,_,_,bq⟩:=DM
   obtain⟨q1,q2,q3,q4⟩:=hr.aS.row r es aZ (bq bP).1
   obtain⟨vs,la,jw⟩: ∃vs,ah X μ es vs∧((μ.φ r).cap=0∨ ∃c T,μ.w.heap[(μ.φ r).bB]? =some (.cells c T (0,0))∧(μ.φ r).base+(μ.φ r).cap*(μ.O r).sz≤c.size∧
     cM μ.w (μ.φ r).bB (μ.φ r).base (μ.O r).sz vs):=by
    rcases q4 with q4| ⟨c,T0,vs,p1,p2,p3,p4⟩
    ·have:es=[]:=by
      have:es.length=0:=Zl
      simpa using this
     subst this
     exact⟨[],by simp[ah],.inl q4⟩
    ·exact⟨vs,p3,.inr ⟨c,T0,p1,p2,p4⟩⟩
   obtain⟨es',O1,g1,g2,g3,g4⟩:=uP (μ:=μ) hr.aS la ag
   simp only[Act.run] at g1
   split at g1
   ·rename_i hc
    obtain⟨rG,qd,Mk⟩:=hc
    simp only[Act.run,Zr,Zw] at g1
    obtain⟨rfl,rfl⟩:=g1
    have hs: (O1 r).sz=(μ.O r).sz:=(g3.row r rG).2
    have hlen:es'.length=es.length:=by rw[g2.length,la.length]
    obtain⟨le,qT⟩:=EF (X:=X) (μ:=⟨μ.w,μ.φ,O1⟩) g4 r (es':=es') qd (by rw[hs];exact q1) (by rw[hlen];exact q2) (by rw[hs];exact Mk) (by
     refine jw.imp id ?_
     rintro⟨c,T0,p1,p2,p4⟩
     exact⟨c,T0,vs,p1,by simp only[hs];exact p2,g2,by simp only[hs];exact p4⟩)
    exact⟨rfl,a.eval x,μ.w,μ.φ,.inl fZ,aj.mono (g3.trans le) aV,g3.trans le,qT⟩
   ·exact absurd g1 ak
  ·exact absurd ag ak
 ·obtain⟨rfl,rfl⟩:=aI ag
  exact⟨rfl,aB hr.aS fZ aV⟩
end
end Go.AM
namespace Go.AM
open Go Go.RowKit
def iu (X:Ctx) (μ:Mu) (rs:List Nat) (a:V) (v:Value):Prop:= ∀ (B:Nat→Prop) (μ':Mu),μ'.w=μ.w→
 (∀b,Own ⟨X.toTrEnv,B,X.tok⟩ μ' b→Own X μ b∧ ∀r ∈ rs,(μ.O r).es.isSome=true→(μ.φ r).cap≠0→b≠(μ.φ r).bB)→aj ⟨X.toTrEnv,B,X.tok⟩ μ' a v
def qE (X:Ctx) (μ:Mu) (rs:List Nat) (au:List V) (vs:List Value):Prop:= ∀ (B:Nat→Prop) (μ':Mu),μ'.w=μ.w→
 (∀b,Own ⟨X.toTrEnv,B,X.tok⟩ μ' b→Own X μ b∧ ∀r ∈ rs,(μ.O r).es.isSome=true→(μ.φ r).cap≠0→b≠(μ.φ r).bB)→ah ⟨X.toTrEnv,B,X.tok⟩ μ' au vs
section
variable {X:Ctx} {B:Nat→Prop} {μ μ':Mu}
mutual
theorem cT (hw:μ'.w=μ.w) (ho: ∀b,Own ⟨X.toTrEnv,B,X.tok⟩ μ' b→Own X μ b): ∀ {x:V} {v:Value},V.aq x=true→aj X μ x v→aj ⟨X.toTrEnv,B,X.tok⟩ μ' x v
 | .bool _,_,_,h| .int ..,_,_,h| .float _,_,_,h| .str _,_,_,h| .nilp,_,_,h| .nilfn,_,_,h| .nili,_,_,h| .nils,_,_,h=>by simpa [aj] using h
 | .any,_,_,_=>by simp[aj]
 | .own ..,_,hp,_| .msl ..,_,hp,_| .mptr ..,_,hp,_| .sl ..,_,hp,_| .ptr ..,_,hp,_| .mp ..,_,hp,_| .it ..,_,hp,_=>by simp[V.aq] at hp
 | .mlit es,_,hp,h=>by
   simp only[aj] at h ⊢
   obtain⟨h0,h⟩:=h
   refine⟨h0,h.imp id ?_⟩
   rintro⟨a,ents,clock,rfl,hb,hs,h1,h2⟩
   exact⟨a,ents,clock,rfl,fun hh=>hb (ho _ hh),by rw[hw];exact hs,by rw[hw];exact h1,bg hw ho h0 h2⟩
 | .agg cs,_,hp,h=>by
   simp only[aj] at h ⊢
   obtain⟨h1,vs,rfl,h2⟩:=h
   exact⟨h1,vs,rfl,bg hw ho (by simpa [V.aq] using hp) h2⟩
 | .tuple cs,_,hp,h=>by
   simp only[aj] at h ⊢
   obtain⟨vs,rfl,h2⟩:=h
   exact⟨vs,rfl,bg hw ho (by simpa [V.aq] using hp) h2⟩
 | .bfn f cs,_,hp,h=>by
   simp only[aj] at h ⊢
   obtain⟨F,cv,rfl,h1,h2⟩:=h
   exact⟨F,cv,rfl,h1,bg hw ho (by simpa [V.aq] using hp) h2⟩
 | .fn f cs,_,hp,h=>by
   simp only[aj] at h ⊢
   obtain⟨F,cv,rfl,h1,h2⟩:=h
   exact⟨F,cv,rfl,h1,bg hw ho (by simpa [V.aq] using hp) h2⟩
 | .iface t x,_,hp,h=>by
   simp only[aj] at h ⊢
   obtain⟨F,y,rfl,h1,h2⟩:=h
   exact⟨F,y,rfl,h1,cT hw ho (by simpa [V.aq] using hp) h2⟩
 | .lit sz xs,_,hp,h=>by
   simp only[aj] at h ⊢
   obtain⟨h0,jJ,a,cap,vs,rfl,h1,h2,h3⟩:=h
   refine⟨h0,jJ,a,cap,vs,rfl,h1,bg hw ho h0 h2,h3.imp id ?_⟩
   rintro⟨b,o,rfl,hb,hs,hr⟩
   exact⟨b,o,rfl,fun hh=>hb (ho b hh),by rw[hw];exact hs,by rw[hw];exact hr⟩
 | .litk sz xs,_,hp,h=>by
   simp only[aj] at h ⊢
   obtain⟨h0,jJ,a,cap,vs,rfl,h1,h2,h3⟩:=h
   refine⟨h0,jJ,a,cap,vs,rfl,h1,bg hw ho h0 h2,h3.imp id ?_⟩
   rintro⟨rfl,hb,hs,hr⟩
   exact⟨rfl,fun hh=>hb (ho _ hh),by rw[hw];exact hs,by rw[hw];exact hr⟩
 | .epk i sz e off,_,hp,h=>by
   simp only[aj] at h ⊢
   obtain⟨h0,jJ,x,rfl,hb,hs,h1,hr⟩:=h
   exact⟨h0,jJ,x,rfl,fun hh=>hb (ho _ hh),by rw[hw];exact hs,cT hw ho h0 h1,by rw[hw];exact hr⟩
 | .eptr e off,_,hp,h=>by
   simp only[aj] at h ⊢
   obtain⟨h0,jJ,b,o,sz,x,rfl,hb,hs,h1,hr⟩:=h
   exact⟨h0,jJ,b,o,sz,x,rfl,fun hh=>hb (ho b hh),by rw[hw];exact hs,cT hw ho h0 h1,by rw[hw];exact hr⟩
theorem bg (hw:μ'.w=μ.w) (ho: ∀b,Own ⟨X.toTrEnv,B,X.tok⟩ μ' b→Own X μ b): ∀ {xs:List V} {vs:List Value},V.al xs=true→ah X μ xs vs→ah ⟨X.toTrEnv,B,X.tok⟩ μ' xs vs
 | [],[],_,_=>by simp[ah]
 | [],_::_,_,h=>by simp[ah] at h
 | _::_,[],_,h=>by simp[ah] at h
 | x::xs,v::vs,hp,h=>by
   simp only[ah] at h ⊢
   simp only[V.al,Zt] at hp
   exact⟨cT hw ho hp.1 h.1,bg hw ho hp.2 h.2⟩
end
end
section
variable {X:Ctx} {C:aQ} {T:Nat→V} {μ:Mu}
theorem iu.DN {a:V} {v:Value} (hp:V.aq a=true) (h:aj X μ a v) (rs:List Nat):iu X μ rs a v:=
 fun _ _ hw ho=>cT hw (fun b hb=> (ho b hb).1) hp h
theorem iu.more {rs rs':List Nat} {a:V} {v:Value} (h:iu X μ rs a v) (hs: ∀r ∈ rs,r ∈ rs'):iu X μ rs' a v:=
 fun B μ' hw ho=>h B μ' hw fun b hb=> ⟨(ho b hb).1,fun r hr=> (ho b hb).2 r (hs r hr)⟩
theorem qE.more {rs rs':List Nat} {a:List V} {v:List Value} (h:qE X μ rs a v) (hs: ∀r ∈ rs,r ∈ rs'):qE X μ rs' a v:=
 fun B μ' hw ho=>h B μ' hw fun b hb=> ⟨(ho b hb).1,fun r hr=> (ho b hb).2 r (hs r hr)⟩
theorem jZ {f:V→(V→List Nat→Act)→Act}
   (hf: ∀ {v:V} {k:V→List Nat→Act} {val:Value} {p:V×St},aj X μ v val→(f v k).run C ⟨T,μ.O⟩=some p→ ∃v' rs,(k v' rs).run C ⟨T,μ.O⟩=some p∧V.aq v'=true∧iu X μ rs v' val∧(v.cq=true→v'.cq=true)∧(v.aF=true→v'.aF=true)):
   ∀ {vs:List V} {k:List V→List Nat→Act} {vals:List Value} {p:V×St},ah X μ vs vals→(n0 f vs k).run C ⟨T,μ.O⟩=some p→
    ∃vs' rs,(k vs' rs).run C ⟨T,μ.O⟩=some p∧V.al vs'=true∧qE X μ rs vs' vals∧vs'.length=vs.length∧(vs.all V.cq=true→vs'.all V.cq=true)∧(vs.all V.aF=true→vs'.all V.aF=true)
 | [],k,[],p,_,ag=> ⟨[],[],ag,rfl,fun _ _ _ _=>by simp[ah],rfl,id,id⟩
 | [],_,_::_,_,h,_=>by simp[ah] at h
 | _::_,_,[],_,h,_=>by simp[ah] at h
 | v::vs,k,val::vals,p,h,ag=>by
   simp only[ah] at h
   obtain⟨v',rs,h1,h2,h3,h4,h5⟩:=hf h.1 ag
   obtain⟨vs',rs',k1,k2,k3,k4,k5,k6⟩:=jZ hf h.2 h1
   refine⟨v'::vs',rs++rs',k1,by simp[V.al,h2,k2],fun B μ' hw ho=> ?_,by simp[k4],?_,?_⟩
   ·simp only[ah]
    exact⟨h3.more (fun r hr=>by simp[hr]) B μ' hw ho,k3.more (fun r hr=>by simp[hr]) B μ' hw ho⟩
   ·simp only[aad,Zt];exact fun hh=> ⟨h4 hh.1,k5 hh.2⟩
   ·simp only[aad,Zt];exact fun hh=> ⟨h5 hh.1,k6 hh.2⟩
theorem vJ {f:V→(V→List Nat→Act)→Act}
  (hf: ∀ {v:V} {k:V→List Nat→Act} {val:Value} {p:V×St},aj X μ v val→(f v k).run C ⟨T,μ.O⟩=some p→ ∃v' rs,(k v' rs).run C ⟨T,μ.O⟩=some p∧V.aq v'=true∧iu X μ rs v' val∧(v.cq=true→v'.cq=true)∧(v.aF=true→v'.aF=true))
  {vs:List V} {k:List V→List Nat→Act} {vals:List Value} {p:V×St} (h:ah X μ vs vals) (ag: (tB f vs k).run C ⟨T,μ.O⟩=some p):
    ∃vs' rs,(k vs' rs).run C ⟨T,μ.O⟩=some p∧V.al vs'=true∧qE X μ rs vs' vals∧vs'.length=vs.length∧(vs.all V.cq=true→vs'.all V.cq=true)∧(vs.all V.aF=true→vs'.all V.aF=true):=by
 unfold tB at ag
 split at ag
 ·rename_i hp
  exact⟨vs,[],ag,hp,fun _ _ hw ho=>bg hw (fun b hb=> (ho b hb).1) hp h,rfl,id,id⟩
 ·exact jZ hf h ag
theorem j3 (ho:aP X μ): ∀ (d:Nat) {v:V} {k:V→List Nat→Act} {val:Value} {p:V×St},aj X μ v val→(ek d v k).run C ⟨T,μ.O⟩=some p→
   ∃v' rs,(k v' rs).run C ⟨T,μ.O⟩=some p∧V.aq v'=true∧iu X μ rs v' val∧(v.cq=true→v'.cq=true)∧(v.aF=true→v'.aF=true)
 | 0,v,k,val,p,h,ag=>by
   simp only[ek] at ag
   split at ag
   ·rename_i hp;exact⟨v,[],ag,hp,iu.DN hp h _,id,id⟩
   ·exact absurd ag ak
 | d+1,v,k,val,p,h,ag=>by
   have ih:=fun {v:V} {k:V→List Nat→Act} {val:Value} {p:V×St}=>j3 ho d (v:=v) (k:=k) (val:=val) (p:=p)
   simp only[ek] at ag
   split at ag
   ·rename_i hp;exact⟨v,[],ag,hp,iu.DN hp h _,id,id⟩
   ·rename_i Rc
    split at ag
    ·
     simp only[aj] at h
     obtain⟨h0,vs,rfl,hv⟩:=h
     obtain⟨b6,rs,k1,k2,k3,k4,k5,k6⟩:=jZ ih hv ag
     refine⟨_,rs,k1,by simpa [V.aq] using k2,fun B μ' hw hh=> ?_,fun _=>rfl,fun hc=>by simp[V.aF] at hc⟩
     simp only[aj]
     exact⟨k6 h0,vs,rfl,k3 B μ' hw hh⟩
    ·
     simp only[aj] at h
     obtain⟨F,cv,rfl,hf,hv⟩:=h
     obtain⟨b6,rs,k1,k2,k3,k4,k5,k6⟩:=jZ ih hv ag
     refine⟨_,rs,k1,by simpa [V.aq] using k2,fun B μ' hw hh=> ?_,fun _=>rfl,fun _=>rfl⟩
     simp only[aj]
     exact⟨F,cv,rfl,hf,k3 B μ' hw hh⟩
    ·
     simp only[aj] at h
     obtain⟨F,y,rfl,hf,hv⟩:=h
     obtain⟨x',rs,k1,k2,k3,k4,k5⟩:=ih hv ag
     refine⟨_,rs,k1,by simpa [V.aq] using k2,fun B μ' hw hh=> ?_,fun _=>rfl,fun _=>rfl⟩
     simp only[aj]
     exact⟨F,y,rfl,hf,k3 B μ' hw hh⟩
    ·
     rename_i r g off len
     simp only[Act.run] at ag
     split at ag
     ·rename_i es aZ
      split at ag
      ·rename_i hc
       obtain⟨bP,iU,gY⟩:=hc
       simp only[aj] at h
       obtain⟨a,cap,rfl,hle,mf,bq⟩:=h
       obtain⟨a0,a1,a2⟩:=bq bP
       obtain⟨q1,q2,q3,q4⟩:=ho.row r es aZ a0
       have kZ: (aw es off len).length=len:=by simp[aw];omega
       have iC: (aw es off len).all V.cq=true:=by
        simp only[Zx] at q3 ⊢
        exact fun x hx=> (bH (q3 x (Z5 (ZU hx)))).1
       have la: ∃vs,ah X μ (aw es off len) vs∧(len=0∨((μ.φ r).cap≠0∧(μ.φ r).bB<μ.w.heap.size∧a=some ⟨(μ.φ r).bB,(μ.φ r).base+off*(μ.O r).sz,none⟩∧cM μ.w (μ.φ r).bB ((μ.φ r).base+off*(μ.O r).sz) (μ.O r).sz vs)):=by
        by_cases Bb:len=0
        ·exact⟨[],by simp[aw,Bb,ah],.inl Bb⟩
        ·rcases q4 with q4| ⟨cc,TT,vs,p1,p2,p3,p4⟩
         ·omega
         ·exact⟨(vs.drop off).take len,ah.take _ (ah.drop _ p3),.inr ⟨Zl,(Zu.1 p1).1,a2.resolve_left Zl,(p4.drop off).take len⟩⟩
       obtain⟨vs,TK,DF⟩:=la
       obtain⟨IC,rs,k1,k2,k3,k4,k5,k6⟩:=vJ ih TK ag
       refine⟨_,r::rs,k1,rfl,fun B μ' hw hh=> ?_,fun _=>rfl,fun _=>rfl⟩
       have hx:=k3.more (rs':=r::rs) (fun q hq=>by simp[hq]) B μ' hw hh
       simp only[aj]
       refine⟨k2,k5 iC,a,cap,vs,by rw[k4,kZ],by rw[k4,kZ];exact hle,hx,?_⟩
       rcases DF with Bb| ⟨c0,c1,c2,c3⟩
       ·left
        have:IC.length=0:=by rw[k4,kZ];exact Bb
        simpa using this
       ·right
        refine⟨_,_,c2,fun fN=> ?_,by rw[hw];exact c1,by rw[hw];exact c3⟩
        exact(hh _ fN).2 r Zm (by simp[aZ]) c0 rfl
      ·exact absurd ag ak
     ·exact absurd ag ak
    ·
     rename_i r g idx off
     simp only[Act.run] at ag
     split at ag
     ·rename_i es aZ
      split at ag
      ·rename_i bP
       split at ag
       ·rename_i e he
        simp only[aj] at h
        obtain⟨a,rfl,mf,bq⟩:=h
        obtain⟨a0,VG⟩:=bq bP
        obtain⟨q1,q2,q3,q4⟩:=ho.row r es aZ a0
        have bz:idx<es.length:=(Zs.1 he).1
        rcases q4 with q4| ⟨cc,TT,vs,p1,p2,p3,p4⟩
        ·omega
        ·obtain⟨x,hx,aV⟩:=p3.get he
         have jI:aJ e (μ.O r).sz=true:=by
          simp only[Zx] at q3
          exact q3 e (List.mem_of_getElem? he)
         obtain⟨e',rs,k1,k2,k3,k4,k5⟩:=ih aV ag
         refine⟨_,r::rs,k1,rfl,fun B μ' hw hh=> ?_,fun _=>rfl,fun _=>rfl⟩
         simp only[aj]
         have cE:cM μ.w (μ.φ r).bB ((μ.φ r).base+idx*(μ.O r).sz) (μ.O r).sz [x]:=by
          have:=(p4.drop idx).take 1
          have BR: (vs.drop idx).take 1=[x]:=by
           have xD:idx<vs.length:=(Zs.1 hx).1
           rw[ZP xD,Z9,aaB]
           rw[Zv xD] at hx
           injection hx with hx;rw[hx]
          rwa [BR] at this
         refine⟨k2,k4 (bH jI).1,(μ.φ r).bB,(μ.φ r).base+idx*(μ.O r).sz,(μ.O r).sz,x,by rw[VG],fun fN=> ?_,by rw[hw];exact(Zu.1 p1).1,
          k3.more (rs':=r::rs) (fun q hq=>by simp[hq]) B μ' hw hh,by rw[hw];exact cE⟩
         exact(hh _ fN).2 r Zm (by simp[aZ]) Zl rfl
       ·exact absurd ag ak
      ·exact absurd ag ak
     ·exact absurd ag ak
    ·exact absurd ag ak
inductive jy (X:Ctx) (μ:Mu) (r0:Nat):Nat→List V→List Value→List Nat→List c9→Prop
 | nil (i:Nat):jy X μ r0 i [] [] [] []
 | plain {i:Nat} {a:V} {v:Value} {rs rs':List Nat} {au:List V} {vs:List Value} {ws:List c9} (hp:V.aq a=true) (hs:iu X μ rs a v) (h:jy X μ r0 (i+1) au vs rs' ws):
    jy X μ r0 i (a::au) (v::vs) (rs++rs') ws
 | sl {i r g off len:Nat} {es:List V} {v:Value} {rs:List Nat} {au:List V} {vs:List Value} {ws:List c9} (aZ: (μ.O r).es=some es) (eB: (μ.O r).fz=false) (bP: (μ.O r).gen=g) (ki:V.al es=true)
    (gY:off+len≤es.length) (hv:aj X μ (.sl r g off len) v) (h:jy X μ r0 (i+1) au vs rs ws):jy X μ r0 i (.msl (μ.O r).sz es off len::au) (v::vs) rs (⟨i,r,none⟩::ws)
 | ptr {i r g idx off:Nat} {es:List V} {v:Value} {rs:List Nat} {au:List V} {vs:List Value} {ws:List c9} (aZ: (μ.O r).es=some es) (eB: (μ.O r).fz=false) (bP: (μ.O r).gen=g) (ki:V.al es=true)
    (hv:aj X μ (.ptr r g idx off) v) (h:jy X μ r0 (i+1) au vs rs ws):jy X μ r0 i (.mptr (μ.O r).sz es idx off::au) (v::vs) rs (⟨i,r,none⟩::ws)
 | fresh {i sz:Nat} {v:Value} {rs:List Nat} {au:List V} {vs:List Value} {ws:List c9} (bM:0 <sz) (hv: ∃a,v= .slice a 0 0) (h:jy X μ r0 (i+1) au vs rs ws):
    jy X μ r0 i (.msl sz [] 0 0::au) (v::vs) rs (⟨i,r0+i,some sz⟩::ws)
theorem dp (ho:aP X μ) {r0:Nat}: ∀ {vs:List V} {ms:List (Option Nat)} {i:Nat} {k:List V→List Nat→List c9→Act} {vals:List Value} {p:V×St},ah X μ vs vals→
   (cQ r0 vs ms i k).run C ⟨T,μ.O⟩=some p→ ∃au rs ws,(k au rs ws).run C ⟨T,μ.O⟩=some p∧jy X μ r0 i au vals rs ws
 | [],ms,i,k,[],p,_,ag=> ⟨[],[],[],by simpa [cQ] using ag,.nil i⟩
 | [],_,_,_,_::_,_,h,_=>by simp[ah] at h
 | _::_,_,_,_,[],_,h,_=>by simp[ah] at h
 | v::vs,[],i,k,val::vals,p,h,ag=>by
   simp only[ah] at h
   simp only[cQ,snap] at ag
   obtain⟨v',rs,h1,h2,h3,_,_⟩:=j3 ho 5 h.1 ag
   obtain⟨au,rs',ws,k1,k2⟩:=dp ho h.2 h1
   exact⟨_,_,_,k1,.plain h2 h3 k2⟩
 | v::vs,m::ms,i,k,val::vals,p,h,ag=>by
   simp only[ah] at h
   simp only[cQ] at ag
   split at ag
   ·split at ag
    ·split at ag
     ·rename_i bM
      obtain⟨au,rs',ws,k1,k2⟩:=dp ho h.2 ag
      have h1:=h.1
      simp only[aj] at h1
      exact⟨_,_,_,k1,.fresh bM h1 k2⟩
     ·exact absurd ag ak
    ·rename_i r g off len
     simp only[Act.run] at ag
     split at ag
     ·rename_i es aZ
      split at ag
      ·rename_i hc
       obtain⟨c1,c2,c3,c4,c5⟩:=hc
       obtain⟨au,rs',ws,k1,k2⟩:=dp ho h.2 ag
       rw[←c3] at k1
       exact⟨_,_,_,k1,.sl aZ c2 c1 c5 c4 h.1 k2⟩
      ·exact absurd ag ak
     ·exact absurd ag ak
    ·rename_i r g idx off
     simp only[Act.run] at ag
     split at ag
     ·rename_i es aZ
      split at ag
      ·rename_i hc
       obtain⟨c1,c2,c3,c4⟩:=hc
       obtain⟨au,rs',ws,k1,k2⟩:=dp ho h.2 ag
       rw[←c3] at k1
       exact⟨_,_,_,k1,.ptr aZ c2 c1 c4 h.1 k2⟩
      ·exact absurd ag ak
     ·exact absurd ag ak
    ·exact absurd ag ak
   ·simp only[snap] at ag
    obtain⟨v',rs,h1,h2,h3,_,_⟩:=j3 ho 5 h.1 ag
    obtain⟨au,rs',ws,k1,k2⟩:=dp ho h.2 h1
    exact⟨_,_,_,k1,.plain h2 h3 k2⟩
end
theorem iv {X:Ctx} {C:aQ} {T:Nat→V} {w:World} {φ:Nat→Row}: ∀ (rs:List Nat) {O:Nat→Obj} {k:Act} {p:V×St},aP X ⟨w,φ,O⟩→(cV rs k).run C ⟨T,O⟩=some p→
   ∃O',k.run C ⟨T,O'⟩=some p∧Le ⟨w,φ,O⟩ ⟨w,φ,O'⟩∧aP X ⟨w,φ,O'⟩∧(∀r,r ∉ rs→O' r=O r)∧(∀r,r ∈ rs→O' r={O r with fz:=true})
 | [],O,k,p,ho,h=> ⟨O,h,Le.refl _,ho,fun _ _=>rfl,fun r hr=>by simp at hr⟩
 | q::rs,O,k,p,ho,h=>by
   simp only[cV,Act.run] at h
   obtain⟨l1,o1⟩:=lK ho q
   obtain⟨O',h1,h2,h3,h4,h5⟩:=iv rs o1 h
   refine⟨O',h1,l1.trans h2,h3,fun r hr=> ?_,fun r hr=> ?_⟩
   ·have sL:r≠q∧r ∉ rs:=by simpa using hr
    rw[h4 r sL.2,aG _ _ sL.1]
   ·by_cases hm:r ∈ rs
    ·rw[h5 r hm]
     by_cases e:r=q
     ·subst e;simp[an]
     ·simp[aG _ _ e]
    ·have e:r=q:=by
      rcases Zz.1 hr with e| hr
      ·exact e
      ·exact absurd hr hm
     subst e
     rw[h4 r hm,an]
theorem Av {X:Ctx} {C:aQ} {T:Nat→V} {μ:Mu} (ho:aP X μ) {v:V} {val:Value} {p:V×St} (hv:aj X μ v val) (ag: (snap v fun v' rs=>cV rs (.done v')).run C ⟨T,μ.O⟩=some p):
  ∃c' O',(Act.done c').run C ⟨T,O'⟩=some p∧aj X ⟨μ.w,μ.φ,O'⟩ c' val∧Le μ ⟨μ.w,μ.φ,O'⟩∧aP X ⟨μ.w,μ.φ,O'⟩:=by
 obtain⟨v',rs,h1,_,h3,_,_⟩:=j3 ho 5 hv ag
 obtain⟨O',k1,k2,k3,k4,k5⟩:=iv (w:=μ.w) (φ:=μ.φ) rs ho h1
 refine⟨v',O',k1,?_,k2,k3⟩
 refine h3 X.KI ⟨μ.w,μ.φ,O'⟩ rfl fun b hb=> ?_
 rcases hb with⟨r',q1,q2,q3,q4⟩ | hb
 ·simp only at q1 q2 q3 q4
  by_cases hm:r' ∈ rs
  ·rw[k5 r' hm] at q2;simp at q2
  ·rw[k4 r' hm] at q1 q2
   refine⟨.inl ⟨r',q1,q2,q3,q4⟩,fun r hr hs hc e=> ?_⟩
   exact ho.inj r' r (fun e'=>hm (e' ▸ hr)) q1 hs q3 hc (q4.trans e)
 ·exact⟨.inr hb,fun r hr hs hc e=>ho.qY r hs hc (e ▸ hb)⟩
end Go.AM
namespace Go.AM
open Go Go.RowKit Go.MapKept
section
variable {X:Ctx} {E:Env} {C:aQ} {o:Oper} {a:Go.Act} {T:Nat→V} {μ:Mu} {v:V} {σ':St}
def tk (e:MapEntry):Value:= .tuple #[e.key,e.val]
def gP (q:Option IntKind) (d:TypeDesc):Prop:=match q with
 | some q=>d= .int q
 | none=>d= .string
theorem HF {q:Option IntKind} {d:TypeDesc} {k:V} {kv:Value} (hd:gP q d) (hk:isKey q k=true) (hv:aj X μ k kv):IsKey d kv:=by
 unfold isKey at hk
 unfold gP at hd
 split at hk
 ·simp only[aj] at hv
  subst hv;subst hd
  simpa [IsKey] using hk
 ·simp only[aj] at hv
  obtain⟨bs,rfl,_⟩:=hv
  subst hd
  simp[IsKey]
 ·simp at hk
theorem nJ {q:Option IntKind} {d:TypeDesc} {k k':V} {kv NK:Value} {b:Bool} (hd:gP q d) (hk:isKey q k=true) (h1:aj X μ k kv) (h2:aj X μ k' NK) (h:C8 k k'=some b):
  Instr.sameNow d kv NK=some b∧(b=true→NK=kv):=by
 unfold C8 at h
 split at h
 ·simp only[aj] at h1 h2
  subst h1;subst h2
  split at h
  ·rename_i e
   subst e
   injection h with h
   subst h
   have: ∃q',d= .int q':=by
    unfold isKey at hk
    unfold gP at hd
    cases q<;>simp_all
   obtain⟨q',rfl⟩:=this
   refine⟨by simp[Instr.sameNow],fun hb=> ?_⟩
   simp only[beq_iff_eq] at hb
   rw[hb]
  ·simp at h
 ·simp only[aj] at h1 h2
  obtain⟨x,rfl,rfl⟩:=h1
  obtain⟨y,rfl,rfl⟩:=h2
  injection h with h
  subst h
  have:d= .string:=by
   unfold isKey at hk
   unfold gP at hd
   cases q<;>simp_all
  subst this
  have Fq: (x==y)=decide (x.data.toList=y.data.toList):=by
   rw[aaQ,bytes_beq,decide_eq_true_eq]
   constructor
   ·rintro rfl;rfl
   ·intro h
    cases x;cases y
    simp only[ByteArray.mk.injEq]
    exact aaq.1 h
  refine⟨by simp[Instr.sameNow,Fq],fun hb=> ?_⟩
  rw[←Fq,bytes_beq] at hb
  rw[hb]
 ·simp at h
theorem nK {e:V} {me:MapEntry} (h:aj X μ e (tk me)) {k v:V} (he:e= .tuple [k,v]):aj X μ k me.key∧aj X μ v me.val:=by
 subst he
 simp only[tk,aj] at h
 obtain⟨vs,h1,h2⟩:=h
 injection h1 with h1
 subst h1
 simpa [ah] using h2
theorem kj {k v:V} {me:MapEntry} (h1:aj X μ k me.key) (h2:aj X μ v me.val):aj X μ (.tuple [k,v]) (tk me):=by
 simp only[tk,aj]
 exact⟨_,rfl,by simp[ah,h1,h2]⟩
theorem mU {q:Option IntKind} {d:TypeDesc} {k:V} {kv:Value} (hd:gP q d) (hk:isKey q k=true) (h1:aj X μ k kv): ∀ {es:List V} {ents:List MapEntry} {i:Nat} {r:Option V},ah X μ es (ents.map tk)→lB k es=some r→
   (r=none∧Instr.findNow d kv ents i=some none)∨ ∃v j e,r=some v∧Instr.findNow d kv ents i=some (some (j,e))∧aj X μ v e
 | [],[],i,r,_,h=>by simp[lB] at h;subst h;exact .inl ⟨rfl,rfl⟩
 | [],_::_,_,_,h,_=>by simp[ah] at h
 | _::_,[],_,_,h,_=>by simp[ah] at h
 | e::es,m::ents,i,r,hr,h=>by
   simp only[List.map_cons,ah] at hr
   unfold lB at h
   split at h
   ·rename_i heq;simp at heq
   ·rename_i k' v' es' heq
    injection heq with e1 e2
    subst e2
    obtain⟨t1,t2⟩:=nK hr.1 e1
    split at h
    ·rename_i hq
     injection h with h
     subst h
     obtain⟨s1,_⟩:=nJ hd hk h1 t1 hq
     exact .inr ⟨v',i,m.val,rfl,by simp[Instr.findNow,s1],t2⟩
    ·rename_i hq
     obtain⟨s1,_⟩:=nJ hd hk h1 t1 hq
     rcases mU hd hk h1 (i:=i+1) hr.2 h with⟨g1,g2⟩ | ⟨v,j,x,g1,g2,g3⟩
     ·exact .inl ⟨g1,by simp[Instr.findNow,s1,g2]⟩
     ·exact .inr ⟨v,j,x,g1,by simp[Instr.findNow,s1,g2],g3⟩
    ·simp at h
   ·simp at h
theorem uU {q:Option IntKind} {d:TypeDesc} {k u:V} {kv val:Value} (hd:gP q d) (hk:isKey q k=true) (h1:aj X μ k kv) (h2:aj X μ u val): ∀ {es es':List V} {ents:List MapEntry} {i:Nat},ah X μ es (ents.map tk)→mw k u es=some es'→
   (Instr.findNow d kv ents i=some none∧ ∀c,ah X μ es' ((ents++[({key:=kv,val:=val,born:=c}:MapEntry)]).map tk))∨
   ∃j e,Instr.findNow d kv ents i=some (some (i+j,e.val))∧ents[j]? =some e∧e.key=kv∧ah X μ es' ((ents.set j ({key:=kv,val:=val,born:=e.born}:MapEntry)).map tk)
 | [],es',[],i,_,h=>by
   simp[mw] at h;subst h
   exact .inl ⟨rfl,fun c=>by simp only[Z8,List.map_cons,aaI,ah];exact⟨kj (me:={key:=kv,val:=val,born:=c}) h1 h2,trivial⟩⟩
 | [],_,_::_,_,h,_=>by simp[ah] at h
 | _::_,_,[],_,h,_=>by simp[ah] at h
 | e::es,es',m::ents,i,hr,h=>by
   simp only[List.map_cons,ah] at hr
   unfold mw at h
   split at h
   ·rename_i heq;simp at heq
   ·rename_i k' v' ND heq
    injection heq with e1 e2
    subst e2
    obtain⟨t1,t2⟩:=nK hr.1 e1
    split at h
    ·rename_i hq
     injection h with h
     subst h
     obtain⟨s1,s2⟩:=nJ hd hk h1 t1 hq
     exact .inr ⟨0,m,by simp[Instr.findNow,s1],rfl,s2 rfl,by simp only[List.set_cons_zero,List.map_cons,ah];exact⟨kj (me:={key:=kv,val:=val,born:=m.born}) h1 h2,hr.2⟩⟩
    ·rename_i hq
     obtain⟨s1,_⟩:=nJ hd hk h1 t1 hq
     rw[Zq] at h
     obtain⟨Xy,g0,rfl⟩:=h
     rcases uU hd hk h1 h2 (i:=i+1) hr.2 g0 with⟨g1,g2⟩ | ⟨j,x,g1,g2,g3,g4⟩
     ·exact .inl ⟨by simp[Instr.findNow,s1,g1],fun c=>by simp only[Z2,List.map_cons,ah];exact⟨kj t1 t2,g2 c⟩⟩
     ·exact .inr ⟨j+1,x,by simp[Instr.findNow,s1,g1];omega,by simpa using g2,g3,by simp only[List.set_cons_succ,List.map_cons,ah];exact⟨kj t1 t2,g4⟩⟩
    ·simp at h
   ·simp at h
theorem HG {t:TypeId} {rs:Option Operand} {r:Nat} (hr:Rel X T a μ) (ho:o.op= .makeMap t rs) (TL:rs=none) (ag: (av E (.mkMap r)).run C ⟨T,μ.O⟩=some (v,σ')):σ'.T=T∧cg X o a μ σ'.O v:=by
 subst TL
 simp only[av,Act.run,Zr,Zw] at ag
 obtain⟨rfl,rfl⟩:=ag
 obtain⟨le,dW⟩:=uL hr.aS r (.map #[] 0) [] (.inl ⟨#[],0,rfl,by simp[ah],by simp[im]⟩)
 refine⟨rfl,.map (some μ.w.heap.size),_,_,.inl ?_,?_,le,dW⟩
 ·simp only[execOp,ho]
  refine cH ?_
  simp[Instr.makeMap,Sem.run_bind]
 ·simp only[aj,an]
  exact⟨_,rfl,Zy _,fun _=> ⟨trivial,rfl⟩⟩
theorem ET {t kt et:TypeId} {d:TypeDesc} {x i:Operand} {x' i':aD} {ok:Bool} {q:Option IntKind} {z:V} (hr:Rel X T a μ) (ho:o.op= .lookup t x i ok) (ht:bd X t=some (.map kt et)) (Hc:bd X kt=some d) (hd:gP q d)
  (hz:dU X et=some z) (h1:ct X x=some x') (h2:ct X i=some i') (ag: (av E (.ue q ok z x' i')).run C ⟨T,μ.O⟩=some (v,σ')):σ'.T=T∧cg X o a μ σ'.O v:=by
 simp only[av,aU] at ag
 have hx:=aC hr h1 μ.O
 have hi:=aC hr h2 μ.O
 have nW:X.P.underlying t=some (.map kt et):=ht
 have rP:X.P.underlying kt=some d:=Hc
 obtain⟨zv,qW,wP⟩:=fP hz μ.w
 obtain⟨uS,Cq⟩:=dL (X:=X) (μ:=μ) wP
 split at ag
 ·rename_i nX
  have EM:=HF hd nX hi
  have main: ∀ {es:List V} {ents:Array MapEntry} {m:Option Nat},ah X μ es (ents.toList.map tk)→(iJ ok z es (aT ⟨T,μ.O⟩ i')).run C ⟨T,μ.O⟩=some (v,σ')→a.eval x= .map m→
    (match m with| none=>ents= #[] | some r=> ∃clock,μ.w.heap[r]? =some (.map ents clock))→σ'.T=T∧cg X o a μ σ'.O v:=by
   intro es ents m aV eS hm hb
   have fin: ∀ (u:Value) (b:Bool),(match Instr.findNow d (a.eval i) ents.toList 0 with
      | some (some (_,v))=>u=v∧b=true
      | some none=>u=zv∧b=false
      | none=>False)→(execOp a.eval o).run X.P μ.w= .ok (.value (if ok then .tuple #[u,.bool b] else u)) μ.w:=by
    intro u b hf
    simp only[execOp,ho]
    refine cH ?_
    cases nE:Instr.findNow d (a.eval i) ents.toList 0 with
    | none=>rw[nE] at hf;exact hf.elim
    | some r=>
      rw[nE] at hf
      cases m with
      | none=>
        simp only at hb
        subst hb
        cases r with
        | none=>
          simp only at hf;obtain⟨rfl,rfl⟩:=hf
          cases ok<;>simp[Instr.lookup,Sem.run_bind,run_underlying nW,Result.andThen,hm,Go.MapKept.run_checkKey rP EM,Go.MapKept.run_findKey (l:=[]) rP (by simpa using nE),qW]
        | some p=>
          obtain⟨j,y⟩:=p
          simp only at hf;obtain⟨rfl,rfl⟩:=hf
          cases ok<;>simp[Instr.lookup,Sem.run_bind,run_underlying nW,Result.andThen,hm,Go.MapKept.run_checkKey rP EM,Go.MapKept.run_findKey (l:=[]) rP (by simpa using nE)]
      | some rr=>
        obtain⟨clock,hb⟩:=hb
        cases r with
        | none=>
          simp only at hf;obtain⟨rfl,rfl⟩:=hf
          cases ok<;>simp[Instr.lookup,Sem.run_bind,run_underlying nW,Result.andThen,hm,Go.MapKept.run_getObj_map hb,Go.MapKept.run_checkKey rP EM,Go.MapKept.run_findKey rP nE,qW]
        | some p=>
          obtain⟨j,y⟩:=p
          simp only at hf;obtain⟨rfl,rfl⟩:=hf
          cases ok<;>simp[Instr.lookup,Sem.run_bind,run_underlying nW,Result.andThen,hm,Go.MapKept.run_getObj_map hb,Go.MapKept.run_checkKey rP EM,Go.MapKept.run_findKey rP nE]
   unfold iJ at eS
   split at eS
   ·rename_i y hy
    obtain⟨rfl,rfl⟩:=aI eS
    rcases mU hd nX hi (i:=0) aV hy with⟨g1,_⟩ | ⟨v0,j,e,g1,g2,g3⟩
    ·cases g1
    · injection g1 with g1
      subst g1
      refine⟨rfl,aB hr.aS (fin e true (by rw[g2];exact⟨rfl,rfl⟩)) ?_⟩
      cases ok
      ·simpa using g3
      ·simp only[if_true,aj];exact⟨_,rfl,by simp[ah,aj,g3]⟩
   ·rename_i hy
    obtain⟨rfl,rfl⟩:=aI eS
    rcases mU hd nX hi (i:=0) aV hy with⟨_,g2⟩ | ⟨v0,j,e,g1,g2,g3⟩
    · refine⟨rfl,aB hr.aS (fin zv false (by rw[g2];exact⟨rfl,rfl⟩)) ?_⟩
      cases ok
      ·simpa using uS
      ·simp only[if_true,aj];exact⟨_,rfl,by simp[ah,aj,uS]⟩
    ·cases g1
   ·exact absurd eS ak
  split at ag
  ·rename_i r g e
   rw[e] at hx
   simp only[aj] at hx
   obtain⟨b,hp,mf,bq⟩:=hx
   simp only[Act.run] at ag
   split at ag
   ·rename_i es aZ
    split at ag
    · rename_i hc
      obtain⟨k0,rfl⟩:=bq hc.1
      rcases hr.aS.ents r es aZ hc.2 with⟨b7,ents,clock,hm,aV,_⟩ | ⟨_,s,pos,_,rfl⟩ | ⟨kp,rfl⟩
      ·exact main aV ag hp ⟨clock,hm⟩
      ·exact absurd (by simpa [iJ,lB] using ag) ak
      ·exact absurd (by simpa [iJ,lB] using ag) ak
    ·exact absurd ag ak
   ·exact absurd ag ak
  ·rename_i es e
   rw[e] at hx
   simp only[aj] at hx
   obtain⟨_,⟨rfl,hp⟩ | ⟨b,ents,clock,hp,_,_,⟨hm,_⟩,aV⟩⟩:=hx
   ·exact main (ents:= #[]) (by simp[ah]) ag hp rfl
   ·exact main aV ag hp ⟨clock,hm⟩
  ·exact absurd ag ak
 ·exact absurd ag ak
theorem rQ {ents:Array MapEntry} {clock:Nat} (h:im ents clock) (e:MapEntry) (he:e.born=clock):im (ents.push e) (clock+1):=by
 obtain⟨h1,h2⟩:=h
 refine⟨by simp[h1],?_⟩
 rw[Array.toList_push,aai,h2,Array.size_push,List.range_succ,List.map_cons,aaI,he,h1]
theorem mV {ents:Array MapEntry} {clock:Nat} (h:im ents clock) (j:Nat) {f:MapEntry→MapEntry} (hf: ∀e,(f e).born=e.born):im (ents.modify j f) clock:=by
 have hm: (ents.modify j f).toList.map (·.born)=ents.toList.map (·.born):=by
  apply aah
  intro n
  simp only[ZI,aaK,ZV]
  cases ents.toList[n]? with
  | none=>rfl
  | some x=>
    simp only[ZE]
    split
    ·simp[hf]
    ·rfl
 exact⟨by simpa using h.1,by rw[hm];simpa using h.2⟩
theorem wR {t kt et:TypeId} {d:TypeDesc} {x i y:Operand} {x' i' y':aD} {q:Option IntKind} (hr:Rel X T a μ) (ho:o.op= .mapUpdate t x i y∨o.op= .insert t x i y) (ht:bd X t=some (.map kt et)) (Hc:bd X kt=some d) (hd:gP q d)
  (h1:ct X x=some x') (h2:ct X i=some i') (h3:ct X y=some y') (ag: (av E (.rf q x' i' y')).run C ⟨T,μ.O⟩=some (v,σ')):σ'.T=T∧cg X o a μ σ'.O v:=by
 simp only[av,aU] at ag
 have hx:=aC hr h1 μ.O
 have hi:=aC hr h2 μ.O
 have hy:=aC hr h3 μ.O
 have nW:X.P.underlying t=some (.map kt et):=ht
 have rP:X.P.underlying kt=some d:=Hc
 split at ag
 ·rename_i r g e
  rw[e] at hx
  simp only[aU] at ag
  obtain⟨u,O1,k1,k2,k3,k4⟩:=gz (μ:=μ) hr.aS hy ag
  have Fy:=aj.mono k3 hx
  have pG:=aj.mono k3 hi
  simp only[Act.run] at k1
  split at k1
  ·rename_i es aZ
   split at k1
   ·rename_i hc
    obtain⟨bP,bM,eB,nX,iC⟩:=hc
    split at k1
    ·rename_i es' jx
     simp only[Act.run,Zr,Zw] at k1
     obtain⟨rfl,rfl⟩:=k1
     simp only[aj] at Fy
     obtain⟨b,hp,mf,bq⟩:=Fy
     obtain⟨_,rfl⟩:=bq bP
     obtain⟨b7,ents,clock,hm,aV,cD⟩: (μ.φ r).cap≠0∧ ∃ents clock,μ.w.heap[(μ.φ r).bB]? =some (.map ents clock)∧ah X ⟨μ.w,μ.φ,O1⟩ es (ents.toList.map tk)∧im ents clock:=by
      rcases k4.ents r es aZ bM with h| ⟨_,s,pos,_,rfl⟩ | ⟨kp,rfl⟩
      ·exact h
      ·simp[mw] at jx
      ·simp[mw] at jx
     have EM:=HF hd nX pG
     have fin: ∀w',(Instr.mapUpdate t (.map (some (μ.φ r).bB)) (a.eval i) (a.eval y)).run X.P μ.w= .ok () w'→(execOp a.eval o).run X.P μ.w= .ok .skip w':=fun w' hw=>by
      rcases ho with ho| ho
      ·simp only[execOp,ho,hp];exact uM hw
      ·simp only[execOp,ho,hp];exact uM hw
     rcases uU hd nX pG k2 (i:=0) aV jx with⟨g1,g2⟩ | ⟨j,e,g1,g2,g3,g4⟩
     ·obtain⟨le,dW⟩:=eC (μ:=⟨μ.w,μ.φ,O1⟩) k4 r (es':=es') (ob':= .map (ents.push {key:=a.eval i,val:=a.eval y,born:=clock}) (clock+1)) aZ eB bM hm b7 (.inl ⟨ents,clock,rfl,aV,cD⟩) (.inl ⟨_,_,rfl,by
       have:=g2 clock
       have e1: (ents.push ({key:=a.eval i,val:=a.eval y,born:=clock}:MapEntry)).toList=ents.toList++[({key:=a.eval i,val:=a.eval y,born:=clock}:MapEntry)]:=Zm
       rw[e1];exact this,rQ cD _ rfl⟩)
      refine⟨rfl,undef,_,_,.inr ⟨fin _ ?_,rfl⟩,by simp only[aj];exact⟨#[],rfl,by simp[ah]⟩,k3.trans le,dW⟩
      simp[Instr.mapUpdate,run_underlying nW,Go.MapKept.run_getObj_map hm,Go.MapKept.run_checkKey rP EM,Go.MapKept.run_findKey rP g1,Go.MapKept.run_setObj_map _ hm,Result.andThen,Sem.run_bind]
     ·rw[aaa] at g1
      have KF:ents[j]? =some e:=by simpa using g2
      obtain⟨le,dW⟩:=eC (μ:=⟨μ.w,μ.φ,O1⟩) k4 r (es':=es') (ob':= .map (ents.modify j fun e=> {e with key:=a.eval i,val:=a.eval y}) (clock)) aZ eB bM hm b7 (.inl ⟨ents,clock,rfl,aV,cD⟩) (.inl ⟨_,_,rfl,by
       have hl: (ents.modify j fun e=> {e with key:=a.eval i,val:=a.eval y}).toList=ents.toList.set j {e with key:=a.eval i,val:=a.eval y}:=by
         apply aah
         intro n
         rw[aaK,ZV,aat]
         by_cases hn:j=n
         ·subst hn
          have bz:=(Zs.1 g2).1
          simp only[if_true,bz,g2,ZE,and_self]
          rfl
         ·simp[hn]
       rw[hl];exact g4,mV cD j fun _=>rfl⟩)
      refine⟨rfl,undef,_,_,.inr ⟨fin _ ?_,rfl⟩,by simp only[aj];exact⟨#[],rfl,by simp[ah]⟩,k3.trans le,dW⟩
      simp[Instr.mapUpdate,run_underlying nW,Go.MapKept.run_getObj_map hm,Go.MapKept.run_checkKey rP EM,Go.MapKept.run_findKey rP g1,KF,g3,Go.MapKept.run_keyThatStays EM,Go.MapKept.run_setObj_map _ hm,Result.andThen,Sem.run_bind]
    ·exact absurd k1 ak
   ·exact absurd k1 ak
  ·exact absurd k1 ak
 ·exact absurd ag ak
theorem Cw {t kt et:TypeId} {x:Operand} {y:aD} {r:Nat} (hr:Rel X T a μ) (ho:o.op= .range t x) (ht:bd X t=some (.map kt et)) (h1:ct X x=some y) (ag: (av E (.mapIter r y)).run C ⟨T,μ.O⟩=some (v,σ')):σ'.T=T∧cg X o a μ σ'.O v:=by
 simp only[av,aU] at ag
 have hx:=aC hr h1 μ.O
 have nW:X.P.underlying t=some (.map kt et):=ht
 split at ag
 ·rename_i es e
  rw[e] at hx
  simp only[aj] at hx
  simp only[Act.run,Zr,Zw] at ag
  obtain⟨rfl,rfl⟩:=ag
  obtain⟨_,⟨rfl,hp⟩ | ⟨b,ents,clock,hp,ig,bz,⟨hm,cD⟩,aV⟩⟩:=hx
  ·obtain⟨le,dW⟩:=uL hr.aS r (.mapIter none 0 #[] 0) [.mlit []] (.inr (.inr ⟨none,0,[],rfl,rfl,.inl ⟨rfl,rfl⟩⟩))
   refine⟨rfl,.pointer (some ⟨μ.w.heap.size,0,none⟩),_,_,.inl ?_,?_,le,dW⟩
   ·simp only[execOp,ho]
    refine cH ?_
    simp[Instr.range,Sem.run_bind,run_underlying nW,hp,Result.andThen]
   ·simp only[aj,an]
    exact⟨_,rfl,Zy _,fun _=> ⟨trivial,rfl⟩⟩
  ·obtain⟨le,dW⟩:=uL hr.aS r (.mapIter (some b) clock #[] clock) [.mlit es] (.inr (.inr ⟨some b,clock,es,rfl,rfl,.inr ⟨b,ents,rfl,ig,bz,hm,cD,aV⟩⟩))
   refine⟨rfl,.pointer (some ⟨μ.w.heap.size,0,none⟩),_,_,.inl ?_,?_,le,dW⟩
   ·simp only[execOp,ho]
    refine cH ?_
    simp[Instr.range,Sem.run_bind,run_underlying nW,hp,Result.andThen,Go.MapKept.run_getObj_map hm]
   ·simp only[aj,an]
    exact⟨_,rfl,Zy _,fun _=> ⟨trivial,rfl⟩⟩
 ·exact absurd ag ak
theorem DO {x:Operand} {y:aD} (hr:Rel X T a μ) (ho:o.op= .move x∨o.op= .assign x) (ht:ct X x=some y) (ag: (av E (.FW y)).run C ⟨T,μ.O⟩=some (v,σ')):σ'.T=T∧cg X o a μ σ'.O v:=by
 simp only[av,aU] at ag
 have fZ: (execOp a.eval o).run X.P μ.w= .ok (.value (a.eval x)) μ.w:=by rcases ho with ho| ho<;>simp[execOp,ho]
 obtain⟨u,O1,k1,k2,k3,k4⟩: ∃c' O',(Act.done c').run C ⟨T,O'⟩=some (v,σ')∧aj X ⟨μ.w,μ.φ,O'⟩ c' (a.eval x)∧Le μ ⟨μ.w,μ.φ,O'⟩∧aP X ⟨μ.w,μ.φ,O'⟩:=by
  split at ag
  ·exact Av hr.aS (aC hr ht μ.O) ag
  ·exact gz (μ:=μ) hr.aS (aC hr ht μ.O) ag
 obtain⟨rfl,rfl⟩:=aI k1
 exact⟨rfl,a.eval x,μ.w,μ.φ,.inl fZ,k2,k3,k4⟩
end
end Go.AM
namespace Go.AM
open Go Go.RowKit Go.MapKept
section
variable {X:Ctx} {E:Env} {C:aQ} {o:Oper} {a:Go.Act} {T:Nat→V} {μ:Mu} {v:V} {σ':St}
theorem EU {t:TypeId} {m k:Nat} {c:V} {x:Value} {D:TypeDesc} (hd:bd X t=some D) (hk: (k=0∧D= .bool)∨(k=1∧ ∃q,D= .int q)∨(k=2∧D= .string))
  (hc:aj X μ c x) (em:Bool) (w:World): (Instr.checkKey em (m+1) t x).run X.P w= .ok () w:=by
 have kH:X.P.underlying t=some D:=hd
 rcases hk with⟨_,rfl⟩ | ⟨_,q,rfl⟩ | ⟨_,rfl⟩ <;>simp[Instr.checkKey,run_underlying kH]
theorem tp {ks qU:List Nat} {cs:List V} (h: (cu (ks++qU) cs cs).isSome=true): (cu ks (cs.take ks.length) (cs.take ks.length)).isSome=true∧(cu qU (cs.drop ks.length) (cs.drop ks.length)).isSome=true:=by
 obtain⟨b,hb⟩:=ZA.1 h
 obtain⟨b1,b2,h1,h2,_⟩:=pn ks hb
 rw[h1,h2];exact⟨rfl,rfl⟩
theorem Mq (  em:Bool) (w:World): ∀d:Nat,
   (∀t ks cs xs m,ew X d t=some ks→d≤m→ah X μ cs xs→(cu ks cs cs).isSome=true→
     bj X t=some ks.length∧((eu X t=some true∧(Instr.checkKey em m t (.agg xs.toArray)).run X.P w= .ok () w)∨
       (eu X t=some false∧ks.length=1∧ ∃x,xs=[x]∧(Instr.checkKey em m t x).run X.P w= .ok () w)))∧
   (∀fs off ks cs xs m,lH X d fs off=some ks→d≤m→ah X μ cs xs→(cu ks (cs.drop off) (cs.drop off)).isSome=true→
     ∀f ∈ fs,f.name≠ "_" ∧ ∃y,(Go.part f.type xs.toArray f.offset).run X.P w= .ok y w∧(Instr.checkKey em m f.type y).run X.P w= .ok () w):=by
 intro d
 induction d with
 | zero=>exact⟨fun _ _ _ _ _ h=>by simp[ew] at h,fun _ _ _ _ _ _ h=>by simp[lH] at h⟩
 | succ d ih=>
   refine⟨fun t ks cs xs m hk hm hx hb=> ?_,fun fs off ks cs xs m hk hm hx hb=> ?_⟩
   · obtain⟨m,rfl⟩: ∃m',m=m'+1:=⟨m - 1,Zl⟩
     have hlen:cs.length=ks.length:=by
       obtain⟨b,hb⟩:=ZA.1 hb
       exact(mN hb).1
     have scalar: ∀ (D:TypeDesc) (k:Nat),bd X t=some D→((k=0∧D= .bool)∨(k=1∧ ∃q,D= .int q)∨(k=2∧D= .string))→bj X t=some 1→ks=[k]→
         bj X t=some ks.length∧((eu X t=some true∧(Instr.checkKey em (m+1) t (.agg xs.toArray)).run X.P w= .ok () w)∨
       (eu X t=some false∧ks.length=1∧ ∃x,xs=[x]∧(Instr.checkKey em (m+1) t x).run X.P w= .ok () w)):=by
       intro D k hd hD hs e
       subst e
       have lx:=hx.length
       match cs,xs,hlen,lx with
       | [c],[x],_,_=>
         simp only[ah,and_true] at hx
         refine⟨by simpa using hs,.inr ⟨?_,rfl,x,rfl,EU hd hD hx em w⟩⟩
         simp only[eu,hd,ZE]
         rcases hD with⟨_,rfl⟩ | ⟨_,q,rfl⟩ | ⟨_,rfl⟩ <;>rfl
     simp only[ew] at hk
     split at hk
     · split at hk<;>simp at hk
       rename_i hd hs
       exact scalar _ 0 hd Zm hs hk.symm
     · split at hk<;>simp at hk
       rename_i hd hs
       exact scalar _ 1 hd Zm hs hk.symm
     · split at hk<;>simp at hk
       rename_i hd hs
       exact scalar _ 2 hd Zm hs hk.symm
     · rename_i fs hd
       split at hk
       · split at hk
         ·rename_i qU Q5
          split at hk
          · rename_i hs
            injection hk with hk;subst hk
            refine⟨hs,.inl ⟨by simp[eu,hd],?_⟩⟩
            have kH:X.P.underlying t=some (.struct fs):=hd
            have each:=ih.2 _ 0 _ cs xs m Q5 Zl hx (by simpa using hb)
            rw[Instr.checkKey]
            simp only[Sem.run_bind,run_underlying kH,Result.andThen_ok]
            rw[←Array.forIn_toList]
            generalize fs.toList=L at each
            clear Q5 hd kH hb
            induction L with
            | nil=>simp
            | cons f L TM=>
              obtain⟨hn,y,p1,p2⟩:=each f Zm
              simp only[List.forIn_cons,Sem.run_bind,hn,ne_eq,not_false_eq_true,if_true,Result.andThen_ok,p1,p2,Sem.run_pure]
              exact TM fun y hy=>each y (by simp[hy])
          ·simp at hk
         ·simp at hk
       ·simp at hk
     · rename_i n e hd
       split at hk
       · rename_i mf
         obtain⟨mf,bM⟩:=mf
         split at hk
         ·rename_i k ou
          injection hk with hk;subst hk
          refine⟨by rw[aaR];exact bM,.inl ⟨by simp[eu,hd],?_⟩⟩
          have kH:X.P.underlying t=some (.array n e):=hd
          have ij:bj X e=some 1:=by
            cases d with
            | zero=>simp[ew] at ou
            | succ d=>
              simp only[ew] at ou
              split at ou<;> (try (split at ou<;>simp at ou<;>assumption)) <;> (try (rename_i Fu;simp[eu,Fu] at mf)) <;>simp at ou
          obtain⟨inf,pG,Ci⟩: ∃inf,X.P.info? e=some inf∧inf.size=1:=by simpa [bj,info] using ij
          have rG:X.P.cellsOf e=1:=by simp[Program.cellsOf,pG,Ci]
          rw[aaR] at hlen
          have lx:=hx.length
          have each: ∀j<n,∃y,(Go.part e xs.toArray (j*X.P.cellsOf e)).run X.P w= .ok y w∧(Instr.checkKey em m e y).run X.P w= .ok () w:=by
            intro j hj
            obtain⟨c,hc⟩: ∃c,cs[j]? =some c:=⟨_,Zv Zl⟩
            obtain⟨x,Xz,rx⟩:=hx.get hc
            have px:xs.toArray[j*X.P.cellsOf e]? =some x:=by rw[rG];simpa using Xz
            have PV: (cu [k] [c] [c]).isSome=true:=by
              obtain⟨b,hb⟩:=ZA.1 hb
              have key: ∀ (n:Nat) (cs:List V) (b:Bool),cu (List.replicate n k) cs cs=some b→ ∀ (j:Nat) c,cs[j]? =some c→(cu [k] [c] [c]).isSome=true:=by
               intro n
               induction n with
               | zero=>intro cs b h j c hc;cases cs<;>simp[cu] at h hc
               | succ n XA=>
                 intro cs b h j c hc
                 cases cs with
                 | nil=>simp at hc
                 | cons c0 cs=>
                   simp only[List.replicate_succ,cu] at h
                   split at h
                   ·rename_i p q hp hq
                    cases j with
                    | zero=>simp at hc;subst hc;simp[cu,hp]
                    | succ j=>exact XA cs q hq j c (by simpa using hc)
                   ·simp at h
              exact key n cs b hb j c hc
            obtain⟨_,hq⟩:=ih.1 e [k] [c] [x] m ou Zl (by simp only[ah,and_true];exact rx) PV
            rcases hq with⟨hq,_⟩ | ⟨_,_,x',wb,hq⟩
            ·rw[mf] at hq;cases hq
            · obtain rfl:x=x':=by simpa using wb
              exact⟨x,dY mf _ _ _ px w,hq⟩
          rw[Instr.checkKey]
          simp only[Sem.run_bind,run_underlying kH,Result.andThen_ok]
          simp only[Std.Legacy.Range.forIn_eq_forIn_range',Std.Legacy.Range.size,Nat.sub_zero,Nat.add_one_sub_one,Nat.div_one]
          have HH: ∀j ∈ List.range' 0 n,∃y,(Go.part e xs.toArray (j*X.P.cellsOf e)).run X.P w= .ok y w∧(Instr.checkKey em m e y).run X.P w= .ok () w:=fun j hj=>each j (by simp[List.mem_range'_1] at hj;omega)
          clear each
          generalize List.range' 0 n=is at HH
          induction is with
          | nil=>simp
          | cons j is XB=>
            obtain⟨y,p1,p2⟩:=HH j Zm
            simp only[List.forIn_cons,Sem.run_bind,run_sizeOf w pG,Result.andThen_ok,p1,p2,Sem.run_pure]
            exact XB (fun y hy=>HH y (by simp[hy]))
         ·simp at hk
       ·simp at hk
     ·simp at hk
   · obtain⟨m,rfl⟩: ∃m',m=m'+1:=⟨m - 1,Zl⟩
     cases fs with
     | nil=>simp
     | cons f fs=>
       simp only[lH] at hk
       split at hk
       · rename_i hn
         split at hk
         ·rename_i k1 uB
          split at hk
          · rename_i k2 BK
            injection hk with hk;subst hk
            obtain⟨e1,e2⟩:=tp hb
            obtain⟨hs,ha⟩:=ih.1 f.type k1 _ _ (m+1) uB Zl (ah.take k1.length (ah.drop off hx)) e1
            have uN:=ih.2 fs (off+k1.length) k2 cs xs (m+1) BK Zl hx (by simpa [aaM] using e2)
            have Ck:=hn.2
            intro g hg
            rcases Zz.1 hg with rfl| hg
            · refine⟨hn.1,?_⟩
              rcases ha with⟨Km,hq⟩ | ⟨Km,h1,x,Fy,hq⟩
              ·refine⟨_,qy Km hs xs.toArray _ w,?_⟩
               rw[←hq,Ck]
               congr 3 <;> (apply Array.ext';simp[aaE,aan])
              ·have gx:xs.toArray[g.offset]? =some x:=by
                 have:=congrArg (fun l=>l[0]?) Fy
                 simpa [Z7,h1,Ck] using this
               exact⟨x,dY Km _ _ _ gx w,hq⟩
            ·exact uN g hg
          ·simp at hk
         ·simp at hk
       ·simp at hk
theorem fe {kt:TypeId} {ks:List Nat} (h:cP X kt=some ks): (∃fs,X.P.underlying kt=some (.struct fs))∧ew X 100 kt=some ks:=by
 unfold cP at h
 split at h
 ·rename_i fs hd;exact⟨⟨fs,hd⟩,h⟩
 ·simp at h
theorem gA {ks:List Nat} {k k':V} {b:Bool} (h:eP ks k k'=some b): ∃cs ds,k= .agg cs∧k'= .agg ds∧cu ks cs ds=some b:=by
 unfold eP at h
 split at h
 ·exact⟨_,_,rfl,rfl,h⟩
 ·simp at h
theorem rR: ∀ {ks:List Nat} {cs ds:List V},cu ks cs ds=some true→cs=ds
 | [],[],[],_=>rfl
 | [],[],_::_,h=>by simp[cu] at h
 | [],_::_,_,h=>by simp[cu] at h
 | _::_,[],_,h=>by simp[cu] at h
 | _::_,_::_,[],h=>by simp[cu] at h
 | k::ks,c::cs,d::ds,h=>by
   simp only[cu] at h
   split at h
   ·rename_i x y hx hy
    simp only[Zr,Zt] at h
    obtain⟨rfl,rfl⟩:=h
    have XC:c=d:=by
     unfold Fs at hx
     split at hx
     ·simp only[Zr,beq_iff_eq] at hx;rw[hx]
     ·split at hx
      ·rename_i e;simp only[Zr,beq_iff_eq] at hx;rw[hx,e]
      ·simp at hx
     ·simp only[Zr,decide_eq_true_eq] at hx;rw[hx]
     ·simp at hx
    rw[XC,rR hy]
   ·simp at h
theorem sN: ∀ {ks:List Nat} {cs:List V} {xs:List Value},(cu ks cs cs).isSome=true→ah X μ cs xs→ ∀p ∈ xs.zip xs,Instr.sameBits 9999 p.1 p.2=true
 | _,[],[],_,_,_,hp=>by simp at hp
 | _,[],_::_,_,h,_,_=>by simp[ah] at h
 | _,_::_,[],_,h,_,_=>by simp[ah] at h
 | [],_::_,_,h,_,_,_=>by simp[cu] at h
 | k::ks,c::cs,x::xs,h,hr,p,hp=>by
   simp only[ah] at hr
   obtain⟨b,hb⟩:=ZA.1 h
   simp only[cu] at hb
   split at hb
   ·rename_i u w hu hw
    simp only[List.zip_cons_cons,Zz] at hp
    rcases hp with rfl| hp
    ·have tg:=hr.1
     unfold Fs at hu
     split at hu
     ·simp only[aj] at tg;subst tg;simp[Instr.sameBits]
     ·simp only[aj] at tg;subst tg;simp[Instr.sameBits]
     ·simp only[aj] at tg;obtain⟨bs,rfl,_⟩:=tg;simp only[Instr.sameBits];rw[bytes_beq]
     ·simp at hu
    ·exact sN (ks:=ks) (by rw[hw];rfl) hr.2 p hp
   ·simp at hb
theorem Aw: ∀ {ks:List Nat} {cs:List V} {xs ys:List Value},(cu ks cs cs).isSome=true→ah X μ cs xs→ah X μ cs ys→xs=ys
 | _,[],[],[],_,_,_=>rfl
 | _,[],[],_::_,_,_,h=>by simp[ah] at h
 | _,[],_::_,_,_,h,_=>by simp[ah] at h
 | _,_::_,[],_,_,h,_=>by simp[ah] at h
 | _,_::_,_::_,[],_,_,h=>by simp[ah] at h
 | [],_::_,_,_,h,_,_=>by simp[cu] at h
 | k::ks,c::cs,x::xs,y::ys,h,hr,hs=>by
   simp only[ah] at hr hs
   obtain⟨b,hb⟩:=ZA.1 h
   simp only[cu] at hb
   split at hb
   ·rename_i u w hu hw
    rw[Aw (ks:=ks) (by rw[hw];rfl) hr.2 hs.2]
    congr 1
    have tg:=hr.1;have ij:=hs.1
    unfold Fs at hu
    split at hu
    ·simp only[aj] at tg ij;rw[tg,ij]
    ·simp only[aj] at tg ij;rw[tg,ij]
    ·simp only[aj] at tg ij
     obtain⟨bs,rfl,e1⟩:=tg;obtain⟨XD,rfl,e2⟩:=ij
     congr 1
     cases bs;cases XD
     simp only[ByteArray.mk.injEq]
     exact aaq.1 (e1.trans e2.symm)
    ·simp at hu
   ·simp at hb
theorem HI {ks:List Nat} {k:V} {x y:Value} (h: (eP ks k k).isSome=true) (h1:aj X μ k x) (h2:aj X μ k y):x=y:=by
 obtain⟨b,hb⟩:=ZA.1 h
 obtain⟨cs,ds,rfl,e,hk⟩:=gA hb
 injection e with e;subst e
 simp only[aj] at h1 h2
 obtain⟨_,vs,rfl,hv⟩:=h1
 obtain⟨_,ws,rfl,hw⟩:=h2
 have:=Aw (ks:=ks) (by rw[hk];rfl) hv hw
 rw[aaq.1 this]
theorem Ay {ks:List Nat} {k:V} {kv:Value} (h: (eP ks k k).isSome=true) (hr:aj X μ k kv) (w:World): (Instr.keyThatStays kv kv).run X.P w= .ok kv w:=by
 obtain⟨b,hb⟩:=ZA.1 h
 obtain⟨cs,ds,rfl,e,hk⟩:=gA hb
 injection e with e;subst e
 simp only[aj] at hr
 obtain⟨_,vs,rfl,hv⟩:=hr
 have hs:Instr.sameBits 10000 (.agg vs) (.agg vs)=true:=by
  show Instr.sameBits (9999+1) (.agg vs) (.agg vs)=true
  simp only[Instr.sameBits,beq_self_eq_true,aax,Zx]
  intro p hp
  exact sN (ks:=ks) (by rw[hk];rfl) hv p hp
 simp[Instr.keyThatStays,hs]
theorem uV {kt:TypeId} {ks:List Nat} {k:V} {kv:Value} (hk:cP X kt=some ks) (h: (eP ks k k).isSome=true) (hr:aj X μ k kv) (em:Bool) (w:World): (Instr.checkKey em 10000 kt kv).run X.P w= .ok () w:=by
 obtain⟨⟨fs,hd⟩,TN⟩:=fe hk
 obtain⟨b,hb⟩:=ZA.1 h
 obtain⟨cs,ds,rfl,e,he⟩:=gA hb
 injection e with e;subst e
 simp only[aj] at hr
 obtain⟨_,vs,rfl,hv⟩:=hr
 obtain⟨_,h1| ⟨h1,_⟩⟩:=(Mq em w 100).1 kt ks cs vs.toList 10000 TN Zl hv (by rw[he];rfl)
 ·simpa using h1.2
 ·have:eu X kt=some true:=by simp[eu,bd,hd]
  rw[this] at h1;cases h1
theorem kP {kt:TypeId} {ks:List Nat} {k k':V} {kv NK:Value} {b:Bool} (hk:cP X kt=some ks) (h:eP ks k k'=some b) (h1:aj X μ k kv) (h2:aj X μ k' NK) (w:World):
  (Op.equal kt kv NK).run X.P w= .ok b w:=by
 obtain⟨⟨fs,hd⟩,TN⟩:=fe hk
 obtain⟨cs,ds,rfl,rfl,he⟩:=gA h
 simp only[aj] at h1 h2
 obtain⟨_,xs,rfl,hx⟩:=h1
 obtain⟨_,ys,rfl,hy⟩:=h2
 obtain⟨_,hh| ⟨hh,_⟩⟩:=(Hk (X:=X) (μ:=μ) w 100).1 kt ks cs ds _ _ b 10000 TN Zl hx hy he
 ·simpa [Op.equal,Op.maxDepth] using hh.2
 ·have:eu X kt=some true:=by simp[eu,bd,hd]
  rw[this] at hh;cases hh
def sO (X:Ctx) (μ:Mu) (kt:TypeId) (kv:Value) (ents:List MapEntry) (r:Option (Nat×Value)):Prop:= ∀i,(Instr.findAsking kt kv ents i).run X.P μ.w= .ok (r.map fun p=> (i+p.1,p.2)) μ.w
theorem lM {kt:TypeId} {ks:List Nat} {k:V} {kv:Value} (hk:cP X kt=some ks) (h1:aj X μ k kv): ∀ {es:List V} {ents:List MapEntry} {r:Option V},ah X μ es (ents.map tk)→fa ks k es=some r→
   (r=none∧sO X μ kt kv ents none)∨ ∃v j e,r=some v∧sO X μ kt kv ents (some (j,e))∧aj X μ v e
 | [],[],r,_,h=>by simp[fa] at h;subst h;exact .inl ⟨rfl,fun i=>by simp[Instr.findAsking]⟩
 | [],_::_,_,h,_=>by simp[ah] at h
 | _::_,[],_,h,_=>by simp[ah] at h
 | e::es,m::ents,r,hr,h=>by
   simp only[List.map_cons,ah] at hr
   unfold fa at h
   split at h
   ·rename_i heq;simp at heq
   ·rename_i k' v' es' heq
    injection heq with e1 e2
    subst e2
    obtain⟨t1,t2⟩:=nK hr.1 e1
    split at h
    ·rename_i hq
     injection h with h
     subst h
     exact .inr ⟨v',0,m.val,rfl,fun i=>by simp[Instr.findAsking,Sem.run_bind,kP hk hq h1 t1 μ.w,Result.andThen_ok],t2⟩
    ·rename_i hq
     have s1:=kP hk hq h1 t1 μ.w
     rcases lM hk h1 hr.2 h with⟨g1,g2⟩ | ⟨v,j,x,g1,g2,g3⟩
     ·exact .inl ⟨g1,fun i=>by simp[Instr.findAsking,Sem.run_bind,s1,Result.andThen_ok,g2 (i+1)]⟩
     ·exact .inr ⟨v,j+1,x,g1,fun i=>by simp[Instr.findAsking,Sem.run_bind,s1,Result.andThen_ok,g2 (i+1)];omega,g3⟩
    ·simp at h
   ·simp at h
theorem sQ {kt:TypeId} {ks:List Nat} {k u:V} {kv val:Value} (hk:cP X kt=some ks) (h1:aj X μ k kv) (h2:aj X μ u val): ∀ {es es':List V} {ents:List MapEntry},ah X μ es (ents.map tk)→jN ks k u es=some es'→
   (sO X μ kt kv ents none∧ ∀c,ah X μ es' ((ents++[({key:=kv,val:=val,born:=c}:MapEntry)]).map tk))∨
   ∃j e,sO X μ kt kv ents (some (j,e.val))∧ents[j]? =some e∧aj X μ k e.key∧ah X μ es' ((ents.set j ({key:=kv,val:=val,born:=e.born}:MapEntry)).map tk)
 | [],es',[],_,h=>by
   simp[jN] at h;subst h
   exact .inl ⟨fun i=>by simp[Instr.findAsking],fun c=>by simp only[Z8,List.map_cons,aaI,ah];exact⟨kj (me:={key:=kv,val:=val,born:=c}) h1 h2,trivial⟩⟩
 | [],_,_::_,h,_=>by simp[ah] at h
 | _::_,_,[],h,_=>by simp[ah] at h
 | e::es,es',m::ents,hr,h=>by
   simp only[List.map_cons,ah] at hr
   unfold jN at h
   split at h
   ·rename_i heq;simp at heq
   ·rename_i k' v' ND heq
    injection heq with e1 e2
    subst e2
    obtain⟨t1,t2⟩:=nK hr.1 e1
    split at h
    ·rename_i hq
     injection h with h
     subst h
     have PJ:k=k':=by
      obtain⟨cs,ds,rfl,rfl,he⟩:=gA hq
      rw[rR he]
     exact .inr ⟨0,m,fun i=>by simp[Instr.findAsking,Sem.run_bind,kP hk hq h1 t1 μ.w,Result.andThen_ok],rfl,by rw[PJ];exact t1,by simp only[List.set_cons_zero,List.map_cons,ah];exact⟨kj (me:={key:=kv,val:=val,born:=m.born}) h1 h2,hr.2⟩⟩
    ·rename_i hq
     have s1:=kP hk hq h1 t1 μ.w
     rw[Zq] at h
     obtain⟨Xy,g0,rfl⟩:=h
     rcases sQ hk h1 h2 hr.2 g0 with⟨g1,g2⟩ | ⟨j,x,g1,g2,g3,g4⟩
     ·exact .inl ⟨fun i=>by simp[Instr.findAsking,Sem.run_bind,s1,Result.andThen_ok,g1 (i+1)],fun c=>by simp only[Z2,List.map_cons,ah];exact⟨kj t1 t2,g2 c⟩⟩
     ·exact .inr ⟨j+1,x,fun i=>by simp[Instr.findAsking,Sem.run_bind,s1,Result.andThen_ok,g1 (i+1)];omega,by simpa using g2,g3,by simp only[List.set_cons_succ,List.map_cons,ah];exact⟨kj t1 t2,g4⟩⟩
    ·simp at h
   ·simp at h
theorem kQ {kt:TypeId} {fs:Array Field} (hd:X.P.underlying kt=some (.struct fs)) {kv:Value} {ents:List MapEntry} {r:Option (Nat×Value)} (h:sO X μ kt kv ents r): (Instr.findKey kt kv ents).run X.P μ.w= .ok r μ.w:=by
 rw[run_findKey_eq μ.w (by rw[hd]),h 0]
 cases r<;>simp
theorem uW {t kt et:TypeId} {x i:Operand} {x' i':aD} {ok:Bool} {ks:List Nat} {z:V} (hr:Rel X T a μ) (ho:o.op= .lookup t x i ok) (ht:bd X t=some (.map kt et)) (hk:cP X kt=some ks)
  (hz:dU X et=some z) (h1:ct X x=some x') (h2:ct X i=some i') (ag: (av E (.ns ks ok z x' i')).run C ⟨T,μ.O⟩=some (v,σ')):σ'.T=T∧cg X o a μ σ'.O v:=by
 simp only[av,aU] at ag
 have hx:=aC hr h1 μ.O
 have hi:=aC hr h2 μ.O
 have nW:X.P.underlying t=some (.map kt et):=ht
 obtain⟨⟨fs,hd⟩,_⟩:=fe hk
 obtain⟨zv,qW,wP⟩:=fP hz μ.w
 obtain⟨uS,Cq⟩:=dL (X:=X) (μ:=μ) wP
 split at ag
 ·rename_i nX
  have BO:=fun em=>uV hk nX hi em μ.w
  have main: ∀ {es:List V} {ents:Array MapEntry} {m:Option Nat},ah X μ es (ents.toList.map tk)→(eZ ks ok z es (aT ⟨T,μ.O⟩ i')).run C ⟨T,μ.O⟩=some (v,σ')→a.eval x= .map m→
    (match m with| none=>ents= #[] | some r=> ∃clock,μ.w.heap[r]? =some (.map ents clock))→σ'.T=T∧cg X o a μ σ'.O v:=by
   intro es ents m aV eS hm hb
   have fin: ∀ (u:Value) (b:Bool) (r:Option (Nat×Value)),sO X μ kt (a.eval i) ents.toList r→(match r with
      | some (_,v)=>u=v∧b=true
      | none=>u=zv∧b=false)→(execOp a.eval o).run X.P μ.w= .ok (.value (if ok then .tuple #[u,.bool b] else u)) μ.w:=by
    intro u b r nE hf
    have FA:=kQ hd nE
    simp only[execOp,ho]
    refine cH ?_
    cases m with
    | none=>
      simp only at hb
      subst hb
      cases r with
      | none=>
        simp only at hf;obtain⟨rfl,rfl⟩:=hf
        cases ok<;>simp[Instr.lookup,Sem.run_bind,run_underlying nW,Result.andThen,hm,BO,FA,qW]
      | some p=>
        obtain⟨j,y⟩:=p
        simp only at hf;obtain⟨rfl,rfl⟩:=hf
        cases ok<;>simp[Instr.lookup,Sem.run_bind,run_underlying nW,Result.andThen,hm,BO,FA]
    | some rr=>
      obtain⟨clock,hb⟩:=hb
      cases r with
      | none=>
        simp only at hf;obtain⟨rfl,rfl⟩:=hf
        cases ok<;>simp[Instr.lookup,Sem.run_bind,run_underlying nW,Result.andThen,hm,Go.MapKept.run_getObj_map hb,BO,FA,qW]
      | some p=>
        obtain⟨j,y⟩:=p
        simp only at hf;obtain⟨rfl,rfl⟩:=hf
        cases ok<;>simp[Instr.lookup,Sem.run_bind,run_underlying nW,Result.andThen,hm,Go.MapKept.run_getObj_map hb,BO,FA]
   unfold eZ at eS
   split at eS
   ·rename_i y hy
    obtain⟨rfl,rfl⟩:=aI eS
    rcases lM hk hi aV hy with⟨g1,_⟩ | ⟨v0,j,e,g1,g2,g3⟩
    ·cases g1
    · injection g1 with g1
      subst g1
      refine⟨rfl,aB hr.aS (fin e true _ g2 ⟨rfl,rfl⟩) ?_⟩
      cases ok
      ·simpa using g3
      ·simp only[if_true,aj];exact⟨_,rfl,by simp[ah,aj,g3]⟩
   ·rename_i hy
    obtain⟨rfl,rfl⟩:=aI eS
    rcases lM hk hi aV hy with⟨_,g2⟩ | ⟨v0,j,e,g1,g2,g3⟩
    · refine⟨rfl,aB hr.aS (fin zv false _ g2 ⟨rfl,rfl⟩) ?_⟩
      cases ok
      ·simpa using uS
      ·simp only[if_true,aj];exact⟨_,rfl,by simp[ah,aj,uS]⟩
    ·cases g1
   ·exact absurd eS ak
  split at ag
  ·rename_i r g e
   rw[e] at hx
   simp only[aj] at hx
   obtain⟨b,hp,mf,bq⟩:=hx
   simp only[Act.run] at ag
   split at ag
   ·rename_i es aZ
    split at ag
    · rename_i hc
      obtain⟨k0,rfl⟩:=bq hc.1
      rcases hr.aS.ents r es aZ hc.2 with⟨b7,ents,clock,hm,aV,_⟩ | ⟨_,s,pos,_,rfl⟩ | ⟨kp,rfl⟩
      ·exact main aV ag hp ⟨clock,hm⟩
      ·exact absurd (by simpa [eZ,fa] using ag) ak
      ·exact absurd (by simpa [eZ,fa] using ag) ak
    ·exact absurd ag ak
   ·exact absurd ag ak
  ·rename_i es e
   rw[e] at hx
   simp only[aj] at hx
   obtain⟨_,⟨rfl,hp⟩ | ⟨b,ents,clock,hp,_,_,⟨hm,_⟩,aV⟩⟩:=hx
   ·exact main (ents:= #[]) (by simp[ah]) ag hp rfl
   ·exact main aV ag hp ⟨clock,hm⟩
  ·exact absurd ag ak
 ·exact absurd ag ak
theorem uX {t kt et:TypeId} {x i y:Operand} {x' i' y':aD} {ks:List Nat} (hr:Rel X T a μ) (ho:o.op= .mapUpdate t x i y∨o.op= .insert t x i y) (ht:bd X t=some (.map kt et)) (hk:cP X kt=some ks)
  (h1:ct X x=some x') (h2:ct X i=some i') (h3:ct X y=some y') (ag: (av E (.nr ks x' i' y')).run C ⟨T,μ.O⟩=some (v,σ')):σ'.T=T∧cg X o a μ σ'.O v:=by
 simp only[av,aU] at ag
 have hx:=aC hr h1 μ.O
 have hi:=aC hr h2 μ.O
 have hy:=aC hr h3 μ.O
 have nW:X.P.underlying t=some (.map kt et):=ht
 obtain⟨⟨fs,hd⟩,_⟩:=fe hk
 split at ag
 ·rename_i r g e
  rw[e] at hx
  simp only[aU] at ag
  obtain⟨u,O1,k1,k2,k3,k4⟩:=gz (μ:=μ) hr.aS hy ag
  have Fy:=aj.mono k3 hx
  have pG:=aj.mono k3 hi
  simp only[Act.run] at k1
  split at k1
  ·rename_i es aZ
   split at k1
   ·rename_i hc
    obtain⟨bP,bM,eB,nX,iC⟩:=hc
    split at k1
    ·rename_i es' jx
     simp only[Act.run,Zr,Zw] at k1
     obtain⟨rfl,rfl⟩:=k1
     simp only[aj] at Fy
     obtain⟨b,hp,mf,bq⟩:=Fy
     obtain⟨_,rfl⟩:=bq bP
     obtain⟨b7,ents,clock,hm,aV,cD⟩: (μ.φ r).cap≠0∧ ∃ents clock,μ.w.heap[(μ.φ r).bB]? =some (.map ents clock)∧ah X ⟨μ.w,μ.φ,O1⟩ es (ents.toList.map tk)∧im ents clock:=by
      rcases k4.ents r es aZ bM with h| ⟨_,s,pos,_,rfl⟩ | ⟨kp,rfl⟩
      ·exact h
      ·simp[jN] at jx
      ·simp[jN] at jx
     have BO:=uV hk nX hi false μ.w
     have fin: ∀w',(Instr.mapUpdate t (.map (some (μ.φ r).bB)) (a.eval i) (a.eval y)).run X.P μ.w= .ok () w'→(execOp a.eval o).run X.P μ.w= .ok .skip w':=fun w' hw=>by
      rcases ho with ho| ho
      ·simp only[execOp,ho,hp];exact uM hw
      ·simp only[execOp,ho,hp];exact uM hw
     rcases sQ hk pG k2 aV jx with⟨g1,g2⟩ | ⟨j,e,g1,g2,g3,g4⟩
     ·have FA:=kQ (μ:=⟨μ.w,μ.φ,O1⟩) hd g1
      obtain⟨le,dW⟩:=eC (μ:=⟨μ.w,μ.φ,O1⟩) k4 r (es':=es') (ob':= .map (ents.push {key:=a.eval i,val:=a.eval y,born:=clock}) (clock+1)) aZ eB bM hm b7 (.inl ⟨ents,clock,rfl,aV,cD⟩) (.inl ⟨_,_,rfl,by
       have:=g2 clock
       have e1: (ents.push ({key:=a.eval i,val:=a.eval y,born:=clock}:MapEntry)).toList=ents.toList++[({key:=a.eval i,val:=a.eval y,born:=clock}:MapEntry)]:=Zm
       rw[e1];exact this,rQ cD _ rfl⟩)
      refine⟨rfl,undef,_,_,.inr ⟨fin _ ?_,rfl⟩,by simp only[aj];exact⟨#[],rfl,by simp[ah]⟩,k3.trans le,dW⟩
      simp[Instr.mapUpdate,run_underlying nW,Go.MapKept.run_getObj_map hm,BO,FA,Go.MapKept.run_setObj_map _ hm,Result.andThen,Sem.run_bind]
     ·have FA:=kQ (μ:=⟨μ.w,μ.φ,O1⟩) hd g1
      have ou:e.key=a.eval i:=HI nX g3 pG
      have KF:ents[j]? =some e:=by simpa using g2
      have lX:=Ay nX hi μ.w
      obtain⟨le,dW⟩:=eC (μ:=⟨μ.w,μ.φ,O1⟩) k4 r (es':=es') (ob':= .map (ents.modify j fun e=> {e with key:=a.eval i,val:=a.eval y}) (clock)) aZ eB bM hm b7 (.inl ⟨ents,clock,rfl,aV,cD⟩) (.inl ⟨_,_,rfl,by
       have hl: (ents.modify j fun e=> {e with key:=a.eval i,val:=a.eval y}).toList=ents.toList.set j {e with key:=a.eval i,val:=a.eval y}:=by
        apply aah
        intro n
        rw[aaK,ZV,aat]
        by_cases hn:j=n
        ·subst hn
         have bz:=(Zs.1 g2).1
         simp only[if_true,bz,g2,ZE,and_self]
         rfl
        ·simp[hn]
       rw[hl];exact g4,mV cD j fun _=>rfl⟩)
      refine⟨rfl,undef,_,_,.inr ⟨fin _ ?_,rfl⟩,by simp only[aj];exact⟨#[],rfl,by simp[ah]⟩,k3.trans le,dW⟩
      simp[Instr.mapUpdate,run_underlying nW,Go.MapKept.run_getObj_map hm,BO,FA,KF,ou,lX,Go.MapKept.run_setObj_map _ hm,Result.andThen,Sem.run_bind]
    ·exact absurd k1 ak
   ·exact absurd k1 ak
  ·exact absurd k1 ak
 ·exact absurd ag ak
theorem uY {c:Call} {s x:Operand} {sT xT e:TypeId} {d:TypeDesc} {s' x':aD} {ix r sz:Nat} {i:TypeInfo} {z:V} (hr:Rel X T a μ) (ho:o.op= .call c) (hc:c.callee= .builtin .append)
  (ia:c.args= #[s,x]) (Cu:c.argTypes= #[sT,xT]) (hd:bd X sT=some (.slice e)) (hx:bd X xT=some d) (ER: ∀k,d≠ .int k) (hn:bj X e=some sz) (hi:info X e=some i)
  (hz:dU X e=some z) (Hw:aJ z sz=true) (h1:ct X s=some s') (h2:ct X x=some x')
  (ag: (av E (.pV ix r sz (qu i.bytes) s' x')).run C ⟨T,μ.O⟩=some (v,σ')):σ'.T=T∧cg X o a μ σ'.O v:=by
 simp only[av,aU] at ag
 split at ag
 ·rename_i kk j he
  refine rO (E:=E) (C:=C) (v:=v) (r:=r+16*j.toNat) hr ho hc ia Cu hd hx ER hn hi hz Hw h1 h2 ?_
  simp only[av,aU] at ag ⊢
  exact ag
 ·exact absurd ag ak
theorem mW {kt:TypeId} {ks:List Nat} {k:V} {kv:Value} (hk:cP X kt=some ks) (h1:aj X μ k kv): ∀ {es:List V} {ents:List MapEntry} {i:Nat} {r:Option (Nat×V)},ah X μ es (ents.map tk)→fD ks k i es=some r→
   (r=none∧sO X μ kt kv ents none)∨ ∃v j e,r=some (i+j,v)∧sO X μ kt kv ents (some (j,e.val))∧aj X μ v e.val∧ents[j]? =some e∧aj X μ k e.key
 | [],[],_,r,_,h=>by simp[fD] at h;subst h;exact .inl ⟨rfl,fun i=>by simp[Instr.findAsking]⟩
 | [],_::_,_,_,h,_=>by simp[ah] at h
 | _::_,[],_,_,h,_=>by simp[ah] at h
 | e::es,m::ents,i,r,hr,h=>by
   simp only[List.map_cons,ah] at hr
   unfold fD at h
   split at h
   ·rename_i heq;simp at heq
   ·rename_i k' v' es' heq
    injection heq with e1 e2
    subst e2
    obtain⟨t1,t2⟩:=nK hr.1 e1
    split at h
    ·rename_i hq
     injection h with h
     subst h
     have PJ:k=k':=by
      obtain⟨cs,ds,rfl,rfl,he⟩:=gA hq
      rw[rR he]
     exact .inr ⟨v',0,m,rfl,fun i=>by simp[Instr.findAsking,Sem.run_bind,kP hk hq h1 t1 μ.w,Result.andThen_ok],t2,rfl,by rw[PJ];exact t1⟩
    ·rename_i hq
     have s1:=kP hk hq h1 t1 μ.w
     rcases mW hk h1 hr.2 h with⟨g1,g2⟩ | ⟨v,j,x,g1,g2,g3,g4,g5⟩
     ·exact .inl ⟨g1,fun i=>by simp[Instr.findAsking,Sem.run_bind,s1,Result.andThen_ok,g2 (i+1)]⟩
     ·exact .inr ⟨v,j+1,x,by rw[g1];congr 2;omega,fun i=>by simp[Instr.findAsking,Sem.run_bind,s1,Result.andThen_ok,g2 (i+1)];omega,g3,by simpa using g4,g5⟩
    ·simp at h
   ·simp at h
theorem Cx {t kt et:TypeId} {x i:Operand} {x' i':aD} {ks:List Nat} {z:V} (hr:Rel X T a μ) (ho:o.op= .mapEntry t x i) (ht:bd X t=some (.map kt et)) (hk:cP X kt=some ks)
  (hz:dU X et=some z) (h1:ct X x=some x') (h2:ct X i=some i') (ag: (av E (.pT ks z x' i')).run C ⟨T,μ.O⟩=some (v,σ')):σ'.T=T∧cg X o a μ σ'.O v:=by
 simp only[av,aU] at ag
 have hx:=aC hr h1 μ.O
 have hi:=aC hr h2 μ.O
 have nW:X.P.underlying t=some (.map kt et):=ht
 obtain⟨⟨fs,hd⟩,_⟩:=fe hk
 obtain⟨zv,qW,wP⟩:=fP hz μ.w
 obtain⟨uS,Cq⟩:=dL (X:=X) (μ:=μ) wP
 split at ag
 ·rename_i r g e
  rw[e] at hx
  simp only[aU,Act.run] at ag
  split at ag
  ·rename_i es aZ
   split at ag
   ·rename_i hc
    obtain⟨bP,bM,eB,nX,iC⟩:=hc
    simp only[aj] at hx
    obtain⟨b,hp,mf,bq⟩:=hx
    obtain⟨_,rfl⟩:=bq bP
    have BO:=uV hk nX hi false μ.w
    have fin: ∀u w',(Instr.mapEntry t (.map (some (μ.φ r).bB)) (a.eval i)).run X.P μ.w= .ok u w'→(execOp a.eval o).run X.P μ.w= .ok (.value u) w':=fun u w' hw=>by
     simp only[execOp,ho,hp];exact cH hw
    have KR: (∃q,fD ks (aT ⟨T,μ.O⟩ i') 0 es=some q)→(μ.φ r).cap≠0∧ ∃ents clock,μ.w.heap[(μ.φ r).bB]? =some (.map ents clock)∧ah X μ es (ents.toList.map tk)∧im ents clock:=by
     rintro⟨q,hq⟩
     rcases hr.aS.ents r es aZ bM with h| ⟨_,s,pos,_,rfl⟩ | ⟨kp,rfl⟩
     ·exact h
     ·simp[fD] at hq
     ·simp[fD] at hq
    split at ag
    ·rename_i j u EV
     simp only[Act.run,Zr,Zw] at ag
     obtain⟨rfl,rfl⟩:=ag
     obtain⟨b7,ents,clock,hm,aV,cD⟩:=KR ⟨_,EV⟩
     rcases mW hk hi aV EV with⟨g1,_⟩ | ⟨v,j',e,g1,g2,g3,g4,g5⟩
     ·cases g1
     ·simp only[Zr,Zw,aaa] at g1
      obtain⟨rfl,rfl⟩:=g1
      have FA:=kQ hd g2
      have ou:e.key=a.eval i:=HI nX g5 hi
      have KF:ents[j]? =some e:=by simpa using g4
      have lX:=Ay nX hi μ.w
      have ow: (ents.modify j fun e=> {e with key:=a.eval i})=ents:=by
       apply Array.ext'
       apply aah
       intro n
       rw[aaK,ZV]
       by_cases hn:j=n
       ·subst hn
        rw[g4,←ou];simp only[if_true];rfl
       ·simp[hn]
      obtain⟨le,dW⟩:=eC hr.aS r (es':=es) (ob':= .map ents clock) aZ eB bM hm b7 (.inl ⟨ents,clock,rfl,aV,cD⟩) (.inl ⟨ents,clock,rfl,aV,cD⟩)
      refine⟨rfl,.tuple #[e.val,goInt e.born],_,_,.inl (fin _ _ ?_),?_,le,dW⟩
      ·simp[Instr.mapEntry,run_underlying nW,Go.MapKept.run_getObj_map hm,BO,FA,KF,ou,lX,ow,Go.MapKept.run_setObj_map _ hm,Result.andThen,Sem.run_bind]
      ·simp only[aj]
       refine⟨_,rfl,?_⟩
       simp only[ah,aj,and_true]
       exact⟨aj.mono le g3,by rw[cD.at KF];rfl⟩
    ·rename_i EV
     simp only[Act.run,Zr,Zw] at ag
     obtain⟨rfl,rfl⟩:=ag
     obtain⟨b7,ents,clock,hm,aV,cD⟩:=KR ⟨_,EV⟩
     rcases mW hk hi aV EV with⟨_,g2⟩ | ⟨v,j',e,g1,_⟩
     ·have FA:=kQ hd g2
      have hlen:es.length=ents.size:=by have:=aV.length;simpa using this
      obtain⟨le,dW⟩:=eC hr.aS r (es':=es++[.tuple [aT ⟨T,μ.O⟩ i',z]]) (ob':= .map (ents.push {key:=a.eval i,val:=zv,born:=clock}) (clock+1)) aZ eB bM hm b7 (.inl ⟨ents,clock,rfl,aV,cD⟩) (.inl ⟨_,_,rfl,by
       have e1: (ents.push ({key:=a.eval i,val:=zv,born:=clock}:MapEntry)).toList=ents.toList++[({key:=a.eval i,val:=zv,born:=clock}:MapEntry)]:=Zm
       rw[e1,aai]
       refine aV.append ?_
       simp only[List.map_cons,aaI,ah,and_true]
       exact kj (me:={key:=a.eval i,val:=zv,born:=clock}) hi uS,rQ cD _ rfl⟩)
      refine⟨rfl,.tuple #[zv,goInt clock],_,_,.inl (fin _ _ ?_),?_,le,dW⟩
      ·simp[Instr.mapEntry,run_underlying nW,Go.MapKept.run_getObj_map hm,BO,FA,qW,Go.MapKept.run_setObj_map _ hm,Result.andThen,Sem.run_bind]
      ·simp only[aj]
       refine⟨_,rfl,?_⟩
       simp only[ah,aj,and_true]
       exact⟨aj.mono le uS,by rw[cD.1,hlen];rfl⟩
     ·cases g1
    ·exact absurd ag ak
   ·exact absurd ag ak
  ·exact absurd ag ak
 ·exact absurd ag ak
theorem Cy {t:TypeId} {x s y:Operand} {x' s' y':aD} (hr:Rel X T a μ) (ho:o.op= .entryStore t x s y)
  (h1:ct X x=some x') (h2:ct X s=some s') (h3:ct X y=some y') (ag: (av E (.pU x' s' y')).run C ⟨T,μ.O⟩=some (v,σ')):σ'.T=T∧cg X o a μ σ'.O v:=by
 simp only[av,aU] at ag
 have hx:=aC hr h1 μ.O
 have hs:=aC hr h2 μ.O
 have hy:=aC hr h3 μ.O
 split at ag
 ·rename_i r g e
  rw[e] at hx
  simp only[aU] at ag
  split at ag
  ·rename_i j kp
   rw[kp] at hs
   simp only[aU] at ag
   obtain⟨u,O1,k1,k2,k3,k4⟩:=gz (μ:=μ) hr.aS hy ag
   have Fy:=aj.mono k3 hx
   simp only[Act.run] at k1
   split at k1
   ·rename_i es aZ
    split at k1
    ·rename_i hc
     obtain⟨bP,bM,eB,iC,Y2⟩:=hc
     split at k1
     ·rename_i k' w0 eS
      simp only[Act.run,Zr,Zw] at k1
      obtain⟨rfl,rfl⟩:=k1
      simp only[aj] at Fy hs
      obtain⟨b,hp,mf,bq⟩:=Fy
      obtain⟨_,rfl⟩:=bq bP
      obtain⟨b7,ents,clock,hm,aV,cD⟩: (μ.φ r).cap≠0∧ ∃ents clock,μ.w.heap[(μ.φ r).bB]? =some (.map ents clock)∧ah X ⟨μ.w,μ.φ,O1⟩ es (ents.toList.map tk)∧im ents clock:=by
       rcases k4.ents r es aZ bM with h| ⟨_,s,pos,_,rfl⟩ | ⟨kp,rfl⟩
       ·exact h
       ·exfalso
        cases hn:j.toNat with
        | zero=>rw[hn] at eS;simp at eS
        | succ n=>rw[hn] at eS;cases n<;>simp at eS
       ·exfalso
        cases hn:j.toNat with
        | zero=>rw[hn] at eS;simp at eS
        | succ n=>rw[hn] at eS;simp at eS
      obtain⟨me,VH,XE⟩:=aV.get eS
      simp only[ZI,Zq] at VH
      obtain⟨en,TO,rfl⟩:=VH
      have Mr:ents[j.toNat]? =some en:=by simpa using TO
      obtain⟨t1,_⟩:=nK XE rfl
      have PW:ents.findIdx? (fun e=> (e.born:Int)==j)=some j.toNat:=by
       have bz:=(Zu.1 Mr).1
       rw[Array.findIdx?_eq_some_iff_getElem]
       refine⟨bz,?_,fun n hn=> ?_⟩
       ·have:=cD.at Mr
        rw[(Zu.1 Mr).2,this]
        simp;omega
       ·have xD:n<ents.size:=Zl
        have:=cD.at (ZQ xD)
        rw[this];simp;omega
      have iO:ah X ⟨μ.w,μ.φ,O1⟩ (es.set j.toNat (.tuple [k',u])) ((ents.modify j.toNat fun e=> {e with val:=a.eval y}).toList.map tk):=by
       have hl: (ents.modify j.toNat fun e=> {e with val:=a.eval y}).toList=ents.toList.set j.toNat {en with val:=a.eval y}:=by
        apply aah
        intro n
        rw[aaK,ZV,aat]
        by_cases hn:j.toNat=n
        ·subst hn
         have bz:=(Zs.1 TO).1
         simp only[if_true,bz,TO,ZE,and_self]
         rfl
        ·simp[hn]
       rw[hl,List.map_set]
       exact aV.set j.toNat (kj (me:={en with val:=a.eval y}) t1 k2)
      obtain⟨le,dW⟩:=eC (μ:=⟨μ.w,μ.φ,O1⟩) k4 r (es':=es.set j.toNat (.tuple [k',u])) (ob':= .map (ents.modify j.toNat fun e=> {e with val:=a.eval y}) clock) aZ eB bM hm b7 (.inl ⟨ents,clock,rfl,aV,cD⟩)
       (.inl ⟨_,_,rfl,iO,mV cD _ fun _=>rfl⟩)
      refine⟨rfl,undef,_,_,.inr ⟨?_,rfl⟩,by simp only[aj];exact⟨#[],rfl,by simp[ah]⟩,k3.trans le,dW⟩
      simp only[execOp,ho,hp,hs]
      refine uM ?_
      simp[Instr.entryStore,Go.MapKept.run_getObj_map hm,Sem.run_bind,Result.andThen,asInt,asIntOf,PW,Go.MapKept.run_setObj_map _ hm]
     ·exact absurd k1 ak
    ·exact absurd k1 ak
   ·exact absurd k1 ak
  ·exact absurd ag ak
 ·exact absurd ag ak
theorem nL: ∀ {ks:List Nat} {cs ds:List V},fF ks cs=true→fF ks ds=true→(cu ks cs ds).isSome=true
 | [],[],[],_,_=>rfl
 | [],[],_::_,_,h=>by simp[fF] at h
 | [],_::_,_,h,_=>by simp[fF] at h
 | k::ks,[],_,h,_=>by unfold fF at h;split at h<;>simp_all
 | k::ks,_::_,[],_,h=>by unfold fF at h;split at h<;>simp_all
 | k::ks,c::cs,d::ds,h,h'=>by
   unfold fF at h
   split at h
   ·simp_all
   ·rename_i e1 e2
    injection e1 with a1 a2;injection e2 with b1 b2;subst a1;subst a2;subst b1;subst b2
    unfold fF at h'
    split at h'<;>simp_all
    rename_i e1 e2 _
    have:=nL h h'
    obtain⟨b,hb⟩:=ZA.1 this
    obtain⟨rfl,rfl⟩:=e2
    simp[cu,Fs,hb]
   ·rename_i e1 e2
    injection e1 with a1 a2;injection e2 with b1 b2;subst a1;subst a2;subst b1;subst b2
    unfold fF at h'
    split at h'<;>simp_all
    have:=nL h h'
    obtain⟨b,hb⟩:=ZA.1 this
    simp[cu,Fs,hb]
   ·rename_i e1 e2
    injection e1 with a1 a2;injection e2 with b1 b2;subst a1;subst a2;subst b1;subst b2
    unfold fF at h'
    split at h'<;>simp_all
    have:=nL h h'
    obtain⟨b,hb⟩:=ZA.1 this
    simp[cu,Fs,hb]
   ·simp at h
theorem yq {ks:List Nat} {k k':V} (h:vx ks k=true) (h':vx ks k'=true): (eP ks k k').isSome=true:=by
 cases k<;>simp[vx] at h
 cases k'<;>simp[vx] at h'
 exact nL h h'
theorem uZ {ks:List Nat} {k:V} (hk:vx ks k=true): ∀ {es:List V},es.all (Bp ks)=true→ ∃r,fa ks k es=some r∧dG ks k es=r.getD (.int .i64 0)
 | [],_=> ⟨none,rfl,rfl⟩
 | e::es,h=>by
   simp only[aad,Zt] at h
   obtain⟨h1,h2⟩:=h
   unfold Bp at h1
   split at h1
   ·rename_i k' n
    obtain⟨b,hb⟩:=ZA.1 (yq hk h1)
    cases b with
    | true=>exact⟨some (.int .i64 n),by simp[fa,hb],by simp[dG,hb]⟩
    | false=>
      obtain⟨r,h3,h4⟩:=uZ hk h2
      exact⟨r,by simp[fa,hb,h3],by simp[dG,hb,h4]⟩
   ·simp at h1
theorem wS {z:V} (h:isZero z=true):z= .int .i64 0:=by
 unfold isZero at h
 split at h
 ·rename_i n;simp at h;rw[h]
 ·simp at h
theorem Ms {x' i':aD} {ks:List Nat} {T:Nat→V} {O:Nat→Obj} {p:V×St} (ag: (av E (.iK ks x' i')).run C ⟨T,O⟩=some p): (av E (.ns ks false (.int .i64 0) x' i')).run C ⟨T,O⟩=some p:=by
 simp only[av,aU] at ag ⊢
 split at ag
 ·rename_i r g e
  rw[e]
  simp only[aU,Act.run] at ag
  unfold Bq iz at ag
  split at ag
  ·rename_i gen sz f hc
   simp only[Zw] at hc
   obtain⟨rfl,rfl,hc⟩:=hc
   cases aZ: (O r).es with
   | none=>rw[aZ] at hc;simp at hc
   | some es=>
     rw[aZ] at hc
     simp only[ZE,Zr,Zw] at hc
     obtain⟨kb,rfl⟩:=hc
     split at ag
     ·rename_i TJ
      obtain⟨c1,c2,c3⟩:=TJ
      rw[if_pos (yq c3 c3)]
      simp only[Act.run,aZ]
      rw[if_pos ⟨c1,c2⟩]
      obtain⟨q,q1,q2⟩:=uZ c3 kb
      unfold eZ
      rw[q1]
      simp only[q2] at ag
      cases q<;>simpa using ag
     ·exact absurd ag ak
  ·exact absurd ag ak
 ·exact absurd ag ak
theorem Mt {x' i':aD} {ks:List Nat} {T:Nat→V} {O:Nat→Obj} {p:V×St} (ag: (av E (.iL ks x' i')).run C ⟨T,O⟩=some p): (av E (.pT ks (.int .i64 0) x' i')).run C ⟨T,O⟩=some p:=by
 simp only[av,aU] at ag ⊢
 split at ag
 ·rename_i r g e
  simp only[e,aU,Act.run] at ag ⊢
  cases aZ: (O r).es with
  | none=>rw[aZ] at ag;exact absurd ag ak
  | some es=>
    rw[aZ] at ag
    simp only at ag ⊢
    split at ag
    ·rename_i hc
     rw[if_pos ⟨hc.1,hc.2.1,hc.2.2.1,yq hc.2.2.2.1 hc.2.2.2.1,rfl⟩]
     exact ag
    ·exact absurd ag ak
 ·exact absurd ag ak
theorem u4 {ks:List Nat} {k k':V}: ∀es:List V,dG ks k' (es++[.tuple [k,.int .i64 0]])=dG ks k' es
 | []=>by
   simp only[Z8,dG]
   split<;>rfl
 | e::es=>by
   have ih:=u4 (ks:=ks) (k:=k) (k':=k') es
   rw[Z2]
   cases e<;>try (simp only[dG,ih];done)
   rename_i l
   match l with
   | []=>simp only[dG,ih]
   | [_]=>simp only[dG,ih]
   | [_,_]=>simp only[dG,ih]
   | _::_::_::_=>simp only[dG,ih]
theorem wT {x' i':aD} {ks:List Nat} {σ σ':St} {v:V} (ag: (av E (.iL ks x' i')).run C σ=some (v,σ')):σ'.T=σ.T∧ ∀n,iz ks (σ'.O n)=iz ks (σ.O n):=by
 obtain⟨T,O⟩:=σ
 simp only[av,aU] at ag
 split at ag
 ·rename_i r g e
  simp only[aU,Act.run] at ag
  cases aZ: (O r).es with
  | none=>rw[aZ] at ag;exact absurd ag ak
  | some es=>
    rw[aZ] at ag
    simp only at ag
    split at ag
    ·rename_i hc
     obtain⟨c1,c2,c3,c4,c5⟩:=hc
     split at ag
     ·simp only[Act.run,Zr,Zw] at ag
      obtain⟨_,rfl⟩:=ag
      refine⟨rfl,fun n=> ?_⟩
      by_cases hn:n=r
      ·subst hn;simp only[an,iz,aZ]
      ·simp only[aG _ _ hn]
     ·rename_i EV
      simp only[Act.run,Zr,Zw] at ag
      obtain⟨_,rfl⟩:=ag
      refine⟨rfl,fun n=> ?_⟩
      by_cases hn:n=r
      ·subst hn
       simp only[an,iz,aZ,ZE]
       refine congrArg (fun q=> ((O n).gen,(O n).sz,some q)) (Prod.ext ?_ ?_)
       ·simp only[aao,aad,List.all_nil,aaV]
        rw[c5]
        simp only[Bp,c4,Z6]
       ·funext k'
        exact u4 es
      ·simp only[aG _ _ hn]
     ·exact absurd ag ak
    ·exact absurd ag ak
 ·exact absurd ag ak
theorem Cz {t kt et:TypeId} {x i:Operand} {x' i':aD} {ks:List Nat} {z:V} (hr:Rel X T a μ) (ho:o.op= .lookup t x i false) (ht:bd X t=some (.map kt et)) (hk:cP X kt=some ks)
  (hz:dU X et=some z) (JL:isZero z=true) (h1:ct X x=some x') (h2:ct X i=some i') (ag: (av E (.iK ks x' i')).run C ⟨T,μ.O⟩=some (v,σ')):σ'.T=T∧cg X o a μ σ'.O v:=by
 obtain rfl:=wS JL
 exact uW hr ho ht hk hz h1 h2 (Ms ag)
theorem CA {t kt et:TypeId} {x i:Operand} {x' i':aD} {ks:List Nat} {z:V} (hr:Rel X T a μ) (ho:o.op= .mapEntry t x i) (ht:bd X t=some (.map kt et)) (hk:cP X kt=some ks)
  (hz:dU X et=some z) (JL:isZero z=true) (h1:ct X x=some x') (h2:ct X i=some i') (ag: (av E (.iL ks x' i')).run C ⟨T,μ.O⟩=some (v,σ')):σ'.T=T∧cg X o a μ σ'.O v:=by
 obtain rfl:=wS JL
 exact Cx hr ho ht hk hz h1 h2 (Mt ag)
end
end Go.AM
namespace Go.AM
open Go Go.RowKit
def qS.gB:qS→Bool
 | .call .. =>true
 | _=>false
section
variable {X:Ctx} {E:Env} {C:aQ} {o:Oper} {a:Go.Act} {T:Nat→V} {μ:Mu} {v:V} {σ':St}
theorem DP {p:V×St} {σ:St}: (av E .bad).run C σ≠some p:=by simp[av,Act.run]
theorem CB {h:Hints} {dst:Nat} {c:Call} {nV:qS} (hr:Rel X T a μ) (ho:o.op= .call c) (az:uH X h dst c=some nV) (Cv:nV.gB=false)
  (ag: (av E nV).run C ⟨T,μ.O⟩=some (v,σ')):σ'.T=T∧cg X o a μ σ'.O v:=by
 unfold uH at az
 split at az
 ·split at az
  ·injection az with az;subst az;simp[qS.gB] at Cv
  ·simp at az
 ·simp at az
 ·rename_i b hc
  have iU: ∀ {α:Type} (l:Array α) (m:List α),l.toList=m→l=m.toArray:=fun l m e=>by rw[←e]
  split at az
  ·rename_i x t h1 h2
   have e1:=iU _ _ h1;have e2:=iU _ _ h2
   split at az
   ·rename_i x' e hx hd
    injection az with az;subst az
    exact Mf hr ho hc e1 e2 hd hx ag
   ·rename_i x' hx hd
    injection az with az;subst az
    exact EJ hr ho hc e1 e2 hd hx ag
   ·rename_i x' n e hx hd
    injection az with az;subst az
    exact EK hr ho hc e1 e2 hd ag
   ·simp at az
  ·rename_i xs _
   simp only[Zq] at az
   obtain⟨au,h1,rfl⟩:=az
   exact Mg hr ho hc h1 ag
  ·rename_i xs _
   simp only[Zq] at az
   obtain⟨au,h1,rfl⟩:=az
   exact Mh hr ho hc h1 ag
  ·rename_i s x t t' h1 h2
   have e1:=iU _ _ h1;have e2:=iU _ _ h2
   split at az
   ·rename_i s' x' e d hs hx hd Hg
    split at az
    ·rename_i sz i z e' hn hi hz
     split at az<;>simp at az
     rename_i hb
     subst az
     unfold JF at ag
     split at ag
     ·exact uY hr ho hc e1 e2 hd Hg Zm hn hi hz hb hs hx ag
     ·exact rO hr ho hc e1 e2 hd Hg Zm hn hi hz hb hs hx ag
    ·rename_i sz i z hn hi hz
     split at az<;>simp at az
     rename_i hb
     subst az
     unfold JF at ag
     split at ag
     ·exact uY hr ho hc e1 e2 hd Hg Zm hn hi hz hb hs hx ag
     ·exact rO hr ho hc e1 e2 hd Hg Zm hn hi hz hb hs hx ag
    ·simp at az
   ·simp at az
  ·rename_i x t h1 h2
   have e1:=iU _ _ h1;have e2:=iU _ _ h2
   split at az
   ·rename_i x' e hx hd
    split at az
    ·rename_i sz z hn hz
     injection az with az;subst az
     exact HE hr ho hc e1 e2 hd hz hx ag
    ·simp at az
   ·simp at az
  ·simp at az
theorem lN {kt:TypeId} {q:Option IntKind} (h:qv X kt=some q): ∃d,bd X kt=some d∧gP q d:=by
 unfold qv at h
 split at h
 ·rename_i k hk
  injection h with h;subst h
  exact⟨_,hk,rfl⟩
 ·rename_i hk
  injection h with h;subst h
  exact⟨_,hk,rfl⟩
 ·simp at h
theorem HJ (Az: ∀t1 t2 k,X.rK t1=some k→X.rK t2=some k→t1=t2) {h:Hints} {dst:Nat} {nV:qS} (hr:Rel X T a μ) (az:vF X h dst o.op=some nV) (Cv:nV.gB=false)
  (ag: (av E nV).run C ⟨T,μ.O⟩=some (v,σ')):σ'.T=T∧cg X o a μ σ'.O v:=by
 cases dm:o.op<;>simp only[vF,dm] at az<;>try (simp at az;done)
 case move x=>
  split at az
  · simp only[Zq] at az
    obtain⟨y,h1,rfl⟩:=az
    exact DL hr (.inl dm) h1 ag
  · split at az
    ·  simp only[Zq] at az
       obtain⟨y,h1,rfl⟩:=az
       exact DO hr (.inl dm) h1 ag
    ·exact KJ hr (.inl dm) az ag
 case assign x=>
  split at az
  · simp only[Zq] at az
    obtain⟨y,h1,rfl⟩:=az
    exact DL hr (.inr dm) h1 ag
  · split at az
    ·  simp only[Zq] at az
       obtain⟨y,h1,rfl⟩:=az
       exact DO hr (.inr dm) h1 ag
    ·exact KJ hr (.inr dm) az ag
 case pick c p q=>
  split at az
  · rename_i c' p' q' h1 h2 h3
    injection az with az;subst az
    exact JJ hr dm h1 h2 h3 ag
  ·simp at az
 case alloc t=>
  split at az
  · rename_i sz z h1 h2
    injection az with az;subst az
    exact Ht _ hr dm h2 ag
  ·simp at az
 case box t x=>
  split at az
  · rename_i sz y h1 h2
    injection az with az;subst az
    exact Mj _ hr dm h2 ag
  ·simp at az
 case build t ps=>
  split at az
  · rename_i z fs h1 h2
    split at az
    ·simp at az
    ·  rename_i kb
       simp only[Zq] at az
       obtain⟨au,h3,rfl⟩:=az
       exact EO _ hr dm h1 h2 (by revert kb;cases fs.toList.all (fun f=> (bj X f.type).isSome) <;>simp) h3 ag
  · rename_i z n e h1 h2
    split at az
    ·  rename_i s hs
       simp only[Zq] at az
       obtain⟨au,h3,rfl⟩:=az
       exact EP _ hr dm h1 h2 hs h3 ag
    ·simp at az
  ·simp at az
 case buildSlice t n ps=>
  split at az
  · rename_i e hd
    split at az
    ·  rename_i sz z au h1 h2 h3
       injection az with az;subst az
       exact vH hr dm hd h1 h2 h3 ag
    ·simp at az
  ·simp at az
 case load t x=>
  split at az
  · rename_i g sz y h1 h2 h3
    injection az with az;subst az
    split at ag
    ·exact DJ hr dm h3 h1 h2 ag
    ·exact Ho _ hr dm h3 h1 h2 ag
  ·simp at az
 case store t x y=>
  split at az
  · rename_i g sz x' y' h1 h2 h3 h4
    injection az with az
    split at az
    ·subst az;exact EN hr dm h3 h4 h2 ag
    ·subst az;exact Hu hr dm h3 h4 h2 ag
  ·simp at az
 case nilCheck x=>
  simp only[Zq] at az
  obtain⟨y,h1,rfl⟩:=az
  exact Ac hr dm h1 ag
 case binOp op t x y t2=>
  split at az
  · rename_i x' y' h1 h2
    unfold DH at az
    split at az
    ·  rename_i heq
       have Mv:op= .eql∨op= .neq:=by cases op<;>simp[Hi] at heq<;>simp
       split at az
       ·injection az with az;subst az
        exact Cl hr dm h1 h2 ag
       ·injection az with az;subst az
        exact Cl hr dm h1 h2 ag
       ·rename_i e hd
        split at az
        ·rename_i n bM
         injection az with az;subst az
         exact Me hr dm Mv hd bM h1 h2 rfl ag
        ·simp at az
       ·rename_i fs hd
        split at az
        ·rename_i hg
         simp only[Zq] at az
         obtain⟨ks,h3,rfl⟩:=az
         exact Hn hr dm Mv hg h3 (by simp[eu,hd]) h1 h2 rfl ag
        ·simp at az
       ·rename_i hd
        split at az
        ·rename_i hg
         simp only[Zq] at az
         obtain⟨ks,h3,rfl⟩:=az
         exact Hn hr dm Mv hg h3 (by simp[eu,hd]) h1 h2 rfl ag
        ·simp at az
       ·simp at az
    ·  injection az with az;subst az
       exact Cl hr dm h1 h2 ag
  ·simp at az
 case unOp op t x=>
  simp only[Zq] at az
  obtain⟨y,h1,rfl⟩:=az
  exact PK hr dm h1 ag
 case convert s d x=>
  split at az
  · rename_i k0 k y h1 h2 h3
    injection az with az;subst az
    exact Cm hr dm h1 h2 h3 ag
  · rename_i k0 y h1 h2 h3
    injection az with az;subst az
    exact EH hr dm h1 h2 h3 ag
  · rename_i k y h1 h2 h3
    injection az with az;subst az
    exact EI hr dm h1 h2 h3 ag
  ·simp at az
 case makeInterface t x=>
  injection az with az;subst az
  exact absurd ag DP
 case makeFunc fn first caps=>
  cases fn<;>simp only at az<;>try (simp at az;done)
  split at az
  · rename_i hf
    split at az
    ·  rename_i n cs h1 h2
       injection az with az
       split at az
       ·subst az;exact ym hr dm hf h1 h2 ag
       ·subst az;exact Ad hr dm hf h1 h2 ag
    ·simp at az
  · split at az
    ·  rename_i hf
       split at az
       ·rename_i n cs h1 h2
        injection az with az;subst az
        exact yh hr dm hf h1 h2 ag
       ·simp at az
    ·simp at az
 case slice t x lo hi mx=>
  split at az
  · rename_i e x' Q7 nU Q8 hd h1 h2 h3 h4
    simp only[Zq] at az
    obtain⟨sz,hn,rfl⟩:=az
    exact Hp hr dm hd hn h1 h2 h3 h4 ag
  ·simp at az
 case fieldAddr s x i=>
  split at az
  · rename_i fs y hd h1
    split at az
    ·  rename_i f hf
       split at az
       ·rename_i n hn
        injection az with az;subst az
        exact yg hr dm h1 hd hf hn ag
       ·simp at az
    ·simp at az
  ·simp at az
 case indexAddr t x i=>
  split at az
  · rename_i e x' i' hd h1 h2
    simp only[Zq] at az
    obtain⟨sz,hn,rfl⟩:=az
    exact yi hr dm hd hn h1 h2 ag
  · rename_i n e x' i' hd h1 h2
    simp only[Zq] at az
    obtain⟨sz,hn,rfl⟩:=az
    exact Ag hr dm hd hn h1 h2 ag
  ·simp at az
 case index t x i=>
  split at az
  · rename_i x' i' hd h1 h2
    injection az with az;subst az
    exact Ah hr dm hd h1 h2 ag
  ·simp at az
 case extract x i=>
  simp only[Zq] at az
  obtain⟨y,h1,rfl⟩:=az
  exact Cj hr dm h1 ag
 case makeMap t rs=>
  cases rs with
  | some _=>simp at az
  | none=>
    injection az with az;subst az
    exact HG hr dm rfl ag
 case range t x=>
  split at az
  · rename_i x' hd h1
    injection az with az;subst az
    exact Cw hr dm hd h1 ag
  ·simp at az
 case lookup t x i ok=>
  split at az
  · rename_i kt et x' i' hd h1 h2
    split at az
    ·  rename_i q z hq hz
       injection az with az;subst az
       obtain⟨d,Hc,hk⟩:=lN hq
       exact ET hr dm hd Hc hk hz h1 h2 ag
    ·  rename_i z hq hz
       simp only[Zq] at az
       obtain⟨ks,hk,az⟩:=az
       split at az
       ·rename_i hc
        simp only[Zt,Z4] at hc
        obtain⟨⟨_,rfl⟩,JL⟩:=hc
        subst az
        exact Cz hr dm hd hk hz JL h1 h2 ag
       ·subst az
        exact uW hr dm hd hk hz h1 h2 ag
    ·simp at az
  ·simp at az
 case mapUpdate t m k v=>
  split at az
  · rename_i kt et m' k' v' hd h1 h2 h3
    split at az
    ·  rename_i q hq
       injection az with az;subst az
       obtain⟨d,Hc,hk⟩:=lN hq
       exact wR hr (.inl dm) hd Hc hk h1 h2 h3 ag
    ·  simp only[Zq] at az
       obtain⟨ks,hk,rfl⟩:=az
       exact uX hr (.inl dm) hd hk h1 h2 h3 ag
  ·simp at az
 case mapEntry t m k=>
  split at az
  · rename_i kt et m' k' hd h1 h2
    split at az
    ·  rename_i ks z hk hz
       split at az
       ·rename_i hc
        simp only[Zt] at hc
        injection az with az
        subst az
        exact CA hr dm hd hk hz hc.2 h1 h2 ag
       ·simp at az
    ·simp at az
  ·simp at az
 case entryStore t m s v=>
  split at az
  · rename_i m' s' v' h1 h2 h3
    injection az with az;subst az
    exact Cy hr dm h1 h2 h3 ag
  ·simp at az
 case insert t m k v=>
  split at az
  · rename_i kt et m' k' v' hd h1 h2 h3
    split at az
    ·  rename_i q hq
       injection az with az;subst az
       obtain⟨d,Hc,hk⟩:=lN hq
       exact wR hr (.inr dm) hd Hc hk h1 h2 h3 ag
    ·  simp only[Zq] at az
       obtain⟨ks,hk,rfl⟩:=az
       exact uX hr (.inr dm) hd hk h1 h2 h3 ag
  ·simp at az
 case call c=>exact CB hr dm az Cv ag
end
end Go.AM
namespace Go.AM
open Go Go.RowKit
def oF (X:Ctx) (E:Env) (C:aQ):Prop:= ∀ (h:Hints) (dst:Nat) (o:Oper) (nV:qS) (a:Go.Act) (T:Nat→V) (μ:Mu) (v:V) (σ':St),Rel X T a μ→vF X h dst o.op=some nV→
 (av E nV).run C ⟨T,μ.O⟩=some (v,σ')→σ'.T=T∧ ∀ (next:Go.Act→World→Prop) (Q:Go.Exit→Go.Act→World→Prop),
   (∀val w' φ',aj X ⟨w',φ',σ'.O⟩ v val→Le μ ⟨w',φ',σ'.O⟩→aP X ⟨w',φ',σ'.O⟩→next (a.put o.dst val) w')→o.wp X.P a μ.w next Q
structure Fp where
 tm:Nat
 fl:Nat
 ro:Option Nat
def Marks (n:Fp) (w:World) (ds:List Deferred):Prop:=(n.fl≤w.heap.size∧ ∀l,n.ro=some l→ ∃L,w.heap[l]? =some (.loop L))∧ ∃Ds:List Nat,ds=Ds.map (fun D=> {target:= .collected D,args:= #[]})∧Ds.Nodup∧ ∀D ∈ Ds,n.fl≤D∧w.heap[D]? =some (.deferred (some []))
theorem Marks.nil {n:Fp} {w:World} (h:n.fl≤w.heap.size) (hl: ∀l,n.ro=some l→ ∃L,w.heap[l]? =some (.loop L)):Marks n w []:=⟨⟨h,hl⟩,[],rfl,.nil,Zm⟩
theorem dy {X:Ctx} {μ:Mu} (ho:aP X μ) {D:Nat} {o:Go.Obj} (hD:μ.w.heap[D]? =some o) (h1:o.isCells=false) (h2:o.isWalk=false): ¬μ.own D:=by
 rintro⟨r,hr,_,hc,hb⟩
 obtain⟨es,aZ⟩:=ZA.1 hr
 rcases ho.ok r es aZ with⟨_,_,_,h4⟩ | ⟨_,_,ob,h3,h4⟩
 ·rcases h4 with h4| ⟨c,T,vs,k1,_⟩
  ·exact hc h4
  ·rw[hb,hD] at k1;injection k1 with k1;subst k1;simp[Obj.isCells] at h1
 ·rw[hb,hD] at h3;injection h3 with h3;subst h3
  rcases h4 with⟨_,_,rfl,_⟩ | ⟨_,_,rfl,_⟩ | ⟨_,_,_,rfl,_⟩ <;>simp[Obj.isWalk] at h2
theorem Marks.le {X:Ctx} {μ μ':Mu} {n:Fp} {ds:List Deferred} (h:Marks n μ.w ds) (ho:aP X μ) (le:Le μ μ'):Marks n μ'.w ds:=by
 obtain⟨⟨h0,jJ⟩,Ds,h1,h2,h3⟩:=h
 refine⟨⟨Z1 h0 le.size,fun l hl=>by
  obtain⟨L,k⟩:=jJ l hl
  exact⟨L,(le.bR l (Zu.1 k).1 (dy ho k rfl rfl)).1.trans k⟩⟩,Ds,h1,h2,fun D hD=> ⟨(h3 D hD).1,?_⟩⟩
 have k:=(h3 D hD).2
 rw[(le.bR D (Zu.1 k).1 (dy ho k rfl rfl)).1]
 exact k
structure iD (X:Ctx) (μ0:Mu) (n:Fp) (σ:St) (a:Go.Act) (w:World):Prop where
 defers:Marks n w a.defers
 size:a.tmps.size=n.1
 rel: ∃φ,Rel X σ.T a ⟨w,φ,σ.O⟩∧Le μ0 ⟨w,φ,σ.O⟩
section
variable {X:Ctx} {E:Env} {C:aQ} {μ0:Mu} {n:Fp}
theorem nM {T:Nat→V} {a:Go.Act} {μ μ':Mu} {dst:Option Nat} {v:V} {val:Value} (hr:Rel X T a μ) (le:Le μ μ') (ho:aP X μ') (hv:aj X μ' v val) (hd:dst.all (· <a.tmps.size)=true) (O:Nat→Obj):
   Rel X (St.put ⟨T,O⟩ dst v).T (a.put dst val) μ':=by
 refine⟨fun t=> ?_,ho⟩
 cases dst with
 | none=>exact aj.mono le (hr.tmps t)
 | some d=>
   simp at hd
   simp only[St.put,Go.Act.put,cC]
   split
   ·rename_i e
    subst e
    have: (a.tmps.setIfInBounds t val).getD t undef=val:=by simp[hd]
    rw[this];exact hv
   ·rename_i bQ
    have: (a.tmps.setIfInBounds d val).getD t undef=a.tmps.getD t undef:=by
     simp[aae (fun e=>bQ e.symm)]
    rw[this];exact aj.mono le (hr.tmps t)
theorem kR (a:Go.Act) (dst:Option Nat) (v:Value): (a.put dst v).tmps.size=a.tmps.size:=by cases dst<;>simp[Go.Act.put]
theorem put_defers (a:Go.Act) (dst:Option Nat) (v:Value): (a.put dst v).defers=a.defers:=by cases dst<;>simp[Go.Act.put]
theorem rS {μ:Mu}:aj X μ cY undef:=by simp only[cY,aj];exact⟨#[],rfl,by simp[ah]⟩
theorem pq (H:oF X E C) {h:Hints} {ops:Array Oper} {i:Nat} {o:Oper} {ao:bC} {σ σ':St} {a:Go.Act} {w:World} {K:Go.Act→World→Prop} {Q:Go.Exit→Go.Act→World→Prop}
  (ho:ops[i]? =some o) (az:mL X h ops o=some ao) (hn:h.n=n.1) (hs:iD X μ0 n σ a w) (ag:dc E C ao σ=some σ') (hK: ∀a' w',iD X μ0 n σ' a' w'→K a' w'):
  wpOpIn (Fr n.ro) 0 X.P ops Q i K a w:=by
 obtain⟨iV,bM,φ,hr,hle⟩:=hs
 unfold mL at az
 simp only at az
 split at az
 ·rename_i g hg yr
  injection az with az
  subst az
  have hd:o.dst.all (· <a.tmps.size)=true:=by rw[bM,←hn];exact yr
  simp only[dc] at ag
  split at ag
  ·rename_i v σ1 pt
   injection ag with ag
   subst ag
   have runs: (av E ((vF X h (o.dst.getD 0) o.op).getD .bad)).run C σ=some (v,σ1)→o.wpIn (Fr n.ro) 0 X.P a w K Q:=fun dm=>by
     cases HK:vF X h (o.dst.getD 0) o.op with
     | none=>rw[HK] at dm;exact absurd dm DP
     | some nV=>
       rw[HK] at dm
       obtain⟨hT,TP⟩:=H h _ o nV a σ.T ⟨w,φ,σ.O⟩ v σ1 hr HK dm
       refine tH (fun c e=>by rw[e] at HK;simp[vF] at HK) (TP K Q fun val w' φ' hv le dW=>hK _ _ ⟨by rw[put_defers];exact iV.le hr.aS le,by rw[kR];exact bM,φ',?_,?_⟩)
       ·have:=nM hr le dW hv hd σ1.O
        rw[←hT] at this
        have e: (σ1.put o.dst v).O=σ1.O:=by cases o.dst<;>rfl
        rw[e];exact this
       ·have e: (σ1.put o.dst v).O=σ1.O:=by cases o.dst<;>rfl
        rw[e];exact hle.trans le
   have KS:v=cY→σ1=σ→K (a.put o.dst undef) w:=fun hv hσ=>by
     subst hv;subst hσ
     refine hK _ _ ⟨by rw[put_defers];exact iV,by rw[kR];exact bM,φ,?_,?_⟩
     · have:=nM hr (Le.refl _) hr.aS rS hd σ1.O
       have e: (σ1.put o.dst cY).O=σ1.O:=by cases o.dst<;>rfl
       rw[e];exact this
     · have e: (σ1.put o.dst cY).O=σ1.O:=by cases o.dst<;>rfl
       rw[e];exact hle
   simp only[wpOpIn,ho]
   cases EG:o.guard with
   | none=>
     rw[EG] at hg
     injection hg with hg
     subst hg
     rw[if_pos (by simp[Region.wanted,EG])]
     exact runs (by simpa [bX] using pt)
   | some gw=>
     obtain⟨j,want⟩:=gw
     rw[EG] at hg
     simp only at hg
     split at hg
     · rename_i d VI
       injection hg with hg
       subst hg
       simp only[bX,Act.run] at pt
       have hv:=hr.tmps d
       split at pt
       ·rename_i b hb
        rw[hb] at hv
        simp only[aj] at hv
        have bz:d<a.tmps.size:=by
         rcases Nat.lt_or_ge d a.tmps.size with hl| hl
         ·exact hl
         ·simp[aaN hl,undef] at hv
        have TQ:a.tmps[d]? =some (.bool b):=by
         rw[ZQ bz]
         simp[ZQ bz] at hv
         rw[hv]
        have hy:yielded ops a.tmps j=some b:=by simp[yielded,VI,TQ]
        split at pt
        ·rename_i NJ
         rw[if_pos (by simp[Region.wanted,EG,hy,NJ])]
         exact runs pt
        ·rename_i NJ
         rw[if_neg (by simp[Region.wanted,EG,hy,NJ])]
         obtain⟨e1,e2⟩:=aI pt
         exact⟨fun _ _=>trivial,KS e1.symm e2⟩
       ·rename_i hb
        rw[hb] at hv
        simp only[aj] at hv
        obtain⟨vs,la,QZ⟩:=hv
        have hy:yielded ops a.tmps j=none:=by
         simp only[yielded,VI,Option.bind_some]
         cases hq:a.tmps[d]? with
         | none=>rfl
         | some x=>
           have:x= .tuple vs:=by simpa [hq] using la
           rw[this]
        rw[if_neg (by simp[Region.wanted,EG,hy])]
        obtain⟨e1,e2⟩:=aI pt
        exact⟨fun _ _=>trivial,KS e1.symm e2⟩
       ·exact absurd pt ak
     ·simp at hg
  ·simp at ag
 ·simp at az
theorem j4 {h:Hints} {ops:Array Oper}: ∀ {l:List Oper} {au:List bC},fi X h ops l=some au→au.length=l.length∧ ∀ (i:Nat) o,l[i]? =some o→ ∃ao,au[i]? =some ao∧mL X h ops o=some ao
 | [],au,h'=>by simp[fi] at h';subst h';simp
 | o::l,au,h'=>by
   simp only[fi] at h'
   split at h'
   ·rename_i ao Mn h1 h2
    injection h' with h';subst h'
    obtain⟨k1,k2⟩:=j4 h2
    refine⟨by simp[k1],fun i o' hi=> ?_⟩
    cases i with
    | zero=>simp at hi;subst hi;exact⟨ao,Zm,h1⟩
    | succ i=>simpa using k2 i o' (by simpa using hi)
   ·simp at h'
theorem EW {ao:bC} {σ:St} {p:List Nat}:dc E C {ao with pre:=p} σ=dc E C ao σ:=rfl
theorem dN (H:oF X E C) {h:Hints} {ops:Array Oper} {au:List bC} (hn:h.n=n.1) (az:fi X h ops ops.toList=some au) {Q:Go.Exit→Go.Act→World→Prop}:
   ∀ (m k:Nat),k+m=ops.size→ ∀ {σ σ':St} {a:Go.Act} {w:World},iD X μ0 n σ a w→fo E C ((au.drop k).map fun o=> {o with pre:=[]}) σ=some σ'→
    (∀a' w',iD X μ0 n σ' a' w'→Q .normal a' w')→wpOpsIn (Fr n.ro) 0 X.P ops Q (List.range' k m) a w
 | 0,k,hk,σ,σ',a,w,hs,ag,hQ=>by
   obtain⟨hl,_⟩:=j4 az
   have:au.drop k=[]:=by simp at hl;simp;omega
   rw[this] at ag
   simp[fo] at ag
   subst ag
   simpa [wpOpsIn] using hQ a w hs
 | m+1,k,hk,σ,σ',a,w,hs,ag,hQ=>by
   obtain⟨hl,eS⟩:=j4 az
   have Ki:k<ops.size:=Zl
   obtain⟨ao,EX,kS⟩:=eS k ops[k] (by simp[Ki])
   have VJ:k<au.length:=by simp at hl;omega
   have hd:au.drop k=ao::au.drop (k+1):=by
    rw[ZP VJ]
    rw[Zv VJ] at EX
    injection EX with EX;rw[EX]
   rw[hd] at ag
   simp only[List.map_cons,fo,EW] at ag
   split at ag
   ·rename_i σ1 h1
    rw[List.range'_succ,wpOpsIn_cons]
    refine pq H (o:=ops[k]) (by simp[Ki]) kS hn hs h1 fun a' w' fw=> ?_
    exact dN H hn az m (k+1) Zl fw ag hQ
   ·simp at ag
end
end Go.AM
namespace Go.AM
open Go Go.RowKit
inductive Cell where
 | v (x:V)
 | o (x:Obj)
 | m (x:Nat×Nat×Option (Bool× (V→V)))
inductive CC where
 | t (n:Nat)
 | o (n:Nat)
 | m (n:Nat) (ks:List Nat)
def St.at (σ:St):CC→Cell
 | .t n=> .v (σ.T n)
 | .o n=> .o (σ.O n)
 | .m n ks=> .m (iz ks (σ.O n))
def St.rT (σ:St):Loc→Cell
 | .t n=> .v (σ.T n)
 | .o n=> .o (σ.O n)
 | _=> .v cY
def rd (f:dn):CC→Prop
 | .t n=>Loc.t n ∈ f.reads
 | .o n=>Loc.o n ∈ f.reads
 | .m n ks=>Loc.m n ks ∈ f.reads
def wr (f:dn):CC→Prop
 | .t n=>Loc.t n ∈ f.writes
 | .o n=>Loc.o n ∈ f.writes∨ ∃ks,Loc.e n ks ∈ f.writes
 | .m n ks=>Loc.o n ∈ f.writes∨ ∃qU,qU≠ks∧Loc.e n qU ∈ f.writes
def EY (a b:dn):Prop:= ∃l,(wr a l∧wr b l)∨(wr a l∧rd b l)∨(rd a l∧wr b l)
theorem EY.symm {a b:dn} (h:EY a b):EY b a:=by
 obtain⟨l,h⟩:=h
 exact⟨l,by rcases h with⟨h1,h2⟩ | ⟨h1,h2⟩ | ⟨h1,h2⟩ <;>simp[h1,h2]⟩
theorem eF {a b:List Loc} {x y:Loc} (hx:x ∈ a) (hy:y ∈ b) (h:x.ru y=true):meets a b=true:=by
 simp only[meets,List.any_eq_true]
 exact⟨x,hx,y,hy,h⟩
theorem EY.jl {a b:dn} (h:EY a b):a.jl b=true:=by
 simp only[dn.jl,aaH]
 obtain⟨l,⟨h1,h2⟩ | ⟨h1,h2⟩ | ⟨h1,h2⟩⟩:=h
 ·refine .inl (.inl ?_)
  cases l with
  | t n=>exact eF h1 h2 (by simp[Loc.ru])
  | o n=>rcases h1 with h1| ⟨k1,h1⟩ <;>rcases h2 with h2| ⟨k2,h2⟩ <;>exact eF h1 h2 (by simp[Loc.ru])
  | m n ks=>rcases h1 with h1| ⟨k1,_,h1⟩ <;>rcases h2 with h2| ⟨k2,_,h2⟩ <;>exact eF h1 h2 (by simp[Loc.ru])
 ·refine .inl (.inr ?_)
  cases l with
  | t n=>exact eF h1 h2 (by simp[Loc.ru])
  | o n=>rcases h1 with h1| ⟨k1,h1⟩ <;>exact eF h1 h2 (by simp[Loc.ru])
  | m n ks=>
    rcases h1 with h1| ⟨k1,hk,h1⟩
    ·exact eF h1 h2 (by simp[Loc.ru])
    ·exact eF h1 h2 (by simp[Loc.ru,hk])
 ·refine .inr ?_
  cases l with
  | t n=>exact eF h1 h2 (by simp[Loc.ru])
  | o n=>rcases h2 with h2| ⟨k2,h2⟩ <;>exact eF h1 h2 (by simp[Loc.ru])
  | m n ks=>
    rcases h2 with h2| ⟨k2,hk,h2⟩
    ·exact eF h1 h2 (by simp[Loc.ru])
    ·exact eF h1 h2 (by simp[Loc.ru,Ne.symm hk])
theorem St.ext' {σ τ:St} (h: ∀l,σ.at l=τ.at l):σ=τ:=by
 cases σ;cases τ
 congr
 ·funext n;have:=h (.t n);simpa [St.at] using this
 ·funext n;have:=h (.o n);simpa [St.at] using this
theorem ja {C:aQ}: ∀ (act:Act) {σ τ σ':St} {v:V},act.run C σ=some (v,σ')→(∀l ∈ (act.b5 C σ).reads,σ.rT l=τ.rT l)→
   ∃τ',act.run C τ=some (v,τ')∧act.b5 C τ=act.b5 C σ∧ ∀l,(l ∈ (act.b5 C σ).writes→τ'.rT l=σ'.rT l)∧(l ∉ (act.b5 C σ).writes→τ'.rT l=τ.rT l∧σ'.rT l=σ.rT l)
 | .done u,σ,τ,σ',v,h,_=>by
   simp only[Act.run,Zr,Zw] at h
   obtain⟨rfl,rfl⟩:=h
   exact⟨τ,rfl,rfl,fun l=> ⟨fun hl=>by simp[Act.b5] at hl,fun _=> ⟨rfl,rfl⟩⟩⟩
 | .fail,_,_,_,_,h,_=>by simp[Act.run] at h
 | .kq t k,σ,τ,σ',v,h,hr=>by
   simp only[Act.run] at h
   have e:σ.T t=τ.T t:=by have:=hr (.t t) (by simp[Act.b5]);simpa [St.rT] using this
   obtain⟨τ',h1,h2,h3⟩:=ja (k (σ.T t)) h (fun l hl=>hr l (by simp[Act.b5,hl]))
   exact⟨τ',by simp only[Act.run,←e];exact h1,by simp only[Act.b5,←e,h2],by simpa [Act.b5] using h3⟩
 | .bn r k,σ,τ,σ',v,h,hr=>by
   simp only[Act.run] at h
   have e:σ.O r=τ.O r:=by have:=hr (.o r) (by simp[Act.b5]);simpa [St.rT] using this
   obtain⟨τ',h1,h2,h3⟩:=ja (k (σ.O r)) h (fun l hl=>hr l (by simp[Act.b5,hl]))
   exact⟨τ',by simp only[Act.run,←e];exact h1,by simp only[Act.b5,←e,h2],by simpa [Act.b5] using h3⟩
 | .bl r o k,σ,τ,σ',v,h,hr=>by
   simp only[Act.run] at h
   obtain⟨τ',h1,h2,h3⟩:=ja k (τ:={τ with O:=cC τ.O r o}) h (fun l hl=>by
    have:=hr l (by simp[Act.b5,hl])
    cases l with
    | t n=>simpa [St.rT] using this
    | m n ks=>rfl
    | e n ks=>rfl
    | o n=>
      simp only[St.rT,Cell.o.injEq] at this ⊢
      by_cases hn:n=r
      ·subst hn;simp[an]
      ·simp[aG _ _ hn,this])
   refine⟨τ',by simp only[Act.run];exact h1,by simp only[Act.b5,h2],fun l=> ⟨fun hl=> ?_,fun hl=> ?_⟩⟩
   ·simp only[Act.b5,Zz] at hl
    by_cases hw:l ∈ (k.b5 C {σ with O:=cC σ.O r o}).writes
    ·exact(h3 l).1 hw
    · obtain⟨e1,e2⟩:=(h3 l).2 hw
      rcases hl with rfl| hl
      ·rw[e1,e2];simp[St.rT,an]
      ·exact absurd hl hw
   ·simp only[Act.b5,Zz,not_or] at hl
    obtain⟨e1,e2⟩:=(h3 l).2 hl.2
    rw[e1,e2]
    cases l with
    | t n=>simp[St.rT]
    | m n ks=>simp[St.rT]
    | e n ks=>simp[St.rT]
    | o n=>
      have hn:n≠r:=fun e=>hl.1 (by rw[e])
      simp[St.rT,aG _ _ hn]
 | .call f au k,σ,τ,σ',v,h,hr=>by
   simp only[Act.run] at h
   split at h
   ·rename_i res gg
    obtain⟨τ',h1,h2,h3⟩:=ja (k res) h (fun l hl=>hr l (by simp[Act.b5,gg,hl]))
    exact⟨τ',by simp only[Act.run,gg];exact h1,by simp only[Act.b5,gg,h2],by simpa [Act.b5,gg] using h3⟩
   ·simp at h
theorem HL (σ:St) (dst:Option Nat) (v:V) (n:Nat): (σ.put dst v).T n=if dst.any (fun d=>n=d) then v else σ.T n:=by
 cases dst with
 | none=>simp[St.put]
 | some d=>simp only[St.put,cC,Option.any_some];by_cases h:n=d<;>simp[h]
theorem rU (σ:St) (dst:Option Nat) (v:V): (σ.put dst v).O=σ.O:=by cases dst<;>rfl
theorem eG {C:aQ}: ∀ (act:Act) (σ:St) (l:Loc),l ∈ (act.b5 C σ).reads∨l ∈ (act.b5 C σ).writes→(∃n,l= .t n)∨ ∃n,l= .o n
 | .done _,_,l,h=>by simp[Act.b5] at h
 | .fail,_,l,h=>by simp[Act.b5] at h
 | .kq t k,σ,l,h=>by
   simp only[Act.b5,Zz] at h
   rcases h with(rfl| h) | h
   ·exact .inl ⟨_,rfl⟩
   ·exact eG _ _ l (.inl h)
   ·exact eG _ _ l (.inr h)
 | .bn r k,σ,l,h=>by
   simp only[Act.b5,Zz] at h
   rcases h with(rfl| h) | h
   ·exact .inr ⟨_,rfl⟩
   ·exact eG _ _ l (.inl h)
   ·exact eG _ _ l (.inr h)
 | .bl r o k,σ,l,h=>by
   simp only[Act.b5,Zz] at h
   rcases h with h| (rfl| h)
   ·exact eG _ _ l (.inl h)
   ·exact .inr ⟨_,rfl⟩
   ·exact eG _ _ l (.inr h)
 | .call f au k,σ,l,h=>by
   simp only[Act.b5] at h
   split at h
   ·exact eG _ _ l h
   ·simp at h
def j5 (ks:List Nat):Act→Prop
 | .done _=>True
 | .fail=>True
 | .kq _ k=> ∀v,j5 ks (k v)
 | .bn _ k=> (∀o o',iz ks o=iz ks o'→k o=k o')∧ ∀o,j5 ks (k o)
 | .bl .. =>False
 | .call .. =>False
theorem pw {C:aQ} {ks:List Nat}: ∀ (act:Act),j5 ks act→ ∀ {σ τ σ':St} {v:V},act.run C σ=some (v,σ')→(∀n,Loc.t n ∈ (act.b5 C σ).reads→σ.T n=τ.T n)→(∀n,Loc.o n ∈ (act.b5 C σ).reads→iz ks (σ.O n)=iz ks (τ.O n))→
   act.run C τ=some (v,τ)∧σ'=σ∧(act.b5 C σ).writes=[]
 | .done u,_,σ,τ,σ',v,h,_,_=>by
   simp only[Act.run,Zr,Zw] at h
   obtain⟨rfl,rfl⟩:=h
   exact⟨rfl,rfl,rfl⟩
 | .fail,_,_,_,_,_,h,_,_=>by simp[Act.run] at h
 | .kq t k,hv,σ,τ,σ',v,h,h1,h2=>by
   simp only[Act.run] at h ⊢
   rw[←h1 t (by simp[Act.b5])]
   simp only[Act.b5]
   exact pw (k (σ.T t)) (hv _) h (fun n hn=>h1 n (by simp[Act.b5,hn])) (fun n hn=>h2 n (by simp[Act.b5,hn]))
 | .bn r k,hv,σ,τ,σ',v,h,h1,h2=>by
   simp only[Act.run] at h ⊢
   rw[←hv.1 _ _ (h2 r (by simp[Act.b5]))]
   simp only[Act.b5]
   exact pw (k (σ.O r)) (hv.2 _) h (fun n hn=>h1 n (by simp[Act.b5,hn])) (fun n hn=>h2 n (by simp[Act.b5,hn]))
 | .bl ..,hv,_,_,_,_,_,_,_=>hv.elim
 | .call ..,hv,_,_,_,_,_,_,_=>hv.elim
theorem u5 {ks:List Nat} {x:aD} {k:V→Act} (h: ∀v,j5 ks (k v)):j5 ks (ev x k):=by
 cases x with
 | tmp t=>exact h
 | const v=>exact h v
theorem qF {E:Env} {ks:List Nat} {x k:aD}:j5 ks (av E (.iK ks x k)):=by
 simp only[av]
 refine u5 fun v=> ?_
 split
 ·refine u5 fun kv=> ?_
  refine⟨fun o o' e=>congrArg (Bq ks _ kv) e,fun o=> ?_⟩
  show j5 ks (Bq ks _ kv (iz ks o))
  generalize iz ks o=q
  unfold Bq
  split
  ·split<;>trivial
  ·trivial
 ·trivial
theorem sR {E:Env} {C:aQ} {o:bC} {σ τ σ':St} (h:dc E C o σ=some σ') (hr: ∀l,rd (cj E C o σ) l→σ.at l=τ.at l):
  ∃τ',dc E C o τ=some τ'∧ ∀l,(wr (cj E C o σ) l→τ'.at l=σ'.at l)∧(¬wr (cj E C o σ) l→τ'.at l=τ.at l∧σ'.at l=σ.at l):=by
 simp only[dc] at h
 rcases pt: (bX E o).run C σ with _| ⟨v,σ1⟩
 ·rw[pt] at h;simp at h
 rw[pt] at h
 injection h with h
 subst h
 have Fv:=eG (C:=C) (bX E o) σ
 obtain⟨F0,FB⟩: ∃F,F=(bX E o).b5 C σ:=⟨_,rfl⟩
 have TR: ∀n ks,Loc.m n ks ∉ F0.writes∧Loc.e n ks ∉ F0.writes∧Loc.m n ks ∉ F0.reads:=fun n ks=>by
  rw[FB]
  refine⟨fun hm=> ?_,fun hm=> ?_,fun hm=> ?_⟩
  ·rcases Fv _ (.inr hm) with⟨_,h⟩ | ⟨_,h⟩ <;>cases h
  ·rcases Fv _ (.inr hm) with⟨_,h⟩ | ⟨_,h⟩ <;>cases h
  ·rcases Fv _ (.inl hm) with⟨_,h⟩ | ⟨_,h⟩ <;>cases h
 have yr: ∀ (l:Loc),l ∈ (match o.dst with| some d=> [Loc.t d] | none=> [])↔ ∃d,o.dst=some d∧l= .t d:=fun l=>by cases o.dst<;>simp
 have hF:cj E C o σ=dt o.op ⟨F0.reads,(match o.dst with| some d=> [.t d] | none=> [])++F0.writes⟩:=by rw[FB];rfl
 rw[hF] at hr ⊢
 have hT: ∀ (τ1:St),(∀n,(Loc.t n ∈ F0.writes→τ1.T n=σ1.T n)∧(Loc.t n ∉ F0.writes→τ1.T n=τ.T n∧σ1.T n=σ.T n))→ ∀n,
    ((∃d,o.dst=some d∧n=d)∨Loc.t n ∈ F0.writes→(τ1.put o.dst v).T n=(σ1.put o.dst v).T n)∧
    (¬ ((∃d,o.dst=some d∧n=d)∨Loc.t n ∈ F0.writes)→(τ1.put o.dst v).T n=τ.T n∧(σ1.put o.dst v).T n=σ.T n):=by
  intro τ1 h1 n
  rw[HL,HL]
  by_cases hd: ∃d,o.dst=some d∧n=d
  · obtain⟨d,e1,e2⟩:=hd
    simp[e1,e2]
  · have hn: (o.dst.any fun d=>decide (n=d))=false:=by
      cases e:o.dst with
      | none=>rfl
      | some d=>simp only[Option.any_some,decide_eq_false_iff_not];exact fun h=>hd ⟨d,e,h⟩
    simp only[hn,ZB,if_false]
    exact⟨fun hh=> (h1 n).1 (hh.resolve_left hd),fun hh=> (h1 n).2 fun hw=>hh (.inr hw)⟩
 by_cases hC: ∃ks x k,o.op= .iK ks x k
 ·obtain⟨ks,x,k,dm⟩:=hC
  have XF:j5 ks (bX E o):=by
    unfold bX
    cases o.guard with
    | none=>simp only[dm];exact qF
    | some p=>
      obtain⟨t,want⟩:=p
      intro u
      simp only[dm]
      split
      ·split
       ·exact qF
       ·trivial
      ·trivial
      ·trivial
  simp only[dm,dt] at hr ⊢
  obtain⟨g1,rfl,g3⟩:=pw (bX E o) XF pt (τ:=τ)
    (fun n hn=>by
      have:=hr (.t n) (by simp only[rd,ZJ];exact⟨.t n,by rw[FB];exact hn,rfl⟩)
      simpa [St.at] using this)
    (fun n hn=>by
      have:=hr (.m n ks) (by simp only[rd,ZJ];exact⟨.o n,by rw[FB];exact hn,rfl⟩)
      simpa [St.at] using this)
  rw[←FB] at g3
  refine⟨τ.put o.dst v,by simp only[dc,g1],fun l=> ?_⟩
  have ht:=hT τ (fun n=> ⟨fun hh=>by rw[g3] at hh;simp at hh,fun _=> ⟨rfl,rfl⟩⟩)
  cases l with
  | t n=>
    simp only[wr,ZF,yr,St.at,Cell.v.injEq,Loc.t.injEq]
    exact ht n
  | o n=>simp only[wr,ZF,yr,g3,St.at,rU];simp
  | m n qU=>simp only[wr,ZF,yr,g3,St.at,rU];simp
 by_cases hE: ∃ks x k,o.op= .iL ks x k
 ·obtain⟨ks,x,k,dm⟩:=hE
  simp only[dm,dt] at hr ⊢
  obtain⟨τ1,h1,h2,h3⟩:=ja (bX E o) (τ:=τ) pt (fun l hl=>by
    rw[←FB] at hl
    rcases Fv l (by rw[←FB];exact .inl hl) with⟨n,rfl⟩ | ⟨n,rfl⟩
    ·have:=hr (.t n) hl;simpa [St.at,St.rT] using this
    ·have:=hr (.o n) hl;simpa [St.at,St.rT] using this)
  rw[←FB] at h3
  have KT: ∀ {ρ ρ':St} {u:V},(bX E o).run C ρ=some (u,ρ')→ ∀n,iz ks (ρ'.O n)=iz ks (ρ.O n):=by
    intro ρ ρ' u hh n
    unfold bX at hh
    cases hg:o.guard with
    | none=>simp only[hg,dm] at hh;exact(wT hh).2 n
    | some p=>
      obtain⟨t,want⟩:=p
      simp only[hg,dm,Act.run] at hh
      split at hh
      ·split at hh
       ·exact(wT hh).2 n
       ·obtain⟨_,rfl⟩:=aI hh;rfl
      ·obtain⟨_,rfl⟩:=aI hh;rfl
      ·exact absurd hh ak
  refine⟨τ1.put o.dst v,by simp only[dc,h1],fun l=> ?_⟩
  have ht:=hT τ1 (fun n=>by have:=h3 (.t n);simpa [St.rT] using this)
  have Ca: ∀l,l ∈ ((match o.dst with| some d=> [Loc.t d] | none=> [])++F0.writes).map (QJ ks)↔(∃d,o.dst=some d∧l= .t d)∨(∃n,l= .t n∧Loc.t n ∈ F0.writes)∨ ∃n,l= .e n ks∧Loc.o n ∈ F0.writes:=by
    intro l
    simp only[ZJ,ZF,yr]
    constructor
    · rintro⟨x,⟨d,e1,rfl⟩ | hx,rfl⟩
      ·exact .inl ⟨d,e1,rfl⟩
      ·rcases Fv x (by rw[←FB];exact .inr hx) with⟨n,rfl⟩ | ⟨n,rfl⟩
       ·exact .inr (.inl ⟨n,rfl,hx⟩)
       ·exact .inr (.inr ⟨n,rfl,hx⟩)
    · rintro(⟨d,e1,rfl⟩ | ⟨n,rfl,hx⟩ | ⟨n,rfl,hx⟩)
      ·exact⟨.t d,.inl ⟨d,e1,rfl⟩,rfl⟩
      ·exact⟨.t n,.inr hx,rfl⟩
      ·exact⟨.o n,.inr hx,rfl⟩
  have VK: ∀n qU,Loc.e n qU ∈ ((match o.dst with| some d=> [Loc.t d] | none=> [])++F0.writes).map (QJ ks)↔qU=ks∧Loc.o n ∈ F0.writes:=fun n qU=>by
    rw[Ca]
    constructor
    · rintro(⟨d,_,h⟩ | ⟨m,h,_⟩ | ⟨m,h,hx⟩)
      ·cases h
      ·cases h
      ·injection h with a b;subst a;subst b;exact⟨rfl,hx⟩
    ·rintro⟨rfl,hx⟩;exact .inr (.inr ⟨n,rfl,hx⟩)
  have VL: ∀n,Loc.o n ∉ ((match o.dst with| some d=> [Loc.t d] | none=> [])++F0.writes).map (QJ ks):=fun n=>by rw[Ca];simp
  cases l with
  | t n=>
    simp only[wr,Ca,St.at,Cell.v.injEq,Loc.t.injEq,reduceCtorEq,false_and,exists_false,or_false]
    have:=ht n
    refine⟨fun hh=>this.1 ?_,fun hh=>this.2 fun h'=>hh ?_⟩
    · rcases hh with hh| ⟨m,rfl,hh⟩
      ·exact .inl hh
      ·exact .inr hh
    · rcases h' with h'| h'
      ·exact .inl h'
      ·exact .inr ⟨n,rfl,h'⟩
  | o n=>
    have:=h3 (.o n)
    simp only[St.rT,Cell.o.injEq] at this
    simp only[wr,VL,VK,false_or,St.at,Cell.o.injEq,rU]
    exact⟨fun ⟨_,_,hh⟩=>this.1 hh,fun hh=>this.2 fun h'=>hh ⟨ks,rfl,h'⟩⟩
  | m n qU=>
    have:=h3 (.o n)
    simp only[St.rT,Cell.o.injEq] at this
    simp only[wr,VL,VK,false_or,St.at,Cell.m.injEq,rU]
    refine⟨fun ⟨k2,e1,e2,hh⟩=>by rw[this.1 hh],fun hh=> ?_⟩
    by_cases hw:Loc.o n ∈ F0.writes
    · by_cases e:ks=qU
      ·subst e;exact⟨KT h1 n,KT pt n⟩
      ·exact absurd ⟨ks,e,rfl,hw⟩ hh
    · obtain⟨e1,e2⟩:=this.2 hw
      rw[e1,e2];exact⟨rfl,rfl⟩
 ·have TS: ∀f,dt o.op f=f:=fun f=>by
    unfold dt
    split
    ·rename_i ks x k dm;exact absurd ⟨ks,x,k,dm⟩ hC
    ·rename_i ks x k dm;exact absurd ⟨ks,x,k,dm⟩ hE
    ·rfl
  rw[TS] at hr ⊢
  obtain⟨τ1,h1,h2,h3⟩:=ja (bX E o) (τ:=τ) pt (fun l hl=>by
    rw[←FB] at hl
    rcases Fv l (by rw[←FB];exact .inl hl) with⟨n,rfl⟩ | ⟨n,rfl⟩
    ·have:=hr (.t n) hl;simpa [St.at,St.rT] using this
    ·have:=hr (.o n) hl;simpa [St.at,St.rT] using this)
  rw[←FB] at h3
  refine⟨τ1.put o.dst v,by simp only[dc,h1],fun l=> ?_⟩
  have ht:=hT τ1 (fun n=>by have:=h3 (.t n);simpa [St.rT] using this)
  have VM: ∀n ks,Loc.e n ks ∉ ((match o.dst with| some d=> [Loc.t d] | none=> [])++F0.writes):=fun n ks=>by
    simp only[ZF,yr,(TR n ks).2.1,or_false];simp
  have HD: ∀n,Loc.o n ∈ ((match o.dst with| some d=> [Loc.t d] | none=> [])++F0.writes)↔Loc.o n ∈ F0.writes:=fun n=>by
    simp only[ZF,yr];simp
  cases l with
  | t n=>
    simp only[wr,ZF,yr,St.at,Cell.v.injEq,Loc.t.injEq]
    exact ht n
  | o n=>
    have:=h3 (.o n)
    simp only[St.rT,Cell.o.injEq] at this
    simp only[wr,HD,VM,and_false,exists_false,or_false,St.at,Cell.o.injEq,rU]
    exact this
  | m n qU=>
    have:=h3 (.o n)
    simp only[St.rT,Cell.o.injEq] at this
    simp only[wr,HD,VM,and_false,exists_false,or_false,St.at,Cell.m.injEq,rU]
    refine⟨fun hh=>by rw[this.1 hh],fun hh=> ?_⟩
    obtain⟨e1,e2⟩:=this.2 hh
    rw[e1,e2];exact⟨rfl,rfl⟩
structure Trace (E:Env) (C:aQ) (au:List bC) (S:Nat→St) (F:Nat→dn) (W:Nat→List Nat):Prop where
 step: ∀ (i:Nat) ao,au[i]? =some ao→dc E C ao (S i)=some (S (i+1))∧F i=cj E C ao (S i)∧(∀x,x ∈ W i↔x ∈ ao.pre++ao.pre.flatMap W)∧(∀p ∈ ao.pre,p<i)∧
  ∀j,j<i→j ∈ W i∨(F j).jl (F i)=false
theorem AA {bE:List dn} {wait:List Nat} {f:dn}: ∀ {k:Nat},fits bE wait f k=true→ ∀j,j<k→j ∈ wait∨(bE.getD j ⟨[],[]⟩).jl f=false
 | 0,_,j,hj=>Zl
 | k+1,h,j,hj=>by
   simp only[fits,Zt,aaH,Z4] at h
   by_cases e:j=k
   ·subst e
    rcases h.1 with h1| h1
    ·exact .inl (by simpa using h1)
    ·exact .inr h1
   ·exact AA h.2 j Zl
theorem mX {α β:Type} {f g:α→List β}: ∀ {l:List α},(∀x ∈ l,f x=g x)→l.flatMap f=l.flatMap g
 | [],_=>rfl
 | x::l,h=>by
   simp only[List.flatMap_cons]
   rw[h x Zm,mX fun y hy=>h y (by simp[hy])]
theorem HM {x:Nat}: ∀ {l:List Nat},x ∈ l.foldr Nk []↔x ∈ l
 | []=>Iff.rfl
 | a::l=>by
   have ih:=fun y=>HM (x:=y) (l:=l)
   show x ∈ Nk a (l.foldr Nk [])↔_
   generalize l.foldr Nk []=m at ih
   unfold Nk
   split
   ·rename_i h
    rw[ih,Zz]
    exact⟨.inr,fun k=>k.elim (fun e=>e ▸ (ih a).1 (by simpa using h)) id⟩
   ·rw[Zz,Zz,ih]
theorem sS {E:Env} {C:aQ}: ∀ (l:List bC) (bE:List dn) (before:List (List Nat)) (σ σ':St),bE.length=before.length→df E C l bE before σ=some σ'→
   ∃ (S:Nat→St) (F:Nat→dn) (W:Nat→List Nat),S bE.length=σ∧S (bE.length+l.length)=σ'∧(∀k,k<bE.length→F k=bE.getD k ⟨[],[]⟩∧W k=before.getD k [])∧
    ∀ ( i:Nat) ao,l[i]? =some ao→dc E C ao (S (bE.length+i))=some (S (bE.length+i+1))∧F (bE.length+i)=cj E C ao (S (bE.length+i))∧
       (∀x,x ∈ W (bE.length+i)↔x ∈ ao.pre++ao.pre.flatMap W)∧(∀p ∈ ao.pre,p<bE.length+i)∧ ∀j,j<bE.length+i→j ∈ W (bE.length+i)∨(F j).jl (F (bE.length+i))=false
 | [],bE,before,σ,σ',hl,h=>by
   simp only[df,Zr] at h
   subst h
   exact⟨fun _=>σ,fun k=>bE.getD k ⟨[],[]⟩,fun k=>before.getD k [],rfl,rfl,fun k _=> ⟨rfl,rfl⟩,fun i ao hi=>by simp at hi⟩
 | o::l,bE,before,σ,σ',hl,h=>by
   simp only[df] at h
   split at h
   ·rename_i hf
    simp only[Zt,Zx,decide_eq_true_eq] at hf
    split at h
    ·  rename_i σ1 h1
       obtain⟨S,F,W,s1,s2,s3,s4⟩:=sS l (bE++[cj E C o σ]) (before++[closure before o.pre]) σ1 σ' (by simp[hl]) h
       simp only[List.length_append,List.length_singleton] at s1 s2 s3 s4
       let S':Nat→St:=fun k=>if k=bE.length then σ else S k
       have e1:S' (bE.length+1)=σ1:=by simp[S',s1]
       have e2: ∀k,bE.length<k→S' k=S k:=fun k hk=>by simp[S'];intro e;omega
       have NL:F bE.length=cj E C o σ:=by
        have:=(s3 bE.length Zl).1
        simpa using this
       have VN:W bE.length=closure before o.pre:=by
        have:=(s3 bE.length Zl).2
        rw[hl] at this
        simpa [hl] using this
       have PX: ∀k,k<bE.length→W k=before.getD k []:=fun k hk=>by
        have:=(s3 k Zl).2
        rw[this]
        simp[ZW (show k<before.length by omega)]
       have PY: ∀k,k<bE.length→F k=bE.getD k ⟨[],[]⟩:=fun k hk=>by
        have:=(s3 k Zl).1
        rw[this]
        simp[ZW hk]
       refine⟨S',F,W,by simp[S'],?_,fun k hk=> ⟨PY k hk,PX k hk⟩,fun i ao hi=> ?_⟩
       ·rw[e2 _ Zm]
        rw[←s2];congr 1;simp;omega
       ·cases i with
        | zero=>
          simp at hi
          subst hi
          simp only[aaz]
          have hS:S' bE.length=σ:=by simp[S']
          rw[hS,e1]
          refine⟨h1,NL,?_,hf.2,fun j hj=> ?_⟩
          ·intro x
           rw[VN,closure,HM,mX fun p hp=> (PX p (hf.2 p hp)).symm]
          ·rw[NL,VN,PY j hj]
           exact AA hf.1 j hj
        | succ i=>
          have:=s4 i ao (by simpa using hi)
          have ea:bE.length+1+i=bE.length+(i+1):=Zl
          rw[ea] at this
          rw[e2 _ Zl,e2 _ Zl]
          exact this
    ·simp at h
   ·simp at h
open Classical in
noncomputable def lO (S:Nat→St) (F:Nat→dn) (D:Nat→Bool) (l:CC):Nat→Cell
 | 0=> (S 0).at l
 | i+1=>if D i=true∧wr (F i) l then(S (i+1)).at l else lO S F D l i
theorem pA {S:Nat→St} {F:Nat→dn} {D D':Nat→Bool} {l:CC}: ∀ {n:Nat},(∀i,i<n→wr (F i) l→D i=D' i)→lO S F D l n=lO S F D' l n
 | 0,_=>rfl
 | n+1,h=>by
   simp only[lO]
   rw[pA fun i hi=>h i Zl]
   by_cases hl:wr (F n) l
   ·rw[h n Zl hl]
   ·simp[hl]
theorem nN {  S:Nat→St} {F:Nat→dn} {D:Nat→Bool} {l:CC} {m:Nat}: ∀ {n:Nat},m≤n→(∀i,m≤i→i<n→wr (F i) l→D i=false)→lO S F D l n=lO S F D l m
 | 0,h,_=>by have:m=0:=Zl
             subst this;rfl
 | n+1,h,hh=>by
   by_cases e:m=n+1
   ·subst e;rfl
   ·simp only[lO]
    rw[if_neg (by rintro⟨h1,h2⟩;have:=hh n Zl Zl h2;simp[this] at h1)]
    exact nN Zl fun i h1 h2=>hh i h1 Zl
theorem u6 {E:Env} {C:aQ} {au:List bC} {S:Nat→St} {F:Nat→dn} {W:Nat→List Nat} (tr:Trace E C au S F W) {D:Nat→Bool} {l:CC}:
   ∀ {n:Nat},n≤au.length→(∀i,i<n→D i=true)→lO S F D l n=(S n).at l
 | 0,_,_=>rfl
 | n+1,hn,hD=>by
   obtain⟨ao,EX⟩: ∃ao,au[n]? =some ao:=⟨au[n],Zv Zl⟩
   obtain⟨h1,h2,_⟩:=tr.step n ao EX
   simp only[lO,hD n Zl,true_and]
   split
   ·rfl
   ·rename_i hl
    rw[u6 tr Zl fun i hi=>hD i Zl]
    obtain⟨_,_,h3⟩:=sR h1 (τ:=S n) fun _ _=>rfl
    rw[h2] at hl
    exact((h3 l).2 fun hh=>hl ⟨hD n Zl,hh⟩).2.symm
structure mY (S:Nat→St) (F:Nat→dn) (W:Nat→List Nat) (m:Nat) (D:Nat→Bool) (τ:St):Prop where
 closed: ∀i,D i=true→ ∀p ∈ W i,D p=true
 state: ∀l,τ.at l=lO S F D l m
theorem vK {E:Env} {C:aQ} {au:List bC} {S:Nat→St} {F:Nat→dn} {W:Nat→List Nat} (tr:Trace E C au S F W) {D:Nat→Bool} {τ:St} (hA:mY S F W au.length D τ)
  {j:Nat} {ao:bC} (hj:au[j]? =some ao) (hD:D j=false) (AB: ∀p ∈ ao.pre,D p=true):
  ∃τ',dc E C ao τ=some τ'∧mY S F W au.length (fun i=>i==j || D i) τ':=by
 obtain⟨h1,h2,h3,h4,h5⟩:=tr.step j ao hj
 have IB:j<au.length:=(Zs.1 hj).1
 have hW: ∀p ∈ W j,D p=true:=by
  simp only[h3]
  intro p hp
  simp only[ZF,List.mem_flatMap] at hp
  rcases hp with hp| ⟨q,hq,hp⟩
  ·exact AB p hp
  ·exact hA.closed q (AB q hq) p hp
 have key: ∀i,i≠j→i<au.length→EY (F i) (F j)→(D i=true↔i<j):=by
  intro i bQ hi hc
  rcases Nat.lt_or_ge i j with bz| mf
  ·refine⟨fun _=>bz,fun _=> ?_⟩
   rcases h5 i bz with h| h
   ·exact hW i h
   ·rw[hc.jl] at h;cases h
  ·have XG:j<i:=Zl
   refine⟨fun NM=> ?_,fun h=>Zl⟩
   obtain⟨TU,TW⟩: ∃TU,au[i]? =some TU:=⟨au[i],Zv hi⟩
   obtain⟨_,_,_,_,g5⟩:=tr.step i TU TW
   rcases g5 j XG with h| h
   ·have:=hA.closed i NM j h
    rw[hD] at this;cases this
   ·rw[hc.symm.jl] at h;cases h
 have agree: ∀l,rd (F j) l→(S j).at l=τ.at l:=by
  intro l hl
  rw[hA.state l]
  have e1:lO S F D l au.length=lO S F D l j:=nN Zl fun i pG Ci hw=>by
   by_cases e:i=j
   ·subst e;exact hD
   ·have:=key i e Ci ⟨l,.inr (.inl ⟨hw,hl⟩)⟩
    cases NM:D i with
    | false=>rfl
    | true=>have:=this.1 NM;omega
  have e2:lO S F D l j=lO S F (fun i=>decide (i<j)) l j:=pA fun i hi hw=>by
   have:=(key i Zl Zl ⟨l,.inr (.inl ⟨hw,hl⟩)⟩).2 hi
   simp[this,hi]
  rw[e1,e2]
  exact(u6 tr Zl fun i hi=>by simp[hi]).symm
 rw[h2] at agree
 obtain⟨τ',k1,k2⟩:=sR h1 agree
 rw[←h2] at k2
 refine⟨τ',k1,fun i hi p hp=> ?_,fun l=> ?_⟩
 ·simp only[aaH,beq_iff_eq] at hi ⊢
  rcases hi with rfl| hi
  ·exact .inr (hW p hp)
  ·exact .inr (hA.closed i hi p hp)
 ·by_cases hl:wr (F j) l
  ·rw[(k2 l).1 hl]
   have e1:lO S F (fun i=>i==j || D i) l au.length=lO S F (fun i=>i==j || D i) l (j+1):=nN Zl fun i pG Ci hw=>by
    have bQ:i≠j:=Zl
    have:=key i bQ Ci ⟨l,.inl ⟨hw,hl⟩⟩
    cases NM:D i with
    | false=>simp[bQ,NM]
    | true=>have:=this.1 NM;omega
   rw[e1]
   simp[lO,hl]
  ·rw[((k2 l).2 hl).1,hA.state l]
   exact pA fun i _ hw=>by
    by_cases e:i=j
    ·subst e;exact absurd hw hl
    ·simp[e]
theorem yt {E:Env} {C:aQ} {au:List bC} {S:Nat→St} {F:Nat→dn} {W:Nat→List Nat} (tr:Trace E C au S F W) {D:Nat→Bool} {τ:St} (hA:mY S F W au.length D τ)
  (kb: ∀i,i<au.length→D i=true):τ=S au.length:=
 St.ext' fun l=>by rw[hA.state l,u6 tr (Zy _) kb]
section
variable {X:Ctx} {E:Env} {C:aQ} {μ0:Mu} {n:Fp}
theorem HN {σ:St} {a:Go.Act} {w:World} (h:iD X μ0 n σ a w):iD X μ0 n σ a {w with drawn:=w.drawn+1}:=by
 obtain⟨h1,h2,φ,hr,hle⟩:=h
 obtain⟨PT,TI⟩:=Le.drew (X:=X) (μ:=⟨w,φ,σ.O⟩) hr.aS
 exact⟨h1,h2,φ,⟨fun t=>aj.mono PT (hr.tmps t),TI⟩,hle.trans PT⟩
theorem EZ ( H:oF X E C) {h:Hints} {ops:Array Oper} {au:List bC} (hn:h.n=n.1) (az:fi X h ops ops.toList=some au) {S:Nat→St} {F:Nat→dn} {W:Nat→List Nat}
   (tr:Trace E C au S F W) {Q:Go.Exit→Go.Act→World→Prop} (hQ: ∀a w,iD X μ0 n (S au.length) a w→Q .normal a w):
   ∀ (fuel:Nat) (aX:Array Bool) (τ:St) (a:Go.Act) (w:World),aX.size=ops.size→((List.range ops.size).filter fun i=> !aX.getD i true).length≤fuel→
     mY S F W au.length (fun i=>aX.getD i false) τ→iD X μ0 n τ a w→wpAnyIn (Fr n.ro) 0 X.P .any ops Q fuel aX a w:=by
 obtain⟨hlen,eS⟩:=j4 az
 have sC:au.length=ops.size:=by simpa using hlen
 have ready: ∀ (aX:Array Bool) (j:Nat),j ∈ Region.ready .any ops aX→ ∃o ao,ops[j]? =some o∧au[j]? =some ao∧mL X h ops o=some ao∧aX.getD j true=false∧ ∀p ∈ ao.pre,aX.getD p false=true:=by
   intro aX j hj
   simp only[Region.ready,List.mem_filter,List.mem_range,Zt,Z4] at hj
   obtain⟨bz,hl,hr⟩:=hj
   have ho:ops[j]? =some ops[j]:=by simp[bz]
   obtain⟨ao,EX,kS⟩:=eS j ops[j] (by simp[bz])
   refine⟨_,ao,ho,EX,kS,hl,fun p hp=> ?_⟩
   rw[ho] at hr
   simp only[ZE,aa2] at hr
   have AB:ao.pre=(ops[j].after.toList.filter (Region.binds .any)).map (·.on):=by
     unfold mL at kS
     simp only at kS
     split at kS
     ·injection kS with kS;rw[←kS]
     ·simp at kS
   rw[AB] at hp
   simp only[ZJ,List.mem_filter] at hp
   obtain⟨e,⟨XH,TB⟩,rfl⟩:=hp
   rw[Array.all_eq_true'] at hr
   have:=hr e (by simpa using XH)
   simpa [TB] using this
 have done: ∀ (aX:Array Bool),Region.ready .any ops aX=[]→aX.size=ops.size→ ∀i,i<au.length→aX.getD i false=true:=by
   intro aX E0 bM i
   induction i using Nat.strongRecOn with
   | _ i ih=>
     intro hi
     cases hl:aX.getD i false with
     | true=>rfl
     | false=>
       exfalso
       have bz:i<ops.size:=Zl
       have il:i<aX.size:=Zl
       have XI:aX.getD i true=false:=by simpa [il] using hl
       obtain⟨ao,EX,kS⟩:=eS i ops[i] (by simp[bz])
       obtain⟨_,_,_,Fv,_⟩:=tr.step i ao EX
       have AB:ao.pre=(ops[i].after.toList.filter (Region.binds .any)).map (·.on):=by
         unfold mL at kS
         simp only at kS
         split at kS
         ·injection kS with kS;rw[←kS]
         ·simp at kS
       have:i ∈ Region.ready .any ops aX:=by
         simp only[Region.ready,List.mem_filter,List.mem_range,Zt,Z4]
         refine⟨bz,XI,?_⟩
         have ho:ops[i]? =some ops[i]:=by simp[bz]
         rw[ho]
         simp only[ZE,aa2]
         rw[Array.all_eq_true']
         intro e he
         cases hb:Region.binds .any e with
         | false=>simp
         | true=>
           have hm:e.on ∈ ao.pre:=by
            rw[AB];simp only[ZJ,List.mem_filter]
            exact⟨e,⟨by simpa using he,hb⟩,rfl⟩
           have h1:=Fv _ hm
           simpa using ih e.on h1 Zl
       rw[E0] at this
       cases this
 have finish: ∀ (aX:Array Bool) (τ:St) (a:Go.Act) (w:World),aX.size=ops.size→mY S F W au.length (fun i=>aX.getD i false) τ→iD X μ0 n τ a w→Region.ready .any ops aX=[]→Q .normal a w:=by
   intro aX τ a w bM hA hs E0
   have:=yt tr hA (done aX E0 bM)
   exact hQ a w (this ▸ hs)
 intro fuel
 induction fuel with
 | zero=>
   intro aX τ a w bM hf hA hs
   have E0:Region.ready .any ops aX=[]:=by
     simp only[Nat.le_zero,Z3,List.filter_eq_nil_iff,List.mem_range] at hf
     simp only[Region.ready,List.filter_eq_nil_iff,List.mem_range]
     intro i hi
     have:=hf i hi
     simp at this
     simp[this]
   exact⟨E0,finish aX τ a w bM hA hs E0⟩
 | succ fuel ih=>
   intro aX τ a w bM hf hA hs
   refine⟨finish aX τ a w bM hA hs,fun j hj=> ?_⟩
   obtain⟨o,ao,ho,EX,kS,hl,AB⟩:=ready aX j hj
   have IB:j<ops.size:=by rw[←sC];exact(Zs.1 EX).1
   have XJ:aX.getD j false=false:=by
     have h1:j<aX.size:=Zl
     simpa [h1] using hl
   obtain⟨τ',k1,k2⟩:=vK tr hA EX XJ AB
   refine pq H ho kS hn hs k1 fun a' w' fw=>ih _ τ' a' w' (by simpa using bM) ?_ ?_ fw
   ·
     have BW: ∀ (L:List Nat),L.Nodup→j ∈ L→(L.filter fun i=> !(aX.setIfInBounds j true).getD i true).length+1≤(L.filter fun i=> !aX.getD i true).length:=by
       intro L
       induction L with
       | nil=>intro _ h;cases h
       | cons x L TM=>
         intro gM hm
         have bQ: ∀i,i≠j→(aX.setIfInBounds j true).getD i true=aX.getD i true:=fun i hi=>by
           simp[aae (fun e=>hi e.symm)]
         have XK: (aX.setIfInBounds j true).getD j true=true:=by
           have h1:j<aX.size:=Zl
           simp[h1]
         by_cases e:x=j
         · subst e
           have uN: (L.filter fun i=> !(aX.setIfInBounds x true).getD i true)=L.filter fun i=> !aX.getD i true:=by
            apply List.filter_congr
            intro i hi
            have:i≠x:=fun e=>by rw[aaS] at gM;exact gM.1 (e ▸ hi)
            rw[bQ i this]
           simp only[List.filter_cons,XK,hl,uN]
           simp
         · have JQ:j ∈ L:=by
            rcases Zz.1 hm with h1| h1
            ·exact absurd h1.symm e
            ·exact h1
           have:=TM (aaS.1 gM).2 JQ
           simp only[List.filter_cons,bQ x e]
           split
           ·simp only[ZH];omega
           ·omega
     have:=BW (List.range ops.size) List.nodup_range (by simp[IB])
     omega
   · have TX: (fun i=>i==j || aX.getD i false)=fun i=> (aX.setIfInBounds j true).getD i false:=by
       funext i
       have h1:j<aX.size:=Zl
       by_cases e:i=j
       ·subst e;simp[h1]
       ·simp[e,aae (fun e'=>e e'.symm)]
     rw[TX] at k2
     exact k2
theorem AD (H:oF X E C) {h:Hints} (hm:X.P.follows .mixedOrders=true) {ops:Array Oper} {au:List bC} (hn:h.n=n.1) (az:fi X h ops ops.toList=some au) {id:Nat}
  {σ σ':St} {a:Go.Act} {w:World} (hs:iD X μ0 n σ a w) (ag:df E C au [] [] σ=some σ') {Q:Go.Exit→Go.Act→World→Prop} (hQ: ∀a' w',iD X μ0 n σ' a' w'→Q .normal a' w'):
  (Code.region id ops true).wpIn (Fr n.ro) 0 X.P Q a w:=by
 obtain⟨S,F,W,s1,s2,_,s4⟩:=sS au [] [] σ σ' rfl ag
 simp only[ZL,aaa] at s1 s2 s4
 have tr:Trace E C au S F W:=⟨fun i ao hi=>s4 i ao hi⟩
 refine wpIn_region_any hm ?_
 refine EZ H hn az tr (by rw[s2];exact hQ) ops.size _ σ _ _ Zm ?_ ?_ (HN hs)
 ·exact Z1 (List.length_filter_le _ _) Zm
 ·have HO: ∀i,(Array.replicate ops.size false).getD i false=false:=fun i=>by
   simp only[Array.getD_eq_getD_getElem?,aa5];split<;>rfl
  refine⟨(fun i hi=>by rw[HO i] at hi;cases hi),fun l=> ?_⟩
  rw[←s1]
  have:lO S F (fun i=> (Array.replicate ops.size false).getD i false) l au.length=lO S F (fun i=> (Array.replicate ops.size false).getD i false) l 0:=nN (aaj _) fun i _ _ _=>HO i
  rw[this];rfl
end
end Go.AM
namespace Go.AM
open Go Go.RowKit
theorem HP {P:Program} {w:World} {ty:TypeId} {bi bm since:Nat} {seen:Array Nat} {es:Array MapEntry} (hi:w.heap[bi]? =some (.mapIter (some bm) since seen since)) (hb:w.heap[bm]? =some (.map es since)) (hold: ∀x ∈ es.toList,x.born<since):
  ((leftOf es seen).size=0∧(Instr.next (.pointer (some ⟨bi,0,none⟩)) false ty).run P w= .ok (.tuple #[.bool false]) w)∨
  ∃e ∈ (leftOf es seen).toList,∃d,(Instr.next (.pointer (some ⟨bi,0,none⟩)) false ty).run P w= .ok (.tuple #[.bool true,e.key,e.val]) {w with drawn:=w.drawn+d,heap:=w.heap.setIfInBounds bi (.mapIter (some bm) since (seen.push e.born) since)}:=by
 simp only[Instr.next,getObj,Sem.run_bind,Sem.run,hi,hb,Result.andThen,next_test_false seen es since since hold (Zy _),ZB,if_false]
 unfold leftOf
 have jw: ∀x ∈ (Array.filter (fun e=> !seen.contains e.born) es).toList,x.born<since:=fun x hx=>hold x (by simp at hx ⊢;exact hx.1)
 generalize Array.filter (fun e=> !seen.contains e.born) es=L at jw ⊢
 have e1:L.filter (fun x=>decide (x.born<since))=L:=Array.filter_eq_self.2 (fun x hx=>by simpa using jw x (by simpa using hx))
 have e2:L.filter (fun x=>decide (x.born≥since))= #[]:=by
  rw[Array.filter_eq_empty_iff]
  intro x hx
  have:=jw x (by simpa using hx)
  simp
  omega
 simp only[e1,e2,Array.append_empty]
 by_cases h0:L.size=0
 ·left
  have:L= #[]:=Array.eq_empty_of_size_eq_zero h0
  subst this
  refine⟨rfl,?_⟩
  simp[choose,Sem.run,Question.forced]
 ·right
  have bQ:L.isEmpty=false:=by simp[Array.isEmpty,h0]
  simp only[bQ,ZB,if_false,Array.empty_append,Array.size_map]
  have TH: ∃ (j d:Nat),j<L.size∧(choose (Question.mapNext L.size)).run P w= .ok j {w with drawn:=w.drawn+d}:=by
   by_cases hf:L.size≤1
   ·exact⟨0,0,Zl,by simp[choose,Sem.run,Question.forced,hf]⟩
   ·exact⟨w.tape w.drawn (Question.mapNext L.size) % L.size,1,Nat.mod_lt _ Zl,by
     simp only[choose,Sem.run,Question.forced,decide_eq_true_eq,hf,if_false,Question.cut]⟩
  obtain⟨j,d,hj,ag⟩:=TH
  refine⟨L[j],Zm,d,?_⟩
  have G8: ∀ (o':Go.Obj),(setObj bi o').run P {w with drawn:=w.drawn+d}= .ok () {w with drawn:=w.drawn+d,heap:=w.heap.setIfInBounds bi o'}:=fun o'=>by
   simp only[setObj,Sem.run,hi]
  simp only[ag,Array.getElem?_map,ZQ hj,ZE,Sem.run_bind,G8,Result.andThen]
  rfl
theorem HQ {P:Program} {w:World} {ty:TypeId} {bi a b:Nat} {s:Array Nat} (hi:w.heap[bi]? =some (.mapIter none a s b)):
  (Instr.next (.pointer (some ⟨bi,0,none⟩)) false ty).run P w= .ok (.tuple #[.bool false]) w:=by
 simp only[Instr.next,getObj,Sem.run_bind,Sem.run,hi,Result.andThen]
 rfl
structure gC (X:Ctx) (μ:Mu) (w':World):Prop where
 cell: ∀a c,μ.w.cell? a=some c→w'.cell? a=some c
 map: ∀ (a:Nat) ents clock,μ.w.heap[a]? =some (.map ents clock)→w'.heap[a]? =some (.map ents clock)
 size:μ.w.heap.size≤w'.heap.size
section
variable {X:Ctx} {μ:Mu} {w':World}
theorem gC.row (h:gC X μ w') {b off sz:Nat} {vs:List Value} (hr:cM μ.w b off sz vs):cM w' b off sz vs:=
 fun i v hv=> ⟨(hr i v hv).1,fun j c hc=>h.cell _ _ ((hr i v hv).2 j c hc)⟩
mutual
theorem aj.bN (h:gC X μ w'): ∀ {x:V} {v:Value},aj X μ x v→aj X ⟨w',μ.φ,μ.O⟩ x v
 | .bool _,_,k| .int ..,_,k| .float _,_,k| .str _,_,k| .nilp,_,k| .nilfn,_,k| .nili,_,k| .nils,_,k| .sl ..,_,k| .ptr ..,_,k| .mp ..,_,k| .it ..,_,k=>by simpa [aj] using k
 | .any,_,_=>by simp[aj]
 | .own ..,_,k| .msl ..,_,k| .mptr ..,_,k=>by simp[aj] at k
 | .agg cs,_,k=>by
   simp only[aj] at k ⊢
   obtain⟨h1,vs,rfl,h2⟩:=k
   exact⟨h1,vs,rfl,ah.bN h h2⟩
 | .tuple cs,_,k=>by
   simp only[aj] at k ⊢
   obtain⟨vs,rfl,h2⟩:=k
   exact⟨vs,rfl,ah.bN h h2⟩
 | .bfn f cs,_,k=>by
   simp only[aj] at k ⊢
   obtain⟨F,cv,rfl,h1,h2⟩:=k
   exact⟨F,cv,rfl,h1,ah.bN h h2⟩
 | .fn f cs,_,k=>by
   simp only[aj] at k ⊢
   obtain⟨F,cv,rfl,h1,h2⟩:=k
   exact⟨F,cv,rfl,h1,ah.bN h h2⟩
 | .iface t x,_,k=>by
   simp only[aj] at k ⊢
   obtain⟨F,y,rfl,h1,h2⟩:=k
   exact⟨F,y,rfl,h1,aj.bN h h2⟩
 | .lit sz xs,_,k=>by
   simp only[aj] at k ⊢
   obtain⟨h0,jJ,a,cap,vs,rfl,h1,h2,h3⟩:=k
   refine⟨h0,jJ,a,cap,vs,rfl,h1,ah.bN h h2,h3.imp id ?_⟩
   rintro⟨b,o,rfl,hb,hs,hr⟩
   exact⟨b,o,rfl,hb,ZC hs h.size,h.row hr⟩
 | .litk sz xs,_,k=>by
   simp only[aj] at k ⊢
   obtain⟨h0,jJ,a,cap,vs,rfl,h1,h2,h3⟩:=k
   refine⟨h0,jJ,a,cap,vs,rfl,h1,ah.bN h h2,h3.imp id ?_⟩
   rintro⟨rfl,hb,hs,hr⟩
   exact⟨rfl,hb,ZC hs h.size,h.row hr⟩
 | .eptr e off,_,k=>by
   simp only[aj] at k ⊢
   obtain⟨h0,jJ,b,o,sz,x,rfl,hb,hs,h1,hr⟩:=k
   exact⟨h0,jJ,b,o,sz,x,rfl,hb,ZC hs h.size,aj.bN h h1,h.row hr⟩
 | .epk i sz e off,_,k=>by
   simp only[aj] at k ⊢
   obtain⟨h0,jJ,x,rfl,hb,hs,h1,hr⟩:=k
   exact⟨h0,jJ,x,rfl,hb,ZC hs h.size,aj.bN h h1,h.row hr⟩
 | .mlit es,_,k=>by
   simp only[aj] at k ⊢
   obtain⟨h0,k⟩:=k
   refine⟨h0,k.imp id ?_⟩
   rintro⟨a,ents,clock,rfl,hb,hs,h1,h2⟩
   exact⟨a,ents,clock,rfl,hb,ZC hs h.size,⟨h.map _ _ _ h1.1,h1.2⟩,ah.bN h h2⟩
theorem ah.bN (h:gC X μ w'): ∀ {xs:List V} {vs:List Value},ah X μ xs vs→ah X ⟨w',μ.φ,μ.O⟩ xs vs
 | [],[],_=>by simp[ah]
 | [],_::_,k=>by simp[ah] at k
 | _::_,[],k=>by simp[ah] at k
 | x::xs,v::vs,k=>by
   simp only[ah] at k ⊢
   exact⟨aj.bN h k.1,ah.bN h k.2⟩
end
theorem aP.bN (h:gC X μ w') (ho:aP X μ) (hb: ∀r,(μ.O r).es.isSome=true→(μ.φ r).cap≠0→w'.heap[(μ.φ r).bB]? =μ.w.heap[(μ.φ r).bB]?):aP X ⟨w',μ.φ,μ.O⟩ where
 ok:=fun r es aZ=>by
  have Mw: (μ.O r).es.isSome=true:=by rw[aZ];rfl
  rcases ho.ok r es aZ with⟨h1,h2,h3,h4⟩ | ⟨h1,h2,ob,h3,h4⟩
  ·refine .inl ⟨h1,h2,h3,?_⟩
   rcases h4 with h4| ⟨c,T,vs,k1,k2,k3,k4⟩
   ·exact .inl h4
   ·by_cases hc: (μ.φ r).cap=0
    ·exact .inl hc
    ·exact .inr ⟨c,T,vs,by show w'.heap[(μ.φ r).bB]? =_;rw[hb r Mw hc];exact k1,k2,ah.bN h k3,h.row k4⟩
  ·refine .inr ⟨h1,h2,ob,by show w'.heap[(μ.φ r).bB]? =_;rw[hb r Mw h2];exact h3,?_⟩
   rcases h4 with⟨ents,clock,k1,k2,k3⟩ | k| ⟨mo,since,kp,k1,k2,k3⟩
   ·exact .inl ⟨ents,clock,k1,ah.bN h k2,k3⟩
   ·exact .inr (.inl k)
   ·refine .inr (.inr ⟨mo,since,kp,k1,k2,k3.imp id ?_⟩)
    rintro⟨m,ents,l1,l2,l3,l4,l5,l6⟩
    exact⟨m,ents,l1,l2,ZC l3 h.size,h.map _ _ _ l4,l5,ah.bN h l6⟩
 inj:=ho.inj
 qY:=ho.qY
 blt:=fun b js=>ZC (ho.blt b js) h.size
end
theorem wU {X:Ctx} {w:World} {φ:Nat→Row} {O O':Nat→Obj} (ho:aP X ⟨w,φ,O⟩) (h: ∀r,O' r=O r∨(O' r).es=none∧((O r).gen< (O' r).gen∨(O' r).gen=(O r).gen∧(O' r).sz=(O r).sz)):
  Le ⟨w,φ,O⟩ ⟨w,φ,O'⟩∧aP X ⟨w,φ,O'⟩:=by
 have KU: ∀r es,(O' r).es=some es→O' r=O r:=fun r es aZ=>by
  rcases h r with h| ⟨h,_⟩
  ·exact h
  ·rw[h] at aZ;simp at aZ
 have Mw: ∀r,(O' r).es.isSome=true→O' r=O r:=fun r hr=>by
  obtain⟨es,aZ⟩:=ZA.1 hr
  exact KU r es aZ
 have fN: ∀b,(Mu.mk w φ O').own b→(Mu.mk w φ O).own b:=by
  rintro b ⟨r,h1,h2,h3,h4⟩
  have e:=Mw r h1
  have vU: (O' r).es.isSome=true:=h1
  have BE: (O' r).fz=false:=h2
  rw[e] at vU BE
  exact⟨r,vU,BE,h3,h4⟩
 have le:Le ⟨w,φ,O⟩ ⟨w,φ,O'⟩:=by
  refine⟨Zy _,fun b _ hn=> ⟨rfl,fun h'=>hn (fN b h')⟩,fun r=> ?_,fun r e=> ?_,rfl,rfl,rfl,fun _ _=>rfl⟩
  ·show (O r).gen≤(O' r).gen
   rcases h r with h| ⟨_,h| ⟨h,_⟩⟩
   ·rw[h];exact Zy _
   ·omega
   ·omega
  ·have e': (O' r).gen=(O r).gen:=e
   refine⟨rfl,?_⟩
   show (O' r).sz=(O r).sz
   rcases h r with h| ⟨_,h| ⟨_,h⟩⟩
   ·rw[h]
   ·omega
   ·exact h
 refine⟨le,fun r es aZ=> ?_,fun r r' bQ h1 h2 h3 h4=> ?_,fun r h1 h2=> ?_,ho.blt⟩
 ·have e:=KU r es aZ
  have eA: (O r).es=some es:=by rw[←e];exact aZ
  exact ez.bR (r:=r) (r':=r) le (ho.ok r es eA) (by show (O' r).sz=(O r).sz;rw[e]) rfl fun _=>rfl
 ·have vU: (O' r).es.isSome=true:=h1
  have BE: (O' r').es.isSome=true:=h2
  rw[Mw r vU] at vU
  rw[Mw r' BE] at BE
  exact ho.inj r r' bQ vU BE h3 h4
 ·have vU: (O' r).es.isSome=true:=h1
  rw[Mw r vU] at vU
  exact ho.qY r vU h2
def ga (Z:List (V×MapEntry)) (seen:Array Nat):List (V×MapEntry):=Z.filter fun z=> !seen.contains z.2.born
theorem wV {Z:List (V×MapEntry)} {ents:Array MapEntry} (h:Z.map (·.2)=ents.toList) (seen:Array Nat): (ga Z seen).map (·.2)=(leftOf ents seen).toList:=by
 unfold ga leftOf
 rw[Array.toList_filter,←h,List.filter_map]
 rfl
theorem sU {α:Type} (f:α→Nat): ∀ {l:List α} {z:α},z ∈ l→(l.map f).Nodup→l.Perm (z::l.filter fun x=> !(f x==f z))
 | a::l,z,hz,hn=>by
   rw[List.map_cons,aaS] at hn
   rcases Zz.1 hz with rfl| hz
   ·have:l.filter (fun x=> !(f x==f z))=l:=List.filter_eq_self.2 fun x hx=>by
     have:f x≠f z:=fun e=>hn.1 (e ▸ ZJ.2 ⟨x,hx,rfl⟩)
     simpa using this
    simp[this]
   ·have bQ: ¬ (f a=f z):=fun e=>hn.1 (e ▸ ZJ.2 ⟨z,hz,rfl⟩)
    have ih:=sU f hz hn.2
    have: (a::l).filter (fun x=> !(f x==f z))=a::l.filter (fun x=> !(f x==f z)):=by
     rw[List.filter_cons_of_pos (by simpa using bQ)]
    rw[this]
    exact(ih.cons a).trans (.swap z a _)
theorem CD {Z:List (V×MapEntry)} {seen:Array Nat} (hn: (Z.map fun z=>z.2.born).Nodup) {z:V×MapEntry} (hz:z ∈ ga Z seen): (ga Z seen).Perm (z::ga Z (seen.push z.2.born)):=by
 have h1: ((ga Z seen).map fun z=>z.2.born).Nodup:=hn.sublist (List.filter_sublist.map _)
 have h2:=sU (fun z:V×MapEntry=>z.2.born) hz h1
 have h3: (ga Z seen).filter (fun x=> !(x.2.born==z.2.born))=ga Z (seen.push z.2.born):=by
  unfold ga
  rw[List.filter_filter]
  refine List.filter_congr fun x _=> ?_
  rw[contains_push]
  cases seen.contains x.2.born<;>cases (x.2.born==z.2.born) <;>rfl
 rw[h3] at h2
 exact h2
theorem AE {X:Ctx} {μ:Mu}: ∀ {es:List V} {l:List MapEntry},ah X μ es (l.map fun e=>Value.tuple #[e.key,e.val])→ ∃Z:List (V×MapEntry),Z.map (·.1)=es∧Z.map (·.2)=l∧ ∀z ∈ Z,aj X μ z.1 (.tuple #[z.2.key,z.2.val])
 | [],[],_=> ⟨[],rfl,rfl,Zm⟩
 | [],_::_,h=>by simp[ah] at h
 | _::_,[],h=>by simp[ah] at h
 | x::es,e::l,h=>by
   simp only[List.map_cons,ah] at h
   obtain⟨Z,h1,h2,h3⟩:=AE h.2
   refine⟨(x,e)::Z,by simp[h1],by simp[h2],fun z hz=> ?_⟩
   rcases Zz.1 hz with rfl| hz
   ·exact h.1
   ·exact h3 z hz
section
variable {X:Ctx} {E:Env} {n:Fp}
def yu (X:Ctx) (n:Fp) (ops:Array Oper) (y:Code) (rec:aM→St→Option (aN×St)) (tb:aM):Prop:=
 ∀ (σ σ':St) (e:aN) (μ0:Mu) (a:Go.Act) (w:World) (Q K:Go.Exit→Go.Act→World→Prop),rec tb σ=some (e,σ')→iD X μ0 n σ a w→(∀a' w',iD X μ0 n σ' a' w'→Q (match e with| .normal=> .normal| .exit id=> .exit id| .ret=> .ret) a' w')→
  (∀a' w',y.wpIn (Fr n.ro) 0 X.P Q a' w'→K .normal a' w')→wpOpsIn (Fr n.ro) 0 X.P ops K (List.range' 1 (ops.size - 1)) a w
def CE (X:Ctx) (n:Fp) (ops:Array Oper) (z:Code) (b1:Nat) (rec:aM→St→Option (aN×St)) (tm:aM):Prop:=
 ∀ (σ σ':St) (μ0:Mu) (a:Go.Act) (w:World) (Q:Go.Exit→Go.Act→World→Prop),rec tm σ=some (.normal,σ')→iD X μ0 n σ a w→(∀a' w',iD X μ0 n σ' a' w'→Q .normal a' w')→
  wpOpsIn (Fr n.ro) 0 X.P ops (Exit.then (z.wpIn (Fr n.ro) 0 X.P (Exit.inBlock b1 Q)) (Exit.inBlock b1 Q)) (List.range' 1 (ops.size - 1)) a w
abbrev mZ (i0:Nat) (ops:Array Oper) (y:Code) (b1 i5:Nat) (fM:Array Oper) (z5:Code):Code:= .seq (.region i0 ops false) (.seq y (.block b1 (.seq (.region i5 fM false) z5)))
theorem E1 {P:Program} {w:World} {bi bm since:Nat} {seen:Array Nat} {ents:Array MapEntry} {e:MapEntry} (hi:w.heap[bi]? =some (.mapIter (some bm) since (seen.push e.born) since)) (hb:w.heap[bm]? =some (.map ents since)) (he:e ∈ ents.toList) (hn: (ents.toList.map (·.born)).Nodup):
  (Instr.entry (.pointer (some ⟨bi,0,none⟩))).run P w= .ok (.tuple #[e.key,e.val]) w:=by
 have hf:ents.find? (·.born==e.born)=some e:=by
  rw[←Array.find?_toList]
  generalize ents.toList=l at he hn
  induction l with
  | nil=>simp at he
  | cons x l ih=>
    rw[List.map_cons,aaS] at hn
    rw[List.find?_cons]
    rcases Zz.1 he with rfl| he
    ·simp
    ·have bQ: ¬ (x.born==e.born)=true:=by
      intro h
      exact hn.1 (ZJ.2 ⟨e,he,(by simpa using h:x.born=e.born).symm⟩)
     simp only[bQ]
     exact ih he hn.2
 simp only[Instr.entry,getObj,Sem.run_bind,Sem.run,hi,hb,Result.andThen,Array.back?_push,bne_self_eq_false,ZB,if_false,hf]
 rfl
structure yw (X:Ctx) (n:Fp) (μ0:Mu) (rec:aM→St→Option (aN×St)) (tl:aM) (Good:St→Prop) (a:Go.Act) (w:World):Prop where
 h: ∃σe σp,iD X μ0 n σe a w∧rec tl σe=some (.normal,σp)∧Good σp
variable {ops fM:Array Oper} {o1 o5:Oper} {y z5:Code} {it nx ne id b1 r g:Nat} {μ0:Mu} {rec:aM→St→Option (aN×St)} {tb tm tl:aM} {Good:St→Prop} {i0 i5:Nat}
theorem u7 (h0:ops[0]? =some o1) (hd: ∀c,o1.op≠ .defer c) (hg:o1.guard=none) {a:Go.Act} {w w1:World} {v:Value} (fZ: (execOp a.eval o1).run X.P w= .ok (.value v) w1) {Q:Go.Exit→Go.Act→World→Prop}
  (h:wpOpsIn (Fr n.ro) 0 X.P ops Q (List.range' 1 (ops.size - 1)) (a.put o1.dst v) w1): (Code.region i0 ops false).wpIn (Fr n.ro) 0 X.P Q a w:=by
 refine wpIn_region ?_
 have bM:0 <ops.size:=(Zu.1 h0).1
 have hr:List.range ops.size=0::List.range' 1 (ops.size - 1):=by
  rw[aar]
  obtain⟨k,hk⟩: ∃k,ops.size=k+1:=⟨ops.size - 1,Zl⟩
  rw[hk,List.range'_succ]
  rfl
 rw[hr,wpOpsIn_cons]
 simp only[wpOpIn,h0]
 rw[if_pos (by simp[Region.wanted,hg])]
 refine tH hd ?_
 unfold Oper.wp
 rw[fZ,Oper.upon_value]
 exact h
theorem wW (dm:o1.op= .next (.tmp it) false) {a:Go.Act} {w w1:World} {v:Value} (ag: (Instr.next (a.eval (.tmp it)) false o1.type).run X.P w= .ok v w1): (execOp a.eval o1).run X.P w= .ok (.value v) w1:=by
 simp only[execOp,dm]
 exact cH ag
theorem CG (dm:o5.op= .entry (.tmp it)) {a:Go.Act} {w w1:World} {v:Value} (ag: (Instr.entry (a.eval (.tmp it))).run X.P w= .ok v w1): (execOp a.eval o5).run X.P w= .ok (.value v) w1:=by
 simp only[execOp,dm]
 exact cH ag
theorem wX {Q:Go.Exit→Go.Act→World→Prop} (hQ: ∀a w,yw X n μ0 rec tl Good a w→Q (.exit id) a w) (hB:yu X n ops y rec tb) (h0:ops[0]? =some o1) (dm:o1.op= .next (.tmp it) false) (hd:o1.dst=some nx) (hg:o1.guard=none) (wo:nx<n.1)
  {σ σp:St} {a:Go.Act} {w:World} (hs:iD X μ0 n σ a w) (ag: (Instr.next (a.eval (.tmp it)) false o1.type).run X.P w= .ok (.tuple #[.bool false]) w)
  (hk:runK rec it r g nx ne id tb tm tl [] σ=some σp) (AF:Good σp) (m:Nat):
  Code.roundsIn (Fr n.ro) 0 X.P (mZ i0 ops y b1 i5 fM z5) Q (m+1) a w:=by
 rw[roundsIn_succ]
 simp only[runK] at hk
 split at hk
 ·split at hk
  ·rename_i jF σe fR
   split at hk
   ·rename_i Nl
    subst Nl
    split at hk
    ·rename_i σ'' DK
     injection hk with hk;subst hk
     refine wpIn_seq (u7 (X:=X) h0 (by rw[dm];simp) hg (wW dm ag) ?_)
     obtain⟨iV,bM,φ,hr,hle⟩:=hs
     have ij:iD X μ0 n (σ.put (some nx) (.tuple [.bool false])) (a.put o1.dst (.tuple #[.bool false])) w:=by
      rw[hd]
      exact⟨by rw[put_defers];exact iV,by rw[kR];exact bM,φ,nM hr (Le.refl _) hr.aS (by simp only[aj];exact⟨_,rfl,by simp[ah,aj]⟩) (by simp;omega) σ.O,hle⟩
     exact hB _ _ _ _ _ _ (Exit.then (Code.wpIn (Fr n.ro) 0 X.P (.block b1 (.seq (.region i5 fM false) z5)) (Exit.then (Code.roundsIn (Fr n.ro) 0 X.P (mZ i0 ops y b1 i5 fM z5) Q m) Q)) (Exit.then (Code.roundsIn (Fr n.ro) 0 X.P (mZ i0 ops y b1 i5 fM z5) Q m) Q)) _ fR ij (fun a' w' fw=>hQ _ _ ⟨σe,σ'',fw,DK,AF⟩) fun a' w' h=>wpIn_seq h
    ·simp at hk
   ·simp at hk
  ·simp at hk
 ·simp at hk
theorem u9 {σ:St} (h:te it r g σ=true):σ.T it= .it r g∧(σ.O r).gen=g:=by
 unfold te at h
 split at h
 ·rename_i r' g' e
  simp only[Zt,aap] at h
  obtain⟨rfl,rfl,h⟩:=h
  exact⟨e,h⟩
 ·simp at h
theorem qG {Q:Go.Exit→Go.Act→World→Prop} (hQ: ∀a w,yw X n μ0 rec tl Good a w→Q (.exit id) a w) (hB:yu X n ops y rec tb) (hM:CE X n fM z5 b1 rec tm) (h0:ops[0]? =some o1) (dm:o1.op= .next (.tmp it) false) (hd:o1.dst=some nx) (hg:o1.guard=none) (wo:nx<n.1)
   (k0:fM[0]? =some o5) (TY:o5.op= .entry (.tmp it)) (kd:o5.dst=some ne) (kg:o5.guard=none) (bQ:ne<n.1)
   {bi bm since:Nat} {ents:Array MapEntry} {Z:List (V×MapEntry)} (hZ:Z.map (·.2)=ents.toList) (cD:im ents since):
   ∀ (m:Nat) (seen:Array Nat) (σ:St) (a:Go.Act) (w:World) (φ:Nat→Row),(ga Z seen).length=m→Marks n w a.defers→a.tmps.size=n.1→Rel X σ.T a ⟨w,φ,σ.O⟩→Le μ0 ⟨w,φ,σ.O⟩→
    (φ r).bB=bi→w.heap[bi]? =some (.mapIter (some bm) since seen since)→ ¬ (Mu.mk w φ σ.O).own bi→(bi<μ0.w.heap.size→μ0.own bi)→
    (∀r',(σ.O r').es.isSome=true→(φ r').cap≠0→(φ r').bB≠bi)→w.heap[bm]? =some (.map ents since)→ ¬Own X ⟨w,φ,σ.O⟩ bm→
    (∀z ∈ Z,aj X ⟨w,φ,σ.O⟩ z.1 (.tuple #[z.2.key,z.2.val]))→
    (∀p,p.Perm ((ga Z seen).map (·.1))→ ∃σp,runK rec it r g nx ne id tb tm tl p σ=some σp∧Good σp)→
    Code.roundsIn (Fr n.ro) 0 X.P (mZ i0 ops y b1 i5 fM z5) Q (m+1) a w
 | m,seen,σ,a,w,φ,hm,iV,bM,hr,hle,hφ,KV,ig,jG,dW,NN,N4,aV,va=>by
   have rp:te it r g σ=true:=by
    obtain⟨σp,hk,_⟩:=va _ (.refl _)
    cases hl: (ga Z seen).map (·.1) with
    | nil=>
      rw[hl] at hk
      simp only[runK] at hk
      split at hk
      ·rename_i h;exact h
      ·simp at hk
    | cons e p=>
      rw[hl] at hk
      simp only[runK] at hk
      split at hk
      · split at hk
        ·rename_i h;exact h
        ·simp at hk
      ·simp at hk
   obtain⟨hT,bP⟩:=u9 rp
   have NI:a.eval (.tmp it)= .pointer (some ⟨bi,0,none⟩):=by
    have:=hr.tmps it
    rw[hT] at this
    simp only[aj] at this
    obtain⟨a0,h1,_,h2⟩:=this
    obtain⟨_,rfl⟩:=h2 bP
    show a.tmps.getD it undef=_
    rw[h1,hφ]
   have kU:iD X μ0 n σ a w:=⟨iV,bM,φ,hr,hle⟩
   have bz:bi<w.heap.size:=(Zu.1 KV).1
   rcases HP (P:=X.P) (ty:=o1.type) KV NN cD.lt with⟨hz,ag⟩ | ⟨e,he,d,ag⟩
   ·
    have hl:ga Z seen=[]:=by
      have:=wV hZ seen
      rw[Array.eq_empty_of_size_eq_zero hz] at this
      exact List.map_eq_nil_iff.1 this
    obtain⟨σp,hk,AF⟩:=va [] (by rw[hl];exact .refl _)
    exact wX hQ hB h0 dm hd hg wo kU (by rw[NI];exact ag) hk AF m
   ·
    rw[←wV hZ seen] at he
    obtain⟨z,hz,rfl⟩:=ZJ.1 he
    have gM: (Z.map fun z=>z.2.born).Nodup:=by
      have:=cD.nodup
      rw[←hZ,List.map_map] at this
      exact this
    have DQ:=CD gM hz
    obtain⟨m',rfl⟩: ∃m',m=m'+1:=by
      have:=DQ.length_eq
      simp only[ZH] at this
      exact⟨_,by rw[←hm];exact this⟩
    have VO:z ∈ Z:=(List.mem_filter.1 hz).1
    have uS:=aV z VO
    obtain⟨σp1,uB,_⟩:=va (z.1:: (ga Z (seen.push z.2.born)).map (·.1)) (by have:=(DQ.map (·.1)).symm;simpa using this)
    obtain⟨k,v,σm,σ',VP,HR,JR,fR⟩: ∃k v σm σ',z.1= .tuple [k,v]∧rec tb (σ.put (some nx) (.tuple [.bool true,k,v]))=some (.normal,σm)∧te it r g σm=true∧rec tm (σm.put (some ne) (.tuple [k,v]))=some (.normal,σ'):=by
      simp only[runK] at uB
      split at uB
      · rename_i k v NO
        rw[if_pos rp] at uB
        split at uB
        ·rename_i σm hb
         split at uB
         · rename_i JR
           split at uB
           ·rename_i σ' js;exact⟨k,v,σm,σ',NO,hb,JR,js⟩
           ·simp at uB
         ·simp at uB
        ·simp at uB
      ·simp at uB
    have NO:aj X ⟨w,φ,σ.O⟩ k z.2.key∧aj X ⟨w,φ,σ.O⟩ v z.2.val:=by
      rw[VP] at uS
      simp only[aj] at uS
      obtain⟨vs,h1,h2⟩:=uS
      injection h1 with h1
      subst h1
      simpa [ah] using h2
    rw[roundsIn_succ]
    refine wpIn_seq (u7 (X:=X) h0 (by rw[dm];simp) hg (wW dm (by rw[NI];exact ag)) ?_)
    generalize xL: ({w with drawn:=w.drawn+d,heap:=w.heap.setIfInBounds bi (.mapIter (some bm) since (seen.push z.2.born) since)}:World)=w2
    have gZ: ∀b,b≠bi→w2.heap[b]? =w.heap[b]? :=fun b hb=>by
      rw[←xL];exact aae (fun e=>hb e.symm)
    have Mx:w2.heap[bi]? =some (.mapIter (some bm) since (seen.push z.2.born) since):=by
      rw[←xL];simp[bz]
    have jY:w2.heap.size=w.heap.size:=by rw[←xL];simp
    have st:gC X ⟨w,φ,σ.O⟩ w2:=by
      refine⟨fun ad c hc=> ?_,fun b es cl hb=> ?_,by show w.heap.size≤w2.heap.size;omega⟩
      · have bQ:ad.block≠bi:=fun e=>by
         have CZ:w.cell? ad=some c:=hc
         simp[World.cell?,e,KV] at CZ
        have CZ:w.cell? ad=some c:=hc
        simp only[World.cell?,gZ _ bQ] at CZ ⊢
        exact CZ
      · have js:w.heap[b]? =some (.map es cl):=hb
        rw[gZ b (fun e=>by rw[e,KV] at js;simp at js)]
        exact js
    have PZ:aP X ⟨w2,φ,σ.O⟩:=hr.aS.bN st fun r' h1 h2=>gZ _ (dW r' h1 h2)
    have My:Le μ0 ⟨w2,φ,σ.O⟩:=by
      refine⟨by have:=hle.size;show μ0.w.heap.size≤w2.heap.size;have h2:μ0.w.heap.size≤w.heap.size:=this;omega,fun b hb hn=> ?_,hle.gen,hle.row,?_,?_,?_,fun ad JS=> ?_⟩
      · have bQ:b≠bi:=fun e=>by subst e;exact hn (jG hb)
        obtain⟨k1,k2⟩:=hle.bR b hb hn
        exact⟨(gZ b bQ).trans k1,k2⟩
      ·rw[←hle.os,←xL]
      ·rw[←hle.output,←xL]
      ·rw[←hle.tape,←xL]
      · have k1:w.frozen? ad=μ0.w.frozen? ad:=hle.frozen ad JS
        show w2.frozen? ad=_
        rw[←k1]
        by_cases e:ad.block=bi
        ·simp only[World.frozen?,e,KV,Mx]
        ·simp only[World.frozen?,gZ _ e]
    have ov:Rel X σ.T a ⟨w2,φ,σ.O⟩:=⟨fun t=>aj.bN st (hr.tmps t),PZ⟩
    have HS:Marks n w2 a.defers:=by
      obtain⟨⟨m0,XL⟩,Ds,m1,m2,m3⟩:=iV
      exact⟨⟨Zl,fun l hl=>by
        obtain⟨L,k⟩:=XL l hl
        exact⟨L,(gZ l (fun e=>by rw[e,KV] at k;simp at k)).trans k⟩⟩,Ds,m1,m2,fun D hD=> ⟨(m3 D hD).1,(gZ D (fun e=>by have:=(m3 D hD).2;rw[e,KV] at this;simp at this)).trans (m3 D hD).2⟩⟩
    have qV:iD X ⟨w2,φ,σ.O⟩ n (σ.put (some nx) (.tuple [.bool true,k,v])) (a.put o1.dst (.tuple #[.bool true,z.2.key,z.2.val])) w2:=by
      rw[hd]
      refine⟨by rw[put_defers];exact HS,by rw[kR];exact bM,φ,nM ov (Le.refl _) PZ ?_ (by simp;omega) σ.O,Le.refl _⟩
      simp only[aj]
      exact⟨_,rfl,by simp only[ah,aj];exact⟨trivial,aj.bN st NO.1,aj.bN st NO.2,trivial⟩⟩
    refine hB _ _ _ _ _ _ (Exit.then (Code.wpIn (Fr n.ro) 0 X.P (.block b1 (.seq (.region i5 fM false) z5)) (Exit.then (Code.roundsIn (Fr n.ro) 0 X.P (mZ i0 ops y b1 i5 fM z5) Q (m'+1)) Q)) (Exit.then (Code.roundsIn (Fr n.ro) 0 X.P (mZ i0 ops y b1 i5 fM z5) Q (m'+1)) Q)) _ HR qV (fun am wm VQ=> ?_) fun a' w' h=>wpIn_seq h
    have il:bi<w2.heap.size:=Zl
    have KW:bm<w2.heap.size:=by rw[jY];exact(Zu.1 NN).1
    have KX:bm≠bi:=fun e=>by rw[e,KV] at NN;simp at NN
    obtain⟨TZ,KY⟩:=u9 JR
    have XM:=VQ
    obtain⟨P0,T1,φm,PA,E2⟩:=VQ
    have XN:φm r=φ r:=(E2.row r (by show (σm.O r).gen=(σ.O r).gen;rw[KY,bP])).1
    have T2:wm.heap[bi]? =some (.mapIter (some bm) since (seen.push z.2.born) since):=(E2.bR bi il ig).1.trans Mx
    have T3:wm.heap[bm]? =some (.map ents since):=(E2.bR bm KW (fun h=>N4 (.inl h))).1.trans ((gZ bm KX).trans NN)
    have T4:am.eval (.tmp it)= .pointer (some ⟨bi,0,none⟩):=by
      have:=PA.tmps it
      rw[TZ] at this
      simp only[aj] at this
      obtain⟨a0,h1,_,h2⟩:=this
      obtain⟨_,rfl⟩:=h2 KY
      show am.tmps.getD it undef=_
      rw[h1,XN,hφ]
    have XO:z.2 ∈ ents.toList:=by rw[←hZ];exact ZJ.2 ⟨z,VO,rfl⟩
    refine wpIn_block (wpIn_seq (u7 (X:=X) k0 (by rw[TY];simp) kg (CG TY (by rw[T4];exact E1 T2 T3 XO cD.nodup)) ?_))
    have A9:iD X ⟨w2,φ,σ.O⟩ n (σm.put (some ne) (.tuple [k,v])) (am.put o5.dst (.tuple #[z.2.key,z.2.val])) wm:=by
      rw[kd]
      refine⟨by rw[put_defers];exact P0,by rw[kR];exact T1,φm,nM PA (Le.refl _) PA.aS ?_ (by simp;omega) σm.O,E2⟩
      simp only[aj]
      exact⟨_,rfl,by simp only[ah];exact⟨aj.mono E2 (aj.bN st NO.1),aj.mono E2 (aj.bN st NO.2),trivial⟩⟩
    refine hM _ _ _ _ _ _ fR A9 fun a' w' fw=> ?_
    obtain⟨P1,JO,φ',sL,qH⟩:=fw
    have HT: ∀p,p.Perm ((ga Z (seen.push z.2.born)).map (·.1))→ ∃σp,runK rec it r g nx ne id tb tm tl p σ'=some σp∧Good σp:=fun p hp=>by
      obtain⟨σp,hk,EG⟩:=va (z.1::p) ((hp.cons z.1).trans (by have:=(DQ.map (·.1)).symm;simpa using this))
      refine⟨σp,?_,EG⟩
      rw[VP] at hk
      simp only[runK,rp,JR,if_true,HR,fR] at hk
      exact hk
    have T5:te it r g σ'=true:=by
      obtain⟨σp,hk,_⟩:=HT _ (.refl _)
      cases hl: (ga Z (seen.push z.2.born)).map (·.1) with
      | nil=>
        rw[hl] at hk
        simp only[runK] at hk
        split at hk
        ·rename_i h;exact h
        ·simp at hk
      | cons e p=>
        rw[hl] at hk
        simp only[runK] at hk
        split at hk
        ·split at hk
         ·rename_i h;exact h
         ·simp at hk
        ·simp at hk
    have vb: (σ'.O r).gen=g:=(u9 T5).2
    obtain⟨XP,XQ⟩:=qH.bR bi il ig
    obtain⟨XR,XS⟩:=qH.bR bm KW (fun h=>N4 (.inl h))
    have Mz:w'.heap[bi]? =some (.mapIter (some bm) since (seen.push z.2.born) since):=XP.trans Mx
    have hlen: (ga Z (seen.push z.2.born)).length=m':=by
      have:=DQ.length_eq
      rw[hm,ZH] at this
      omega
    refine qG hQ hB hM h0 dm hd hg wo k0 TY kd kg bQ hZ cD m' (seen.push z.2.born) σ' a' w' φ' hlen P1 JO sL (My.trans qH) ?_ Mz XQ jG ?_ (XR.trans ((gZ bm KX).trans NN)) ?_ (fun x hx=>aj.mono qH (aj.bN st (aV x hx))) HT
    · have:=(qH.row r (by show (σ'.O r).gen=(σ.O r).gen;rw[vb,bP])).1
      rw[show φ' r=φ r from this];exact hφ
    · intro r' h1 h2 hb
      obtain⟨es,aZ⟩:=ZA.1 h1
      rcases sL.aS.ok r' es aZ with⟨_,_,_,h4⟩ | ⟨_,_,ob,h3,h4⟩
      · rcases h4 with h4| ⟨c,T,vs,k1,_⟩
        ·exact h2 h4
        ·have VR:w'.heap[(φ' r').bB]? =some (.cells c T (0,0)):=k1
         rw[hb,Mz] at VR;simp at VR
      · have NP:w'.heap[(φ' r').bB]? =some ob:=h3
        rw[hb,Mz] at NP
        injection NP with NP
        rcases h4 with⟨_,_,k1,_⟩ | ⟨_,_,k1,_⟩ | ⟨_,_,_,k1,_⟩
        ·rw[←NP] at k1;simp at k1
        ·rw[←NP] at k1;simp at k1
        ·rw[←NP] at k1
         injection k1 with _ _ k1 _
         have:=congrArg Array.size k1
         simp at this
    · rintro(h| h)
      ·exact XS h
      ·exact N4 (.inr h)
termination_by m=>m
theorem vd {kT kO:List Nat} (hB:yu X n ops y rec tb) (hM:CE X n fM z5 b1 rec tm) (h0:ops[0]? =some o1) (dm:o1.op= .next (.tmp it) false) (hd:o1.dst=some nx) (hg:o1.guard=none) (wo:nx<n.1)
  (l0:fM[0]? =some o5) (XT:o5.op= .entry (.tmp it)) (ld:o5.dst=some ne) (lg:o5.guard=none) (bQ:ne<n.1)
  {C:aQ} {σ σ2:St} {e:aN} {a:Go.Act} {w:World} (ag:ar E C rec (.keys it nx ne id kT kO tb tm tl) σ=some (e,σ2)) (hs:iD X μ0 n σ a w):
  e= .normal∧(Code.block id (.loop (mZ i0 ops y b1 i5 fM z5))).wpIn (Fr n.ro) 0 X.P (fun ex a' w'=>ex= .normal∧ ∃σe σp,iD X μ0 n σe a' w'∧rec tl σe=some (.normal,σp)∧ ∀FC DR,iD X μ0 n σp FC DR→iD X μ0 n σ2 FC DR) a w:=by
 simp only[ar] at ag
 split at ag
 ·rename_i r g hT
  split at ag
  ·rename_i es hO
   split at ag
   ·rename_i hc
    obtain⟨bP,P2,eB⟩:=hc
    split at ag
    ·rename_i σ1 σs kb
     split at ag
     ·rename_i MA
      simp only[Zr,Zw] at ag
      obtain⟨rfl,rfl⟩:=ag
      refine⟨rfl,?_⟩
      let Good:St→Prop:=fun σp=> ∀FC DR,iD X μ0 n σp FC DR→iD X μ0 n (forget kT kO σ1 σs) FC DR
      have AF: ∀σp ∈ σ1::σs,Good σp:=by
       rintro σp hp FC DR ⟨iV,bM,φ,hr,hle⟩
       have Km:agree kT kO σ1 σp=true∨σp=σ1:=by
        rcases Zz.1 hp with h| h
        ·exact .inr h
        ·exact .inl (Zx.1 MA σp h)
       have XU: ∀t,t ∈ kT→σp.T t=σ1.T t:=fun t ht=>by
        rcases Km with h| h
        ·simp only[agree,Zt,Zx] at h
         exact V.beq_eq (h.1 t ht)
        ·rw[h]
       have XV: ∀x,x ∈ kO→σp.O x=σ1.O x:=fun x hx=>by
        rcases Km with h| h
        ·simp only[agree,Zt,Zx] at h
         exact Obj.beq_eq (h.2 x hx)
        ·rw[h]
       have Fx:=wU (O':=(forget kT kO σ1 σs).O) hr.aS fun x=>by
        simp only[forget]
        by_cases hx:kO.contains x=true
        ·rw[if_pos hx]
         exact .inl (XV x (by simpa using hx)).symm
        ·rw[if_neg hx]
         refine .inr ⟨rfl,.inl ?_⟩
         have:=p9 (fun σ:St=> (σ.O x).gen) hp
         show (σp.O x).gen<_+1
         omega
       refine⟨iV,bM,φ,⟨fun t=> ?_,Fx.2⟩,hle.trans Fx.1⟩
       simp only[forget]
       split
       ·rename_i ht
        rw[←XU t (by simpa using ht)]
        exact aj.mono Fx.1 (hr.tmps t)
       ·simp[aj]
      have va: ∀p,p.Perm es→ ∃σp,runK rec it r g nx ne id tb tm tl p ⟨σ.T,cC σ.O r ⟨g,0,false,false,none⟩⟩=some σp∧Good σp:=fun p hp=>by
       obtain⟨σp,h1,h2⟩:=sg kb p (mz hp)
       exact⟨σp,h2,AF σp h1⟩
      obtain⟨iV,bM,φ,hr,hle⟩:=hs
      have Fx:=wU (O':=cC σ.O r ⟨g,0,false,false,none⟩) hr.aS fun x=>by
       by_cases hx:x=r
       ·subst hx
        rw[an]
        exact .inr ⟨rfl,.inr ⟨bP.symm,P2.symm⟩⟩
       ·rw[aG _ _ hx];exact .inl rfl
      have ov:Rel X σ.T a ⟨w,φ,cC σ.O r ⟨g,0,false,false,none⟩⟩:=⟨fun t=>aj.mono Fx.1 (hr.tmps t),Fx.2⟩
      obtain⟨_,b7,ob,yS,hh⟩:=hr.aS.map r _ hO P2
      have fN: (Mu.mk w φ σ.O).own (φ r).bB:=⟨r,by show (σ.O r).es.isSome=true;rw[hO];rfl,eB,b7,rfl⟩
      have ig: ¬ (Mu.mk w φ (cC σ.O r ⟨g,0,false,false,none⟩)).own (φ r).bB:=by
       rintro⟨r',h1,h2,h3,h4⟩
       by_cases hx:r'=r
       ·subst hx;simp[an] at h1
       ·have vU: (σ.O r').es.isSome=true:=by have:=h1;simp only[aG _ _ hx] at this;exact this
        exact hr.aS.inj r' r hx vU (by show (σ.O r).es.isSome=true;rw[hO];rfl) h3 b7 h4
      have jG: (φ r).bB<μ0.w.heap.size→μ0.own (φ r).bB:=fun bz=>aaZ fun hn=> (hle.bR _ bz hn).2 fN
      have dW: ∀r',((cC σ.O r ⟨g,0,false,false,none⟩) r').es.isSome=true→(φ r').cap≠0→(φ r').bB≠(φ r).bB:=fun r' h1 h2 h4=>by
       by_cases hx:r'=r
       ·subst hx;simp[an] at h1
       ·have vU: (σ.O r').es.isSome=true:=by have:=h1;simp only[aG _ _ hx] at this;exact this
        exact hr.aS.inj r' r hx vU (by show (σ.O r).es.isSome=true;rw[hO];rfl) h2 b7 h4
      have hQ: ∀a' w',yw X n μ0 rec tl Good a' w'→Exit.inBlock id (fun ex a' w'=>ex= .normal∧ ∃σe σp,iD X μ0 n σe a' w'∧rec tl σe=some (.normal,σp)∧ ∀FC DR,iD X μ0 n σp FC DR→iD X μ0 n (forget kT kO σ1 σs) FC DR) (.exit id) a' w':=by
       rintro a' w' ⟨σe,σp,q1,q2,q3⟩
       simp only[Go.Exit.inBlock,if_true]
       exact⟨trivial,σe,σp,q1,q2,q3⟩
      have key: ∃m,Code.roundsIn (Fr n.ro) 0 X.P (mZ i0 ops y b1 i5 fM z5) (Exit.inBlock id (fun ex a' w'=>ex= .normal∧ ∃σe σp,iD X μ0 n σe a' w'∧rec tl σe=some (.normal,σp)∧ ∀FC DR,iD X μ0 n σp FC DR→iD X μ0 n (forget kT kO σ1 σs) FC DR)) (m+1) a w:=by
       rcases hh with⟨ents,clock,k1,hh,_⟩ | ⟨s,pos,_,hh⟩ | ⟨mo,since,kp,h1,h2,h3⟩
       ·exfalso
        cases he:ents.toList with
        | nil=>rw[he] at hh;simp[ah] at hh
        | cons x xs=>rw[he] at hh;simp[ah,aj] at hh
       ·simp at hh
       ·simp only[List.cons.injEq,V.mlit.injEq,and_true] at h2
        subst h2
        subst h1
        rcases h3 with⟨rfl,rfl⟩ | ⟨bm,ents,rfl,k2,k3,k4,k5,k6⟩
        ·obtain⟨σp,hk,EG⟩:=va [] (.refl _)
         have rp:a.eval (.tmp it)= .pointer (some ⟨(φ r).bB,0,none⟩):=by
            have:=hr.tmps it
            rw[hT] at this
            simp only[aj] at this
            obtain⟨a0,e1,_,e2⟩:=this
            obtain⟨_,rfl⟩:=e2 bP
            exact e1
         exact⟨0,wX hQ hB h0 dm hd hg wo ⟨iV,bM,φ,ov,hle.trans Fx.1⟩ (by rw[rp];exact HQ yS) hk EG 0⟩
        ·obtain⟨Z,z1,z2,z3⟩:=AE k6
         have qD:ga Z #[]=Z:=List.filter_eq_self.2 fun z _=>Zm
         refine⟨_,qG (r:=r) (g:=g) hQ hB hM h0 dm hd hg wo l0 XT ld lg bQ z2 k5 _ #[] ⟨σ.T,cC σ.O r ⟨g,0,false,false,none⟩⟩ a w φ rfl iV bM ov (hle.trans Fx.1) rfl yS ig jG dW k4 ?_ (fun z hz=>aj.mono Fx.1 (z3 z hz)) ?_⟩
         ·  rintro(⟨r',h1,h2,h3,h4⟩ | h)
            ·refine k2 (.inl ⟨r',?_,?_,h3,h4⟩)
             ·by_cases hx:r'=r
              ·subst hx;simp[an] at h1
              ·have:=h1;simp only[aG _ _ hx] at this;exact this
             ·by_cases hx:r'=r
              ·subst hx;exact eB
              ·have:=h2;simp only[aG _ _ hx] at this;exact this
            ·exact k2 (.inr h)
         ·rw[qD,z1];exact va
      obtain⟨m,hm⟩:=key
      exact wpIn_block (wpIn_loop_rounds (m+1) hm)
     ·simp at ag
    ·simp at ag
   ·simp at ag
  ·simp at ag
 ·simp at ag
end
end Go.AM
namespace Go.AM
open Go Go.RowKit
theorem HU {X:Ctx} {μ:Mu} (ho:aP X μ) {D:Nat} {o:Go.Obj} (hD:μ.w.heap[D]? =some o) (h1:o.isCells=false) (h2:o.isWalk=false) {r:Nat} (hr: (μ.O r).es.isSome=true) (hc: (μ.φ r).cap≠0): (μ.φ r).bB≠D:=fun hb=>by
 obtain⟨es,aZ⟩:=ZA.1 hr
 rcases ho.ok r es aZ with⟨_,_,_,h4⟩ | ⟨_,_,ob,h3,h4⟩
 ·rcases h4 with h4| ⟨c,T,vs,k1,_⟩
  ·exact hc h4
  ·rw[hb,hD] at k1;injection k1 with k1;subst k1;simp[Obj.isCells] at h1
 ·rw[hb,hD] at h3;injection h3 with h3;subst h3
  rcases h4 with⟨_,_,rfl,_⟩ | ⟨_,_,rfl,_⟩ | ⟨_,_,_,rfl,_⟩ <;>simp[Obj.isWalk] at h2
theorem jz {X:Ctx} {μ:Mu} {D:Nat} {o o':Go.Obj} (hD:μ.w.heap[D]? =some o) (h1:o.isCells=false) (h2:o.isWalk=false):gC X μ (μ.w.putObj D o'):=by
 refine⟨fun ad c hc=> ?_,fun b es cl hb=> ?_,by simp[World.putObj]⟩
 ·have bQ:ad.block≠D:=fun e=>by
   simp only[World.cell?,e,hD] at hc
   cases o<;>simp_all[Obj.isCells]
  simp only[World.cell?,World.putObj_heap_other bQ] at hc ⊢
  exact hc
 ·rw[World.putObj_heap_other (fun e=>by rw[e,hD] at hb;injection hb with hb;subst hb;simp[Obj.isWalk] at h2)]
  exact hb
theorem CH {μ0:Mu} {w:World} {φ:Nat→Row} {O:Nat→Obj} (le:Le μ0 ⟨w,φ,O⟩) {D:Nat} {o':Go.Obj} (hf:μ0.w.heap.size≤D):Le μ0 ⟨w.putObj D o',φ,O⟩:=by
 refine⟨by have:=le.size;simpa [World.putObj] using this,fun b hb hn=> ?_,le.gen,le.row,le.os,le.output,le.tape,fun ad JS=> ?_⟩
 ·have bQ:b≠D:=Zl
  exact⟨(World.putObj_heap_other bQ).trans (le.bR b hb hn).1,(le.bR b hb hn).2⟩
 ·have bQ:ad.block≠D:=Zl
  have:=le.frozen ad JS
  simp only[World.frozen?] at this ⊢
  show (match (w.putObj D o').heap[ad.block]? with| some (.cells _ _ (lo,hi))=>_| _=>false)=_
  rw[World.putObj_heap_other bQ]
  exact this
theorem wY {X:Ctx} {w:World} {φ:Nat→Row} {O:Nat→Obj} (ho:aP X ⟨w,φ,O⟩) {D:Nat} (h2:w.heap[D]? =some (.deferred (some []))):aP X ⟨w.putObj D (.deferred none),φ,O⟩:=
 ho.bN (jz (μ:=⟨w,φ,O⟩) h2 rfl rfl) fun r h3 h4=>World.putObj_heap_other (HU ho h2 rfl rfl h3 h4)
def Kept (μ:Mu) (W W':World):Prop:= ∀b,b<μ.w.heap.size→ ¬μ.own b→W'.heap[b]? =W.heap[b]?
def Abides (J:Nat→World→Prop):Prop:= ∀k A B,J k A→A.grownBy B none→J k B
structure JT (J:Nat→(Nat→Prop)→World→Prop):Prop where
 grow: ∀k F A B,J k F A→A.grownBy B none→J k (fun b=>F b∨(A.heap.size≤b∧b<B.heap.size)) B
 less: ∀k F F' A,J k F A→(∀b,F' b→F b)→J k F' A
structure tI (X:Ctx) (μ:Mu) (gf:Nat) (lb:Array Value) (xs:List (List V)):Prop where
 enters: ∀args w,(callFunc gf args).run X.P w= .ok (.enter gf args) w
 ex: ∃vC:List (Array Value),vC.length=xs.length∧(∀ (i:Nat) x v,xs[i]? =some x→vC[i]? =some v→ah X μ x v.toList)∧
  ∀ (l:Nat) (J:Nat→(Nat→Prop)→World→Prop) (Jx:Nat→World→Prop) (W0:World),Below μ.w.heap.size μ.w W0→JT J→Abides Jx→
   (∀ (k:Nat) F W1 v,vC[k]? =some v→J k F W1→YieldAt (Fr none) 0 X.P l v W1 fun e W'=> (e= .returned (.bool true)∧J (k+1) F W'∧Kept μ W1 W'∧ ∀b,F b→W'.heap[b]? =W1.heap[b]?)∨(e= .returned (.bool false)∧Jx (k+1) W'))→
   J 0 (fun _=>False) W0→CallsIn (Fr none) 0 X.P gf (#[.func (.yield l) #[] #[]]++lb) W0 fun e W'=> (∃v,e= .returned v)∧((∃F,J vC.length F W')∨ ∃k,k≤vC.length∧Jx k W')
theorem na {X:Ctx} {μ:Mu} {W':World} (h:μ.w.grownBy W' none):gC X μ W':=by
 have hb: ∀k,k<μ.w.heap.size→W'.heap[k]? =μ.w.heap[k]? :=fun k hk=>h.block k hk Zm
 refine⟨fun ad c hc=> ?_,fun b es cl hc=> ?_,h.size⟩
 ·have bz:ad.block<μ.w.heap.size:=by
   rcases Nat.lt_or_ge ad.block μ.w.heap.size with hl| hl
   ·exact hl
   ·simp[World.cell?,aaN hl] at hc
  simp only[World.cell?,hb _ bz] at hc ⊢
  exact hc
 ·rw[hb _ (Zu.1 hc).1];exact hc
theorem yx {X:Ctx} {μ:Mu} (ho:aP X μ) {r:Nat} (hr: (μ.O r).es.isSome=true) (hc: (μ.φ r).cap≠0): (μ.φ r).bB<μ.w.heap.size:=by
 obtain⟨es,aZ⟩:=ZA.1 hr
 rcases ho.ok r es aZ with⟨_,_,_,h4⟩ | ⟨_,_,ob,h3,h4⟩
 ·rcases h4 with h4| ⟨c,T,vs,k1,_⟩
  ·exact absurd h4 hc
  ·exact(Zu.1 k1).1
 ·exact(Zu.1 h3).1
structure eU (X:Ctx) (μb:Mu) (T:Nat→V) (a:Go.Act) (l:Nat) (Dq:Option Nat) (L:Loop) (O:Nat→Obj) (φ:Nat→Row) (W:World):Prop where
 rel:Rel X T a ⟨W,φ,O⟩
 le:Le μb ⟨W,φ,O⟩
 wZ:W.heap[l]? =some (.loop L)
 MB: ∀D,Dq=some D→W.heap[D]? =some (.deferred (some []))
section
variable {X:Ctx} {μb:Mu} {T:Nat→V} {a:Go.Act} {l:Nat} {Dq:Option Nat} {L L':Loop} {O:Nat→Obj} {φ:Nat→Row} {W W':World}
theorem eU.grow (h:eU X μb T a l Dq L O φ W) (hg:W.grownBy W' none):eU X μb T a l Dq L O φ W':=by
 have st:gC X ⟨W,φ,O⟩ W':=na (μ:=⟨W,φ,O⟩) hg
 have hb: ∀k,k<W.heap.size→W'.heap[k]? =W.heap[k]? :=fun k hk=>hg.block k hk Zm
 refine⟨⟨fun t=>aj.bN st (h.rel.tmps t),h.rel.aS.bN st fun r h1 h2=>hb _ (yx h.rel.aS h1 h2)⟩,?_,(hb _ (Zu.1 h.wZ).1).trans h.wZ,fun D hD=> (hb _ (Zu.1 (h.MB D hD)).1).trans (h.MB D hD)⟩
 have le:=h.le
 have bM:μb.w.heap.size≤W.heap.size:=le.size
 exact⟨Z1 bM hg.size,fun b js hn=> ⟨(hb b Zl).trans (le.bR b js hn).1,(le.bR b js hn).2⟩,le.gen,le.row,hg.os.trans le.os,hg.output.trans le.output,hg.tape.trans le.tape,fun ad JS=>by
  have:=le.frozen ad JS
  rw[←this]
  show W'.frozen? ad=W.frozen? ad
  simp only[World.frozen?,hb ad.block Zl]⟩
theorem eU.put (h:eU X μb T a l Dq L O φ W) (hl:μb.w.heap.size≤l) (hD: ∀D,Dq=some D→D≠l):eU X μb T a l Dq L' O φ (W.putObj l (.loop L')):=by
 have st:gC X ⟨W,φ,O⟩ (W.putObj l (.loop L')):=jz (μ:=⟨W,φ,O⟩) h.wZ rfl rfl
 refine⟨⟨fun t=>aj.bN st (h.rel.tmps t),h.rel.aS.bN st fun r h3 h4=>World.putObj_heap_other (HU h.rel.aS h.wZ rfl rfl h3 h4)⟩,CH h.le hl,World.putObj_heap_same (Zu.1 h.wZ).1,fun D hd=> (World.putObj_heap_other (hD D hd)).trans (h.MB D hd)⟩
end
def aN.conv:aN→Go.Exit
 | .normal=> .normal
 | .exit id=> .exit id
 | .ret=> .ret
def HV (X:Ctx) (n:Fp) (c:Code) (rec:aM→St→Option (aN×St)) (tc:aM):Prop:=
 ∀ (σ σ':St) (e:aN) (μ0:Mu) (a:Go.Act) (w:World),rec tc σ=some (e,σ')→iD X μ0 n σ a w→c.wpIn (Fr n.ro) 0 X.P (fun ex a' w'=>ex=e.conv∧iD X μ0 n σ' a' w') a w
theorem DS {X:Ctx} {μ:Mu}: ∀ {ps:List Nat} {x:List V} {vs:List Value} {T:Nat→V} {tmps:Array Value},ah X μ x vs→(∀t,aj X μ (T t) (tmps.getD t undef))→(∀p ∈ ps,p<tmps.size)→
   (∀t,aj X μ (my T ps x t) (((ps.zip vs).foldl (fun t p=>t.setIfInBounds p.1 p.2) tmps).getD t undef))∧((ps.zip vs).foldl (fun t p=>t.setIfInBounds p.1 p.2) tmps).size=tmps.size
 | [],x,vs,T,tmps,_,h,_=> ⟨by simpa [my] using h,rfl⟩
 | p::ps,[],[],T,tmps,_,h,_=> ⟨by simpa [my] using h,rfl⟩
 | p::ps,[],_::_,T,tmps,hx,_,_=>by simp[ah] at hx
 | p::ps,_::_,[],T,tmps,hx,_,_=>by simp[ah] at hx
 | p::ps,x::xs,v::vs,T,tmps,hx,h,hp=>by
   simp only[ah] at hx
   have bz:=hp p Zm
   obtain⟨k1,k2⟩:=DS (ps:=ps) (T:=cC T p x) (tmps:=tmps.setIfInBounds p v) hx.2 (fun t=>by
    unfold cC
    split
    ·rename_i e;subst e
     have: (tmps.setIfInBounds t v).getD t undef=v:=by simp[bz]
     rw[this];exact hx.1
    ·rename_i bQ
     have: (tmps.setIfInBounds p v).getD t undef=tmps.getD t undef:=by
      simp[aae (fun e=>bQ e.symm)]
     rw[this];exact h t) (fun q hq=>by simpa using hp q (by simp[hq]))
   exact⟨k1,by simpa using k2⟩
theorem E3 {P:Program} {w:World} (ro:Option Nat) (h: ∀l,ro=some l→ ∃L,w.heap[l]? =some (.loop L)) (fn:FuncId) (tmps:Array Value) (ps:Array Tmp) (assign body:Code):
   ∃ (l:Nat) (Dq:Option Nat) (dD:Nat) (W1:World),(Instr.enterLoop fn tmps ps assign body ro).run P w= .ok (l,Dq.toList.map fun D=> {target:= .collected D,args:= #[]}) W1∧w.grownBy W1 none∧w.heap.size≤l∧
    W1.heap[l]? =some (.loop {state:= .ready,pending:=none,fn,tmps,params:=ps,assign,body,defers:=dD})∧ ∀D,Dq=some D→w.heap.size≤D∧D≠l∧W1.heap[D]? =some (.deferred (some [])):=by
 cases ro with
 | none=>
   have bM: (w.alloc (.deferred (some []))).heap.size=w.heap.size+1:=World.size_alloc _ _
   refine⟨w.heap.size+1,some w.heap.size,w.heap.size,_,run_enterLoop_outer fn tmps ps assign body,?_,Zl,?_,?_⟩
   ·have b1:Below w.heap.size w ((w.alloc (.deferred (some []))).alloc (.loop {state:= .ready,pending:=none,fn,tmps,params:=ps,assign,body,defers:=w.heap.size})):=((Below.refl _ w).alloc (Zy _) _).alloc Zm _
    exact⟨b1.os,b1.tape,b1.output,b1.size,fun k hk _=>b1.block k hk⟩
   ·have:=World.alloc_heap_new (w.alloc (.deferred (some []))) (.loop {state:= .ready,pending:=none,fn,tmps,params:=ps,assign,body,defers:=w.heap.size})
    rwa [bM] at this
   ·rintro D hD
    injection hD with hD;subst hD
    exact⟨Zy _,Zl,(Below.heap_alloc _ _ _ (by rw[bM];omega)).trans (World.alloc_heap_new w _)⟩
 | some l0=>
   obtain⟨L,hL⟩:=h l0 rfl
   refine⟨w.heap.size,none,L.defers,_,run_enterLoop_inner hL fn tmps ps assign body,?_,Zy _,World.alloc_heap_new w _,Zm⟩
   have b1:Below w.heap.size w (w.alloc (.loop {state:= .ready,pending:=none,fn,tmps,params:=ps,assign,body,defers:=L.defers})):=(Below.refl _ w).alloc (Zy _) _
   exact⟨b1.os,b1.tape,b1.output,b1.size,fun k hk _=>b1.block k hk⟩
theorem w7 {X:Ctx} {μ0:Mu} {n:Fp} {T:Nat→V} {a:Go.Act} {w W:World} {φ φ':Nat→Row} {O0 O:Nat→Obj} {l:Nat} {Dq:Option Nat} {L:Loop} (iV:Marks n w a.defers) (bM:a.tmps.size=n.tm) (ho:aP X ⟨w,φ,O0⟩) (hle:Le μ0 ⟨w,φ,O0⟩)
  (h:eU X ⟨w,φ,O0⟩ T a l Dq L O φ' W) (hD: ∀D,Dq=some D→w.heap.size≤D):iD X μ0 n ⟨T,O⟩ {a with defers:=(Dq.toList.map fun D=> {target:= .collected D,args:= #[]})++a.defers} W:=by
 refine⟨?_,bM,φ',⟨h.rel.tmps,h.rel.aS⟩,hle.trans h.le⟩
 obtain⟨h0,Ds,h1,h2,h3⟩:=iV.le ho h.le
 refine⟨h0,Dq.toList++Ds,by simp[h1],?_,fun D hd=> ?_⟩
 ·cases Dq with
  | none=>simpa using h2
  | some D=>
    simp only[Option.toList_some,Z2,Z8,aaS]
    refine⟨fun hm=> ?_,h2⟩
    obtain⟨_,XW,k1,_,k3⟩:=iV
    have:Ds=XW:=by
      rw[h1] at k1
      have Az:Function.Injective (fun D:Nat=> ({target:= .collected D,args:= #[]}:Deferred)):=fun x y e=>by injection e with e;injection e
      exact List.map_inj_right (fun x y e=>Az e) |>.1 k1
    subst this
    have:=(Zu.1 (k3 D hm).2).1
    have:=hD D rfl
    omega
 ·rcases ZF.1 hd with hd| hd
  · cases Dq with
    | none=>simp at hd
    | some D'=>
      simp at hd;subst hd
      exact⟨Z1 iV.1.1 (hD _ rfl),h.MB _ rfl⟩
  ·exact h3 D hd
theorem AG {X:Ctx} {n:Fp} {g:Operand} {ps:Array Tmp} {assign body:Code} {rec:aM→St→Option (aN×St)} {ta tb:aM} (hA: ∀l,HV X ⟨n.tm,0,some l⟩ assign rec ta) (hB: ∀l,HV X ⟨n.tm,0,some l⟩ body rec tb)
  {μ0:Mu} {σ σ':St} {e:aN} {a:Go.Act} {w:World} (hs:iD X μ0 n σ a w) (sB: ∀p ∈ ps.toList,p<n.tm) {gf:Nat} {lb:Array Value} {xs:List (List V)} (hg:a.eval g= .func (.func gf) #[] lb)
  (hI: ∀φ,Rel X σ.T a ⟨w,φ,σ.O⟩→tI X ⟨w,φ,σ.O⟩ gf lb xs) (hlen: ∀x ∈ xs,x.length=ps.size) (ag:pY rec ps.toList ta tb σ.T xs σ.O=some (e,σ')):
  (Code.rangeFunc g ps assign body).wpIn (Fr n.ro) 0 X.P (fun ex a' w'=>ex=e.conv∧iD X μ0 n σ' a' w') a w:=by
 obtain⟨iV,bM,φ,hr,hle⟩:=hs
 obtain⟨enters,vC,yR,yT,P3⟩:=hI φ hr
 refine wpIn_rangeFunc fun fn nE=> ?_
 obtain⟨l,Dq,dD,W1,T6,kN,hl,T7,Re⟩:=E3 (P:=X.P) n.ro iV.1.2 fn a.tmps ps assign body
 obtain⟨fg,kV⟩: ∃fg:LoopState→Option Code→Loop,fg=fun st pe=> {state:=st,pending:=pe,fn,tmps:=a.tmps,params:=ps,assign,body,defers:=dD}:=⟨_,rfl⟩
 have bQ: ∀D,Dq=some D→D≠l:=fun D hD=> (Re D hD).2.1
 have Py:eU X ⟨w,φ,σ.O⟩ σ.T a l Dq (fg .ready none) σ.O φ W1:=by
  have st:gC X ⟨w,φ,σ.O⟩ W1:=na (μ:=⟨w,φ,σ.O⟩) kN
  have hb: ∀k,k<w.heap.size→W1.heap[k]? =w.heap[k]? :=fun k hk=>kN.block k hk Zm
  refine⟨⟨fun t=>aj.bN st (hr.tmps t),hr.aS.bN st fun r h1 h2=>hb _ (yx hr.aS h1 h2)⟩,?_,by rw[kV];exact T7,fun D hD=> (Re D hD).2.2⟩
  exact⟨kN.size,fun b js hn=> ⟨hb b js,hn⟩,fun _=>Zy _,fun _ _=> ⟨rfl,rfl⟩,kN.os,kN.output,kN.tape,fun ad JS=>by simp only[World.frozen?,hb ad.block JS]⟩
 refine⟨l,_,W1,{target:= .fn (.func gf) lb,args:= #[.func (.yield l) #[] #[]]},W1,gf,#[.func (.yield l) #[] #[]]++lb,W1,T6,?_,fun _ _=>trivial,?_,fun h=>by simp[Fr,Fence.wide] at h,?_⟩
 ·simp only[resolve,hg]
  simp[go_sem]
 ·simp[invoke,go_sem,enters]
 have key:=P3 l (fun k F W=> ∃O φ',eU X ⟨w,φ,σ.O⟩ σ.T a l Dq (fg .ready none) O φ' W∧pY rec ps.toList ta tb σ.T (xs.drop k) O=some (e,σ')∧ ∀b,F b→b<W.heap.size∧ ¬Mu.own ⟨W,φ',O⟩ b∧b≠l)
  (fun k W=> ∃O φ' c,eU X ⟨w,φ,σ.O⟩ σ.T a l Dq (fg .done (some c)) O φ' W∧σ'=⟨σ.T,O⟩∧(e= .ret∧c= .ret∨ ∃id,e= .exit id∧c= .exit id)) W1
  ⟨kN.os,kN.tape,kN.output,kN.size,fun k hk=>kN.block k hk Zm⟩
  ⟨fun  k F A B ⟨O,φ',h1,h2,h3⟩ hg=> ⟨O,φ',h1.grow hg,h2,fun b hb=>by
    rcases hb with hb| ⟨IE,JE⟩
    ·exact⟨ZC (h3 b hb).1 hg.size,(h3 b hb).2⟩
    ·  refine⟨JE,?_,fun jI=> ?_⟩
       · rintro⟨r,q1,_,q3,q4⟩
         have:=yx (μ:=⟨A,φ',O⟩) h1.rel.aS q1 q3
         have hq: (φ' r).bB=b:=q4
         have: (φ' r).bB<A.heap.size:=this
         omega
       · subst jI
         have:=(Zu.1 h1.wZ).1
         omega⟩,fun k F F' A ⟨O,φ',h1,h2,h3⟩ hF=> ⟨O,φ',h1,h2,fun b hb=>h3 b (hF b hb)⟩⟩ (fun k A B ⟨O,φ',c,h1,h2⟩ hg=> ⟨O,φ',c,h1.grow hg,h2⟩) ?round ⟨σ.O,φ,Py,by simpa using ag,fun b hb=>hb.elim⟩
 case round=>
  rintro k F W v hv ⟨O,φ',jG,tj,hF⟩
  have hk:k<xs.length:=by rw[←yR];exact(Zs.1 hv).1
  have hx:xs[k]? =some xs[k]:=Zv hk
  rw[ZP hk] at tj
  generalize xs[k]=x at hx tj
  have sH:=yT k x v hx hv
  have Mi:=hlen x (List.mem_of_getElem? hx)
  simp only[pY] at tj
  split at tj
  rotate_left
  ·simp at tj
  rename_i σ1 h1
  have T8:=jG.le
  have T9:ah X ⟨W,φ',O⟩ x v.toList:=ah.mono T8 sH
  have la:v.size=ps.size:=by
    have:=sH.length
    rw[←Mi,this];simp
  have Kh:=DS (ps:=ps.toList) (T:=σ.T) (tmps:=a.tmps) T9 jG.rel.tmps (by rw[bM];exact sB)
  have O9: ((ps.zip v).foldl (fun tmps (p:Tmp×Value)=>tmps.setIfInBounds p.1 p.2) a.tmps)=(ps.toList.zip v.toList).foldl (fun t p=>t.setIfInBounds p.1 p.2) a.tmps:=by
    rw[←Array.foldl_toList,Array.toList_zip]
  have hy:=run_yield (P:=X.P) (args:=v) jG.wZ (by rw[kV];exact la)
  rw[kV] at hy
  refine⟨fn,_,assign,body,hy,roundIn_of_wpIn nE ?_⟩
  have kU:iD X ⟨W,φ',O⟩ ⟨n.tm,0,some l⟩ ⟨my σ.T ps.toList x,O⟩ {tmps:=(ps.zip v).foldl (fun tmps (p:Tmp×Value)=>tmps.setIfInBounds p.1 p.2) a.tmps,defers:=[]} W:=by
    refine⟨Marks.nil (aaj _) (fun l' kC=>by injection kC with kC;subst kC;exact⟨_,jG.wZ⟩),by show Array.size _=n.tm;rw[O9,Kh.2];exact bM,φ',⟨fun t=> ?_,jG.rel.aS⟩,Le.refl _⟩
    show aj X _ _ (Array.getD _ t undef)
    rw[O9];exact Kh.1 t
  refine wpIn_mono (hA l _ _ _ _ _ _ h1 kU) fun ex a1 w1 hq=> ?_
  obtain⟨rfl,BR,qW,φ1,tg,HW⟩:=hq
  have KZ: ∀ {b:Nat} {o:Go.Obj},W.heap[b]? =some o→o.isCells=false→o.isWalk=false→w1.heap[b]? =some o:=fun {b o} hb i1 i2=>
    (HW.bR b (Zu.1 hb).1 (dy jG.rel.aS hb i1 i2)).1.trans hb
  have JU:eU X ⟨w,φ,σ.O⟩ σ.T a l Dq (fg .ready none) σ1.O φ1 w1:=⟨⟨fun t=>aj.mono HW (jG.rel.tmps t),tg.aS⟩,jG.le.trans HW,KZ jG.wZ rfl rfl,fun D hD=>KZ (jG.MB D hD) rfl rfl⟩
  show ∃w₂,_∧_
  refine⟨_,run_beginRound JU.wZ (by rw[kV]),?_⟩
  have rJ:eU X ⟨w,φ,σ.O⟩ σ.T a l Dq (fg .busy none) σ1.O φ1 (w1.putObj l (.loop (fg .busy none))):=JU.put hl bQ
  have P4: ({fg .ready none with state:= .busy}:Loop)=fg .busy none:=by rw[kV]
  rw[P4]
  have st2:gC X ⟨w1,φ1,σ1.O⟩ (w1.putObj l (.loop (fg .busy none))):=jz (μ:=⟨w1,φ1,σ1.O⟩) JU.wZ rfl rfl
  have K0:iD X ⟨w1.putObj l (.loop (fg .busy none)),φ1,σ1.O⟩ ⟨n.tm,0,some l⟩ σ1 a1 (w1.putObj l (.loop (fg .busy none))):=by
    refine⟨?_,qW,φ1,⟨fun t=>aj.bN st2 (tg.tmps t),rJ.rel.aS⟩,Le.refl _⟩
    obtain⟨_,Ds,m1,m2,m3⟩:=BR
    refine⟨⟨aaj _,fun l' kC=>by injection kC with kC;subst kC;exact⟨_,rJ.wZ⟩⟩,Ds,m1,m2,fun D hD=> ⟨aaj _,?_⟩⟩
    rw[World.putObj_heap_other (fun e=>by have:=(m3 D hD).2;rw[e,JU.wZ] at this;simp at this)]
    exact(m3 D hD).2
  split at tj
  ·
    rename_i σ2 h2
    refine wpIn_mono (hB l _ _ _ _ _ _ h2 K0) fun ex a3 w3 hq=> ?_
    obtain⟨rfl,_,_,φ3,P5,yy⟩:=hq
    have AH: ∀ {b:Nat} {o:Go.Obj},(w1.putObj l (.loop (fg .busy none))).heap[b]? =some o→o.isCells=false→o.isWalk=false→w3.heap[b]? =some o:=fun {b o} hb i1 i2=>
       (yy.bR b (Zu.1 hb).1 (dy rJ.rel.aS hb i1 i2)).1.trans hb
    have E4:eU X ⟨w,φ,σ.O⟩ σ.T a l Dq (fg .busy none) σ2.O φ3 w3:=⟨⟨fun t=>aj.mono yy (rJ.rel.tmps t),P5.aS⟩,rJ.le.trans yy,AH rJ.wZ rfl rfl,fun D hD=>AH (rJ.MB D hD) rfl rfl⟩
    have HX:eU X ⟨w,φ,σ.O⟩ σ.T a l Dq (fg .ready none) σ2.O φ3 (w3.putObj l (.loop (fg .ready none))):=E4.put hl bQ
    have e4: ({fg .busy none with state:=if (none:Option Code).isNone then .ready else .done,pending:=none}:Loop)=fg .ready none:=by rw[kV];rfl
    have NL: ∀b,F b→(w3.putObj l (.loop (fg .ready none))).heap[b]? =W.heap[b]? ∧b<w3.heap.size∧ ¬Mu.own ⟨w3,φ3,σ2.O⟩ b:=fun b hb=>by
       obtain⟨f1,f2,f3⟩:=hF b hb
       have g1:=HW.bR b f1 f2
       have s1:W.heap.size≤w1.heap.size:=HW.size
       have s2: (w1.putObj l (.loop (fg .busy none))).heap.size≤w3.heap.size:=yy.size
       have s3: (w1.putObj l (.loop (fg .busy none))).heap.size=w1.heap.size:=World.putObj_size ..
       have g2:=yy.bR b (by show b< (w1.putObj l (.loop (fg .busy none))).heap.size;omega) g1.2
       refine⟨?_,Zl,g2.2⟩
       rw[World.putObj_heap_other f3,show w3.heap[b]? =(w1.putObj l (.loop (fg .busy none))).heap[b]? from g2.1,World.putObj_heap_other f3]
       exact g1.1
    refine⟨_,_,run_endRound none E4.wZ,.inl ⟨rfl,⟨σ2.O,φ3,by rw[e4];exact HX,tj,fun b hb=> ?_⟩,fun b hb hn=> ?_,fun b hb=> ?_⟩⟩
    ·  rw[e4]
       refine⟨?_,(NL b hb).2.2,(hF b hb).2.2⟩
       rw[show (w3.putObj l (.loop (fg .ready none))).heap.size=w3.heap.size from World.putObj_size ..]
       exact(NL b hb).2.1
    ·  rw[e4]
       exact(HX.le.bR b hb hn).1.trans (jG.le.bR b hb hn).1.symm
    ·rw[e4];exact(NL b hb).1
  ·
    rename_i e2 σ2 XX h2
    simp only[Zr,Zw] at tj
    obtain⟨rfl,rfl⟩:=tj
    refine wpIn_mono (hB l _ _ _ _ _ _ h2 K0) fun ex a3 w3 hq=> ?_
    obtain⟨rfl,_,_,φ3,P5,yy⟩:=hq
    have AH: ∀ {b:Nat} {o:Go.Obj},(w1.putObj l (.loop (fg .busy none))).heap[b]? =some o→o.isCells=false→o.isWalk=false→w3.heap[b]? =some o:=fun {b o} hb i1 i2=>
       (yy.bR b (Zu.1 hb).1 (dy rJ.rel.aS hb i1 i2)).1.trans hb
    have E4:eU X ⟨w,φ,σ.O⟩ σ.T a l Dq (fg .busy none) σ2.O φ3 w3:=⟨⟨fun t=>aj.mono yy (rJ.rel.tmps t),P5.aS⟩,rJ.le.trans yy,AH rJ.wZ rfl rfl,fun D hD=>AH (rJ.MB D hD) rfl rfl⟩
    have HX: ∀c,eU X ⟨w,φ,σ.O⟩ σ.T a l Dq (fg .done (some c)) σ2.O φ3 (w3.putObj l (.loop (fg .done (some c)))):=fun c=>E4.put hl bQ
    have e4: ∀c,({fg .busy none with state:=if (some c:Option Code).isNone then .ready else .done,pending:=some c}:Loop)=fg .done (some c):=fun c=>by rw[kV];rfl
    cases e2 with
    | normal=>exact absurd rfl (XX ·)
    | exit id=>exact⟨_,_,run_endRound (some (.exit id)) E4.wZ,.inr ⟨rfl,σ2.O,φ3,_,by rw[e4];exact HX _,rfl,.inr ⟨id,rfl,rfl⟩⟩⟩
    | ret=>exact⟨_,_,run_endRound (some .ret) E4.wZ,.inr ⟨rfl,σ2.O,φ3,_,by rw[e4];exact HX _,rfl,.inl ⟨rfl,rfl⟩⟩⟩
  ·simp at tj
 refine CallsIn.mono (show CallsIn (Fr n.ro) (0 - 1) X.P gf _ W1 _ from key) ?_
 rintro ending W' ⟨⟨v,rfl⟩,(⟨_,O,φ',jG,tj,_⟩ | ⟨k,_,O,φ',c,jG,hσ,hc⟩)⟩
 ·rw[aaO Zl] at tj
  simp only[pY,Zr,Zw] at tj
  obtain⟨rfl,rfl⟩:=tj
  exact⟨none,_,by have:=run_endLoop (P:=X.P) jG.wZ (by rw[kV];simp);rw[this,kV],rfl,w7 iV bM hr.aS hle (jG.put hl bQ) fun D hD=> (Re D hD).1⟩
 ·subst hσ
  refine⟨some c,_,by have:=run_endLoop (P:=X.P) jG.wZ (by rw[kV];simp);rw[this,kV],?_⟩
  have kU:=w7 iV bM hr.aS hle (jG.put (L':=fg .exhausted (some c)) hl bQ) fun D hD=> (Re D hD).1
  rcases hc with⟨rfl,rfl⟩ | ⟨id,rfl,rfl⟩
  · refine wpIn_ret ⟨rfl,?_⟩
    rw[kV] at kU;exact kU
  · refine wpIn_exit ⟨rfl,?_⟩
    rw[kV] at kU;exact kU
end Go.AM
namespace Go.AM
open Go Go.RowKit
def Ends (X:Ctx) (μ0:Mu) (n:Fp) (e:aN) (σ:St):Go.Exit→Go.Act→World→Prop:=fun ex a w=>ex=e.conv∧iD X μ0 n σ a w
section
variable {X:Ctx} {E:Env} {μ0:Mu} {n:Fp}
theorem ve {σ:St} {a:Go.Act} {w:World} (hs:iD X μ0 n σ a w) {c:Operand} {c':aD} (hc:ct X c=some c') {b:Bool} (hb:aT σ c'= .bool b):a.eval c= .bool b:=by
 obtain⟨_,_,φ,hr,_⟩:=hs
 have:=aC hr hc σ.O
 have e:aT ⟨σ.T,σ.O⟩ c'=aT σ c':=rfl
 rw[e,hb] at this
 simpa [aj] using this
theorem j6 {h:Hints} {i:Nat} {ops:Array Oper} {d:Bool} {b:Code} {ta tb:aM}:z8 h (.region i ops d) b ta tb= .seq ta tb:=by
 simp[z8,yd]
theorem E5 {h:Hints} {c:Operand} {x y b:Code} {ta tb:aM}:z8 h (.cond c x y) b ta tb= .seq ta tb:=by
 simp[z8,yd]
theorem CI {h:Hints} {x y:Code} {ax ay:aM}:z8 h x y ax ay= .seq ax ay∨ ∃iR E6 dR i0 ops cc cx cy b1 i5 fM z5 id iS HY dS rest it nx ne kT kO o1 o5 jF P6 au tc bs tz tR tS uI,
  x= .seq (.region iR E6 dR) (.block id (.loop (.seq (.region i0 ops false) (.seq (.cond cc cx cy) (.block b1 (.seq (.region i5 fM false) z5))))))∧y= .seq (.region iS HY dS) rest∧(ops[0]? =some o1∧o1.op= .next (.tmp it) false∧o1.dst=some nx∧o1.guard=none∧nx<h.n)∧
  (fM[0]? =some o5∧o5.op= .entry (.tmp it)∧o5.dst=some ne∧o5.guard=none∧ne<h.n)∧
  ax= .seq tR (.block jF (.loop (.seq (.region au) (.seq tc (.block P6 (.seq (.region bs) tz))))))∧ay= .seq tS uI∧z8 h x y ax ay= .seq tR (.seq (.keys it nx ne id kT kO (.seq (.region (au.drop 1)) tc) (.block P6 (.seq (.region (bs.drop 1)) tz)) tS) uI):=by
 unfold z8
 split
 ·rename_i it nx ne id kT kO tR jF au tc P6 bs tz tS uI hk hr
  right
  unfold yd at hk
  split at hk
  ·rename_i iR E6 dR XY i0 ops cc cx cy b1 i5 fM z5
   split at hk
   ·rename_i o1 o5 ho P7
    split at hk
    ·rename_i Y3 XZ X1 PG k1 k2 k3 k4 k5 k6
     split at hk
     ·split at hk
      ·rename_i hn
       simp only[Zr,Zw] at hk
       obtain⟨rfl,rfl,rfl,rfl,rfl,rfl⟩:=hk
       obtain⟨NB,Vd,rfl⟩:=hn
       unfold z7 at hr
       split at hr
       ·rename_i iS HY dS rest
        exact⟨iR,E6,dR,i0,ops,cc,cx,cy,b1,i5,fM,z5,XY,iS,HY,dS,rest,X1,XZ,PG,_,_,o1,o5,jF,P6,au,tc,bs,tz,tR,tS,uI,rfl,rfl,⟨ho,k1,k2,k3,NB⟩,⟨P7,k4,k5,k6,Vd⟩,rfl,rfl,rfl⟩
       ·simp at hr
      ·simp at hk
     ·simp at hk
    ·simp at hk
   ·simp at hk
  ·simp at hk
 ·exact .inl rfl
def JV (X:Ctx) (E:Env):Prop:= ∀g F caps xs,E.iter g caps=some xs→X.eT F=some g→ ∀ (μ:Mu) (lb:Array Value),ah X μ caps lb.toList→aP X μ→tI X μ F lb xs
theorem CJ (     hm:X.P.follows .mixedOrders=true) (rp:JV X E) {h:Hints}: ∀ (fuel:Nat),(∀m,m<fuel→oF X E (cX E (exec E m)))→ ∀ {n:Fp} (hn:h.n=n.1) {μ0:Mu} (c:Code) (ac:aM) (σ σ':St) (e:aN) (a:Go.Act) (w:World),
   b8 X h c=some ac→exec E fuel ac σ=some (e,σ')→iD X μ0 n σ a w→c.wpIn (Fr n.ro) 0 X.P (Ends X μ0 n e σ') a w:=by
 intro fuel
 induction fuel using Nat.strongRecOn with
 | _ AI NQ=>
   intro hH n hn μ0 c
   rcases ZM AI with h0| AJ
   ·subst h0;intro ac σ σ' e a w _ ag;simp[exec] at ag
   obtain⟨fuel,rfl⟩: ∃f,AI=f+1:=⟨AI - 1,Zl⟩
   have FD: ∀m,m<fuel→oF X E (cX E (exec E m)):=fun m JQ=>hH m Zl
   have ih:=NQ fuel Zl
   have H:=hH fuel Zl
   cases c with
   | skip=>
     intro ac σ σ' e a w az ag hs
     simp[b8] at az;subst az
     simp[exec,ar] at ag
     obtain⟨rfl,rfl⟩:=ag
     exact wpIn_skip ⟨rfl,hs⟩
   | region id ops d=>
     intro ac σ σ' e a w az ag hs
     cases d with
     | false=>
       simp only[b8,Zq] at az
       obtain⟨au,h1,rfl⟩:=az
       simp only[exec,ar,Zq,Zw] at ag
       obtain⟨σ1,h2,rfl,rfl⟩:=ag
       refine wpIn_region ?_
       rw[aar]
       exact dN H hn h1 ops.size 0 Zl hs (by simpa using h2) fun a' w' fw=> ⟨rfl,fw⟩
     | true=>
       simp only[b8,Zq] at az
       obtain⟨au,h1,rfl⟩:=az
       simp only[exec,ar,Zq,Zw] at ag
       obtain⟨σ1,h2,rfl,rfl⟩:=ag
       exact AD H hm hn h1 hs h2 fun a' w' fw=> ⟨rfl,fw⟩
   | seq x y=>
     intro ac σ σ' e a w az ag hs
     simp only[b8] at az
     split at az
     · rename_i ax ay h1 h2
       injection az with az;subst az
       rcases CI (h:=h) (x:=x) (y:=y) (ax:=ax) (ay:=ay) with hk| hk
       rotate_left
       · obtain⟨iR,E6,dR,i0,ops,cc,cx,cy,b1,i5,fM,z5,id,iS,HY,dS,rest,it,nx,ne,kT,kO,o1,o5,jF,P6,au,tc,bs,tz,tR,tS,uI,rfl,rfl,⟨ho,k1,k2,k3,wo⟩,⟨P7,k4,k5,k6,bQ⟩,rfl,rfl,hk⟩:=hk
         rw[hk] at ag
         simp only[b8] at h1 h2
         split at h1
         rotate_left
         ·simp at h1
         rename_i t1 t2 g1 g2
         rw[j6] at h1
         simp only[Zr,aM.seq.injEq] at h1
         obtain⟨rfl,rfl⟩:=h1
         split at h2
         rotate_left
         ·simp at h2
         rename_i t3 t4 g3 g4
         rw[j6] at h2
         simp only[Zr,aM.seq.injEq] at h2
         obtain⟨rfl,rfl⟩:=h2
         rw[Zq] at g2
         obtain⟨q1,g2,e2⟩:=g2
         rw[Zq] at g2
         obtain⟨q2,g2,e1⟩:=g2
         subst e1
         simp only[aM.block.injEq,aM.loop.injEq] at e2
         obtain⟨rfl,e2⟩:=e2
         subst e2
         split at g2
         rotate_left
         ·simp at g2
         rename_i t5 t6 g5 g6
         rw[j6] at g2
         simp only[Zr,aM.seq.injEq] at g2
         obtain⟨e3,e4⟩:=g2
         subst e3 e4
         rw[Zq] at g5
         obtain⟨l,g5,e4⟩:=g5
         simp only[aM.region.injEq] at e4
         subst e4
         split at g6
         rotate_left
         ·simp at g6
         rename_i t7 t8 g7 g8
         rw[E5] at g6
         simp only[Zr,aM.seq.injEq] at g6
         obtain⟨e5,e6⟩:=g6
         subst e5 e6
         rw[Zq] at g8
         obtain⟨q3,g8,e7⟩:=g8
         simp only[aM.block.injEq] at e7
         obtain⟨rfl,e7⟩:=e7
         subst e7
         split at g8
         rotate_left
         ·simp at g8
         rename_i t9 t10 g9 g10
         rw[j6] at g8
         simp only[Zr,aM.seq.injEq] at g8
         obtain⟨e8,e9⟩:=g8
         subst e8 e9
         rw[Zq] at g9
         obtain⟨l5,g9,VS⟩:=g9
         simp only[aM.region.injEq] at VS
         subst VS
         simp only[exec,ar] at ag
         refine wpIn_seq (wpIn_seq ?_)
         split at ag
         rotate_left
         ·rename_i r uK
          refine wpIn_mono (ih FD hn (.region iR E6 dR) _ σ σ' e a w (by simpa only[b8] using g1) ag hs) fun ex a' w' hq=> ?_
          obtain⟨rfl,fw⟩:=hq
          cases e with
          | normal=>exact absurd ag (uK σ')
          | exit id=>exact⟨rfl,fw⟩
          | ret=>exact⟨rfl,fw⟩
         rename_i σ1 hx
         refine wpIn_mono (ih FD hn (.region iR E6 dR) _ σ σ1 .normal a w (by simpa only[b8] using g1) hx hs) fun ex a' w' hq=> ?_
         obtain⟨rfl,ij⟩:=hq
         rcases ZM fuel with hf| hf
         ·subst hf;simp[exec] at ag
         obtain⟨f1,rfl⟩: ∃f,fuel=f+1:=⟨fuel - 1,Zl⟩
         simp only[exec,ar] at ag
         rcases ZM f1 with Rf| Rf
         ·subst Rf;simp[exec] at ag
         obtain⟨f2,rfl⟩: ∃f,f1=f+1:=⟨f1 - 1,Zl⟩
         have hB:yu X n ops (.cond cc cx cy) (exec E f2) (.seq (.region ((l.map fun o=> {o with pre:=[]}).drop 1)) t7):=by
          intro s s' e' μ1 a1 w1 Q K hb kU hQ hK
          rcases ZM f2 with JW| JW
          ·subst JW;simp[exec] at hb
          obtain⟨f3,rfl⟩: ∃f,f2=f+1:=⟨f2 - 1,Zl⟩
          simp only[exec,ar] at hb
          rcases ZM f3 with P8| P8
          ·subst P8;simp[exec] at hb
          obtain⟨f4,rfl⟩: ∃f,f3=f+1:=⟨f3 - 1,Zl⟩
          have bM:0 <ops.size:=(Zu.1 ho).1
          split at hb
          rotate_left
          ·rename_i r uK
           simp only[exec,ar,Zq,Zw] at hb
           obtain⟨s1,h3,rfl,rfl⟩:=hb
           exact absurd (by simp only[exec,ar,h3,ZE]) (uK s1)
          rename_i s1 HZ
          simp only[exec,ar,Zq,Zw,true_and] at HZ
          obtain⟨s2,h3,rfl⟩:=HZ
          refine dN (hH f4 Zl) hn g5 (ops.size - 1) 1 Zl kU (by rw[List.map_drop];exact h3) fun a2 w2 qV=>hK _ _ ?_
          refine wpIn_mono (NQ (f4+1) Zl (fun m JQ=>hH m Zl) hn (.cond cc cx cy) t7 s2 s' e' a2 w2 (by simpa only[b8] using g7) hb qV) fun ex a3 w3 hq=> ?_
          obtain⟨rfl,A9⟩:=hq
          have:=hQ a3 w3 A9
          cases e'<;>exact this
         have hM:CE X n fM z5 b1 (exec E f2) (.block b1 (.seq (.region ((l5.map fun o=> {o with pre:=[]}).drop 1)) t10)):=by
          intro s s' μ1 a1 w1 Q hb kU hQ
          rcases ZM f2 with JW| JW
          ·subst JW;simp[exec] at hb
          obtain⟨f3,rfl⟩: ∃f,f2=f+1:=⟨f2 - 1,Zl⟩
          simp only[exec,ar] at hb
          rcases ZM f3 with P8| P8
          ·subst P8;simp[exec] at hb
          obtain⟨f4,rfl⟩: ∃f,f3=f+1:=⟨f3 - 1,Zl⟩
          have bM:0 <fM.size:=(Zu.1 P7).1
          have inner: ∀e' (R:Go.Exit→Go.Act→World→Prop),exec E (f4+1) (.seq (.region ((l5.map fun o=> {o with pre:=[]}).drop 1)) t10) s=some (e',s')→(∀a' w',iD X μ1 n s' a' w'→R e'.conv a' w')→wpOpsIn (Fr n.ro) 0 X.P fM (Exit.then (z5.wpIn (Fr n.ro) 0 X.P R) R) (List.range' 1 (fM.size - 1)) a1 w1:=by
           intro e' R hb hR
           simp only[exec,ar] at hb
           rcases ZM f4 with VT| VT
           ·subst VT;simp[exec] at hb
           obtain⟨f5,rfl⟩: ∃f,f4=f+1:=⟨f4 - 1,Zl⟩
           split at hb
           rotate_left
           ·rename_i r uK
            simp only[exec,ar,Zq,Zw] at hb
            obtain⟨s1,h3,rfl,rfl⟩:=hb
            exact absurd (by simp only[exec,ar,h3,ZE]) (uK s1)
           rename_i s1 HZ
           simp only[exec,ar,Zq,Zw,true_and] at HZ
           obtain⟨s2,h3,rfl⟩:=HZ
           refine dN (hH f5 Zl) hn g9 (fM.size - 1) 1 Zl kU (by rw[List.map_drop];exact h3) fun a2 w2 qV=> ?_
           refine wpIn_mono (NQ (f5+1) Zl (fun m JQ=>hH m Zl) hn z5 t10 s2 s' e' a2 w2 g10 hb qV) fun ex a3 w3 hq=> ?_
           obtain⟨rfl,A9⟩:=hq
           exact hR a3 w3 A9
          split at hb
          ·rename_i jF s1 jG
           split at hb
           ·rename_i heq
            simp only[Zr,Zw,true_and] at hb
            subst hb;subst heq
            exact inner _ _ jG fun a' w' fw=>by
                simp only[aN.conv,Go.Exit.inBlock,if_true]
                exact hQ a' w' fw
           ·simp at hb
          ·exact inner _ _ hb fun a' w' fw=>hQ a' w' fw
         split at ag
         rotate_left
         ·rename_i r uK
          obtain⟨rfl,_⟩:=vd (μ0:=μ0) (i0:=i0) (i5:=i5) hB hM ho k1 k2 k3 (by rw[←hn];exact wo) P7 k4 k5 k6 (by rw[←hn];exact bQ) ag ij
          exact absurd ag (uK σ')
         rename_i σ2 Tm
         obtain⟨_,TP⟩:=vd (μ0:=μ0) (i0:=i0) (i5:=i5) hB hM ho k1 k2 k3 (by rw[←hn];exact wo) P7 k4 k5 k6 (by rw[←hn];exact bQ) Tm ij
         refine wpIn_mono TP fun ex a2 w2 hq=> ?_
         obtain⟨rfl,σe,σp,q1,q2,q3⟩:=hq
         refine wpIn_seq ?_
         refine wpIn_mono (NQ f2 Zl (fun m JQ=>hH m Zl) hn (.region iS HY dS) _ σe σp .normal a2 w2 (by simpa only[b8] using g3) q2 q1) fun ex a3 w3 hq=> ?_
         obtain⟨rfl,A9⟩:=hq
         exact NQ (f2+1) Zl (fun m JQ=>hH m Zl) hn rest _ σ2 σ' e a3 w3 g4 ag (q3 a3 w3 A9)
       rw[hk] at ag
       simp only[exec,ar] at ag
       refine wpIn_seq ?_
       split at ag
       · rename_i σ1 hx
         refine wpIn_mono (ih FD hn x ax σ σ1 .normal a w h1 hx hs) fun ex a' w' hq=> ?_
         obtain⟨rfl,fw⟩:=hq
         exact ih FD hn y ay σ1 σ' e a' w' h2 ag fw
       · rename_i r bQ
         refine wpIn_mono (ih FD hn x ax σ σ' e a w h1 ag hs) fun ex a' w' hq=> ?_
         obtain⟨rfl,fw⟩:=hq
         cases e with
         | normal=>exact absurd ag (bQ σ')
         | exit id=>exact⟨rfl,fw⟩
         | ret=>exact⟨rfl,fw⟩
     ·simp at az
   | cond c x y=>
     intro ac σ σ' e a w az ag hs
     simp only[b8] at az
     split at az
     · rename_i c' ax ay h0 h1 h2
       injection az with az;subst az
       simp only[exec,ar] at ag
       split at ag
       · rename_i hb
         exact wpIn_cond_true (ve hs h0 hb) (ih FD hn x ax σ σ' e a w h1 ag hs)
       · rename_i hb
         exact wpIn_cond_false (ve hs h0 hb) (ih FD hn y ay σ σ' e a w h2 ag hs)
       ·simp at ag
     ·simp at az
   | block id b=>
     intro ac σ σ' e a w az ag hs
     simp only[b8,Zq] at az
     obtain⟨ab,h1,rfl⟩:=az
     simp only[exec,ar] at ag
     refine wpIn_block ?_
     split at ag
     · rename_i jF σ1 hb
       refine wpIn_mono (ih FD hn b ab σ σ1 (.exit jF) a w h1 hb hs) fun ex a' w' hq=> ?_
       obtain⟨rfl,fw⟩:=hq
       simp only[aN.conv,Go.Exit.inBlock]
       split at ag
       · rename_i heq
         simp only[Zr,Zw] at ag
         obtain⟨rfl,rfl⟩:=ag
         rw[if_pos heq]
         exact⟨rfl,fw⟩
       · rename_i bQ
         simp only[Zr,Zw] at ag
         obtain⟨rfl,rfl⟩:=ag
         rw[if_neg bQ]
         exact⟨rfl,fw⟩
     · rename_i r bQ
       refine wpIn_mono (ih FD hn b ab σ σ' e a w h1 ag hs) fun ex a' w' hq=> ?_
       obtain⟨rfl,fw⟩:=hq
       cases e with
       | normal=>exact⟨rfl,fw⟩
       | exit jF=>exact absurd ag (bQ jF σ')
       | ret=>exact⟨rfl,fw⟩
   | loop b=>
     intro ac σ σ' e a w az ag hs
     simp only[b8,Zq] at az
     obtain⟨ab,h1,rfl⟩:=az
     have rounds: ∀ (k:Nat),k≤fuel+1→ ∀ (σ:St),exec E k (.loop ab) σ=some (e,σ')→ ∃m,∀a w,iD X μ0 n σ a w→Code.roundsIn (Fr n.ro) 0 X.P b (Ends X μ0 n e σ') m a w:=by
       intro k
       induction k with
       | zero=>intro _ σ hr;simp[exec] at hr
       | succ k X2=>
         intro hk σ hr
         simp only[exec,ar] at hr
         have body: ∀ (σ1:St) (e1:aN),exec E k ab σ=some (e1,σ1)→ ∀a w,iD X μ0 n σ a w→b.wpIn (Fr n.ro) 0 X.P (Ends X μ0 n e1 σ1) a w:=fun σ1 e1 hx a w hs=>
          NQ k Zl (fun m JQ=>hH m Zl) hn b ab σ σ1 e1 a w h1 hx hs
         split at hr
         ·rename_i σ1 hx
          obtain⟨m,SY⟩:=X2 Zl σ1 hr
          refine⟨m+1,fun a w hs=> ?_⟩
          rw[roundsIn_succ]
          refine wpIn_mono (body σ1 .normal hx a w hs) fun ex a' w' hq=> ?_
          obtain⟨rfl,fw⟩:=hq
          exact SY a' w' fw
         ·rename_i r bQ
          refine⟨1,fun a w hs=> ?_⟩
          rw[roundsIn_succ]
          refine wpIn_mono (body σ' e hr a w hs) fun ex a' w' hq=> ?_
          obtain⟨rfl,fw⟩:=hq
          cases e with
          | normal=>exact absurd hr (bQ σ')
          | exit jF=>exact⟨rfl,fw⟩
          | ret=>exact⟨rfl,fw⟩
     obtain⟨m,JQ⟩:=rounds (fuel+1) (Zy _) σ ag
     exact wpIn_loop_rounds m (JQ a w hs)
   | exit id=>
     intro ac σ σ' e a w az ag hs
     simp[b8] at az;subst az
     simp[exec,ar] at ag
     obtain⟨rfl,rfl⟩:=ag
     exact wpIn_exit ⟨rfl,hs⟩
   | ret=>
     intro ac σ σ' e a w az ag hs
     simp[b8] at az;subst az
     simp[exec,ar] at ag
     obtain⟨rfl,rfl⟩:=ag
     exact wpIn_ret ⟨rfl,hs⟩
   | label l=>
     intro ac σ σ' e a w az ag hs
     simp[b8] at az;subst az
     simp[exec,ar] at ag
     obtain⟨rfl,rfl⟩:=ag
     exact wpIn_label ⟨rfl,hs⟩
   | scope b=>
     intro ac σ σ' e a w az ag hs
     simp only[b8,Zq] at az
     obtain⟨ab,h1,rfl⟩:=az
     simp only[exec,ar] at ag
     refine CK ?_
     refine wpIn_mono (ih FD hn b ab σ σ' e a w h1 ag hs) fun ex a' w' hq=> ?_
     obtain⟨rfl,fw⟩:=hq
     cases e<;>exact⟨rfl,fw⟩
   | rangeFunc f ps x y=>
     intro ac σ σ' e a w az ag hs
     simp only[b8] at az
     split at az
     rotate_left
     ·simp at az
     rename_i f' ax ay h0 h1 h2
     split at az
     rotate_left
     ·simp at az
     rename_i sB
     injection az with az;subst az
     simp only[exec,ar] at ag
     split at ag
     · rename_i g caps nE
       split at ag
       · rename_i xs CY
         split at ag
         ·rename_i hlen
          obtain⟨iV,bM,φ,hr,hle⟩:=hs
          have hf:=aC hr h0 σ.O
          have X3:aT ⟨σ.T,σ.O⟩ f'= .fn g caps:=nE
          rw[X3] at hf
          simp only[aj] at hf
          obtain⟨F,cv,hF,E7,qI⟩:=hf
          refine AG (lb:=cv) (xs:=xs) (rec:=exec E fuel) ?_ ?_ ⟨iV,bM,φ,hr,hle⟩ ?_ hF ?_ ?_ ag
          ·intro l s s' e' m b v hb kU
           exact ih FD (n:=⟨n.tm,0,some l⟩) hn x ax s s' e' b v h1 hb kU
          ·intro l s s' e' m b v hb kU
           exact ih FD (n:=⟨n.tm,0,some l⟩) hn y ay s s' e' b v h2 hb kU
          ·intro p hp
           rw[Zx] at sB
           have:=sB p hp
           rw[Nat.blt_eq] at this
           rw[hn] at this
           exact this
          ·intro φ2 ov
           exact rp g F caps xs CY E7 ⟨w,φ2,σ.O⟩ cv (by
            have JW:=aC ov h0 σ.O
            have Ua:aT ⟨σ.T,σ.O⟩ f'= .fn g caps:=nE
            rw[Ua] at JW
            simp only[aj] at JW
            obtain⟨F2,Y4,VU,_,MC⟩:=JW
            rw[hF] at VU
            injection VU with _ _ e3
            rw[e3];exact MC) ov.aS
          ·intro x hx
           rw[Zx] at hlen
           have:=hlen x hx
           rw[aap] at this
           simpa using this
         ·simp at ag
       ·simp at ag
     ·simp at ag
   | goto l=>
     intro ac σ σ' e a w az ag hs
     simp[b8] at az;subst az
     simp[exec,ar] at ag
   | refuse y=>
     intro ac σ σ' e a w az ag hs
     simp[b8] at az;subst az
     simp[exec,ar] at ag
end
end Go.AM
