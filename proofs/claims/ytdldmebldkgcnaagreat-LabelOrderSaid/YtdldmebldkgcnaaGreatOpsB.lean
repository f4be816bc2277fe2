/- Texts of the proof. -/
import Derived.Test.YtdldmebldkgcnaaGreatOpsA
import Derived.Test.YtdldmebldkgcnaaGreatTail
import Derived.MapKept
import Derived.WideKeyRuns
import Derived.Scope
import Derived.Laws.IdiomRangeMap
set_option linter.unusedSimpArgs false
set_option linter.unusedVariables false
namespace Go.AM
open Go Go.RowKit
section
variable {X:Ctx} {E:Env} {C:bo} {o:Oper} {a:Go.Act} {T:Nat→V} {μ:Mu} {v:V} {σ':St}
theorem La (bs:List UInt8):flat (bs.map fun b=>Value.int .u8 b.toNat)=bs.map fun b=>Value.int .u8 b.toNat:=by
 induction bs with
 | nil=>rfl
 | cons b bs ih=>simp only[List.map_cons,flat,List.flatMap_cons] at ih ⊢;rw[ih];rfl
theorem ag.bytes (bs:List UInt8):ag X μ (bs.map fun b=>V.int .u8 b.toNat) (bs.map fun b=>Value.int .u8 b.toNat):=by
 induction bs with
 | nil=>simp[ag]
 | cons b bs ih=>simp only[List.map_cons,ag];exact⟨by simp[aj],ih⟩
theorem CR {sz:Nat} {x:V} {xv:Value} {k:List V→Act} {p:V×St} (ho:bk X μ) (hx:aj X μ x xv) (ah: (content sz x k).run C ⟨T,μ.O⟩=some p):
  ∃ys us,(k ys).run C ⟨T,μ.O⟩=some p∧ag X μ ys us∧(Builtin.lenOf xv).run X.P μ.w= .ok ys.length μ.w∧
   ∀w',w'.heap=μ.w.heap→ ∀n,n≤ys.length→(Builtin.firstCells sz n xv).run X.P w'= .ok (flat (us.take n)).toArray w':=by
 cases x<;>simp only[content] at ah<;>try exact absurd ah au
 ·
  split at ah
  ·rename_i s hs
   simp only[aj] at hx
   obtain⟨bs,rfl,rfl⟩:=hx
   refine⟨_,_,ah,ag.bytes _,?_,fun w' lH n hn=> ?_⟩
   ·simp only[Builtin.lenOf,Sem.run_pure,List.length_map];rw[ct];rfl
   ·have: (bs.extract 0 n).data.map (fun b=>Value.int .u8 b.toNat)=(flat ((bs.data.toList.map fun b=>Value.int .u8 b.toNat).take n)).toArray:=by
     rw[←List.map_take,La]
     apply Array.ext'
     simp[ByteArray.data_extract,aks,aj2]
    simp only[Builtin.firstCells,Sem.run_pure,this]
  ·exact absurd ah au
 ·
  simp only[aj] at hx
  obtain⟨q,rfl⟩:=hx
  refine⟨[],[],ah,by simp[ag],by simp[Builtin.lenOf],fun w' lH n hn=> ?_⟩
  have:n=0:=by simpa using hn
  subst this
  cases q<;>simp[Builtin.firstCells,loadCells,loadCellsFrom,flat]
 ·
  split at ah
  ·rename_i sz' xs hs
   subst hs
   simp only[aj] at hx
   obtain⟨_,_,q,cap,vs,rfl,_,nn,kC⟩:=hx
   refine⟨xs,vs,ah,nn,by simp[Builtin.lenOf],fun w' lH n hn=> ?_⟩
   rcases kC with rfl| ⟨b,q',rfl,_,_,dA⟩
   ·have:n=0:=by simpa using hn
    subst this
    cases q<;>simp[Builtin.firstCells,loadCells,loadCellsFrom,flat]
   ·simp only[Builtin.firstCells]
    exact xD (dA.bS (by rw[lH])) (by rw[←nn.length];exact hn)
  ·exact absurd ah au
 ·
  rename_i r g off len
  simp only[Act.run] at ah
  split at ah
  ·rename_i es bq
   split at ah
   ·rename_i hc
    obtain⟨rQ,u5,Z3⟩:=hc
    simp only[aj] at hx
    obtain⟨q,cap,rfl,hle,_,bV⟩:=hx
    obtain⟨k0,k1,k2⟩:=bV rQ
    have o9: (aG es off len).length=len:=by simp[aG];omega
    obtain⟨q1,q2,q3,q4⟩:=ho.row r es bq k0
    by_cases cS:cap=0
    ·have Js:len=0:=abV
     subst Js
     refine⟨_,[],ah,by simp[aG,ag],by simp[Builtin.lenOf,aG],fun w' lH n hn=> ?_⟩
     have:n=0:=by simpa [aG] using hn
     subst this
     cases q<;>simp[Builtin.firstCells,loadCells,loadCellsFrom,flat]
    ·rcases q4 with q4| ⟨cc,TT,vs,p1,p2,p3,p4⟩
     ·omega
     ·have hqe:=k2.resolve_left cS
      subst hqe
      refine⟨_,(vs.drop off).take len,ah,ag.take _ (ag.drop _ p3),by simp only[Builtin.lenOf,Sem.run_pure,o9],fun w' lH n hn=> ?_⟩
      simp only[Builtin.firstCells]
      have pT:=(p4.drop off).take len
      rw[u5] at pT
      rw[u5]
      refine xD (pT.bS (by rw[lH])) ?_
      rw[o9] at hn
      have:=p3.length
      simp;omega
   ·exact absurd ah au
  ·exact absurd ah au
theorem Eh (bW:Nat): ∀ (k c:Nat),c≤bW+(bW+768) / 4→Builtin.growBy bW k c≤bW+(bW+768) / 4
 | 0,c,h=>h
 | k+1,c,h=>by
   simp only[Builtin.growBy]
   split
   ·exact h
   ·exact Eh bW k _ abV
theorem Lb {bW old:Nat} (h:old<bW):Builtin.nextslicecap bW old≤2*bW+192:=by
 unfold Builtin.nextslicecap
 split
 ·omega
 ·split
  ·omega
  ·have:=Eh bW 4 old abV
   omega
theorem Tu {bW old bytes:Nat} (h:old<bW) (hl:bW≤vK bytes): ¬Builtin.nextslicecap bW old*bytes >2 ^ 48∧ ¬ ((bW:Int) >IntKind.i64.max):=by
 unfold vK at hl
 rw[akm,Nat.sub_mul_div] at hl
 have h1:=Lb h
 have h2:bW+200≤140737488355328 / (bytes+1):=abV
 have h3: (bW+200)*(bytes+1)≤140737488355328:=(Nat.le_div_iff_mul_le abV).1 h2
 have h4:Builtin.nextslicecap bW old*bytes≤(2*(bW+200))*(bytes+1):=Nat.mul_le_mul abV abV
 have h5: (2*(bW+200))*(bytes+1)=2*((bW+200)*(bytes+1)):=by rw[Nat.mul_assoc]
 have h6: (2:Nat) ^ 48=281474976710656:=aiO
 have h7:bW+200≤(bW+200)*(bytes+1):=Nat.le_mul_of_pos_right _ abV
 have h8:IntKind.i64.max=9223372036854775807:=aiO
 refine⟨abV,by rw[h8];omega⟩
theorem kN {sT xT e:TypeId} {d:TypeDesc} {sz n sLen sCap:Nat} {base:Option Addr} {xv:Value} {new:Array Value} {w w':World} {ty:TypeId}
  (hd:X.P.underlying sT=some (.slice e)) (hx:X.P.underlying xT=some d) (Pa: ∀k,d≠ .int k) (hn:bQ X e=some sz) (hl: (Builtin.lenOf xv).run X.P w= .ok n w)
  (jg:sLen+n≤sCap) (qP: (Builtin.firstCells sz n xv).run X.P w= .ok new w)
  (eW:match base with| some p=> (storeCells (p.add (sLen*sz)) new.toList).run X.P w= .ok () w'| none=>w'=w):
  (Builtin.append_ #[sT,xT] ty #[.slice base sLen sCap,xv]).run X.P w= .ok (.slice base (sLen+n) sCap) w':=by
 have hm: (match d with| .int _=>true| _=>false)=false:=by
  cases d<;>first| rfl| exact absurd rfl (Pa _)
 have Ck: (#[sT,xT]:Array TypeId)[0]? =some sT:=rfl
 have PU: (#[sT,xT]:Array TypeId)[1]? =some xT:=rfl
 have XA: (#[Value.slice base sLen sCap,xv]:Array Value)[0]? =some (.slice base sLen sCap):=rfl
 have Ku: (#[Value.slice base sLen sCap,xv]:Array Value)[1]? =some xv:=rfl
 simp only[Builtin.append_,Ck,PU,XA,Ku,Sem.run_bind,run_underlying hd,Result.andThen_ok,fj hn,run_underlying hx,Sem.run_pure,hm,ai3,if_false,hl]
 rw[if_pos jg]
 simp only[Bool.not_false,if_true,Sem.run_bind,qP,Result.andThen_ok]
 cases base with
 | none=>simp only at eW;subst eW;simp
 | some p=>simp only at eW;simp[Sem.run_bind,eW]
theorem pO {sT xT e:TypeId} {d:TypeDesc} {sz n sLen sCap:Nat} {base:Option Addr} {xv zv:Value} {old new:Array Value} {w:World} {ty:TypeId} {i:TypeInfo}
  (hd:X.P.underlying sT=some (.slice e)) (hx:X.P.underlying xT=some d) (Pa: ∀k,d≠ .int k) (hn:bQ X e=some sz) (hi:X.P.info? e=some i)
  (hz: ∀w,(zeroValue e).run X.P w= .ok zv w) (hl: (Builtin.lenOf xv).run X.P w= .ok n w) (eY:sCap<sLen+n) (CI:sLen+n≤vK i.bytes)
  (hold: (Builtin.firstCells sz sLen (.slice base sLen sCap)).run X.P w.drew= .ok old w.drew) (qP: (Builtin.firstCells sz n xv).run X.P w.drew= .ok new w.drew):
  ∃newCap,sLen+n≤newCap∧(Builtin.append_ #[sT,xT] ty #[.slice base sLen sCap,xv]).run X.P w=
   .ok (.slice (some ⟨w.heap.size,0,none⟩) (sLen+n) newCap) (w.drew.alloc (.cells (old++new++Builtin.zeroCells zv.cells (newCap - (sLen+n))) e)):=by
 have hm: (match d with| .int _=>true| _=>false)=false:=by
  cases d<;>first| rfl| exact absurd rfl (Pa _)
 have Ck: (#[sT,xT]:Array TypeId)[0]? =some sT:=rfl
 have PU: (#[sT,xT]:Array TypeId)[1]? =some xT:=rfl
 have XA: (#[Value.slice base sLen sCap,xv]:Array Value)[0]? =some (.slice base sLen sCap):=rfl
 have Ku: (#[Value.slice base sLen sCap,xv]:Array Value)[1]? =some xv:=rfl
 obtain⟨r1,r2⟩:=Tu eY CI
 refine⟨(Question.appendCap (sLen+n) sCap e).cut (w.tape w.drawn (.appendCap (sLen+n) sCap e)),by simp[Question.cut],?_⟩
 simp only[Builtin.append_,Ck,PU,XA,Ku,Sem.run_bind,run_underlying hd,Result.andThen_ok,fj hn,run_underlying hx,Sem.run_pure,hm,ai3,if_false,hl]
 rw[if_neg abV]
 simp only[Sem.run_bind,run_typeInfo w hi,Result.andThen_ok]
 have c2: ¬ (((sLen+n:Nat):Int) >IntKind.i64.max∧(False∨i.bytes=0)):=fun h=>r2 h.1
 rw[if_neg c2]
 simp only[Sem.run_bind,run_typeInfo w hi,Result.andThen_ok]
 rw[if_neg r1]
 have hch: (choose (.appendCap (sLen+n) sCap e)).run X.P w= .ok ((Question.appendCap (sLen+n) sCap e).cut (w.tape w.drawn (.appendCap (sLen+n) sCap e))) w.drew:=by
  rw[run_choose];simp only[Question.forced,ai3,if_false];rfl
 simp only[Sem.run_bind,hch,Result.andThen_ok,run_typeInfo w.drew hi,run_askRoom,hold,Bool.not_false,if_true,qP,hz,Sem.run_pure,newRow,run_newObj]
 rfl
theorem IF {us rest:List Value} {sz:Nat} (h: ∀u ∈ us,u.cells.size=sz):dT (flat us++rest) 0 sz us:=by
 intro i v hv
 have hm:=h v (List.mem_of_getElem? hv)
 refine⟨hm,fun j x hx=> ?_⟩
 have:=vT h hv hx
 have bl:i*sz+j< (flat us).length:=(aiS.1 this).1
 rw[ajF,ajw bl];exact this
theorem IG (us vs:List Value):flat (us++vs)=flat us++flat vs:=by simp[flat]
theorem qV {zv:Value} {sz n:Nat} (h:zv.cells.size=sz): (Builtin.zeroCells zv.cells n).size=n*sz:=by simp[Builtin.zeroCells,h]
theorem Pb {α:Type} {n:Nat} {l:List α} (h:l.length≤n):l.take n=l:=List.take_of_length_le h
theorem IH {O1:Nat→Obj} (hO:bk X ⟨μ.w,μ.φ,O1⟩) {r sz newCap:Nat} {olds ys:List V} {ous us:List Value} {zv:Value} {e:TypeId} {o0:Obj}
  (ho0:o0={gen:=o0.gen,sz:=sz,arr:=true,fz:=false,es:=some (olds++ys)}) (hg':o0.gen=(O1 r).gen+1)
  (bI:0 <sz) (h1:ag X ⟨μ.w,μ.φ,O1⟩ olds ous) (h2:ag X ⟨μ.w,μ.φ,O1⟩ ys us) (b1:olds.all (aV · sz)=true) (b2:ys.all (aV · sz)=true)
  (hz:zv.cells.size=sz) (cS:olds.length+ys.length≤newCap):
  let μ':Mu:=⟨μ.w.drew.alloc (.cells ((flat ous).toArray++(flat us).toArray++Builtin.zeroCells zv.cells (newCap - (olds.length+ys.length))) e),da μ.φ r ⟨μ.w.heap.size,0,newCap⟩,da O1 r o0⟩
  Le ⟨μ.w,μ.φ,O1⟩ μ'∧bk X μ':=by
 intro μ'
 obtain⟨led,hod⟩:=Le.drew (X:=X) (μ:=⟨μ.w,μ.φ,O1⟩) hO
 have bp:ag X ⟨μ.w.drew,μ.φ,O1⟩ (olds++ys) (ous++us):=ag.mono led (h1.append h2)
 have hs: ∀u ∈ ous++us,u.cells.size=sz:=((h1.append h2).cells_one (sz:=sz) (by simp only[aj6,b1,b2,ajD])).1
 have Fb:=h1.length
 have Cj:=h2.length
 have Fc:=ja hs
 have iB: ((flat ous).toArray++(flat us).toArray++Builtin.zeroCells zv.cells (newCap - (olds.length+ys.length))).toList=flat (ous++us)++(Builtin.zeroCells zv.cells (newCap - (olds.length+ys.length))).toList:=by
  simp[IG]
 have oN:newCap*sz≤((flat ous).toArray++(flat us).toArray++Builtin.zeroCells zv.cells (newCap - (olds.length+ys.length))).size:=by
  rw[←ct,iB,List.length_append,Fc,ct (Builtin.zeroCells _ _),qV hz,←ajo]
  apply ajA
  rw[List.length_append];omega
 have:=FK (X:=X) (μ:=⟨μ.w.drew,μ.φ,O1⟩) hod r sz newCap true (es:=olds++ys) (vs:=ous++us) (c:=(flat ous).toArray++(flat us).toArray++Builtin.zeroCells zv.cells (newCap - (olds.length+ys.length))) e bI
  (by simp;omega) (by simp only[aj6,b1,b2,ajD]) bp oN (fun i u hu=>by
    have vD:=IF (rest:=(Builtin.zeroCells zv.cells (newCap - (olds.length+ys.length))).toList) hs
    rw[←iB] at vD
    obtain⟨m1,m2⟩:=vD i u hu
    refine⟨m1,fun j x hx=> ?_⟩
    have:=m2 j x hx
    rw[ajF] at this
    rw[←akD];exact this)
 have heq: ({gen:=(O1 r).gen+1,sz:=sz,arr:=true,fz:=false,es:=some (olds++ys)}:Obj)=o0:=by rw[ho0,hg']
 simp only[heq] at this
 exact⟨led.trans this.1,this.2⟩
theorem qW {sz:Nat} {p:Option Addr} {n m:Nat} {w:World}: (Builtin.firstCells sz 0 (.slice p n m)).run X.P w= .ok #[] w:=by
 cases p<;>simp[Builtin.firstCells,loadCells,loadCellsFrom]
theorem BQ (bS:Bool) {c:Call} {s x:Operand} {sT xT e:TypeId} {d:TypeDesc} {s' x':aU} {r sz:Nat} {i:TypeInfo} {z:V} (hr:Rel X T a μ) (ho:o.op= .call c) (hc:c.callee= .builtin .append)
  (jb:c.args= #[s,x]) (Lc:c.argTypes= #[sT,xT]) (hd:bL X sT=some (.slice e)) (hx:bL X xT=some d) (Pa: ∀k,d≠ .int k) (hn:bQ X e=some sz) (hi:info X e=some i)
  (hz:ft X e=some z) (Ts:aV z sz=true) (h1:dm X s=some s') (h2:dm X x=some x')
  (ah: (content sz (bu ⟨T,μ.O⟩ x') fun ys=>match bS with| true=>GH r sz (vK i.bytes) (bu ⟨T,μ.O⟩ s') ys| false=>nJ ys fun ys=>GH r sz (vK i.bytes) (bu ⟨T,μ.O⟩ s') ys).run C ⟨T,μ.O⟩=some (v,σ')):σ'.T=T∧c6 X o a μ σ'.O v:=by
 have hs:=aS hr h1 μ.O
 have Jn:=aS hr h2 μ.O
 have pj:X.P.underlying sT=some (.slice e):=hd
 have uy:X.P.underlying xT=some d:=hx
 have ON:X.P.info? e=some i:=hi
 obtain⟨ys0,us,k1,k2,k3,k4⟩:=CR hr.bg Jn ah
 have gz: ∃ys O1,(GH r sz (vK i.bytes) (bu ⟨T,μ.O⟩ s') ys).run C ⟨T,O1⟩=some (v,σ')∧ag X ⟨μ.w,μ.φ,O1⟩ ys us∧Le μ ⟨μ.w,μ.φ,O1⟩∧bk X ⟨μ.w,μ.φ,O1⟩:=by
  cases bS with
  | true=>exact⟨ys0,μ.O,k1,k2,Le.refl μ,hr.bg⟩
  | false=>exact BL (μ:=μ) hr.bg k2 k1
 obtain⟨ys,O1,g1,g2,g3,g4⟩:=gz
 unfold GH at g1
 have hyl:ys.length=ys0.length:=by rw[g2.length,k2.length]
 rw[←hyl] at k3 k4
 have P1:us.length=ys.length:=g2.length.symm
 have Tv: ∀w',w'.heap=μ.w.heap→(Builtin.firstCells sz ys.length (a.eval x)).run X.P w'= .ok (flat us).toArray w':=fun w' lH=>by
  have:=k4 w' lH ys.length (aiZ _)
  rwa [Pb abV] at this
 have Tw:=Tv μ.w rfl
 have Tx:=Tv μ.w.drew rfl
 have iv:=aj.mono g3 hs
 have fin: ∀val w',(Builtin.append_ #[sT,xT] o.type #[a.eval s,a.eval x]).run X.P μ.w= .ok val w'→(execOp a.eval o).run X.P μ.w= .ok (.value val) w':=fun val w' hv=>by
  refine gS ho hc ?_
  simp only[builtin,jb,Lc]
  refine dy ?_
  simpa using hv
 split at g1
 ·rename_i hb
  simp only[Bool.and_eq_true,decide_eq_true_eq] at hb
  obtain⟨lf,bI⟩:=hb
  obtain⟨zv,zd,Co⟩:=iH hz μ.w
  have hzw: ∀w,(zeroValue e).run X.P w= .ok zv w:=fun w=>by
   obtain⟨zv',q1,q2⟩:=iH hz w
   have:zv'=zv:=by
    simp only[ft,info,Option.bind_eq_some_iff] at hz
    obtain⟨i0,e1,zq,e2,_⟩:=hz
    simp only[zeroValue,Sem.run_bind,run_typeInfo w e1,run_typeInfo μ.w e1,Result.andThen_ok,e2,Sem.run_pure] at q1 zd
    injection q1 with q1 _;injection zd with zd _
    rw[←q1,←zd]
   rw[←this];exact q1
  obtain⟨BO,K8⟩:=eT (X:=X) (μ:=μ) Co
  have Tt:zv.cells.size=sz:=by rw[BO.fI K8,(cr Ts).2]
  obtain⟨Tl,FT⟩:=g2.cells_one lf
  have Fc:=ja Tl
  have vV:ys.length=0→ ∀ (p:Option Addr) (len cap:Nat),len≤cap→a.eval s= .slice p len cap→(execOp a.eval o).run X.P μ.w= .ok (.value (.slice p len cap)) μ.w:=fun h0 p len cap hle hp=>by
   have hu0:us=[]:=by
    have:us.length=0:=abV
    simpa using this
   have sS:=kN (X:=X) (sT:=sT) (xT:=xT) (sLen:=len) (sCap:=cap) (base:=p) (ty:=o.type) (w':=μ.w) pj uy Pa hn k3 abV Tw (by
     cases p with
     | none=>rfl
     | some q=>simp[hu0,flat,storeCells])
   rw[h0,akl] at sS
   exact fin _ _ (by rw[hp];exact sS)
  generalize bu ⟨T,μ.O⟩ s'=sv at g1 hs iv
  split at g1
  ·
   simp only[aj] at hs
   obtain⟨p,hp⟩:=hs
   split at g1
   ·rename_i Ty
    obtain⟨rfl,rfl⟩:=aZ g1
    have Z6:ys.length=0:=by simpa [List.isEmpty_iff] using Ty
    exact⟨rfl,.slice p 0 0,μ.w,μ.φ,.inl (vV Z6 p 0 0 (aiZ _) hp),by simp[aj],g3,g4⟩
   ·rename_i Ty
    split at g1
    ·rename_i CI
     simp only[Act.run,aiT,aiX] at g1
     obtain⟨rfl,rfl⟩:=g1
     have adL:0 <ys.length:=by
      rcases ajm ys.length with h0| h0
      ·exact absurd (by simpa [List.isEmpty_iff] using h0) Ty
      ·exact h0
     obtain⟨newCap,Ld,sS⟩:=pO (X:=X) (sT:=sT) (xT:=xT) (sLen:=0) (sCap:=0) (base:=p) (ty:=o.type) (old:= #[]) pj uy Pa hn ON hzw k3 abV (by simpa using CI) qW Tx
     obtain⟨K9,XO⟩:=IH (X:=X) (μ:=μ) (O1:=O1) g4 (r:=r) (sz:=sz) (newCap:=newCap) (olds:=[]) (ous:=[]) (ys:=ys) (us:=us) (zv:=zv) (e:=e)
      (o0:={gen:=(O1 r).gen+1,sz:=sz,arr:=true,fz:=false,es:=some ys}) rfl rfl bI (by simp[ag]) g2 rfl lf Tt (by simpa using Ld)
     have UY: (flat ([]:List Value)).toArray= #[]:=rfl
     simp only[UY,ajc] at K9 XO
     refine⟨rfl,.slice (some ⟨μ.w.heap.size,0,none⟩) (0+ys.length) newCap,_,da μ.φ r ⟨μ.w.heap.size,0,newCap⟩,.inl (fin _ _ (by rw[hp];exact sS)),?_,g3.trans K9,XO⟩
     simp only[aj,aA]
     exact⟨_,newCap,by rw[ajF],abV,aiZ _,fun _=> ⟨abV,abW,abW⟩⟩
    ·exact absurd g1 au
  ·
   rename_i sz' xs
   split at g1
   ·rename_i Ty
    obtain⟨rfl,rfl⟩:=aZ g1
    have Z6:ys.length=0:=by simpa [List.isEmpty_iff] using Ty
    have mn:=hs
    simp only[aj] at mn
    obtain⟨_,_,p,cap,_,hp,hle,_⟩:=mn
    exact⟨rfl,a.eval s,μ.w,μ.φ,.inl (by rw[hp];exact vV Z6 p _ cap hle hp),iv,g3,g4⟩
   ·exact absurd g1 au
  ·
   rename_i r' g off len
   simp only[Act.run] at g1
   split at g1
   ·rename_i es bq
    split at g1
    ·rename_i hc
     obtain⟨cK,lL,gz,jz,jg,CI⟩:=hc
     simp only[aj] at iv
     obtain⟨p,cap,hp,hle,oO,bV⟩:=iv
     obtain⟨a0,a1,a2⟩:=bV cK
     obtain⟨q1,q2,q3,q4⟩:=g4.row r' es bq a0
     simp only at q1 q2 q3 q4
     have fi:O1 r'={O1 r' with es:=some es}:=by rw[←bq]
     split at g1
     ·rename_i kJ
      simp only[Act.run,aiT,aiX] at g1
      obtain⟨rfl,rfl⟩:=g1
      refine⟨rfl,?_⟩
      rcases ajm ys.length with h0| h0
      ·
       have Z6:ys=[]:=by simpa using h0
       have hov:overwrite es (off+len) ys=es:=by simp[overwrite,Z6]
       have hO:da O1 r' {O1 r' with es:=some (overwrite es (off+len) ys)}=O1:=by
        funext q
        by_cases hq:q=r'
        ·subst hq;rw[aA,hov];exact fi.symm
        ·rw[aX _ _ hq]
       simp only[hO]
       refine⟨.slice p len cap,μ.w,μ.φ,.inl (vV h0 p len cap hle hp),?_,g3,g4⟩
       rw[h0]
       simp only[aj]
       exact⟨p,cap,rfl,hle,oO,bV⟩
      ·have cS:cap≠0:=abV
       have iw: (μ.φ r').cap≠0:=abV
       rcases q4 with q4| ⟨cc,T0,vs,p1,p2,p3,p4⟩
       ·exact absurd q4 iw
       ·have Ee:=a2.resolve_left cS
        subst Ee
        have D1:=p3.length
        have vD:dT cc.toList (μ.φ r').base sz vs:=by have:=kl p1 p4;rwa [jz] at this
        rw[jz] at p2
        have hmul: (off+len+ys.length)*sz≤(μ.φ r').cap*sz:=ajA _ abV
        rw[ajo] at hmul
        have hw:=vD.write (k:=off+len) (us:=us) abV Tl (by rw[ct cc,P1];omega)
        have eW:=km (P:=X.P) (w:=μ.w) (q:=(μ.φ r').base+(off+len)*sz) p1 (flat us) (by rw[Fc,P1];omega) FT
        have sS:=kN (X:=X) (sT:=sT) (xT:=xT) (sLen:=len) (sCap:=cap) (ty:=o.type) (base:=some ⟨(μ.φ r').bY,(μ.φ r').base+off*(O1 r').sz,none⟩)
         (w':=μ.w.setRow (μ.φ r').bY (cT cc.toList ((μ.φ r').base+(off+len)*sz) (flat us)).toArray) pj uy Pa hn k3 abV Tw (by
           simp only[gT,jz]
           have: (μ.φ r').base+off*sz+len*sz=(μ.φ r').base+(off+len)*sz:=by rw[ajo];omega
           rw[this];exact eW)
        have Tz:=lT (X:=X) (μ:=⟨μ.w,μ.φ,O1⟩) g4 r' bq gz p1 iw (c':=(cT cc.toList ((μ.φ r').base+(off+len)*sz) (flat us)).toArray)
         (by
           have: (cT cc.toList ((μ.φ r').base+(off+len)*sz) (flat us)).length=cc.toList.length:=fW (by rw[ct cc,Fc,P1];omega)
           simpa using this)
         (O1 r').gen (μ.φ r').base (μ.φ r').cap (es':=overwrite es (off+len) ys) (vs':=vs.take (off+len)++us++vs.drop (off+len+us.length)) (.inl ⟨rfl,rfl,rfl⟩) iw
         (by simp[overwrite];omega)
         (by
           simp only[jz] at q3 ⊢
           have t1:=lU (p:=(aV · sz)) (off+len) q3
           have t2:=oF (p:=(aV · sz)) (off+len+ys.length) q3
           simp only[overwrite,aj6,t1,lf,t2,ajD])
         (by
           have:=((ag.take (off+len) p3).append g2).append (ag.drop (off+len+ys.length) p3)
           rw[P1];exact this)
         (by rw[jz];exact p2)
         (fun j y hy=>by
           obtain⟨m1,m2⟩:=hw j y hy
           refine⟨by rw[jz];exact m1,fun l q hq=> ?_⟩
           have:=m2 l q hq
           simp only[jz]
           simpa using this)
        refine⟨_,_,_,.inl (fin _ _ (by rw[hp];exact sS)),?_,g3.trans Tz.1,Tz.2⟩
        simp only[aj,aA]
        exact⟨_,cap,rfl,abV,abV,fun _=> ⟨a0,a1,.inr rfl⟩⟩
     ·rename_i kJ
      simp only[Act.run,aiT,aiX] at g1
      obtain⟨rfl,rfl⟩:=g1
      refine⟨rfl,?_⟩
      have adL:0 <ys.length:=abV
      have o9: (aG es off len).length=len:=by simp[aG];omega
      have hbw: (aG es off len).all (aV · sz)=true:=by
       rw[jz] at q3;exact lU _ (oF _ q3)
      by_cases mG:len+ys.length≤cap
      ·
       have cS:cap≠0:=abV
       have iw: (μ.φ r').cap≠0:=abV
       rcases q4 with q4| ⟨cc,T0,vs,p1,p2,p3,p4⟩
       ·exact absurd q4 iw
       ·have Ee:=a2.resolve_left cS
        subst Ee
        have D1:=p3.length
        have vD:dT cc.toList (μ.φ r').base sz vs:=by have:=kl p1 p4;rwa [jz] at this
        rw[jz] at p2
        have hmul: (off+len+ys.length)*sz≤(μ.φ r').cap*sz:=ajA _ abV
        rw[ajo] at hmul
        have hw:=vD.write (k:=off+len) (us:=us) abV Tl (by rw[ct cc,P1];omega)
        have eW:=km (P:=X.P) (w:=μ.w) (q:=(μ.φ r').base+(off+len)*sz) p1 (flat us) (by rw[Fc,P1];omega) FT
        have sS:=kN (X:=X) (sT:=sT) (xT:=xT) (sLen:=len) (sCap:=cap) (ty:=o.type) (base:=some ⟨(μ.φ r').bY,(μ.φ r').base+off*(O1 r').sz,none⟩)
         (w':=μ.w.setRow (μ.φ r').bY (cT cc.toList ((μ.φ r').base+(off+len)*sz) (flat us)).toArray) pj uy Pa hn k3 abV Tw (by
           simp only[gT,jz]
           have: (μ.φ r').base+off*sz+len*sz=(μ.φ r').base+(off+len)*sz:=by rw[ajo];omega
           rw[this];exact eW)
        have Jl:dT (cT cc.toList ((μ.φ r').base+(off+len)*sz) (flat us)) ((μ.φ r').base+off*sz) sz ((vs.drop off).take len++us):=by
         have h3:=(hw.take (off+len+us.length)).drop off
         have e1: (List.take (off+len+us.length) (vs.take (off+len)++us++vs.drop (off+len+us.length))).drop off=(vs.drop off).take len++us:=by
           have l1: (vs.take (off+len)).length=off+len:=by simp;omega
           have l2: (vs.take (off+len)++us).length=off+len+us.length:=by rw[List.length_append,l1]
           rw[←l2,List.take_left,List.drop_append_of_le_length abV,List.drop_take]
           congr 2;omega
         rwa [e1] at h3
        have aim:off*sz+cap*sz=(μ.φ r').cap*sz:=by rw[←ajo];congr 1;omega
        have Tz:=lT (X:=X) (μ:=⟨μ.w,μ.φ,O1⟩) g4 r' bq gz p1 iw (c':=(cT cc.toList ((μ.φ r').base+(off+len)*sz) (flat us)).toArray)
         (by
           have: (cT cc.toList ((μ.φ r').base+(off+len)*sz) (flat us)).length=cc.toList.length:=fW (by rw[ct cc,Fc,P1];omega)
           simpa using this)
         (g+1) ((μ.φ r').base+off*sz) cap (es':=aG es off len++ys) (vs':=(vs.drop off).take len++us) (.inr (by simp only;omega)) cS
         (by rw[List.length_append,o9];omega)
         (by
           simp only[jz]
           simp only[aj6,hbw,lf,ajD])
         ((ag.take len (ag.drop off p3)).append g2)
         (by simp only[jz];omega)
         (fun j y hy=>by
           obtain⟨m1,m2⟩:=Jl j y hy
           refine⟨by rw[jz];exact m1,fun l q hq=> ?_⟩
           have:=m2 l q hq
           simp only[jz]
           simpa using this)
        refine⟨_,_,_,.inl (fin _ _ (by rw[hp];exact sS)),?_,g3.trans Tz.1,Tz.2⟩
        simp only[aj,aA]
        exact⟨_,cap,rfl,abV,aiZ _,fun _=> ⟨a0,abV,.inr (by simp[jz])⟩⟩
      ·
       have hold: ∃ous,ag X ⟨μ.w,μ.φ,O1⟩ (aG es off len) ous∧(Builtin.firstCells sz len (.slice p len cap)).run X.P μ.w.drew= .ok (flat ous).toArray μ.w.drew:=by
        by_cases cS:cap=0
        ·have Js:len=0:=abV
         subst Js
         exact⟨[],by simp[aG,ag],qW⟩
        ·rcases q4 with q4| ⟨cc,T0,vs,p1,p2,p3,p4⟩
         ·omega
         · have Ee:=a2.resolve_left cS
           subst Ee
           have D1:=p3.length
           refine⟨(vs.drop off).take len,ag.take _ (ag.drop _ p3),?_⟩
           have pT:=(p4.drop off)
           rw[jz] at pT ⊢
           have:=xD (P:=X.P) (pT.bS (w':=μ.w.drew) rfl) (n:=len) (by simp;omega)
           simpa [Builtin.firstCells] using this
       obtain⟨ous,XP,XO⟩:=hold
       obtain⟨newCap,Ld,sS⟩:=pO (X:=X) (sT:=sT) (xT:=xT) (sLen:=len) (sCap:=cap) (base:=p) (ty:=o.type) pj uy Pa hn ON hzw k3 abV CI XO Tx
       obtain⟨K9,ho3⟩:=IH (X:=X) (μ:=μ) (O1:=O1) g4 (r:=r') (sz:=sz) (newCap:=newCap) (olds:=aG es off len) (ous:=ous) (ys:=ys) (us:=us) (zv:=zv) (e:=e)
        (o0:={gen:=g+1,sz:=sz,arr:=true,fz:=false,es:=some (aG es off len++ys)}) rfl (by simp only;omega) bI XP g2 hbw lf Tt (by rw[o9];exact Ld)
       have hO:da O1 r' {O1 r' with gen:=g+1,es:=some (aG es off len++ys)}=da O1 r' {gen:=g+1,sz:=sz,arr:=true,fz:=false,es:=some (aG es off len++ys)}:=by
        have: ({O1 r' with gen:=g+1,es:=some (aG es off len++ys)}:Obj)={gen:=g+1,sz:=sz,arr:=true,fz:=false,es:=some (aG es off len++ys)}:=by
         rw[←jz,←lL,←gz]
        rw[this]
       simp only[hO]
       rw[o9] at K9 ho3
       refine⟨_,_,da μ.φ r' ⟨μ.w.heap.size,0,newCap⟩,.inl (fin _ _ (by rw[hp];exact sS)),?_,g3.trans K9,ho3⟩
       simp only[aj,aA]
       exact⟨_,newCap,rfl,abV,aiZ _,fun _=> ⟨abV,abW,abW⟩⟩
    ·exact absurd g1 au
   ·exact absurd g1 au
  ·exact absurd g1 au
 ·exact absurd g1 au
theorem xF {c:Call} {s x:Operand} {sT xT e:TypeId} {d:TypeDesc} {s' x':aU} {r sz:Nat} {i:TypeInfo} {z:V} (hr:Rel X T a μ) (ho:o.op= .call c) (hc:c.callee= .builtin .append)
  (jb:c.args= #[s,x]) (Lc:c.argTypes= #[sT,xT]) (hd:bL X sT=some (.slice e)) (hx:bL X xT=some d) (Pa: ∀k,d≠ .int k) (hn:bQ X e=some sz) (hi:info X e=some i)
  (hz:ft X e=some z) (Ts:aV z sz=true) (h1:dm X s=some s') (h2:dm X x=some x')
  (ah: (aM E (.append r sz (vK i.bytes) s' x')).run C ⟨T,μ.O⟩=some (v,σ')):σ'.T=T∧c6 X o a μ σ'.O v:=by
 refine BQ (C:=C) (v:=v) false (r:=r) hr ho hc jb Lc hd hx Pa hn hi hz Ts h1 h2 ?_
 simp only[aM,bA] at ah
 exact ah
end
end Go.AM
namespace Go.AM
open Go Go.RowKit
section
variable {X:Ctx} {E:Env} {C:bo} {o:Oper} {a:Go.Act} {T:Nat→V} {μ:Mu} {v:V} {σ':St}
theorem II (ho:bk X μ) {r g off len sz:Nat} {es ys:List V} {us:List Value} {p:Option Addr} {cap:Nat} (bq: (μ.O r).es=some es) (gz: (μ.O r).fz=false) (jz: (μ.O r).sz=sz)
  (cK: (μ.O r).gen=g) (hle:len≤cap) (a0:0 < (μ.O r).sz) (a1:cap+off=(μ.φ r).cap) (a2:cap=0∨p=some ⟨(μ.φ r).bY,(μ.φ r).base+off*(μ.O r).sz,none⟩)
  (jg:off+len≤es.length) (hy:ys.length≤len) (bp:ag X μ ys us) (lf:ys.all (aV · sz)=true):
  ∃w',(match p with| some q=> (storeCells q (flat us)).run X.P μ.w= .ok () w'| none=>w'=μ.w∧flat us=[])∧
   ∃φ',φ' r=μ.φ r∧Le μ ⟨w',φ',da μ.O r {μ.O r with es:=some (overwrite es off ys)}⟩∧bk X ⟨w',φ',da μ.O r {μ.O r with es:=some (overwrite es off ys)}⟩:=by
 have P1:us.length=ys.length:=bp.length.symm
 obtain⟨Tl,FT⟩:=bp.cells_one lf
 have Fc:=ja Tl
 have fi:μ.O r={μ.O r with es:=some es}:=by rw[←bq]
 rcases ajm ys.length with h0| h0
 ·have Z6:ys=[]:=by simpa using h0
  have hu0:us=[]:=ajT.1 abV
  have hov:overwrite es off ys=es:=by simp[overwrite,Z6]
  have hO:da μ.O r {μ.O r with es:=some (overwrite es off ys)}=μ.O:=by
   funext q
   by_cases hq:q=r
   ·subst hq;rw[aA,hov];exact fi.symm
   ·rw[aX _ _ hq]
  rw[hO]
  refine⟨μ.w,?_,μ.φ,rfl,Le.refl μ,ho⟩
  cases p with
  | none=>simp[hu0,flat]
  | some q=>simp[hu0,flat,storeCells]
 ·obtain⟨q1,q2,q3,q4⟩:=ho.row r es bq a0
  have cS:cap≠0:=abV
  have iw: (μ.φ r).cap≠0:=abV
  rcases q4 with q4| ⟨cc,T0,vs,p1,p2,p3,p4⟩
  ·exact absurd q4 iw
  ·have Ee:=a2.resolve_left cS
   subst Ee
   have D1:=p3.length
   have vD:dT cc.toList (μ.φ r).base sz vs:=by have:=kl p1 p4;rwa [jz] at this
   rw[jz] at p2
   have hmul: (off+ys.length)*sz≤(μ.φ r).cap*sz:=ajA _ abV
   rw[ajo] at hmul
   have hw:=vD.write (k:=off) (us:=us) abV Tl (by rw[ct cc,P1];omega)
   have eW:=km (P:=X.P) (w:=μ.w) (q:=(μ.φ r).base+off*sz) p1 (flat us) (by rw[Fc,P1];omega) FT
   have Tz:=lT (X:=X) (μ:=μ) ho r bq gz p1 iw (c':=(cT cc.toList ((μ.φ r).base+off*sz) (flat us)).toArray)
    (by
      have: (cT cc.toList ((μ.φ r).base+off*sz) (flat us)).length=cc.toList.length:=fW (by rw[ct cc,Fc,P1];omega)
      simpa using this)
    (μ.O r).gen (μ.φ r).base (μ.φ r).cap (es':=overwrite es off ys) (vs':=vs.take off++us++vs.drop (off+us.length)) (.inl ⟨rfl,rfl,rfl⟩) iw
    (by simp[overwrite];omega)
    (by
      simp only[jz] at q3 ⊢
      have t1:=lU (p:=(aV · sz)) off q3
      have t2:=oF (p:=(aV · sz)) (off+ys.length) q3
      simp only[overwrite,aj6,t1,lf,t2,ajD])
    (by
      have:=((ag.take off p3).append bp).append (ag.drop (off+ys.length) p3)
      rw[P1];exact this)
    (by rw[jz];exact p2)
    (fun j y hy=>by
      obtain⟨m1,m2⟩:=hw j y hy
      refine⟨by rw[jz];exact m1,fun l q hq=> ?_⟩
      have:=m2 l q hq
      simp only[jz]
      simpa using this)
   refine⟨_,?_,_,?_,Tz.1,Tz.2⟩
   ·simp only[jz];exact eW
   ·rw[aA]
theorem qX {zv:Value} {sz n:Nat} (hz:zv.cells.size=sz) (bI:0 <sz): (Builtin.zeroCells zv.cells n).toList=flat (List.replicate n zv):=by
 have hs: ∀u ∈ List.replicate n zv,u.cells.size=sz:=fun u hu=>by rw[(List.mem_replicate.1 hu).2];exact hz
 have Fc:=ja hs
 rw[aj3] at Fc
 apply ajS
 intro q
 by_cases hq:q<n*sz
 ·have hi:q / sz<n:=Nat.div_lt_of_lt_mul (by rw[akm];exact hq)
  have Ee:q / sz*sz+q % sz=q:=by rw[akm];exact Nat.div_add_mod q sz
  have hm:q % sz<zv.cells.size:=by rw[hz];exact Nat.mod_lt _ bI
  have hc:zv.cells[q % sz]? =some zv.cells[q % sz]:=ajd hm
  have hv: (List.replicate n zv)[q / sz]? =some zv:=by rw[List.getElem?_replicate];simp[hi]
  have g1:=vT hs hv hc
  rw[Ee] at g1
  rw[g1,akD]
  have hr: (Array.range (n*sz))[q]? =some q:=by simp[hq]
  simp only[Builtin.zeroCells,Array.getElem?_map,hz,hr,ai4]
  rw[getElem!_def,hc]
 ·rw[ajN (by rw[ct (Builtin.zeroCells _ _),qV hz];omega),ajN abV]
theorem TA {c:Call} {x:Operand} {t e:TypeId} {x':aU} {sz:Nat} {z:V} (hr:Rel X T a μ) (ho:o.op= .call c) (hc:c.callee= .builtin .clear)
  (jb:c.args= #[x]) (Lc:c.argTypes= #[t]) (hd:bL X t=some (.slice e)) (hz:ft X e=some z) (h1:dm X x=some x')
  (ah: (aM E (.clear sz z x')).run C ⟨T,μ.O⟩=some (v,σ')):σ'.T=T∧c6 X o a μ σ'.O v:=by
 simp only[aM,bA] at ah
 have hx:=aS hr h1 μ.O
 have pj:X.P.underlying t=some (.slice e):=hd
 have fin: ∀w',(Builtin.clear_ #[t] o.type #[a.eval x]).run X.P μ.w= .ok (.tuple #[]) w'→(execOp a.eval o).run X.P μ.w= .ok (.value (.tuple #[])) w':=fun w' hv=>by
  refine gS ho hc ?_
  simp only[builtin,jb,Lc]
  refine dy ?_
  simpa using hv
 have Ck: (#[t]:Array TypeId)[0]? =some t:=rfl
 have XA: ∀y:Value,(#[y]:Array Value)[0]? =some y:=fun _=>rfl
 split at ah
 ·rename_i ex
  obtain⟨rfl,rfl⟩:=aZ ah
  rw[ex] at hx;simp only[aj] at hx
  obtain⟨p,hp⟩:=hx
  refine⟨rfl,aP (val:= .tuple #[]) hr.bg (fin _ ?_) (by simp only[aj];exact⟨#[],rfl,by simp[ag]⟩)⟩
  cases p<;>simp[Builtin.clear_,Sem.run_bind,run_underlying pj,hp]
 ·rename_i r g off len ex
  rw[ex] at hx
  simp only[Act.run] at ah
  split at ah
  ·rename_i es bq
   split at ah
   ·rename_i VK
    obtain⟨cK,lL,gz,jz,jg,Ts⟩:=VK
    simp only[Act.run,aiT,aiX] at ah
    obtain⟨rfl,rfl⟩:=ah
    simp only[aj] at hx
    obtain⟨p,cap,hp,hle,oO,bV⟩:=hx
    obtain⟨a0,a1,a2⟩:=bV cK
    obtain⟨zv,zd,Co⟩:=iH hz μ.w
    obtain⟨BO,K8⟩:=eT (X:=X) (μ:=μ) Co
    have Tt:zv.cells.size=sz:=by rw[BO.fI K8,(cr Ts).2]
    have bI:0 <sz:=jz ▸ a0
    obtain⟨w',eW,φ',hφ,le,fi⟩:=II (X:=X) hr.bg (us:=List.replicate len zv) bq gz jz cK hle a0 a1 a2 jg (ys:=List.replicate len z) abW (ag.replicate BO len)
     (by simp only[aiY,List.mem_replicate];rintro y ⟨_,rfl⟩;exact Ts)
    refine⟨rfl,.tuple #[],w',φ',.inl (fin _ ?_),by simp only[aj];exact⟨#[],rfl,by simp[ag]⟩,le,fi⟩
    rw[←qX Tt bI] at eW
    rw[hp]
    simp only[Builtin.clear_,Ck,XA,Sem.run_bind,run_underlying pj,Result.andThen_ok]
    rcases ajm len with h0| h0
    ·subst h0
     have SE: (Builtin.zeroCells zv.cells 0).toList=[]:=by rw[qX Tt bI];rfl
     rw[SE] at eW
     have hw:w'=μ.w:=by
       cases p with
       | none=>exact eW.1
       | some q=>simp[storeCells] at eW;exact eW.symm
     subst hw
     cases p<;>simp
    ·cases p with
     | none=>
       have cS:cap≠0:=abV
       exact absurd (a2.resolve_left cS) abW
     | some q=>
       obtain⟨n,rfl⟩: ∃n,len=n+1:=⟨len - 1,abV⟩
       simp only at eW
       simp[Sem.run_bind,zd,eW]
   ·exact absurd ah au
  ·exact absurd ah au
 ·exact absurd ah au
theorem MQ {x:Operand} {y:aU} (hr:Rel X T a μ) (ho:o.op= .move x∨o.op= .assign x) (ht:dm X x=some y) (ah: (aM E (.deep y)).run C ⟨T,μ.O⟩=some (v,σ')):
  σ'.T=T∧c6 X o a μ σ'.O v:=by
 simp only[aM,bA] at ah
 have bp:=aS hr ht μ.O
 have jL: (execOp a.eval o).run X.P μ.w= .ok (.value (a.eval x)) μ.w:=by rcases ho with ho| ho<;>simp[execOp,ho]
 unfold uM at ah
 split at ah
 ·rename_i r g off len he
  rw[he] at bp
  simp only[Act.run] at ah
  split at ah
  ·rename_i es bq
   split at ah
   rotate_left
   ·exact absurd ah au
   rename_i cK
   have MR:=bp
   simp only[aj] at MR
   obtain⟨_,_,_,_,_,bV⟩:=MR
   obtain⟨q1,q2,q3,q4⟩:=hr.bg.row r es bq (bV cK).1
   obtain⟨vs,nn,kC⟩: ∃vs,ag X μ es vs∧((μ.φ r).cap=0∨ ∃c T,μ.w.heap[(μ.φ r).bY]? =some (.cells c T (0,0))∧(μ.φ r).base+(μ.φ r).cap*(μ.O r).sz≤c.size∧
     dH μ.w (μ.φ r).bY (μ.φ r).base (μ.O r).sz vs):=by
    rcases q4 with q4| ⟨c,T0,vs,p1,p2,p3,p4⟩
    ·have:es=[]:=by
      have:es.length=0:=abV
      simpa using this
     subst this
     exact⟨[],by simp[ag],.inl q4⟩
    ·exact⟨vs,p3,.inr ⟨c,T0,p1,p2,p4⟩⟩
   obtain⟨es',O1,g1,g2,g3,g4⟩:=BL (μ:=μ) hr.bg nn ah
   simp only[Act.run] at g1
   split at g1
   ·rename_i hc
    obtain⟨rQ,u5,Z3⟩:=hc
    simp only[Act.run,aiT,aiX] at g1
    obtain⟨rfl,rfl⟩:=g1
    have hs: (O1 r).sz=(μ.O r).sz:=(g3.row r rQ).2
    have hlen:es'.length=es.length:=by rw[g2.length,nn.length]
    obtain⟨le,wF⟩:=OW (X:=X) (μ:=⟨μ.w,μ.φ,O1⟩) g4 r (es':=es') u5 (by rw[hs];exact q1) (by rw[hlen];exact q2) (by rw[hs];exact Z3) (by
     refine kC.imp id ?_
     rintro⟨c,T0,p1,p2,p4⟩
     exact⟨c,T0,vs,p1,by simp only[hs];exact p2,g2,by simp only[hs];exact p4⟩)
    exact⟨rfl,a.eval x,μ.w,μ.φ,.inl jL,aj.mono (g3.trans le) bp,g3.trans le,wF⟩
   ·exact absurd g1 au
  ·exact absurd ah au
 ·obtain⟨rfl,rfl⟩:=aZ ah
  exact⟨rfl,aP hr.bg jL bp⟩
end
end Go.AM
namespace Go.AM
open Go Go.RowKit
def kP (X:Ctx) (μ:Mu) (rs:List Nat) (a:V) (v:Value):Prop:= ∀ (B:Nat→Prop) (μ':Mu),μ'.w=μ.w→
 (∀b,Own ⟨X.toTrEnv,B,X.tok⟩ μ' b→Own X μ b∧ ∀r ∈ rs,(μ.O r).es.isSome=true→(μ.φ r).cap≠0→b≠(μ.φ r).bY)→aj ⟨X.toTrEnv,B,X.tok⟩ μ' a v
def vW (X:Ctx) (μ:Mu) (rs:List Nat) (asq:List V) (vs:List Value):Prop:= ∀ (B:Nat→Prop) (μ':Mu),μ'.w=μ.w→
 (∀b,Own ⟨X.toTrEnv,B,X.tok⟩ μ' b→Own X μ b∧ ∀r ∈ rs,(μ.O r).es.isSome=true→(μ.φ r).cap≠0→b≠(μ.φ r).bY)→ag ⟨X.toTrEnv,B,X.tok⟩ μ' asq vs
section
variable {X:Ctx} {B:Nat→Prop} {μ μ':Mu}
mutual
theorem dY (hw:μ'.w=μ.w) (ho: ∀b,Own ⟨X.toTrEnv,B,X.tok⟩ μ' b→Own X μ b): ∀ {x:V} {v:Value},V.aw x=true→aj X μ x v→aj ⟨X.toTrEnv,B,X.tok⟩ μ' x v
 | .bool _,_,_,h| .int ..,_,_,h| .float _,_,_,h| .str _,_,_,h| .nilp,_,_,h| .nilfn,_,_,h| .nili,_,_,h| .nils,_,_,h=>by simpa [aj] using h
 | .any,_,_,_=>by simp[aj]
 | .own ..,_,hp,_| .msl ..,_,hp,_| .mptr ..,_,hp,_| .sl ..,_,hp,_| .ptr ..,_,hp,_| .mp ..,_,hp,_| .it ..,_,hp,_=>by simp[V.aw] at hp
 | .mlit es,_,hp,h=>by
   simp only[aj] at h ⊢
   obtain⟨h0,h⟩:=h
   refine⟨h0,h.imp id ?_⟩
   rintro⟨a,ents,clock,rfl,hb,hs,h1,h2⟩
   exact⟨a,ents,clock,rfl,fun hh=>hb (ho _ hh),by rw[hw];exact hs,by rw[hw];exact h1,bP hw ho h0 h2⟩
 | .agg cs,_,hp,h=>by
   simp only[aj] at h ⊢
   obtain⟨h1,vs,rfl,h2⟩:=h
   exact⟨h1,vs,rfl,bP hw ho (by simpa [V.aw] using hp) h2⟩
 | .tuple cs,_,hp,h=>by
   simp only[aj] at h ⊢
   obtain⟨vs,rfl,h2⟩:=h
   exact⟨vs,rfl,bP hw ho (by simpa [V.aw] using hp) h2⟩
 | .bfn f cs,_,hp,h=>by
   simp only[aj] at h ⊢
   obtain⟨F,cv,rfl,h1,h2⟩:=h
   exact⟨F,cv,rfl,h1,bP hw ho (by simpa [V.aw] using hp) h2⟩
 | .fn f cs,_,hp,h=>by
   simp only[aj] at h ⊢
   obtain⟨F,cv,rfl,h1,h2⟩:=h
   exact⟨F,cv,rfl,h1,bP hw ho (by simpa [V.aw] using hp) h2⟩
 | .iface t x,_,hp,h=>by
   simp only[aj] at h ⊢
   obtain⟨F,y,rfl,h1,h2⟩:=h
   exact⟨F,y,rfl,h1,dY hw ho (by simpa [V.aw] using hp) h2⟩
 | .lit sz xs,_,hp,h=>by
   simp only[aj] at h ⊢
   obtain⟨h0,jX,a,cap,vs,rfl,h1,h2,h3⟩:=h
   refine⟨h0,jX,a,cap,vs,rfl,h1,bP hw ho h0 h2,h3.imp id ?_⟩
   rintro⟨b,o,rfl,hb,hs,hr⟩
   exact⟨b,o,rfl,fun hh=>hb (ho b hh),by rw[hw];exact hs,by rw[hw];exact hr⟩
 | .litk sz xs,_,hp,h=>by
   simp only[aj] at h ⊢
   obtain⟨h0,jX,a,cap,vs,rfl,h1,h2,h3⟩:=h
   refine⟨h0,jX,a,cap,vs,rfl,h1,bP hw ho h0 h2,h3.imp id ?_⟩
   rintro⟨rfl,hb,hs,hr⟩
   exact⟨rfl,fun hh=>hb (ho _ hh),by rw[hw];exact hs,by rw[hw];exact hr⟩
 | .epk i sz e off,_,hp,h=>by
   simp only[aj] at h ⊢
   obtain⟨h0,jX,x,rfl,hb,hs,h1,hr⟩:=h
   exact⟨h0,jX,x,rfl,fun hh=>hb (ho _ hh),by rw[hw];exact hs,dY hw ho h0 h1,by rw[hw];exact hr⟩
 | .eptr e off,_,hp,h=>by
   simp only[aj] at h ⊢
   obtain⟨h0,jX,b,o,sz,x,rfl,hb,hs,h1,hr⟩:=h
   exact⟨h0,jX,b,o,sz,x,rfl,fun hh=>hb (ho b hh),by rw[hw];exact hs,dY hw ho h0 h1,by rw[hw];exact hr⟩
theorem bP (hw:μ'.w=μ.w) (ho: ∀b,Own ⟨X.toTrEnv,B,X.tok⟩ μ' b→Own X μ b): ∀ {xs:List V} {vs:List Value},V.al xs=true→ag X μ xs vs→ag ⟨X.toTrEnv,B,X.tok⟩ μ' xs vs
 | [],[],_,_=>by simp[ag]
 | [],_::_,_,h=>by simp[ag] at h
 | _::_,[],_,h=>by simp[ag] at h
 | x::xs,v::vs,hp,h=>by
   simp only[ag] at h ⊢
   simp only[V.al,Bool.and_eq_true] at hp
   exact⟨dY hw ho hp.1 h.1,bP hw ho hp.2 h.2⟩
end
end
section
variable {X:Ctx} {C:bo} {T:Nat→V} {μ:Mu}
theorem kP.MS {a:V} {v:Value} (hp:V.aw a=true) (h:aj X μ a v) (rs:List Nat):kP X μ rs a v:=
 fun _ _ hw ho=>dY hw (fun b hb=> (ho b hb).1) hp h
theorem kP.more {rs rs':List Nat} {a:V} {v:Value} (h:kP X μ rs a v) (hs: ∀r ∈ rs,r ∈ rs'):kP X μ rs' a v:=
 fun B μ' hw ho=>h B μ' hw fun b hb=> ⟨(ho b hb).1,fun r hr=> (ho b hb).2 r (hs r hr)⟩
theorem vW.more {rs rs':List Nat} {a:List V} {v:List Value} (h:vW X μ rs a v) (hs: ∀r ∈ rs,r ∈ rs'):vW X μ rs' a v:=
 fun B μ' hw ho=>h B μ' hw fun b hb=> ⟨(ho b hb).1,fun r hr=> (ho b hb).2 r (hs r hr)⟩
theorem nz {f:V→(V→List Nat→Act)→Act}
   (hf: ∀ {v:V} {k:V→List Nat→Act} {val:Value} {p:V×St},aj X μ v val→(f v k).run C ⟨T,μ.O⟩=some p→ ∃v' rs,(k v' rs).run C ⟨T,μ.O⟩=some p∧V.aw v'=true∧kP X μ rs v' val∧(v.dh=true→v'.dh=true)∧(v.aT=true→v'.aT=true)):
   ∀ {vs:List V} {k:List V→List Nat→Act} {vals:List Value} {p:V×St},ag X μ vs vals→(kU f vs k).run C ⟨T,μ.O⟩=some p→
    ∃vs' rs,(k vs' rs).run C ⟨T,μ.O⟩=some p∧V.al vs'=true∧vW X μ rs vs' vals∧vs'.length=vs.length∧(vs.all V.dh=true→vs'.all V.dh=true)∧(vs.all V.aT=true→vs'.all V.aT=true)
 | [],k,[],p,_,ah=> ⟨[],[],ah,rfl,fun _ _ _ _=>by simp[ag],rfl,id,id⟩
 | [],_,_::_,_,h,_=>by simp[ag] at h
 | _::_,_,[],_,h,_=>by simp[ag] at h
 | v::vs,k,val::vals,p,h,ah=>by
   simp only[ag] at h
   obtain⟨v',rs,h1,h2,h3,h4,h5⟩:=hf h.1 ah
   obtain⟨vs',rs',k1,k2,k3,k4,k5,k6⟩:=nz hf h.2 h1
   refine⟨v'::vs',rs++rs',k1,by simp[V.al,h2,k2],fun B μ' hw ho=> ?_,by simp[k4],?_,?_⟩
   ·simp only[ag]
    exact⟨h3.more (fun r hr=>by simp[hr]) B μ' hw ho,k3.more (fun r hr=>by simp[hr]) B μ' hw ho⟩
   ·simp only[aja,Bool.and_eq_true];exact fun hh=> ⟨h4 hh.1,k5 hh.2⟩
   ·simp only[aja,Bool.and_eq_true];exact fun hh=> ⟨h5 hh.1,k6 hh.2⟩
theorem CS {f:V→(V→List Nat→Act)→Act}
  (hf: ∀ {v:V} {k:V→List Nat→Act} {val:Value} {p:V×St},aj X μ v val→(f v k).run C ⟨T,μ.O⟩=some p→ ∃v' rs,(k v' rs).run C ⟨T,μ.O⟩=some p∧V.aw v'=true∧kP X μ rs v' val∧(v.dh=true→v'.dh=true)∧(v.aT=true→v'.aT=true))
  {vs:List V} {k:List V→List Nat→Act} {vals:List Value} {p:V×St} (h:ag X μ vs vals) (ah: (rL f vs k).run C ⟨T,μ.O⟩=some p):
    ∃vs' rs,(k vs' rs).run C ⟨T,μ.O⟩=some p∧V.al vs'=true∧vW X μ rs vs' vals∧vs'.length=vs.length∧(vs.all V.dh=true→vs'.all V.dh=true)∧(vs.all V.aT=true→vs'.all V.aT=true):=by
 unfold rL at ah
 split at ah
 ·rename_i hp
  exact⟨vs,[],ah,hp,fun _ _ hw ho=>bP hw (fun b hb=> (ho b hb).1) hp h,rfl,id,id⟩
 ·exact nz hf h ah
theorem nA (ho:bk X μ): ∀ (d:Nat) {v:V} {k:V→List Nat→Act} {val:Value} {p:V×St},aj X μ v val→(eh d v k).run C ⟨T,μ.O⟩=some p→
   ∃v' rs,(k v' rs).run C ⟨T,μ.O⟩=some p∧V.aw v'=true∧kP X μ rs v' val∧(v.dh=true→v'.dh=true)∧(v.aT=true→v'.aT=true)
 | 0,v,k,val,p,h,ah=>by
   simp only[eh] at ah
   split at ah
   ·rename_i hp;exact⟨v,[],ah,hp,kP.MS hp h _,id,id⟩
   ·exact absurd ah au
 | d+1,v,k,val,p,h,ah=>by
   have ih:=fun {v:V} {k:V→List Nat→Act} {val:Value} {p:V×St}=>nA ho d (v:=v) (k:=k) (val:=val) (p:=p)
   simp only[eh] at ah
   split at ah
   ·rename_i hp;exact⟨v,[],ah,hp,kP.MS hp h _,id,id⟩
   ·rename_i hnp
    split at ah
    ·
     simp only[aj] at h
     obtain⟨h0,vs,rfl,hv⟩:=h
     obtain⟨cU,rs,k1,k2,k3,k4,k5,k6⟩:=nz ih hv ah
     refine⟨_,rs,k1,by simpa [V.aw] using k2,fun B μ' hw hh=> ?_,fun _=>rfl,fun hc=>by simp[V.aT] at hc⟩
     simp only[aj]
     exact⟨k6 h0,vs,rfl,k3 B μ' hw hh⟩
    ·
     simp only[aj] at h
     obtain⟨F,cv,rfl,hf,hv⟩:=h
     obtain⟨cU,rs,k1,k2,k3,k4,k5,k6⟩:=nz ih hv ah
     refine⟨_,rs,k1,by simpa [V.aw] using k2,fun B μ' hw hh=> ?_,fun _=>rfl,fun _=>rfl⟩
     simp only[aj]
     exact⟨F,cv,rfl,hf,k3 B μ' hw hh⟩
    ·
     simp only[aj] at h
     obtain⟨F,y,rfl,hf,hv⟩:=h
     obtain⟨x',rs,k1,k2,k3,k4,k5⟩:=ih hv ah
     refine⟨_,rs,k1,by simpa [V.aw] using k2,fun B μ' hw hh=> ?_,fun _=>rfl,fun _=>rfl⟩
     simp only[aj]
     exact⟨F,y,rfl,hf,k3 B μ' hw hh⟩
    ·
     rename_i r g off len
     simp only[Act.run] at ah
     split at ah
     ·rename_i es bq
      split at ah
      ·rename_i hc
       obtain⟨cK,lL,jg⟩:=hc
       simp only[aj] at h
       obtain⟨a,cap,rfl,hle,oO,bV⟩:=h
       obtain⟨a0,a1,a2⟩:=bV cK
       obtain⟨q1,q2,q3,q4⟩:=ho.row r es bq a0
       have o9: (aG es off len).length=len:=by simp[aG];omega
       have ll: (aG es off len).all V.dh=true:=by
        simp only[aiY] at q3 ⊢
        exact fun x hx=> (cr (q3 x (ajz (ajh hx)))).1
       have nn: ∃vs,ag X μ (aG es off len) vs∧(len=0∨((μ.φ r).cap≠0∧(μ.φ r).bY<μ.w.heap.size∧a=some ⟨(μ.φ r).bY,(μ.φ r).base+off*(μ.O r).sz,none⟩∧dH μ.w (μ.φ r).bY ((μ.φ r).base+off*(μ.O r).sz) (μ.O r).sz vs)):=by
        by_cases Js:len=0
        ·exact⟨[],by simp[aG,Js,ag],.inl Js⟩
        ·rcases q4 with q4| ⟨cc,TT,vs,p1,p2,p3,p4⟩
         ·omega
         ·exact⟨(vs.drop off).take len,ag.take _ (ag.drop _ p3),.inr ⟨abV,(aiV.1 p1).1,a2.resolve_left abV,(p4.drop off).take len⟩⟩
       obtain⟨vs,hv1,Mz⟩:=nn
       obtain⟨UE,rs,k1,k2,k3,k4,k5,k6⟩:=CS ih hv1 ah
       refine⟨_,r::rs,k1,rfl,fun B μ' hw hh=> ?_,fun _=>rfl,fun _=>rfl⟩
       have hx:=k3.more (rs':=r::rs) (fun q hq=>by simp[hq]) B μ' hw hh
       simp only[aj]
       refine⟨k2,k5 ll,a,cap,vs,by rw[k4,o9],by rw[k4,o9];exact hle,hx,?_⟩
       rcases Mz with Js| ⟨c0,c1,c2,c3⟩
       ·left
        have:UE.length=0:=by rw[k4,o9];exact Js
        simpa using this
       ·right
        refine⟨_,_,c2,fun jy=> ?_,by rw[hw];exact c1,by rw[hw];exact c3⟩
        exact(hh _ jy).2 r abW (by simp[bq]) c0 rfl
      ·exact absurd ah au
     ·exact absurd ah au
    ·
     rename_i r g idx off
     simp only[Act.run] at ah
     split at ah
     ·rename_i es bq
      split at ah
      ·rename_i cK
       split at ah
       ·rename_i e he
        simp only[aj] at h
        obtain⟨a,rfl,oO,bV⟩:=h
        obtain⟨a0,hae⟩:=bV cK
        obtain⟨q1,q2,q3,q4⟩:=ho.row r es bq a0
        have bl:idx<es.length:=(aiS.1 he).1
        rcases q4 with q4| ⟨cc,TT,vs,p1,p2,p3,p4⟩
        ·omega
        ·obtain⟨x,hx,bp⟩:=p3.get he
         have lf:aV e (μ.O r).sz=true:=by
          simp only[aiY] at q3
          exact q3 e (List.mem_of_getElem? he)
         obtain⟨e',rs,k1,k2,k3,k4,k5⟩:=ih bp ah
         refine⟨_,r::rs,k1,rfl,fun B μ' hw hh=> ?_,fun _=>rfl,fun _=>rfl⟩
         simp only[aj]
         have dA:dH μ.w (μ.φ r).bY ((μ.φ r).base+idx*(μ.O r).sz) (μ.O r).sz [x]:=by
          have:=(p4.drop idx).take 1
          have Hv: (vs.drop idx).take 1=[x]:=by
           have Cj:idx<vs.length:=(aiS.1 hx).1
           rw[ajf Cj,ajO,akq]
           rw[aiW Cj] at hx
           injection hx with hx;rw[hx]
          rwa [Hv] at this
         refine⟨k2,k4 (cr lf).1,(μ.φ r).bY,(μ.φ r).base+idx*(μ.O r).sz,(μ.O r).sz,x,by rw[hae],fun jy=> ?_,by rw[hw];exact(aiV.1 p1).1,
          k3.more (rs':=r::rs) (fun q hq=>by simp[hq]) B μ' hw hh,by rw[hw];exact dA⟩
         exact(hh _ jy).2 r abW (by simp[bq]) abV rfl
       ·exact absurd ah au
      ·exact absurd ah au
     ·exact absurd ah au
    ·exact absurd ah au
inductive mI (X:Ctx) (μ:Mu) (r0:Nat):Nat→List V→List Value→List Nat→List ed→Prop
 | nil (i:Nat):mI X μ r0 i [] [] [] []
 | plain {i:Nat} {a:V} {v:Value} {rs rs':List Nat} {asq:List V} {vs:List Value} {ws:List ed} (hp:V.aw a=true) (hs:kP X μ rs a v) (h:mI X μ r0 (i+1) asq vs rs' ws):
    mI X μ r0 i (a::asq) (v::vs) (rs++rs') ws
 | sl {i r g off len:Nat} {es:List V} {v:Value} {rs:List Nat} {asq:List V} {vs:List Value} {ws:List ed} (bq: (μ.O r).es=some es) (gz: (μ.O r).fz=false) (cK: (μ.O r).gen=g) (mR:V.al es=true)
    (jg:off+len≤es.length) (hv:aj X μ (.sl r g off len) v) (h:mI X μ r0 (i+1) asq vs rs ws):mI X μ r0 i (.msl (μ.O r).sz es off len::asq) (v::vs) rs (⟨i,r,none⟩::ws)
 | ptr {i r g idx off:Nat} {es:List V} {v:Value} {rs:List Nat} {asq:List V} {vs:List Value} {ws:List ed} (bq: (μ.O r).es=some es) (gz: (μ.O r).fz=false) (cK: (μ.O r).gen=g) (mR:V.al es=true)
    (hv:aj X μ (.ptr r g idx off) v) (h:mI X μ r0 (i+1) asq vs rs ws):mI X μ r0 i (.mptr (μ.O r).sz es idx off::asq) (v::vs) rs (⟨i,r,none⟩::ws)
 | fresh {i sz:Nat} {v:Value} {rs:List Nat} {asq:List V} {vs:List Value} {ws:List ed} (bI:0 <sz) (hv: ∃a,v= .slice a 0 0) (h:mI X μ r0 (i+1) asq vs rs ws):
    mI X μ r0 i (.msl sz [] 0 0::asq) (v::vs) rs (⟨i,r0+i,some sz⟩::ws)
theorem eU (ho:bk X μ) {r0:Nat}: ∀ {vs:List V} {ms:List (Option Nat)} {i:Nat} {k:List V→List Nat→List ed→Act} {vals:List Value} {p:V×St},ag X μ vs vals→
   (dB r0 vs ms i k).run C ⟨T,μ.O⟩=some p→ ∃asq rs ws,(k asq rs ws).run C ⟨T,μ.O⟩=some p∧mI X μ r0 i asq vals rs ws
 | [],ms,i,k,[],p,_,ah=> ⟨[],[],[],by simpa [dB] using ah,.nil i⟩
 | [],_,_,_,_::_,_,h,_=>by simp[ag] at h
 | _::_,_,_,_,[],_,h,_=>by simp[ag] at h
 | v::vs,[],i,k,val::vals,p,h,ah=>by
   simp only[ag] at h
   simp only[dB,snap] at ah
   obtain⟨v',rs,h1,h2,h3,_,_⟩:=nA ho 5 h.1 ah
   obtain⟨asq,rs',ws,k1,k2⟩:=eU ho h.2 h1
   exact⟨_,_,_,k1,.plain h2 h3 k2⟩
 | v::vs,m::ms,i,k,val::vals,p,h,ah=>by
   simp only[ag] at h
   simp only[dB] at ah
   split at ah
   ·split at ah
    ·split at ah
     ·rename_i bI
      obtain⟨asq,rs',ws,k1,k2⟩:=eU ho h.2 ah
      have h1:=h.1
      simp only[aj] at h1
      exact⟨_,_,_,k1,.fresh bI h1 k2⟩
     ·exact absurd ah au
    ·rename_i r g off len
     simp only[Act.run] at ah
     split at ah
     ·rename_i es bq
      split at ah
      ·rename_i hc
       obtain⟨c1,c2,c3,c4,c5⟩:=hc
       obtain⟨asq,rs',ws,k1,k2⟩:=eU ho h.2 ah
       rw[←c3] at k1
       exact⟨_,_,_,k1,.sl bq c2 c1 c5 c4 h.1 k2⟩
      ·exact absurd ah au
     ·exact absurd ah au
    ·rename_i r g idx off
     simp only[Act.run] at ah
     split at ah
     ·rename_i es bq
      split at ah
      ·rename_i hc
       obtain⟨c1,c2,c3,c4⟩:=hc
       obtain⟨asq,rs',ws,k1,k2⟩:=eU ho h.2 ah
       rw[←c3] at k1
       exact⟨_,_,_,k1,.ptr bq c2 c1 c4 h.1 k2⟩
      ·exact absurd ah au
     ·exact absurd ah au
    ·exact absurd ah au
   ·simp only[snap] at ah
    obtain⟨v',rs,h1,h2,h3,_,_⟩:=nA ho 5 h.1 ah
    obtain⟨asq,rs',ws,k1,k2⟩:=eU ho h.2 h1
    exact⟨_,_,_,k1,.plain h2 h3 k2⟩
end
theorem kQ {X:Ctx} {C:bo} {T:Nat→V} {w:World} {φ:Nat→Row}: ∀ (rs:List Nat) {O:Nat→Obj} {k:Act} {p:V×St},bk X ⟨w,φ,O⟩→(dC rs k).run C ⟨T,O⟩=some p→
   ∃O',k.run C ⟨T,O'⟩=some p∧Le ⟨w,φ,O⟩ ⟨w,φ,O'⟩∧bk X ⟨w,φ,O'⟩∧(∀r,r ∉ rs→O' r=O r)∧(∀r,r ∈ rs→O' r={O r with fz:=true})
 | [],O,k,p,ho,h=> ⟨O,h,Le.refl _,ho,fun _ _=>rfl,fun r hr=>by simp at hr⟩
 | q::rs,O,k,p,ho,h=>by
   simp only[dC,Act.run] at h
   obtain⟨l1,o1⟩:=pz ho q
   obtain⟨O',h1,h2,h3,h4,h5⟩:=kQ rs o1 h
   refine⟨O',h1,l1.trans h2,h3,fun r hr=> ?_,fun r hr=> ?_⟩
   ·have w9:r≠q∧r ∉ rs:=by simpa using hr
    rw[h4 r w9.2,aX _ _ w9.1]
   ·by_cases hm:r ∈ rs
    ·rw[h5 r hm]
     by_cases e:r=q
     ·subst e;simp[aA]
     ·simp[aX _ _ e]
    ·have e:r=q:=by
      rcases ai0.1 hr with e| hr
      ·exact e
      ·exact absurd hr hm
     subst e
     rw[h4 r hm,aA]
theorem IJ {X:Ctx} {C:bo} {T:Nat→V} {μ:Mu} (ho:bk X μ) {v:V} {val:Value} {p:V×St} (hv:aj X μ v val) (ah: (snap v fun v' rs=>dC rs (.done v')).run C ⟨T,μ.O⟩=some p):
  ∃c' O',(Act.done c').run C ⟨T,O'⟩=some p∧aj X ⟨μ.w,μ.φ,O'⟩ c' val∧Le μ ⟨μ.w,μ.φ,O'⟩∧bk X ⟨μ.w,μ.φ,O'⟩:=by
 obtain⟨v',rs,h1,_,h3,_,_⟩:=nA ho 5 hv ah
 obtain⟨O',k1,k2,k3,k4,k5⟩:=kQ (w:=μ.w) (φ:=μ.φ) rs ho h1
 refine⟨v',O',k1,?_,k2,k3⟩
 refine h3 X.XJ ⟨μ.w,μ.φ,O'⟩ rfl fun b hb=> ?_
 rcases hb with⟨r',q1,q2,q3,q4⟩ | hb
 ·simp only at q1 q2 q3 q4
  by_cases hm:r' ∈ rs
  ·rw[k5 r' hm] at q2;simp at q2
  ·rw[k4 r' hm] at q1 q2
   refine⟨.inl ⟨r',q1,q2,q3,q4⟩,fun r hr hs hc e=> ?_⟩
   exact ho.inj r' r (fun e'=>hm (e' ▸ hr)) q1 hs q3 hc (q4.trans e)
 ·exact⟨.inr hb,fun r hr hs hc e=>ho.uz r hs hc (e ▸ hb)⟩
end Go.AM
namespace Go.AM
open Go Go.RowKit Go.MapKept
section
variable {X:Ctx} {E:Env} {C:bo} {o:Oper} {a:Go.Act} {T:Nat→V} {μ:Mu} {v:V} {σ':St}
def pU (e:MapEntry):Value:= .tuple #[e.key,e.val]
def kn (q:Option IntKind) (d:TypeDesc):Prop:=match q with
 | some q=>d= .int q
 | none=>d= .string
theorem TB {q:Option IntKind} {d:TypeDesc} {k:V} {kv:Value} (hd:kn q d) (hk:isKey q k=true) (hv:aj X μ k kv):IsKey d kv:=by
 unfold isKey at hk
 unfold kn at hd
 split at hk
 ·simp only[aj] at hv
  subst hv;subst hd
  simpa [IsKey] using hk
 ·simp only[aj] at hv
  obtain⟨bs,rfl,_⟩:=hv
  subst hd
  simp[IsKey]
 ·simp at hk
theorem sj {q:Option IntKind} {d:TypeDesc} {k k':V} {kv kv':Value} {b:Bool} (hd:kn q d) (hk:isKey q k=true) (h1:aj X μ k kv) (h2:aj X μ k' kv') (h:ya k k'=some b):
  Instr.sameNow d kv kv'=some b∧(b=true→kv'=kv):=by
 unfold ya at h
 split at h
 ·simp only[aj] at h1 h2
  subst h1;subst h2
  split at h
  ·rename_i e
   subst e
   injection h with h
   subst h
   have: ∃q',d= .int q':=by
    unfold isKey at hk
    unfold kn at hd
    cases q<;>simp_all
   obtain⟨q',rfl⟩:=this
   refine⟨by simp[Instr.sameNow],fun hb=> ?_⟩
   simp only[beq_iff_eq] at hb
   rw[hb]
  ·simp at h
 ·simp only[aj] at h1 h2
  obtain⟨x,rfl,rfl⟩:=h1
  obtain⟨y,rfl,rfl⟩:=h2
  injection h with h
  subst h
  have:d= .string:=by
   unfold isKey at hk
   unfold kn at hd
   cases q<;>simp_all
  subst this
  have LR: (x==y)=decide (x.data.toList=y.data.toList):=by
   rw[akf,bytes_beq,decide_eq_true_eq]
   constructor
   ·rintro rfl;rfl
   ·intro h
    cases x;cases y
    simp only[ByteArray.mk.injEq]
    exact ajZ.1 h
  refine⟨by simp[Instr.sameNow,LR],fun hb=> ?_⟩
  rw[←LR,bytes_beq] at hb
  rw[hb]
 ·simp at h
theorem sm {e:V} {me:MapEntry} (h:aj X μ e (pU me)) {k v:V} (he:e= .tuple [k,v]):aj X μ k me.key∧aj X μ v me.val:=by
 subst he
 simp only[pU,aj] at h
 obtain⟨vs,h1,h2⟩:=h
 injection h1 with h1
 subst h1
 simpa [ag] using h2
theorem nS {k v:V} {me:MapEntry} (h1:aj X μ k me.key) (h2:aj X μ v me.val):aj X μ (.tuple [k,v]) (pU me):=by
 simp only[pU,aj]
 exact⟨_,rfl,by simp[ag,h1,h2]⟩
theorem qY {q:Option IntKind} {d:TypeDesc} {k:V} {kv:Value} (hd:kn q d) (hk:isKey q k=true) (h1:aj X μ k kv): ∀ {es:List V} {ents:List MapEntry} {i:Nat} {r:Option V},ag X μ es (ents.map pU)→cp k es=some r→
   (r=none∧Instr.findNow d kv ents i=some none)∨ ∃v j e,r=some v∧Instr.findNow d kv ents i=some (some (j,e))∧aj X μ v e
 | [],[],i,r,_,h=>by simp[cp] at h;subst h;exact .inl ⟨rfl,rfl⟩
 | [],_::_,_,_,h,_=>by simp[ag] at h
 | _::_,[],_,_,h,_=>by simp[ag] at h
 | e::es,m::ents,i,r,hr,h=>by
   simp only[List.map_cons,ag] at hr
   unfold cp at h
   split at h
   ·rename_i heq;simp at heq
   ·rename_i k' v' es' heq
    injection heq with e1 e2
    subst e2
    obtain⟨t1,t2⟩:=sm hr.1 e1
    split at h
    ·rename_i hq
     injection h with h
     subst h
     obtain⟨s1,_⟩:=sj hd hk h1 t1 hq
     exact .inr ⟨v',i,m.val,rfl,by simp[Instr.findNow,s1],t2⟩
    ·rename_i hq
     obtain⟨s1,_⟩:=sj hd hk h1 t1 hq
     rcases qY hd hk h1 (i:=i+1) hr.2 h with⟨g1,g2⟩ | ⟨v,j,x,g1,g2,g3⟩
     ·exact .inl ⟨g1,by simp[Instr.findNow,s1,g2]⟩
     ·exact .inr ⟨v,j,x,g1,by simp[Instr.findNow,s1,g2],g3⟩
    ·simp at h
   ·simp at h
theorem BR {q:Option IntKind} {d:TypeDesc} {k u:V} {kv val:Value} (hd:kn q d) (hk:isKey q k=true) (h1:aj X μ k kv) (h2:aj X μ u val): ∀ {es es':List V} {ents:List MapEntry} {i:Nat},ag X μ es (ents.map pU)→jn k u es=some es'→
   (Instr.findNow d kv ents i=some none∧ ∀c,ag X μ es' ((ents++[({key:=kv,val:=val,born:=c}:MapEntry)]).map pU))∨
   ∃j e,Instr.findNow d kv ents i=some (some (i+j,e.val))∧ents[j]? =some e∧e.key=kv∧ag X μ es' ((ents.set j ({key:=kv,val:=val,born:=e.born}:MapEntry)).map pU)
 | [],es',[],i,_,h=>by
   simp[jn] at h;subst h
   exact .inl ⟨rfl,fun c=>by simp only[ajx,List.map_cons,akj,ag];exact⟨nS (me:={key:=kv,val:=val,born:=c}) h1 h2,trivial⟩⟩
 | [],_,_::_,_,h,_=>by simp[ag] at h
 | _::_,_,[],_,h,_=>by simp[ag] at h
 | e::es,es',m::ents,i,hr,h=>by
   simp only[List.map_cons,ag] at hr
   unfold jn at h
   split at h
   ·rename_i heq;simp at heq
   ·rename_i k' v' Ct heq
    injection heq with e1 e2
    subst e2
    obtain⟨t1,t2⟩:=sm hr.1 e1
    split at h
    ·rename_i hq
     injection h with h
     subst h
     obtain⟨s1,s2⟩:=sj hd hk h1 t1 hq
     exact .inr ⟨0,m,by simp[Instr.findNow,s1],rfl,s2 rfl,by simp only[List.set_cons_zero,List.map_cons,ag];exact⟨nS (me:={key:=kv,val:=val,born:=m.born}) h1 h2,hr.2⟩⟩
    ·rename_i hq
     obtain⟨s1,_⟩:=sj hd hk h1 t1 hq
     rw[aiU] at h
     obtain⟨es3,g0,rfl⟩:=h
     rcases BR hd hk h1 h2 (i:=i+1) hr.2 g0 with⟨g1,g2⟩ | ⟨j,x,g1,g2,g3,g4⟩
     ·exact .inl ⟨by simp[Instr.findNow,s1,g1],fun c=>by simp only[ajn,List.map_cons,ag];exact⟨nS t1 t2,g2 c⟩⟩
     ·exact .inr ⟨j+1,x,by simp[Instr.findNow,s1,g1];omega,by simpa using g2,g3,by simp only[List.set_cons_succ,List.map_cons,ag];exact⟨nS t1 t2,g4⟩⟩
    ·simp at h
   ·simp at h
theorem TC {t:TypeId} {rs:Option Operand} {r:Nat} (hr:Rel X T a μ) (ho:o.op= .makeMap t rs) (Q7:rs=none) (ah: (aM E (.mkMap r)).run C ⟨T,μ.O⟩=some (v,σ')):σ'.T=T∧c6 X o a μ σ'.O v:=by
 subst Q7
 simp only[aM,Act.run,aiT,aiX] at ah
 obtain⟨rfl,rfl⟩:=ah
 obtain⟨le,fi⟩:=BI hr.bg r (.map #[] 0) [] (.inl ⟨#[],0,rfl,by simp[ag],by simp[gQ]⟩)
 refine⟨rfl,.map (some μ.w.heap.size),_,_,.inl ?_,?_,le,fi⟩
 ·simp only[execOp,ho]
  refine dy ?_
  simp[Instr.makeMap,Sem.run_bind]
 ·simp only[aj,aA]
  exact⟨_,rfl,aiZ _,fun _=> ⟨trivial,rfl⟩⟩
theorem Pc {t kt et:TypeId} {d:TypeDesc} {x i:Operand} {x' i':aU} {ok:Bool} {q:Option IntKind} {z:V} (hr:Rel X T a μ) (ho:o.op= .lookup t x i ok) (ht:bL X t=some (.map kt et)) (SP:bL X kt=some d) (hd:kn q d)
  (hz:ft X et=some z) (h1:dm X x=some x') (h2:dm X i=some i') (ah: (aM E (.Ab q ok z x' i')).run C ⟨T,μ.O⟩=some (v,σ')):σ'.T=T∧c6 X o a μ σ'.O v:=by
 simp only[aM,bA] at ah
 have hx:=aS hr h1 μ.O
 have hi:=aS hr h2 μ.O
 have lE:X.P.underlying t=some (.map kt et):=ht
 have xG:X.P.underlying kt=some d:=SP
 obtain⟨zv,zd,Co⟩:=iH hz μ.w
 obtain⟨BO,K8⟩:=eT (X:=X) (μ:=μ) Co
 split at ah
 ·rename_i mT
  have GW:=TB hd mT hi
  have main: ∀ {es:List V} {ents:Array MapEntry} {m:Option Nat},ag X μ es (ents.toList.map pU)→(cW ok z es (bu ⟨T,μ.O⟩ i')).run C ⟨T,μ.O⟩=some (v,σ')→a.eval x= .map m→
    (match m with| none=>ents= #[] | some r=> ∃clock,μ.w.heap[r]? =some (.map ents clock))→σ'.T=T∧c6 X o a μ σ'.O v:=by
   intro es ents m bp eS hm hb
   have fin: ∀ (u:Value) (b:Bool),(match Instr.findNow d (a.eval i) ents.toList 0 with
      | some (some (_,v))=>u=v∧b=true
      | some none=>u=zv∧b=false
      | none=>False)→(execOp a.eval o).run X.P μ.w= .ok (.value (if ok then .tuple #[u,.bool b] else u)) μ.w:=by
    intro u b hf
    simp only[execOp,ho]
    refine dy ?_
    cases mS:Instr.findNow d (a.eval i) ents.toList 0 with
    | none=>rw[mS] at hf;exact hf.elim
    | some r=>
      rw[mS] at hf
      cases m with
      | none=>
        simp only at hb
        subst hb
        cases r with
        | none=>
          simp only at hf;obtain⟨rfl,rfl⟩:=hf
          cases ok<;>simp[Instr.lookup,Sem.run_bind,run_underlying lE,Result.andThen,hm,Go.MapKept.run_checkKey xG GW,Go.MapKept.run_findKey (l:=[]) xG (by simpa using mS),zd]
        | some p=>
          obtain⟨j,y⟩:=p
          simp only at hf;obtain⟨rfl,rfl⟩:=hf
          cases ok<;>simp[Instr.lookup,Sem.run_bind,run_underlying lE,Result.andThen,hm,Go.MapKept.run_checkKey xG GW,Go.MapKept.run_findKey (l:=[]) xG (by simpa using mS)]
      | some rr=>
        obtain⟨clock,hb⟩:=hb
        cases r with
        | none=>
          simp only at hf;obtain⟨rfl,rfl⟩:=hf
          cases ok<;>simp[Instr.lookup,Sem.run_bind,run_underlying lE,Result.andThen,hm,Go.MapKept.run_getObj_map hb,Go.MapKept.run_checkKey xG GW,Go.MapKept.run_findKey xG mS,zd]
        | some p=>
          obtain⟨j,y⟩:=p
          simp only at hf;obtain⟨rfl,rfl⟩:=hf
          cases ok<;>simp[Instr.lookup,Sem.run_bind,run_underlying lE,Result.andThen,hm,Go.MapKept.run_getObj_map hb,Go.MapKept.run_checkKey xG GW,Go.MapKept.run_findKey xG mS]
   unfold cW at eS
   split at eS
   ·rename_i y hy
    obtain⟨rfl,rfl⟩:=aZ eS
    rcases qY hd mT hi (i:=0) bp hy with⟨g1,_⟩ | ⟨v0,j,e,g1,g2,g3⟩
    ·cases g1
    · injection g1 with g1
      subst g1
      refine⟨rfl,aP hr.bg (fin e true (by rw[g2];exact⟨rfl,rfl⟩)) ?_⟩
      cases ok
      ·simpa using g3
      ·simp only[if_true,aj];exact⟨_,rfl,by simp[ag,aj,g3]⟩
   ·rename_i hy
    obtain⟨rfl,rfl⟩:=aZ eS
    rcases qY hd mT hi (i:=0) bp hy with⟨_,g2⟩ | ⟨v0,j,e,g1,g2,g3⟩
    · refine⟨rfl,aP hr.bg (fin zv false (by rw[g2];exact⟨rfl,rfl⟩)) ?_⟩
      cases ok
      ·simpa using BO
      ·simp only[if_true,aj];exact⟨_,rfl,by simp[ag,aj,BO]⟩
    ·cases g1
   ·exact absurd eS au
  split at ah
  ·rename_i r g e
   rw[e] at hx
   simp only[aj] at hx
   obtain⟨b,hp,oO,bV⟩:=hx
   simp only[Act.run] at ah
   split at ah
   ·rename_i es bq
    split at ah
    · rename_i hc
      obtain⟨k0,rfl⟩:=bV hc.1
      rcases hr.bg.ents r es bq hc.2 with⟨cS,ents,clock,hm,bp,_⟩ | ⟨_,s,pos,_,rfl⟩ | ⟨mY,rfl⟩
      ·exact main bp ah hp ⟨clock,hm⟩
      ·exact absurd (by simpa [cW,cp] using ah) au
      ·exact absurd (by simpa [cW,cp] using ah) au
    ·exact absurd ah au
   ·exact absurd ah au
  ·rename_i es e
   rw[e] at hx
   simp only[aj] at hx
   obtain⟨_,⟨rfl,hp⟩ | ⟨b,ents,clock,hp,_,_,⟨hm,_⟩,bp⟩⟩:=hx
   ·exact main (ents:= #[]) (by simp[ag]) ah hp rfl
   ·exact main bp ah hp ⟨clock,hm⟩
  ·exact absurd ah au
 ·exact absurd ah au
theorem sn {ents:Array MapEntry} {clock:Nat} (h:gQ ents clock) (e:MapEntry) (he:e.born=clock):gQ (ents.push e) (clock+1):=by
 obtain⟨h1,h2⟩:=h
 refine⟨by simp[h1],?_⟩
 rw[Array.toList_push,ajk,h2,Array.size_push,List.range_succ,List.map_cons,akj,he,h1]
theorem nB {ents:Array MapEntry} {clock:Nat} (h:gQ ents clock) (j:Nat) {f:MapEntry→MapEntry} (hf: ∀e,(f e).born=e.born):gQ (ents.modify j f) clock:=by
 have hm: (ents.modify j f).toList.map (·.born)=ents.toList.map (·.born):=by
  apply ajS
  intro n
  simp only[List.getElem?_map,akg,ajr]
  cases ents.toList[n]? with
  | none=>rfl
  | some x=>
    simp only[ai4]
    split
    ·simp[hf]
    ·rfl
 exact⟨by simpa using h.1,by rw[hm];simpa using h.2⟩
theorem Ei {t kt et:TypeId} {d:TypeDesc} {x i y:Operand} {x' i' y':aU} {q:Option IntKind} (hr:Rel X T a μ) (ho:o.op= .mapUpdate t x i y∨o.op= .insert t x i y) (ht:bL X t=some (.map kt et)) (SP:bL X kt=some d) (hd:kn q d)
  (h1:dm X x=some x') (h2:dm X i=some i') (h3:dm X y=some y') (ah: (aM E (.wP q x' i' y')).run C ⟨T,μ.O⟩=some (v,σ')):σ'.T=T∧c6 X o a μ σ'.O v:=by
 simp only[aM,bA] at ah
 have hx:=aS hr h1 μ.O
 have hi:=aS hr h2 μ.O
 have hy:=aS hr h3 μ.O
 have lE:X.P.underlying t=some (.map kt et):=ht
 have xG:X.P.underlying kt=some d:=SP
 split at ah
 ·rename_i r g e
  rw[e] at hx
  simp only[bA] at ah
  obtain⟨u,O1,k1,k2,k3,k4⟩:=j5 (μ:=μ) hr.bg hy ah
  have P0:=aj.mono k3 hx
  have sM:=aj.mono k3 hi
  simp only[Act.run] at k1
  split at k1
  ·rename_i es bq
   split at k1
   ·rename_i hc
    obtain⟨cK,bI,gz,mT,ll⟩:=hc
    split at k1
    ·rename_i es' fE
     simp only[Act.run,aiT,aiX] at k1
     obtain⟨rfl,rfl⟩:=k1
     simp only[aj] at P0
     obtain⟨b,hp,oO,bV⟩:=P0
     obtain⟨_,rfl⟩:=bV cK
     obtain⟨cS,ents,clock,hm,bp,cC⟩: (μ.φ r).cap≠0∧ ∃ents clock,μ.w.heap[(μ.φ r).bY]? =some (.map ents clock)∧ag X ⟨μ.w,μ.φ,O1⟩ es (ents.toList.map pU)∧gQ ents clock:=by
      rcases k4.ents r es bq bI with h| ⟨_,s,pos,_,rfl⟩ | ⟨mY,rfl⟩
      ·exact h
      ·simp[jn] at fE
      ·simp[jn] at fE
     have GW:=TB hd mT sM
     have fin: ∀w',(Instr.mapUpdate t (.map (some (μ.φ r).bY)) (a.eval i) (a.eval y)).run X.P μ.w= .ok () w'→(execOp a.eval o).run X.P μ.w= .ok .skip w':=fun w' hw=>by
      rcases ho with ho| ho
      ·simp only[execOp,ho,hp];exact BJ hw
      ·simp only[execOp,ho,hp];exact BJ hw
     rcases BR hd mT sM k2 (i:=0) bp fE with⟨g1,g2⟩ | ⟨j,e,g1,g2,g3,g4⟩
     ·obtain⟨le,fi⟩:=gR (μ:=⟨μ.w,μ.φ,O1⟩) k4 r (es':=es') (ob':= .map (ents.push {key:=a.eval i,val:=a.eval y,born:=clock}) (clock+1)) bq gz bI hm cS (.inl ⟨ents,clock,rfl,bp,cC⟩) (.inl ⟨_,_,rfl,by
       have:=g2 clock
       have e1: (ents.push ({key:=a.eval i,val:=a.eval y,born:=clock}:MapEntry)).toList=ents.toList++[({key:=a.eval i,val:=a.eval y,born:=clock}:MapEntry)]:=abW
       rw[e1];exact this,sn cC _ rfl⟩)
      refine⟨rfl,undef,_,_,.inr ⟨fin _ ?_,rfl⟩,by simp only[aj];exact⟨#[],rfl,by simp[ag]⟩,k3.trans le,fi⟩
      simp[Instr.mapUpdate,run_underlying lE,Go.MapKept.run_getObj_map hm,Go.MapKept.run_checkKey xG GW,Go.MapKept.run_findKey xG g1,Go.MapKept.run_setObj_map _ hm,Result.andThen,Sem.run_bind]
     ·rw[ajF] at g1
      have UD:ents[j]? =some e:=by simpa using g2
      obtain⟨le,fi⟩:=gR (μ:=⟨μ.w,μ.φ,O1⟩) k4 r (es':=es') (ob':= .map (ents.modify j fun e=> {e with key:=a.eval i,val:=a.eval y}) (clock)) bq gz bI hm cS (.inl ⟨ents,clock,rfl,bp,cC⟩) (.inl ⟨_,_,rfl,by
       have hl: (ents.modify j fun e=> {e with key:=a.eval i,val:=a.eval y}).toList=ents.toList.set j {e with key:=a.eval i,val:=a.eval y}:=by
         apply ajS
         intro n
         rw[akg,ajr,ajQ]
         by_cases hn:j=n
         ·subst hn
          have bl:=(aiS.1 g2).1
          simp only[if_true,bl,g2,ai4,and_self]
          rfl
         ·simp[hn]
       rw[hl];exact g4,nB cC j fun _=>rfl⟩)
      refine⟨rfl,undef,_,_,.inr ⟨fin _ ?_,rfl⟩,by simp only[aj];exact⟨#[],rfl,by simp[ag]⟩,k3.trans le,fi⟩
      simp[Instr.mapUpdate,run_underlying lE,Go.MapKept.run_getObj_map hm,Go.MapKept.run_checkKey xG GW,Go.MapKept.run_findKey xG g1,UD,g3,Go.MapKept.run_keyThatStays GW,Go.MapKept.run_setObj_map _ hm,Result.andThen,Sem.run_bind]
    ·exact absurd k1 au
   ·exact absurd k1 au
  ·exact absurd k1 au
 ·exact absurd ah au
theorem Lf {t kt et:TypeId} {x:Operand} {y:aU} {r:Nat} (hr:Rel X T a μ) (ho:o.op= .range t x) (ht:bL X t=some (.map kt et)) (h1:dm X x=some y) (ah: (aM E (.mapIter r y)).run C ⟨T,μ.O⟩=some (v,σ')):σ'.T=T∧c6 X o a μ σ'.O v:=by
 simp only[aM,bA] at ah
 have hx:=aS hr h1 μ.O
 have lE:X.P.underlying t=some (.map kt et):=ht
 split at ah
 ·rename_i es e
  rw[e] at hx
  simp only[aj] at hx
  simp only[Act.run,aiT,aiX] at ah
  obtain⟨rfl,rfl⟩:=ah
  obtain⟨_,⟨rfl,hp⟩ | ⟨b,ents,clock,hp,ij,bl,⟨hm,cC⟩,bp⟩⟩:=hx
  ·obtain⟨le,fi⟩:=BI hr.bg r (.mapIter none 0 #[] 0) [.mlit []] (.inr (.inr ⟨none,0,[],rfl,rfl,.inl ⟨rfl,rfl⟩⟩))
   refine⟨rfl,.pointer (some ⟨μ.w.heap.size,0,none⟩),_,_,.inl ?_,?_,le,fi⟩
   ·simp only[execOp,ho]
    refine dy ?_
    simp[Instr.range,Sem.run_bind,run_underlying lE,hp,Result.andThen]
   ·simp only[aj,aA]
    exact⟨_,rfl,aiZ _,fun _=> ⟨trivial,rfl⟩⟩
  ·obtain⟨le,fi⟩:=BI hr.bg r (.mapIter (some b) clock #[] clock) [.mlit es] (.inr (.inr ⟨some b,clock,es,rfl,rfl,.inr ⟨b,ents,rfl,ij,bl,hm,cC,bp⟩⟩))
   refine⟨rfl,.pointer (some ⟨μ.w.heap.size,0,none⟩),_,_,.inl ?_,?_,le,fi⟩
   ·simp only[execOp,ho]
    refine dy ?_
    simp[Instr.range,Sem.run_bind,run_underlying lE,hp,Result.andThen,Go.MapKept.run_getObj_map hm]
   ·simp only[aj,aA]
    exact⟨_,rfl,aiZ _,fun _=> ⟨trivial,rfl⟩⟩
 ·exact absurd ah au
theorem MT {x:Operand} {y:aU} (hr:Rel X T a μ) (ho:o.op= .move x∨o.op= .assign x) (ht:dm X x=some y) (ah: (aM E (.Ql y)).run C ⟨T,μ.O⟩=some (v,σ')):σ'.T=T∧c6 X o a μ σ'.O v:=by
 simp only[aM,bA] at ah
 have jL: (execOp a.eval o).run X.P μ.w= .ok (.value (a.eval x)) μ.w:=by rcases ho with ho| ho<;>simp[execOp,ho]
 obtain⟨u,O1,k1,k2,k3,k4⟩: ∃c' O',(Act.done c').run C ⟨T,O'⟩=some (v,σ')∧aj X ⟨μ.w,μ.φ,O'⟩ c' (a.eval x)∧Le μ ⟨μ.w,μ.φ,O'⟩∧bk X ⟨μ.w,μ.φ,O'⟩:=by
  split at ah
  ·exact IJ hr.bg (aS hr ht μ.O) ah
  ·exact j5 (μ:=μ) hr.bg (aS hr ht μ.O) ah
 obtain⟨rfl,rfl⟩:=aZ k1
 exact⟨rfl,a.eval x,μ.w,μ.φ,.inl jL,k2,k3,k4⟩
end
end Go.AM
namespace Go.AM
open Go Go.RowKit Go.MapKept
section
variable {X:Ctx} {E:Env} {C:bo} {o:Oper} {a:Go.Act} {T:Nat→V} {μ:Mu} {v:V} {σ':St}
theorem Pd {t:TypeId} {m k:Nat} {c:V} {x:Value} {D:TypeDesc} (hd:bL X t=some D) (hk: (k=0∧D= .bool)∨(k=1∧ ∃q,D= .int q)∨(k=2∧D= .string))
  (hc:aj X μ c x) (em:Bool) (w:World): (Instr.checkKey em (m+1) t x).run X.P w= .ok () w:=by
 have pj:X.P.underlying t=some D:=hd
 rcases hk with⟨_,rfl⟩ | ⟨_,q,rfl⟩ | ⟨_,rfl⟩ <;>simp[Instr.checkKey,run_underlying pj]
theorem ze {ks wG:List Nat} {cs:List V} (h: (cX (ks++wG) cs cs).isSome=true): (cX ks (cs.take ks.length) (cs.take ks.length)).isSome=true∧(cX wG (cs.drop ks.length) (cs.drop ks.length)).isSome=true:=by
 obtain⟨b,hb⟩:=ai1.1 h
 obtain⟨b1,b2,h1,h2,_⟩:=ui ks hb
 rw[h1,h2];exact⟨rfl,rfl⟩
theorem Z7 (  em:Bool) (w:World): ∀d:Nat,
   (∀t ks cs xs m,gO X d t=some ks→d≤m→ag X μ cs xs→(cX ks cs cs).isSome=true→
     bQ X t=some ks.length∧((gN X t=some true∧(Instr.checkKey em m t (.agg xs.toArray)).run X.P w= .ok () w)∨
       (gN X t=some false∧ks.length=1∧ ∃x,xs=[x]∧(Instr.checkKey em m t x).run X.P w= .ok () w)))∧
   (∀fs off ks cs xs m,pq X d fs off=some ks→d≤m→ag X μ cs xs→(cX ks (cs.drop off) (cs.drop off)).isSome=true→
     ∀f ∈ fs,f.name≠ "_" ∧ ∃y,(Go.part f.type xs.toArray f.offset).run X.P w= .ok y w∧(Instr.checkKey em m f.type y).run X.P w= .ok () w):=by
 intro d
 induction d with
 | zero=>exact⟨fun _ _ _ _ _ h=>by simp[gO] at h,fun _ _ _ _ _ _ h=>by simp[pq] at h⟩
 | succ d ih=>
   refine⟨fun t ks cs xs m hk hm hx hb=> ?_,fun fs off ks cs xs m hk hm hx hb=> ?_⟩
   · obtain⟨m,rfl⟩: ∃m',m=m'+1:=⟨m - 1,abV⟩
     have hlen:cs.length=ks.length:=by
       obtain⟨b,hb⟩:=ai1.1 hb
       exact(qR hb).1
     have scalar: ∀ (D:TypeDesc) (k:Nat),bL X t=some D→((k=0∧D= .bool)∨(k=1∧ ∃q,D= .int q)∨(k=2∧D= .string))→bQ X t=some 1→ks=[k]→
         bQ X t=some ks.length∧((gN X t=some true∧(Instr.checkKey em (m+1) t (.agg xs.toArray)).run X.P w= .ok () w)∨
       (gN X t=some false∧ks.length=1∧ ∃x,xs=[x]∧(Instr.checkKey em (m+1) t x).run X.P w= .ok () w)):=by
       intro D k hd hD hs e
       subst e
       have lx:=hx.length
       match cs,xs,hlen,lx with
       | [c],[x],_,_=>
         simp only[ag,and_true] at hx
         refine⟨by simpa using hs,.inr ⟨?_,rfl,x,rfl,Pd hd hD hx em w⟩⟩
         simp only[gN,hd,ai4]
         rcases hD with⟨_,rfl⟩ | ⟨_,q,rfl⟩ | ⟨_,rfl⟩ <;>rfl
     simp only[gO] at hk
     split at hk
     · split at hk<;>simp at hk
       rename_i hd hs
       exact scalar _ 0 hd abW hs hk.symm
     · split at hk<;>simp at hk
       rename_i hd hs
       exact scalar _ 1 hd abW hs hk.symm
     · split at hk<;>simp at hk
       rename_i hd hs
       exact scalar _ 2 hd abW hs hk.symm
     · rename_i fs hd
       split at hk
       · split at hk
         ·rename_i wG hkf
          split at hk
          · rename_i hs
            injection hk with hk;subst hk
            refine⟨hs,.inl ⟨by simp[gN,hd],?_⟩⟩
            have pj:X.P.underlying t=some (.struct fs):=hd
            have each:=ih.2 _ 0 _ cs xs m hkf abV hx (by simpa using hb)
            rw[Instr.checkKey]
            simp only[Sem.run_bind,run_underlying pj,Result.andThen_ok]
            rw[←Array.forIn_toList]
            generalize fs.toList=L at each
            clear hkf hd pj hb
            induction L with
            | nil=>simp
            | cons f L ihL=>
              obtain⟨hn,y,p1,p2⟩:=each f abW
              simp only[List.forIn_cons,Sem.run_bind,hn,ne_eq,not_false_eq_true,if_true,Result.andThen_ok,p1,p2,Sem.run_pure]
              exact ihL fun y hy=>each y (by simp[hy])
          ·simp at hk
         ·simp at hk
       ·simp at hk
     · rename_i n e hd
       split at hk
       · rename_i oO
         obtain⟨oO,bI⟩:=oO
         split at hk
         ·rename_i k r5
          injection hk with hk;subst hk
          refine⟨by rw[aj3];exact bI,.inl ⟨by simp[gN,hd],?_⟩⟩
          have pj:X.P.underlying t=some (.array n e):=hd
          have iv:bQ X e=some 1:=by
            cases d with
            | zero=>simp[gO] at r5
            | succ d=>
              simp only[gO] at r5
              split at r5<;> (try (split at r5<;>simp at r5<;>assumption)) <;> (try (rename_i Zx;simp[gN,Zx] at oO)) <;>simp at r5
          obtain⟨inf,sM,Io⟩: ∃inf,X.P.info? e=some inf∧inf.size=1:=by simpa [bQ,info] using iv
          have rQ:X.P.cellsOf e=1:=by simp[Program.cellsOf,sM,Io]
          rw[aj3] at hlen
          have lx:=hx.length
          have each: ∀j<n,∃y,(Go.part e xs.toArray (j*X.P.cellsOf e)).run X.P w= .ok y w∧(Instr.checkKey em m e y).run X.P w= .ok () w:=by
            intro j hj
            obtain⟨c,hc⟩: ∃c,cs[j]? =some c:=⟨_,aiW abV⟩
            obtain⟨x,hxj,rx⟩:=hx.get hc
            have px:xs.toArray[j*X.P.cellsOf e]? =some x:=by rw[rQ];simpa using hxj
            have IK: (cX [k] [c] [c]).isSome=true:=by
              obtain⟨b,hb⟩:=ai1.1 hb
              have key: ∀ (n:Nat) (cs:List V) (b:Bool),cX (List.replicate n k) cs cs=some b→ ∀ (j:Nat) c,cs[j]? =some c→(cX [k] [c] [c]).isSome=true:=by
               intro n
               induction n with
               | zero=>intro cs b h j c hc;cases cs<;>simp[cX] at h hc
               | succ n ihn=>
                 intro cs b h j c hc
                 cases cs with
                 | nil=>simp at hc
                 | cons c0 cs=>
                   simp only[List.replicate_succ,cX] at h
                   split at h
                   ·rename_i p q hp hq
                    cases j with
                    | zero=>simp at hc;subst hc;simp[cX,hp]
                    | succ j=>exact ihn cs q hq j c (by simpa using hc)
                   ·simp at h
              exact key n cs b hb j c hc
            obtain⟨_,hq⟩:=ih.1 e [k] [c] [x] m r5 abV (by simp only[ag,and_true];exact rx) IK
            rcases hq with⟨hq,_⟩ | ⟨_,_,x',uy,hq⟩
            ·rw[oO] at hq;cases hq
            · obtain rfl:x=x':=by simpa using uy
              exact⟨x,fV oO _ _ _ px w,hq⟩
          rw[Instr.checkKey]
          simp only[Sem.run_bind,run_underlying pj,Result.andThen_ok]
          simp only[Std.Legacy.Range.forIn_eq_forIn_range',Std.Legacy.Range.size,Nat.sub_zero,Nat.add_one_sub_one,Nat.div_one]
          have TD: ∀j ∈ List.range' 0 n,∃y,(Go.part e xs.toArray (j*X.P.cellsOf e)).run X.P w= .ok y w∧(Instr.checkKey em m e y).run X.P w= .ok () w:=fun j hj=>each j (by simp[List.mem_range'_1] at hj;omega)
          clear each
          generalize List.range' 0 n=is at TD
          induction is with
          | nil=>simp
          | cons j is ihj=>
            obtain⟨y,p1,p2⟩:=TD j abW
            simp only[List.forIn_cons,Sem.run_bind,run_sizeOf w sM,Result.andThen_ok,p1,p2,Sem.run_pure]
            exact ihj (fun y hy=>TD y (by simp[hy]))
         ·simp at hk
       ·simp at hk
     ·simp at hk
   · obtain⟨m,rfl⟩: ∃m',m=m'+1:=⟨m - 1,abV⟩
     cases fs with
     | nil=>simp
     | cons f fs=>
       simp only[pq] at hk
       split at hk
       · rename_i hn
         split at hk
         ·rename_i k1 Aw
          split at hk
          · rename_i k2 Mv
            injection hk with hk;subst hk
            obtain⟨e1,e2⟩:=ze hb
            obtain⟨hs,ha⟩:=ih.1 f.type k1 _ _ (m+1) Aw abV (ag.take k1.length (ag.drop off hx)) e1
            have eX:=ih.2 fs (off+k1.length) k2 cs xs (m+1) Mv abV hx (by simpa [aj9] using e2)
            have K2:=hn.2
            intro g hg
            rcases ai0.1 hg with rfl| hg
            · refine⟨hn.1,?_⟩
              rcases ha with⟨Xb,hq⟩ | ⟨Xb,h1,x,P0,hq⟩
              ·refine⟨_,vO Xb hs xs.toArray _ w,?_⟩
               rw[←hq,K2]
               congr 3 <;> (apply Array.ext';simp[aks,aj2])
              ·have gx:xs.toArray[g.offset]? =some x:=by
                 have:=congrArg (fun l=>l[0]?) P0
                 simpa [ajl,h1,K2] using this
               exact⟨x,fV Xb _ _ _ gx w,hq⟩
            ·exact eX g hg
          ·simp at hk
         ·simp at hk
       ·simp at hk
theorem eV {kt:TypeId} {ks:List Nat} (h:cN X kt=some ks): (∃fs,X.P.underlying kt=some (.struct fs))∧gO X 100 kt=some ks:=by
 unfold cN at h
 split at h
 ·rename_i fs hd;exact⟨⟨fs,hd⟩,h⟩
 ·simp at h
theorem iW {ks:List Nat} {k k':V} {b:Bool} (h:du ks k k'=some b): ∃cs ds,k= .agg cs∧k'= .agg ds∧cX ks cs ds=some b:=by
 unfold du at h
 split at h
 ·exact⟨_,_,rfl,rfl,h⟩
 ·simp at h
theorem so: ∀ {ks:List Nat} {cs ds:List V},cX ks cs ds=some true→cs=ds
 | [],[],[],_=>rfl
 | [],[],_::_,h=>by simp[cX] at h
 | [],_::_,_,h=>by simp[cX] at h
 | _::_,[],_,h=>by simp[cX] at h
 | _::_,_::_,[],h=>by simp[cX] at h
 | k::ks,c::cs,d::ds,h=>by
   simp only[cX] at h
   split at h
   ·rename_i x y hx hy
    simp only[aiT,Bool.and_eq_true] at h
    obtain⟨rfl,rfl⟩:=h
    have hcd:c=d:=by
     unfold Jj at hx
     split at hx
     ·simp only[aiT,beq_iff_eq] at hx;rw[hx]
     ·split at hx
      ·rename_i e;simp only[aiT,beq_iff_eq] at hx;rw[hx,e]
      ·simp at hx
     ·simp only[aiT,decide_eq_true_eq] at hx;rw[hx]
     ·simp at hx
    rw[hcd,so hy]
   ·simp at h
theorem yG: ∀ {ks:List Nat} {cs:List V} {xs:List Value},(cX ks cs cs).isSome=true→ag X μ cs xs→ ∀p ∈ xs.zip xs,Instr.sameBits 9999 p.1 p.2=true
 | _,[],[],_,_,_,hp=>by simp at hp
 | _,[],_::_,_,h,_,_=>by simp[ag] at h
 | _,_::_,[],_,h,_,_=>by simp[ag] at h
 | [],_::_,_,h,_,_,_=>by simp[cX] at h
 | k::ks,c::cs,x::xs,h,hr,p,hp=>by
   simp only[ag] at hr
   obtain⟨b,hb⟩:=ai1.1 h
   simp only[cX] at hb
   split at hb
   ·rename_i u w hu hw
    simp only[List.zip_cons_cons,ai0] at hp
    rcases hp with rfl| hp
    ·have wH:=hr.1
     unfold Jj at hu
     split at hu
     ·simp only[aj] at wH;subst wH;simp[Instr.sameBits]
     ·simp only[aj] at wH;subst wH;simp[Instr.sameBits]
     ·simp only[aj] at wH;obtain⟨bs,rfl,_⟩:=wH;simp only[Instr.sameBits];rw[bytes_beq]
     ·simp at hu
    ·exact yG (ks:=ks) (by rw[hw];rfl) hr.2 p hp
   ·simp at hb
theorem IM: ∀ {ks:List Nat} {cs:List V} {xs ys:List Value},(cX ks cs cs).isSome=true→ag X μ cs xs→ag X μ cs ys→xs=ys
 | _,[],[],[],_,_,_=>rfl
 | _,[],[],_::_,_,_,h=>by simp[ag] at h
 | _,[],_::_,_,_,h,_=>by simp[ag] at h
 | _,_::_,[],_,_,h,_=>by simp[ag] at h
 | _,_::_,_::_,[],_,_,h=>by simp[ag] at h
 | [],_::_,_,_,h,_,_=>by simp[cX] at h
 | k::ks,c::cs,x::xs,y::ys,h,hr,hs=>by
   simp only[ag] at hr hs
   obtain⟨b,hb⟩:=ai1.1 h
   simp only[cX] at hb
   split at hb
   ·rename_i u w hu hw
    rw[IM (ks:=ks) (by rw[hw];rfl) hr.2 hs.2]
    congr 1
    have wH:=hr.1;have iv:=hs.1
    unfold Jj at hu
    split at hu
    ·simp only[aj] at wH iv;rw[wH,iv]
    ·simp only[aj] at wH iv;rw[wH,iv]
    ·simp only[aj] at wH iv
     obtain⟨bs,rfl,e1⟩:=wH;obtain⟨bs',rfl,e2⟩:=iv
     congr 1
     cases bs;cases bs'
     simp only[ByteArray.mk.injEq]
     exact ajZ.1 (e1.trans e2.symm)
    ·simp at hu
   ·simp at hb
theorem Lg {ks:List Nat} {k:V} {x y:Value} (h: (du ks k k).isSome=true) (h1:aj X μ k x) (h2:aj X μ k y):x=y:=by
 obtain⟨b,hb⟩:=ai1.1 h
 obtain⟨cs,ds,rfl,e,hk⟩:=iW hb
 injection e with e;subst e
 simp only[aj] at h1 h2
 obtain⟨_,vs,rfl,hv⟩:=h1
 obtain⟨_,ws,rfl,hw⟩:=h2
 have:=IM (ks:=ks) (by rw[hk];rfl) hv hw
 rw[ajZ.1 this]
theorem BS {ks:List Nat} {k:V} {kv:Value} (h: (du ks k k).isSome=true) (hr:aj X μ k kv) (w:World): (Instr.keyThatStays kv kv).run X.P w= .ok kv w:=by
 obtain⟨b,hb⟩:=ai1.1 h
 obtain⟨cs,ds,rfl,e,hk⟩:=iW hb
 injection e with e;subst e
 simp only[aj] at hr
 obtain⟨_,vs,rfl,hv⟩:=hr
 have hs:Instr.sameBits 10000 (.agg vs) (.agg vs)=true:=by
  show Instr.sameBits (9999+1) (.agg vs) (.agg vs)=true
  simp only[Instr.sameBits,beq_self_eq_true,aj1,aiY]
  intro p hp
  exact yG (ks:=ks) (by rw[hk];rfl) hv p hp
 simp[Instr.keyThatStays,hs]
theorem qZ {kt:TypeId} {ks:List Nat} {k:V} {kv:Value} (hk:cN X kt=some ks) (h: (du ks k k).isSome=true) (hr:aj X μ k kv) (em:Bool) (w:World): (Instr.checkKey em 10000 kt kv).run X.P w= .ok () w:=by
 obtain⟨⟨fs,hd⟩,hks⟩:=eV hk
 obtain⟨b,hb⟩:=ai1.1 h
 obtain⟨cs,ds,rfl,e,he⟩:=iW hb
 injection e with e;subst e
 simp only[aj] at hr
 obtain⟨_,vs,rfl,hv⟩:=hr
 obtain⟨_,h1| ⟨h1,_⟩⟩:=(Z7 em w 100).1 kt ks cs vs.toList 10000 hks abV hv (by rw[he];rfl)
 ·simpa using h1.2
 ·have:gN X kt=some true:=by simp[gN,bL,hd]
  rw[this] at h1;cases h1
theorem oG {kt:TypeId} {ks:List Nat} {k k':V} {kv kv':Value} {b:Bool} (hk:cN X kt=some ks) (h:du ks k k'=some b) (h1:aj X μ k kv) (h2:aj X μ k' kv') (w:World):
  (Op.equal kt kv kv').run X.P w= .ok b w:=by
 obtain⟨⟨fs,hd⟩,hks⟩:=eV hk
 obtain⟨cs,ds,rfl,rfl,he⟩:=iW h
 simp only[aj] at h1 h2
 obtain⟨_,xs,rfl,hx⟩:=h1
 obtain⟨_,ys,rfl,hy⟩:=h2
 obtain⟨_,hh| ⟨hh,_⟩⟩:=(Te (X:=X) (μ:=μ) w 100).1 kt ks cs ds _ _ b 10000 hks abV hx hy he
 ·simpa [Op.equal,Op.maxDepth] using hh.2
 ·have:gN X kt=some true:=by simp[gN,bL,hd]
  rw[this] at hh;cases hh
def vX (X:Ctx) (μ:Mu) (kt:TypeId) (kv:Value) (ents:List MapEntry) (r:Option (Nat×Value)):Prop:= ∀i,(Instr.findAsking kt kv ents i).run X.P μ.w= .ok (r.map fun p=> (i+p.1,p.2)) μ.w
theorem jA {kt:TypeId} {ks:List Nat} {k:V} {kv:Value} (hk:cN X kt=some ks) (h1:aj X μ k kv): ∀ {es:List V} {ents:List MapEntry} {r:Option V},ag X μ es (ents.map pU)→cM ks k es=some r→
   (r=none∧vX X μ kt kv ents none)∨ ∃v j e,r=some v∧vX X μ kt kv ents (some (j,e))∧aj X μ v e
 | [],[],r,_,h=>by simp[cM] at h;subst h;exact .inl ⟨rfl,fun i=>by simp[Instr.findAsking]⟩
 | [],_::_,_,h,_=>by simp[ag] at h
 | _::_,[],_,h,_=>by simp[ag] at h
 | e::es,m::ents,r,hr,h=>by
   simp only[List.map_cons,ag] at hr
   unfold cM at h
   split at h
   ·rename_i heq;simp at heq
   ·rename_i k' v' es' heq
    injection heq with e1 e2
    subst e2
    obtain⟨t1,t2⟩:=sm hr.1 e1
    split at h
    ·rename_i hq
     injection h with h
     subst h
     exact .inr ⟨v',0,m.val,rfl,fun i=>by simp[Instr.findAsking,Sem.run_bind,oG hk hq h1 t1 μ.w,Result.andThen_ok],t2⟩
    ·rename_i hq
     have s1:=oG hk hq h1 t1 μ.w
     rcases jA hk h1 hr.2 h with⟨g1,g2⟩ | ⟨v,j,x,g1,g2,g3⟩
     ·exact .inl ⟨g1,fun i=>by simp[Instr.findAsking,Sem.run_bind,s1,Result.andThen_ok,g2 (i+1)]⟩
     ·exact .inr ⟨v,j+1,x,g1,fun i=>by simp[Instr.findAsking,Sem.run_bind,s1,Result.andThen_ok,g2 (i+1)];omega,g3⟩
    ·simp at h
   ·simp at h
theorem q9 {kt:TypeId} {ks:List Nat} {k u:V} {kv val:Value} (hk:cN X kt=some ks) (h1:aj X μ k kv) (h2:aj X μ u val): ∀ {es es':List V} {ents:List MapEntry},ag X μ es (ents.map pU)→dP ks k u es=some es'→
   (vX X μ kt kv ents none∧ ∀c,ag X μ es' ((ents++[({key:=kv,val:=val,born:=c}:MapEntry)]).map pU))∨
   ∃j e,vX X μ kt kv ents (some (j,e.val))∧ents[j]? =some e∧aj X μ k e.key∧ag X μ es' ((ents.set j ({key:=kv,val:=val,born:=e.born}:MapEntry)).map pU)
 | [],es',[],_,h=>by
   simp[dP] at h;subst h
   exact .inl ⟨fun i=>by simp[Instr.findAsking],fun c=>by simp only[ajx,List.map_cons,akj,ag];exact⟨nS (me:={key:=kv,val:=val,born:=c}) h1 h2,trivial⟩⟩
 | [],_,_::_,h,_=>by simp[ag] at h
 | _::_,_,[],h,_=>by simp[ag] at h
 | e::es,es',m::ents,hr,h=>by
   simp only[List.map_cons,ag] at hr
   unfold dP at h
   split at h
   ·rename_i heq;simp at heq
   ·rename_i k' v' Ct heq
    injection heq with e1 e2
    subst e2
    obtain⟨t1,t2⟩:=sm hr.1 e1
    split at h
    ·rename_i hq
     injection h with h
     subst h
     have hkk:k=k':=by
      obtain⟨cs,ds,rfl,rfl,he⟩:=iW hq
      rw[so he]
     exact .inr ⟨0,m,fun i=>by simp[Instr.findAsking,Sem.run_bind,oG hk hq h1 t1 μ.w,Result.andThen_ok],rfl,by rw[hkk];exact t1,by simp only[List.set_cons_zero,List.map_cons,ag];exact⟨nS (me:={key:=kv,val:=val,born:=m.born}) h1 h2,hr.2⟩⟩
    ·rename_i hq
     have s1:=oG hk hq h1 t1 μ.w
     rw[aiU] at h
     obtain⟨es3,g0,rfl⟩:=h
     rcases q9 hk h1 h2 hr.2 g0 with⟨g1,g2⟩ | ⟨j,x,g1,g2,g3,g4⟩
     ·exact .inl ⟨fun i=>by simp[Instr.findAsking,Sem.run_bind,s1,Result.andThen_ok,g1 (i+1)],fun c=>by simp only[ajn,List.map_cons,ag];exact⟨nS t1 t2,g2 c⟩⟩
     ·exact .inr ⟨j+1,x,fun i=>by simp[Instr.findAsking,Sem.run_bind,s1,Result.andThen_ok,g1 (i+1)];omega,by simpa using g2,g3,by simp only[List.set_cons_succ,List.map_cons,ag];exact⟨nS t1 t2,g4⟩⟩
    ·simp at h
   ·simp at h
theorem jc {kt:TypeId} {fs:Array Field} (hd:X.P.underlying kt=some (.struct fs)) {kv:Value} {ents:List MapEntry} {r:Option (Nat×Value)} (h:vX X μ kt kv ents r): (Instr.findKey kt kv ents).run X.P μ.w= .ok r μ.w:=by
 rw[run_findKey_eq μ.w (by rw[hd]),h 0]
 cases r<;>simp
theorem BT {t kt et:TypeId} {x i:Operand} {x' i':aU} {ok:Bool} {ks:List Nat} {z:V} (hr:Rel X T a μ) (ho:o.op= .lookup t x i ok) (ht:bL X t=some (.map kt et)) (hk:cN X kt=some ks)
  (hz:ft X et=some z) (h1:dm X x=some x') (h2:dm X i=some i') (ah: (aM E (.rN ks ok z x' i')).run C ⟨T,μ.O⟩=some (v,σ')):σ'.T=T∧c6 X o a μ σ'.O v:=by
 simp only[aM,bA] at ah
 have hx:=aS hr h1 μ.O
 have hi:=aS hr h2 μ.O
 have lE:X.P.underlying t=some (.map kt et):=ht
 obtain⟨⟨fs,hd⟩,_⟩:=eV hk
 obtain⟨zv,zd,Co⟩:=iH hz μ.w
 obtain⟨BO,K8⟩:=eT (X:=X) (μ:=μ) Co
 split at ah
 ·rename_i mT
  have Jt:=fun em=>qZ hk mT hi em μ.w
  have main: ∀ {es:List V} {ents:Array MapEntry} {m:Option Nat},ag X μ es (ents.toList.map pU)→(dM ks ok z es (bu ⟨T,μ.O⟩ i')).run C ⟨T,μ.O⟩=some (v,σ')→a.eval x= .map m→
    (match m with| none=>ents= #[] | some r=> ∃clock,μ.w.heap[r]? =some (.map ents clock))→σ'.T=T∧c6 X o a μ σ'.O v:=by
   intro es ents m bp eS hm hb
   have fin: ∀ (u:Value) (b:Bool) (r:Option (Nat×Value)),vX X μ kt (a.eval i) ents.toList r→(match r with
      | some (_,v)=>u=v∧b=true
      | none=>u=zv∧b=false)→(execOp a.eval o).run X.P μ.w= .ok (.value (if ok then .tuple #[u,.bool b] else u)) μ.w:=by
    intro u b r mS hf
    have CT:=jc hd mS
    simp only[execOp,ho]
    refine dy ?_
    cases m with
    | none=>
      simp only at hb
      subst hb
      cases r with
      | none=>
        simp only at hf;obtain⟨rfl,rfl⟩:=hf
        cases ok<;>simp[Instr.lookup,Sem.run_bind,run_underlying lE,Result.andThen,hm,Jt,CT,zd]
      | some p=>
        obtain⟨j,y⟩:=p
        simp only at hf;obtain⟨rfl,rfl⟩:=hf
        cases ok<;>simp[Instr.lookup,Sem.run_bind,run_underlying lE,Result.andThen,hm,Jt,CT]
    | some rr=>
      obtain⟨clock,hb⟩:=hb
      cases r with
      | none=>
        simp only at hf;obtain⟨rfl,rfl⟩:=hf
        cases ok<;>simp[Instr.lookup,Sem.run_bind,run_underlying lE,Result.andThen,hm,Go.MapKept.run_getObj_map hb,Jt,CT,zd]
      | some p=>
        obtain⟨j,y⟩:=p
        simp only at hf;obtain⟨rfl,rfl⟩:=hf
        cases ok<;>simp[Instr.lookup,Sem.run_bind,run_underlying lE,Result.andThen,hm,Go.MapKept.run_getObj_map hb,Jt,CT]
   unfold dM at eS
   split at eS
   ·rename_i y hy
    obtain⟨rfl,rfl⟩:=aZ eS
    rcases jA hk hi bp hy with⟨g1,_⟩ | ⟨v0,j,e,g1,g2,g3⟩
    ·cases g1
    · injection g1 with g1
      subst g1
      refine⟨rfl,aP hr.bg (fin e true _ g2 ⟨rfl,rfl⟩) ?_⟩
      cases ok
      ·simpa using g3
      ·simp only[if_true,aj];exact⟨_,rfl,by simp[ag,aj,g3]⟩
   ·rename_i hy
    obtain⟨rfl,rfl⟩:=aZ eS
    rcases jA hk hi bp hy with⟨_,g2⟩ | ⟨v0,j,e,g1,g2,g3⟩
    · refine⟨rfl,aP hr.bg (fin zv false _ g2 ⟨rfl,rfl⟩) ?_⟩
      cases ok
      ·simpa using BO
      ·simp only[if_true,aj];exact⟨_,rfl,by simp[ag,aj,BO]⟩
    ·cases g1
   ·exact absurd eS au
  split at ah
  ·rename_i r g e
   rw[e] at hx
   simp only[aj] at hx
   obtain⟨b,hp,oO,bV⟩:=hx
   simp only[Act.run] at ah
   split at ah
   ·rename_i es bq
    split at ah
    · rename_i hc
      obtain⟨k0,rfl⟩:=bV hc.1
      rcases hr.bg.ents r es bq hc.2 with⟨cS,ents,clock,hm,bp,_⟩ | ⟨_,s,pos,_,rfl⟩ | ⟨mY,rfl⟩
      ·exact main bp ah hp ⟨clock,hm⟩
      ·exact absurd (by simpa [dM,cM] using ah) au
      ·exact absurd (by simpa [dM,cM] using ah) au
    ·exact absurd ah au
   ·exact absurd ah au
  ·rename_i es e
   rw[e] at hx
   simp only[aj] at hx
   obtain⟨_,⟨rfl,hp⟩ | ⟨b,ents,clock,hp,_,_,⟨hm,_⟩,bp⟩⟩:=hx
   ·exact main (ents:= #[]) (by simp[ag]) ah hp rfl
   ·exact main bp ah hp ⟨clock,hm⟩
  ·exact absurd ah au
 ·exact absurd ah au
theorem BU {t kt et:TypeId} {x i y:Operand} {x' i' y':aU} {ks:List Nat} (hr:Rel X T a μ) (ho:o.op= .mapUpdate t x i y∨o.op= .insert t x i y) (ht:bL X t=some (.map kt et)) (hk:cN X kt=some ks)
  (h1:dm X x=some x') (h2:dm X i=some i') (h3:dm X y=some y') (ah: (aM E (.rM ks x' i' y')).run C ⟨T,μ.O⟩=some (v,σ')):σ'.T=T∧c6 X o a μ σ'.O v:=by
 simp only[aM,bA] at ah
 have hx:=aS hr h1 μ.O
 have hi:=aS hr h2 μ.O
 have hy:=aS hr h3 μ.O
 have lE:X.P.underlying t=some (.map kt et):=ht
 obtain⟨⟨fs,hd⟩,_⟩:=eV hk
 split at ah
 ·rename_i r g e
  rw[e] at hx
  simp only[bA] at ah
  obtain⟨u,O1,k1,k2,k3,k4⟩:=j5 (μ:=μ) hr.bg hy ah
  have P0:=aj.mono k3 hx
  have sM:=aj.mono k3 hi
  simp only[Act.run] at k1
  split at k1
  ·rename_i es bq
   split at k1
   ·rename_i hc
    obtain⟨cK,bI,gz,mT,ll⟩:=hc
    split at k1
    ·rename_i es' fE
     simp only[Act.run,aiT,aiX] at k1
     obtain⟨rfl,rfl⟩:=k1
     simp only[aj] at P0
     obtain⟨b,hp,oO,bV⟩:=P0
     obtain⟨_,rfl⟩:=bV cK
     obtain⟨cS,ents,clock,hm,bp,cC⟩: (μ.φ r).cap≠0∧ ∃ents clock,μ.w.heap[(μ.φ r).bY]? =some (.map ents clock)∧ag X ⟨μ.w,μ.φ,O1⟩ es (ents.toList.map pU)∧gQ ents clock:=by
      rcases k4.ents r es bq bI with h| ⟨_,s,pos,_,rfl⟩ | ⟨mY,rfl⟩
      ·exact h
      ·simp[dP] at fE
      ·simp[dP] at fE
     have Jt:=qZ hk mT hi false μ.w
     have fin: ∀w',(Instr.mapUpdate t (.map (some (μ.φ r).bY)) (a.eval i) (a.eval y)).run X.P μ.w= .ok () w'→(execOp a.eval o).run X.P μ.w= .ok .skip w':=fun w' hw=>by
      rcases ho with ho| ho
      ·simp only[execOp,ho,hp];exact BJ hw
      ·simp only[execOp,ho,hp];exact BJ hw
     rcases q9 hk sM k2 bp fE with⟨g1,g2⟩ | ⟨j,e,g1,g2,g3,g4⟩
     ·have CT:=jc (μ:=⟨μ.w,μ.φ,O1⟩) hd g1
      obtain⟨le,fi⟩:=gR (μ:=⟨μ.w,μ.φ,O1⟩) k4 r (es':=es') (ob':= .map (ents.push {key:=a.eval i,val:=a.eval y,born:=clock}) (clock+1)) bq gz bI hm cS (.inl ⟨ents,clock,rfl,bp,cC⟩) (.inl ⟨_,_,rfl,by
       have:=g2 clock
       have e1: (ents.push ({key:=a.eval i,val:=a.eval y,born:=clock}:MapEntry)).toList=ents.toList++[({key:=a.eval i,val:=a.eval y,born:=clock}:MapEntry)]:=abW
       rw[e1];exact this,sn cC _ rfl⟩)
      refine⟨rfl,undef,_,_,.inr ⟨fin _ ?_,rfl⟩,by simp only[aj];exact⟨#[],rfl,by simp[ag]⟩,k3.trans le,fi⟩
      simp[Instr.mapUpdate,run_underlying lE,Go.MapKept.run_getObj_map hm,Jt,CT,Go.MapKept.run_setObj_map _ hm,Result.andThen,Sem.run_bind]
     ·have CT:=jc (μ:=⟨μ.w,μ.φ,O1⟩) hd g1
      have r5:e.key=a.eval i:=Lg mT g3 sM
      have UD:ents[j]? =some e:=by simpa using g2
      have eW:=BS mT hi μ.w
      obtain⟨le,fi⟩:=gR (μ:=⟨μ.w,μ.φ,O1⟩) k4 r (es':=es') (ob':= .map (ents.modify j fun e=> {e with key:=a.eval i,val:=a.eval y}) (clock)) bq gz bI hm cS (.inl ⟨ents,clock,rfl,bp,cC⟩) (.inl ⟨_,_,rfl,by
       have hl: (ents.modify j fun e=> {e with key:=a.eval i,val:=a.eval y}).toList=ents.toList.set j {e with key:=a.eval i,val:=a.eval y}:=by
        apply ajS
        intro n
        rw[akg,ajr,ajQ]
        by_cases hn:j=n
        ·subst hn
         have bl:=(aiS.1 g2).1
         simp only[if_true,bl,g2,ai4,and_self]
         rfl
        ·simp[hn]
       rw[hl];exact g4,nB cC j fun _=>rfl⟩)
      refine⟨rfl,undef,_,_,.inr ⟨fin _ ?_,rfl⟩,by simp only[aj];exact⟨#[],rfl,by simp[ag]⟩,k3.trans le,fi⟩
      simp[Instr.mapUpdate,run_underlying lE,Go.MapKept.run_getObj_map hm,Jt,CT,UD,r5,eW,Go.MapKept.run_setObj_map _ hm,Result.andThen,Sem.run_bind]
    ·exact absurd k1 au
   ·exact absurd k1 au
  ·exact absurd k1 au
 ·exact absurd ah au
theorem BV {c:Call} {s x:Operand} {sT xT e:TypeId} {d:TypeDesc} {s' x':aU} {ix r sz:Nat} {i:TypeInfo} {z:V} (hr:Rel X T a μ) (ho:o.op= .call c) (hc:c.callee= .builtin .append)
  (jb:c.args= #[s,x]) (Lc:c.argTypes= #[sT,xT]) (hd:bL X sT=some (.slice e)) (hx:bL X xT=some d) (Pa: ∀k,d≠ .int k) (hn:bQ X e=some sz) (hi:info X e=some i)
  (hz:ft X e=some z) (Ts:aV z sz=true) (h1:dm X s=some s') (h2:dm X x=some x')
  (ah: (aM E (.uP ix r sz (vK i.bytes) s' x')).run C ⟨T,μ.O⟩=some (v,σ')):σ'.T=T∧c6 X o a μ σ'.O v:=by
 simp only[aM,bA] at ah
 split at ah
 ·rename_i kk j he
  refine xF (E:=E) (C:=C) (v:=v) (r:=r+16*j.toNat) hr ho hc jb Lc hd hx Pa hn hi hz Ts h1 h2 ?_
  simp only[aM,bA] at ah ⊢
  exact ah
 ·exact absurd ah au
theorem re {kt:TypeId} {ks:List Nat} {k:V} {kv:Value} (hk:cN X kt=some ks) (h1:aj X μ k kv): ∀ {es:List V} {ents:List MapEntry} {i:Nat} {r:Option (Nat×V)},ag X μ es (ents.map pU)→eo ks k i es=some r→
   (r=none∧vX X μ kt kv ents none)∨ ∃v j e,r=some (i+j,v)∧vX X μ kt kv ents (some (j,e.val))∧aj X μ v e.val∧ents[j]? =some e∧aj X μ k e.key
 | [],[],_,r,_,h=>by simp[eo] at h;subst h;exact .inl ⟨rfl,fun i=>by simp[Instr.findAsking]⟩
 | [],_::_,_,_,h,_=>by simp[ag] at h
 | _::_,[],_,_,h,_=>by simp[ag] at h
 | e::es,m::ents,i,r,hr,h=>by
   simp only[List.map_cons,ag] at hr
   unfold eo at h
   split at h
   ·rename_i heq;simp at heq
   ·rename_i k' v' es' heq
    injection heq with e1 e2
    subst e2
    obtain⟨t1,t2⟩:=sm hr.1 e1
    split at h
    ·rename_i hq
     injection h with h
     subst h
     have hkk:k=k':=by
      obtain⟨cs,ds,rfl,rfl,he⟩:=iW hq
      rw[so he]
     exact .inr ⟨v',0,m,rfl,fun i=>by simp[Instr.findAsking,Sem.run_bind,oG hk hq h1 t1 μ.w,Result.andThen_ok],t2,rfl,by rw[hkk];exact t1⟩
    ·rename_i hq
     have s1:=oG hk hq h1 t1 μ.w
     rcases re hk h1 hr.2 h with⟨g1,g2⟩ | ⟨v,j,x,g1,g2,g3,g4,g5⟩
     ·exact .inl ⟨g1,fun i=>by simp[Instr.findAsking,Sem.run_bind,s1,Result.andThen_ok,g2 (i+1)]⟩
     ·exact .inr ⟨v,j+1,x,by rw[g1];congr 2;omega,fun i=>by simp[Instr.findAsking,Sem.run_bind,s1,Result.andThen_ok,g2 (i+1)];omega,g3,by simpa using g4,g5⟩
    ·simp at h
   ·simp at h
theorem Lh {t kt et:TypeId} {x i:Operand} {x' i':aU} {ks:List Nat} {z:V} (hr:Rel X T a μ) (ho:o.op= .mapEntry t x i) (ht:bL X t=some (.map kt et)) (hk:cN X kt=some ks)
  (hz:ft X et=some z) (h1:dm X x=some x') (h2:dm X i=some i') (ah: (aM E (.uN ks z x' i')).run C ⟨T,μ.O⟩=some (v,σ')):σ'.T=T∧c6 X o a μ σ'.O v:=by
 simp only[aM,bA] at ah
 have hx:=aS hr h1 μ.O
 have hi:=aS hr h2 μ.O
 have lE:X.P.underlying t=some (.map kt et):=ht
 obtain⟨⟨fs,hd⟩,_⟩:=eV hk
 obtain⟨zv,zd,Co⟩:=iH hz μ.w
 obtain⟨BO,K8⟩:=eT (X:=X) (μ:=μ) Co
 split at ah
 ·rename_i r g e
  rw[e] at hx
  simp only[bA,Act.run] at ah
  split at ah
  ·rename_i es bq
   split at ah
   ·rename_i hc
    obtain⟨cK,bI,gz,mT,ll⟩:=hc
    simp only[aj] at hx
    obtain⟨b,hp,oO,bV⟩:=hx
    obtain⟨_,rfl⟩:=bV cK
    have Jt:=qZ hk mT hi false μ.w
    have fin: ∀u w',(Instr.mapEntry t (.map (some (μ.φ r).bY)) (a.eval i)).run X.P μ.w= .ok u w'→(execOp a.eval o).run X.P μ.w= .ok (.value u) w':=fun u w' hw=>by
     simp only[execOp,ho,hp];exact dy hw
    have XQ: (∃q,eo ks (bu ⟨T,μ.O⟩ i') 0 es=some q)→(μ.φ r).cap≠0∧ ∃ents clock,μ.w.heap[(μ.φ r).bY]? =some (.map ents clock)∧ag X μ es (ents.toList.map pU)∧gQ ents clock:=by
     rintro⟨q,hq⟩
     rcases hr.bg.ents r es bq bI with h| ⟨_,s,pos,_,rfl⟩ | ⟨mY,rfl⟩
     ·exact h
     ·simp[eo] at hq
     ·simp[eo] at hq
    split at ah
    ·rename_i j u sC
     simp only[Act.run,aiT,aiX] at ah
     obtain⟨rfl,rfl⟩:=ah
     obtain⟨cS,ents,clock,hm,bp,cC⟩:=XQ ⟨_,sC⟩
     rcases re hk hi bp sC with⟨g1,_⟩ | ⟨v,j',e,g1,g2,g3,g4,g5⟩
     ·cases g1
     ·simp only[aiT,aiX,ajF] at g1
      obtain⟨rfl,rfl⟩:=g1
      have CT:=jc hd g2
      have r5:e.key=a.eval i:=Lg mT g5 hi
      have UD:ents[j]? =some e:=by simpa using g4
      have eW:=BS mT hi μ.w
      have kZ: (ents.modify j fun e=> {e with key:=a.eval i})=ents:=by
       apply Array.ext'
       apply ajS
       intro n
       rw[akg,ajr]
       by_cases hn:j=n
       ·subst hn
        rw[g4,←r5];simp only[if_true];rfl
       ·simp[hn]
      obtain⟨le,fi⟩:=gR hr.bg r (es':=es) (ob':= .map ents clock) bq gz bI hm cS (.inl ⟨ents,clock,rfl,bp,cC⟩) (.inl ⟨ents,clock,rfl,bp,cC⟩)
      refine⟨rfl,.tuple #[e.val,goInt e.born],_,_,.inl (fin _ _ ?_),?_,le,fi⟩
      ·simp[Instr.mapEntry,run_underlying lE,Go.MapKept.run_getObj_map hm,Jt,CT,UD,r5,eW,kZ,Go.MapKept.run_setObj_map _ hm,Result.andThen,Sem.run_bind]
      ·simp only[aj]
       refine⟨_,rfl,?_⟩
       simp only[ag,aj,and_true]
       exact⟨aj.mono le g3,by rw[cC.at UD];rfl⟩
    ·rename_i sC
     simp only[Act.run,aiT,aiX] at ah
     obtain⟨rfl,rfl⟩:=ah
     obtain⟨cS,ents,clock,hm,bp,cC⟩:=XQ ⟨_,sC⟩
     rcases re hk hi bp sC with⟨_,g2⟩ | ⟨v,j',e,g1,_⟩
     ·have CT:=jc hd g2
      have hlen:es.length=ents.size:=by have:=bp.length;simpa using this
      obtain⟨le,fi⟩:=gR hr.bg r (es':=es++[.tuple [bu ⟨T,μ.O⟩ i',z]]) (ob':= .map (ents.push {key:=a.eval i,val:=zv,born:=clock}) (clock+1)) bq gz bI hm cS (.inl ⟨ents,clock,rfl,bp,cC⟩) (.inl ⟨_,_,rfl,by
       have e1: (ents.push ({key:=a.eval i,val:=zv,born:=clock}:MapEntry)).toList=ents.toList++[({key:=a.eval i,val:=zv,born:=clock}:MapEntry)]:=abW
       rw[e1,ajk]
       refine bp.append ?_
       simp only[List.map_cons,akj,ag,and_true]
       exact nS (me:={key:=a.eval i,val:=zv,born:=clock}) hi BO,sn cC _ rfl⟩)
      refine⟨rfl,.tuple #[zv,goInt clock],_,_,.inl (fin _ _ ?_),?_,le,fi⟩
      ·simp[Instr.mapEntry,run_underlying lE,Go.MapKept.run_getObj_map hm,Jt,CT,zd,Go.MapKept.run_setObj_map _ hm,Result.andThen,Sem.run_bind]
      ·simp only[aj]
       refine⟨_,rfl,?_⟩
       simp only[ag,aj,and_true]
       exact⟨aj.mono le BO,by rw[cC.1,hlen];rfl⟩
     ·cases g1
    ·exact absurd ah au
   ·exact absurd ah au
  ·exact absurd ah au
 ·exact absurd ah au
theorem Li {t:TypeId} {x s y:Operand} {x' s' y':aU} (hr:Rel X T a μ) (ho:o.op= .entryStore t x s y)
  (h1:dm X x=some x') (h2:dm X s=some s') (h3:dm X y=some y') (ah: (aM E (.uO x' s' y')).run C ⟨T,μ.O⟩=some (v,σ')):σ'.T=T∧c6 X o a μ σ'.O v:=by
 simp only[aM,bA] at ah
 have hx:=aS hr h1 μ.O
 have hs:=aS hr h2 μ.O
 have hy:=aS hr h3 μ.O
 split at ah
 ·rename_i r g e
  rw[e] at hx
  simp only[bA] at ah
  split at ah
  ·rename_i j mY
   rw[mY] at hs
   simp only[bA] at ah
   obtain⟨u,O1,k1,k2,k3,k4⟩:=j5 (μ:=μ) hr.bg hy ah
   have P0:=aj.mono k3 hx
   simp only[Act.run] at k1
   split at k1
   ·rename_i es bq
    split at k1
    ·rename_i hc
     obtain⟨cK,bI,gz,ll,hj0⟩:=hc
     split at k1
     ·rename_i k' w0 eS
      simp only[Act.run,aiT,aiX] at k1
      obtain⟨rfl,rfl⟩:=k1
      simp only[aj] at P0 hs
      obtain⟨b,hp,oO,bV⟩:=P0
      obtain⟨_,rfl⟩:=bV cK
      obtain⟨cS,ents,clock,hm,bp,cC⟩: (μ.φ r).cap≠0∧ ∃ents clock,μ.w.heap[(μ.φ r).bY]? =some (.map ents clock)∧ag X ⟨μ.w,μ.φ,O1⟩ es (ents.toList.map pU)∧gQ ents clock:=by
       rcases k4.ents r es bq bI with h| ⟨_,s,pos,_,rfl⟩ | ⟨mY,rfl⟩
       ·exact h
       ·exfalso
        cases hn:j.toNat with
        | zero=>rw[hn] at eS;simp at eS
        | succ n=>rw[hn] at eS;cases n<;>simp at eS
       ·exfalso
        cases hn:j.toNat with
        | zero=>rw[hn] at eS;simp at eS
        | succ n=>rw[hn] at eS;simp at eS
      obtain⟨me,hme,hmr⟩:=bp.get eS
      simp only[List.getElem?_map,aiU] at hme
      obtain⟨en,hen,rfl⟩:=hme
      have Z8:ents[j.toNat]? =some en:=by simpa using hen
      obtain⟨t1,_⟩:=sm hmr rfl
      have ve:ents.findIdx? (fun e=> (e.born:Int)==j)=some j.toNat:=by
       have bl:=(aiV.1 Z8).1
       rw[Array.findIdx?_eq_some_iff_getElem]
       refine⟨bl,?_,fun n hn=> ?_⟩
       ·have:=cC.at Z8
        rw[(aiV.1 Z8).2,this]
        simp;omega
       ·have Cj:n<ents.size:=abV
        have:=cC.at (ajd Cj)
        rw[this];simp;omega
      have qP:ag X ⟨μ.w,μ.φ,O1⟩ (es.set j.toNat (.tuple [k',u])) ((ents.modify j.toNat fun e=> {e with val:=a.eval y}).toList.map pU):=by
       have hl: (ents.modify j.toNat fun e=> {e with val:=a.eval y}).toList=ents.toList.set j.toNat {en with val:=a.eval y}:=by
        apply ajS
        intro n
        rw[akg,ajr,ajQ]
        by_cases hn:j.toNat=n
        ·subst hn
         have bl:=(aiS.1 hen).1
         simp only[if_true,bl,hen,ai4,and_self]
         rfl
        ·simp[hn]
       rw[hl,ajH]
       exact bp.set j.toNat (nS (me:={en with val:=a.eval y}) t1 k2)
      obtain⟨le,fi⟩:=gR (μ:=⟨μ.w,μ.φ,O1⟩) k4 r (es':=es.set j.toNat (.tuple [k',u])) (ob':= .map (ents.modify j.toNat fun e=> {e with val:=a.eval y}) clock) bq gz bI hm cS (.inl ⟨ents,clock,rfl,bp,cC⟩)
       (.inl ⟨_,_,rfl,qP,nB cC _ fun _=>rfl⟩)
      refine⟨rfl,undef,_,_,.inr ⟨?_,rfl⟩,by simp only[aj];exact⟨#[],rfl,by simp[ag]⟩,k3.trans le,fi⟩
      simp only[execOp,ho,hp,hs]
      refine BJ ?_
      simp[Instr.entryStore,Go.MapKept.run_getObj_map hm,Sem.run_bind,Result.andThen,asInt,asIntOf,ve,Go.MapKept.run_setObj_map _ hm]
     ·exact absurd k1 au
    ·exact absurd k1 au
   ·exact absurd k1 au
  ·exact absurd ah au
 ·exact absurd ah au
theorem sr: ∀ {ks:List Nat} {cs ds:List V},jq ks cs=true→jq ks ds=true→(cX ks cs ds).isSome=true
 | [],[],[],_,_=>rfl
 | [],[],_::_,_,h=>by simp[jq] at h
 | [],_::_,_,h,_=>by simp[jq] at h
 | k::ks,[],_,h,_=>by unfold jq at h;split at h<;>simp_all
 | k::ks,_::_,[],_,h=>by unfold jq at h;split at h<;>simp_all
 | k::ks,c::cs,d::ds,h,h'=>by
   unfold jq at h
   split at h
   ·simp_all
   ·rename_i e1 e2
    injection e1 with a1 a2;injection e2 with b1 b2;subst a1;subst a2;subst b1;subst b2
    unfold jq at h'
    split at h'<;>simp_all
    rename_i e1 e2 _
    have:=sr h h'
    obtain⟨b,hb⟩:=ai1.1 this
    obtain⟨rfl,rfl⟩:=e2
    simp[cX,Jj,hb]
   ·rename_i e1 e2
    injection e1 with a1 a2;injection e2 with b1 b2;subst a1;subst a2;subst b1;subst b2
    unfold jq at h'
    split at h'<;>simp_all
    have:=sr h h'
    obtain⟨b,hb⟩:=ai1.1 this
    simp[cX,Jj,hb]
   ·rename_i e1 e2
    injection e1 with a1 a2;injection e2 with b1 b2;subst a1;subst a2;subst b1;subst b2
    unfold jq at h'
    split at h'<;>simp_all
    have:=sr h h'
    obtain⟨b,hb⟩:=ai1.1 this
    simp[cX,Jj,hb]
   ·simp at h
theorem FW {ks:List Nat} {k k':V} (h:Cv ks k=true) (h':Cv ks k'=true): (du ks k k').isSome=true:=by
 cases k<;>simp[Cv] at h
 cases k'<;>simp[Cv] at h'
 exact sr h h'
theorem BW {ks:List Nat} {k:V} (hk:Cv ks k=true): ∀ {es:List V},es.all (GB ks)=true→ ∃r,cM ks k es=some r∧eG ks k es=r.getD (.int .i64 0)
 | [],_=> ⟨none,rfl,rfl⟩
 | e::es,h=>by
   simp only[aja,Bool.and_eq_true] at h
   obtain⟨h1,h2⟩:=h
   unfold GB at h1
   split at h1
   ·rename_i k' n
    obtain⟨b,hb⟩:=ai1.1 (FW hk h1)
    cases b with
    | true=>exact⟨some (.int .i64 n),by simp[cM,hb],by simp[eG,hb]⟩
    | false=>
      obtain⟨r,h3,h4⟩:=BW hk h2
      exact⟨r,by simp[cM,hb,h3],by simp[eG,hb,h4]⟩
   ·simp at h1
theorem Ej {z:V} (h:isZero z=true):z= .int .i64 0:=by
 unfold isZero at h
 split at h
 ·rename_i n;simp at h;rw[h]
 ·simp at h
theorem Z9 {x' i':aU} {ks:List Nat} {T:Nat→V} {O:Nat→Obj} {p:V×St} (ah: (aM E (.lu ks x' i')).run C ⟨T,O⟩=some p): (aM E (.rN ks false (.int .i64 0) x' i')).run C ⟨T,O⟩=some p:=by
 simp only[aM,bA] at ah ⊢
 split at ah
 ·rename_i r g e
  rw[e]
  simp only[bA,Act.run] at ah
  unfold JI kV at ah
  split at ah
  ·rename_i gen sz f hc
   simp only[aiX] at hc
   obtain⟨rfl,rfl,hc⟩:=hc
   cases bq: (O r).es with
   | none=>rw[bq] at hc;simp at hc
   | some es=>
     rw[bq] at hc
     simp only[ai4,aiT,aiX] at hc
     obtain⟨iO,rfl⟩:=hc
     split at ah
     ·rename_i VK
      obtain⟨c1,c2,c3⟩:=VK
      rw[if_pos (FW c3 c3)]
      simp only[Act.run,bq]
      rw[if_pos ⟨c1,c2⟩]
      obtain⟨q,q1,q2⟩:=BW c3 iO
      unfold dM
      rw[q1]
      simp only[q2] at ah
      cases q<;>simpa using ah
     ·exact absurd ah au
  ·exact absurd ah au
 ·exact absurd ah au
theorem aaa {x' i':aU} {ks:List Nat} {T:Nat→V} {O:Nat→Obj} {p:V×St} (ah: (aM E (.lz ks x' i')).run C ⟨T,O⟩=some p): (aM E (.uN ks (.int .i64 0) x' i')).run C ⟨T,O⟩=some p:=by
 simp only[aM,bA] at ah ⊢
 split at ah
 ·rename_i r g e
  simp only[e,bA,Act.run] at ah ⊢
  cases bq: (O r).es with
  | none=>rw[bq] at ah;exact absurd ah au
  | some es=>
    rw[bq] at ah
    simp only at ah ⊢
    split at ah
    ·rename_i hc
     rw[if_pos ⟨hc.1,hc.2.1,hc.2.2.1,FW hc.2.2.2.1 hc.2.2.2.1,rfl⟩]
     exact ah
    ·exact absurd ah au
 ·exact absurd ah au
theorem BX {ks:List Nat} {k k':V}: ∀es:List V,eG ks k' (es++[.tuple [k,.int .i64 0]])=eG ks k' es
 | []=>by
   simp only[ajx,eG]
   split<;>rfl
 | e::es=>by
   have ih:=BX (ks:=ks) (k:=k) (k':=k') es
   rw[ajn]
   cases e<;>try (simp only[eG,ih];done)
   rename_i l
   match l with
   | []=>simp only[eG,ih]
   | [_]=>simp only[eG,ih]
   | [_,_]=>simp only[eG,ih]
   | _::_::_::_=>simp only[eG,ih]
theorem Ek {x' i':aU} {ks:List Nat} {σ σ':St} {v:V} (ah: (aM E (.lz ks x' i')).run C σ=some (v,σ')):σ'.T=σ.T∧ ∀n,kV ks (σ'.O n)=kV ks (σ.O n):=by
 obtain⟨T,O⟩:=σ
 simp only[aM,bA] at ah
 split at ah
 ·rename_i r g e
  simp only[bA,Act.run] at ah
  cases bq: (O r).es with
  | none=>rw[bq] at ah;exact absurd ah au
  | some es=>
    rw[bq] at ah
    simp only at ah
    split at ah
    ·rename_i hc
     obtain⟨c1,c2,c3,c4,c5⟩:=hc
     split at ah
     ·simp only[Act.run,aiT,aiX] at ah
      obtain⟨_,rfl⟩:=ah
      refine⟨rfl,fun n=> ?_⟩
      by_cases hn:n=r
      ·subst hn;simp only[aA,kV,bq]
      ·simp only[aX _ _ hn]
     ·rename_i sC
      simp only[Act.run,aiT,aiX] at ah
      obtain⟨_,rfl⟩:=ah
      refine⟨rfl,fun n=> ?_⟩
      by_cases hn:n=r
      ·subst hn
       simp only[aA,kV,bq,ai4]
       refine congrArg (fun q=> ((O n).gen,(O n).sz,some q)) (Prod.ext ?_ ?_)
       ·simp only[aj6,aja,List.all_nil,ajy]
        rw[c5]
        simp only[GB,c4,ajD]
       ·funext k'
        exact BX es
      ·simp only[aX _ _ hn]
     ·exact absurd ah au
    ·exact absurd ah au
 ·exact absurd ah au
theorem Lj {t kt et:TypeId} {x i:Operand} {x' i':aU} {ks:List Nat} {z:V} (hr:Rel X T a μ) (ho:o.op= .lookup t x i false) (ht:bL X t=some (.map kt et)) (hk:cN X kt=some ks)
  (hz:ft X et=some z) (SE:isZero z=true) (h1:dm X x=some x') (h2:dm X i=some i') (ah: (aM E (.lu ks x' i')).run C ⟨T,μ.O⟩=some (v,σ')):σ'.T=T∧c6 X o a μ σ'.O v:=by
 obtain rfl:=Ej SE
 exact BT hr ho ht hk hz h1 h2 (Z9 ah)
theorem Lk {t kt et:TypeId} {x i:Operand} {x' i':aU} {ks:List Nat} {z:V} (hr:Rel X T a μ) (ho:o.op= .mapEntry t x i) (ht:bL X t=some (.map kt et)) (hk:cN X kt=some ks)
  (hz:ft X et=some z) (SE:isZero z=true) (h1:dm X x=some x') (h2:dm X i=some i') (ah: (aM E (.lz ks x' i')).run C ⟨T,μ.O⟩=some (v,σ')):σ'.T=T∧c6 X o a μ σ'.O v:=by
 obtain rfl:=Ej SE
 exact Lh hr ho ht hk hz h1 h2 (aaa ah)
end
end Go.AM
namespace Go.AM
open Go Go.RowKit
def uC.j6:uC→Bool
 | .call .. =>true
 | _=>false
section
variable {X:Ctx} {E:Env} {C:bo} {o:Oper} {a:Go.Act} {T:Nat→V} {μ:Mu} {v:V} {σ':St}
theorem MU {p:V×St} {σ:St}: (aM E .bad).run C σ≠some p:=by simp[aM,Act.run]
theorem Ll {h:Hints} {dst:Nat} {c:Call} {sG:uC} (hr:Rel X T a μ) (ho:o.op= .call c) (aO:BE X h dst c=some sG) (Ld:sG.j6=false)
  (ah: (aM E sG).run C ⟨T,μ.O⟩=some (v,σ')):σ'.T=T∧c6 X o a μ σ'.O v:=by
 unfold BE at aO
 split at aO
 ·split at aO
  ·injection aO with aO;subst aO;simp[uC.j6] at Ld
  ·simp at aO
 ·simp at aO
 ·rename_i b hc
  have lL: ∀ {α:Type} (l:Array α) (m:List α),l.toList=m→l=m.toArray:=fun l m e=>by rw[←e]
  split at aO
  ·rename_i x t h1 h2
   have e1:=lL _ _ h1;have e2:=lL _ _ h2
   split at aO
   ·rename_i x' e hx hd
    injection aO with aO;subst aO
    exact ZY hr ho hc e1 e2 hd hx ah
   ·rename_i x' hx hd
    injection aO with aO;subst aO
    exact O3 hr ho hc e1 e2 hd hx ah
   ·rename_i x' n e hx hd
    injection aO with aO;subst aO
    exact O4 hr ho hc e1 e2 hd ah
   ·simp at aO
  ·rename_i xs _
   simp only[aiU] at aO
   obtain⟨asq,h1,rfl⟩:=aO
   exact ZZ hr ho hc h1 ah
  ·rename_i xs _
   simp only[aiU] at aO
   obtain⟨asq,h1,rfl⟩:=aO
   exact Z0 hr ho hc h1 ah
  ·rename_i s x t t' h1 h2
   have e1:=lL _ _ h1;have e2:=lL _ _ h2
   split at aO
   ·rename_i s' x' e d hs hx hd SU
    split at aO
    ·rename_i sz i z e' hn hi hz
     split at aO<;>simp at aO
     rename_i hb
     subst aO
     unfold Wr at ah
     split at ah
     ·exact BV hr ho hc e1 e2 hd SU abW hn hi hz hb hs hx ah
     ·exact xF hr ho hc e1 e2 hd SU abW hn hi hz hb hs hx ah
    ·rename_i sz i z hn hi hz
     split at aO<;>simp at aO
     rename_i hb
     subst aO
     unfold Wr at ah
     split at ah
     ·exact BV hr ho hc e1 e2 hd SU abW hn hi hz hb hs hx ah
     ·exact xF hr ho hc e1 e2 hd SU abW hn hi hz hb hs hx ah
    ·simp at aO
   ·simp at aO
  ·rename_i x t h1 h2
   have e1:=lL _ _ h1;have e2:=lL _ _ h2
   split at aO
   ·rename_i x' e hx hd
    split at aO
    ·rename_i sz z hn hz
     injection aO with aO;subst aO
     exact TA hr ho hc e1 e2 hd hz hx ah
    ·simp at aO
   ·simp at aO
  ·simp at aO
theorem pB {kt:TypeId} {q:Option IntKind} (h:vL X kt=some q): ∃d,bL X kt=some d∧kn q d:=by
 unfold vL at h
 split at h
 ·rename_i k hk
  injection h with h;subst h
  exact⟨_,hk,rfl⟩
 ·rename_i hk
  injection h with h;subst h
  exact⟨_,hk,rfl⟩
 ·simp at h
theorem TE (sF: ∀t1 t2 k,X.qM t1=some k→X.qM t2=some k→t1=t2) {h:Hints} {dst:Nat} {sG:uC} (hr:Rel X T a μ) (aO:CO X h dst o.op=some sG) (Ld:sG.j6=false)
  (ah: (aM E sG).run C ⟨T,μ.O⟩=some (v,σ')):σ'.T=T∧c6 X o a μ σ'.O v:=by
 cases eK:o.op<;>simp only[CO,eK] at aO<;>try (simp at aO;done)
 case move x=>
  split at aO
  · simp only[aiU] at aO
    obtain⟨y,h1,rfl⟩:=aO
    exact MQ hr (.inl eK) h1 ah
  · split at aO
    ·  simp only[aiU] at aO
       obtain⟨y,h1,rfl⟩:=aO
       exact MT hr (.inl eK) h1 ah
    ·exact XK hr (.inl eK) aO ah
 case assign x=>
  split at aO
  · simp only[aiU] at aO
    obtain⟨y,h1,rfl⟩:=aO
    exact MQ hr (.inr eK) h1 ah
  · split at aO
    ·  simp only[aiU] at aO
       obtain⟨y,h1,rfl⟩:=aO
       exact MT hr (.inr eK) h1 ah
    ·exact XK hr (.inr eK) aO ah
 case pick c p q=>
  split at aO
  · rename_i c' p' q' h1 h2 h3
    injection aO with aO;subst aO
    exact Ww hr eK h1 h2 h3 ah
  ·simp at aO
 case alloc t=>
  split at aO
  · rename_i sz z h1 h2
    injection aO with aO;subst aO
    exact To _ hr eK h2 ah
  ·simp at aO
 case box t x=>
  split at aO
  · rename_i sz y h1 h2
    injection aO with aO;subst aO
    exact Z2 _ hr eK h2 ah
  ·simp at aO
 case build t ps=>
  split at aO
  · rename_i z fs h1 h2
    split at aO
    ·simp at aO
    ·  rename_i iO
       simp only[aiU] at aO
       obtain⟨asq,h3,rfl⟩:=aO
       exact O8 _ hr eK h1 h2 (by revert iO;cases fs.toList.all (fun f=> (bQ X f.type).isSome) <;>simp) h3 ah
  · rename_i z n e h1 h2
    split at aO
    ·  rename_i s hs
       simp only[aiU] at aO
       obtain⟨asq,h3,rfl⟩:=aO
       exact O9 _ hr eK h1 h2 hs h3 ah
    ·simp at aO
  ·simp at aO
 case buildSlice t n ps=>
  split at aO
  · rename_i e hd
    split at aO
    ·  rename_i sz z asq h1 h2 h3
       injection aO with aO;subst aO
       exact CQ hr eK hd h1 h2 h3 ah
    ·simp at aO
  ·simp at aO
 case load t x=>
  split at aO
  · rename_i g sz y h1 h2 h3
    injection aO with aO;subst aO
    split at ah
    ·exact MP hr eK h3 h1 h2 ah
    ·exact Tj _ hr eK h3 h1 h2 ah
  ·simp at aO
 case store t x y=>
  split at aO
  · rename_i g sz x' y' h1 h2 h3 h4
    injection aO with aO
    split at aO
    ·subst aO;exact O7 hr eK h3 h4 h2 ah
    ·subst aO;exact Tp hr eK h3 h4 h2 ah
  ·simp at aO
 case nilCheck x=>
  simp only[aiU] at aO
  obtain⟨y,h1,rfl⟩:=aO
  exact It hr eK h1 ah
 case binOp op t x y t2=>
  split at aO
  · rename_i x' y' h1 h2
    unfold MN at aO
    split at aO
    ·  rename_i heq
       have aab:op= .eql∨op= .neq:=by cases op<;>simp[Tc] at heq<;>simp
       split at aO
       ·injection aO with aO;subst aO
        exact K3 hr eK h1 h2 ah
       ·injection aO with aO;subst aO
        exact K3 hr eK h1 h2 ah
       ·rename_i e hd
        split at aO
        ·rename_i n bI
         injection aO with aO;subst aO
         exact ZX hr eK aab hd bI h1 h2 rfl ah
        ·simp at aO
       ·rename_i fs hd
        split at aO
        ·rename_i hg
         simp only[aiU] at aO
         obtain⟨ks,h3,rfl⟩:=aO
         exact Ti hr eK aab hg h3 (by simp[gN,hd]) h1 h2 rfl ah
        ·simp at aO
       ·rename_i hd
        split at aO
        ·rename_i hg
         simp only[aiU] at aO
         obtain⟨ks,h3,rfl⟩:=aO
         exact Ti hr eK aab hg h3 (by simp[gN,hd]) h1 h2 rfl ah
        ·simp at aO
       ·simp at aO
    ·  injection aO with aO;subst aO
       exact K3 hr eK h1 h2 ah
  ·simp at aO
 case unOp op t x=>
  simp only[aiU] at aO
  obtain⟨y,h1,rfl⟩:=aO
  exact adE hr eK h1 ah
 case convert s d x=>
  split at aO
  · rename_i k0 k y h1 h2 h3
    injection aO with aO;subst aO
    exact K4 hr eK h1 h2 h3 ah
  · rename_i k0 y h1 h2 h3
    injection aO with aO;subst aO
    exact OY hr eK h1 h2 h3 ah
  · rename_i k y h1 h2 h3
    injection aO with aO;subst aO
    exact OZ hr eK h1 h2 h3 ah
  ·simp at aO
 case makeInterface t x=>
  injection aO with aO;subst aO
  exact absurd ah MU
 case makeFunc fn first caps=>
  cases fn<;>simp only at aO<;>try (simp at aO;done)
  split at aO
  · rename_i hf
    split at aO
    ·  rename_i n cs h1 h2
       injection aO with aO
       split at aO
       ·subst aO;exact FR hr eK hf h1 h2 ah
       ·subst aO;exact Iu hr eK hf h1 h2 ah
    ·simp at aO
  · split at aO
    ·  rename_i hf
       split at aO
       ·rename_i n cs h1 h2
        injection aO with aO;subst aO
        exact FN hr eK hf h1 h2 ah
       ·simp at aO
    ·simp at aO
 case slice t x lo hi mx=>
  split at aO
  · rename_i e x' lo' ON mx' hd h1 h2 h3 h4
    simp only[aiU] at aO
    obtain⟨sz,hn,rfl⟩:=aO
    exact Tk hr eK hd hn h1 h2 h3 h4 ah
  ·simp at aO
 case fieldAddr s x i=>
  split at aO
  · rename_i fs y hd h1
    split at aO
    ·  rename_i f hf
       split at aO
       ·rename_i n hn
        injection aO with aO;subst aO
        exact FM hr eK h1 hd hf hn ah
       ·simp at aO
    ·simp at aO
  ·simp at aO
 case indexAddr t x i=>
  split at aO
  · rename_i e x' i' hd h1 h2
    simp only[aiU] at aO
    obtain⟨sz,hn,rfl⟩:=aO
    exact FO hr eK hd hn h1 h2 ah
  · rename_i n e x' i' hd h1 h2
    simp only[aiU] at aO
    obtain⟨sz,hn,rfl⟩:=aO
    exact Ix hr eK hd hn h1 h2 ah
  ·simp at aO
 case index t x i=>
  split at aO
  · rename_i x' i' hd h1 h2
    injection aO with aO;subst aO
    exact Iy hr eK hd h1 h2 ah
  ·simp at aO
 case extract x i=>
  simp only[aiU] at aO
  obtain⟨y,h1,rfl⟩:=aO
  exact K1 hr eK h1 ah
 case makeMap t rs=>
  cases rs with
  | some _=>simp at aO
  | none=>
    injection aO with aO;subst aO
    exact TC hr eK rfl ah
 case range t x=>
  split at aO
  · rename_i x' hd h1
    injection aO with aO;subst aO
    exact Lf hr eK hd h1 ah
  ·simp at aO
 case lookup t x i ok=>
  split at aO
  · rename_i kt et x' i' hd h1 h2
    split at aO
    ·  rename_i q z hq hz
       injection aO with aO;subst aO
       obtain⟨d,SP,hk⟩:=pB hq
       exact Pc hr eK hd SP hk hz h1 h2 ah
    ·  rename_i z hq hz
       simp only[aiU] at aO
       obtain⟨ks,hk,aO⟩:=aO
       split at aO
       ·rename_i hc
        simp only[Bool.and_eq_true,ajJ] at hc
        obtain⟨⟨_,rfl⟩,SE⟩:=hc
        subst aO
        exact Lj hr eK hd hk hz SE h1 h2 ah
       ·subst aO
        exact BT hr eK hd hk hz h1 h2 ah
    ·simp at aO
  ·simp at aO
 case mapUpdate t m k v=>
  split at aO
  · rename_i kt et m' k' v' hd h1 h2 h3
    split at aO
    ·  rename_i q hq
       injection aO with aO;subst aO
       obtain⟨d,SP,hk⟩:=pB hq
       exact Ei hr (.inl eK) hd SP hk h1 h2 h3 ah
    ·  simp only[aiU] at aO
       obtain⟨ks,hk,rfl⟩:=aO
       exact BU hr (.inl eK) hd hk h1 h2 h3 ah
  ·simp at aO
 case mapEntry t m k=>
  split at aO
  · rename_i kt et m' k' hd h1 h2
    split at aO
    ·  rename_i ks z hk hz
       split at aO
       ·rename_i hc
        simp only[Bool.and_eq_true] at hc
        injection aO with aO
        subst aO
        exact Lk hr eK hd hk hz hc.2 h1 h2 ah
       ·simp at aO
    ·simp at aO
  ·simp at aO
 case entryStore t m s v=>
  split at aO
  · rename_i m' s' v' h1 h2 h3
    injection aO with aO;subst aO
    exact Li hr eK h1 h2 h3 ah
  ·simp at aO
 case insert t m k v=>
  split at aO
  · rename_i kt et m' k' v' hd h1 h2 h3
    split at aO
    ·  rename_i q hq
       injection aO with aO;subst aO
       obtain⟨d,SP,hk⟩:=pB hq
       exact Ei hr (.inr eK) hd SP hk h1 h2 h3 ah
    ·  simp only[aiU] at aO
       obtain⟨ks,hk,rfl⟩:=aO
       exact BU hr (.inr eK) hd hk h1 h2 h3 ah
  ·simp at aO
 case call c=>exact Ll hr eK aO Ld ah
end
end Go.AM
namespace Go.AM
open Go Go.RowKit
def rf (X:Ctx) (E:Env) (C:bo):Prop:= ∀ (h:Hints) (dst:Nat) (o:Oper) (sG:uC) (a:Go.Act) (T:Nat→V) (μ:Mu) (v:V) (σ':St),Rel X T a μ→CO X h dst o.op=some sG→
 (aM E sG).run C ⟨T,μ.O⟩=some (v,σ')→σ'.T=T∧ ∀ (next:Go.Act→World→Prop) (Q:Go.Exit→Go.Act→World→Prop),
   (∀val w' φ',aj X ⟨w',φ',σ'.O⟩ v val→Le μ ⟨w',φ',σ'.O⟩→bk X ⟨w',φ',σ'.O⟩→next (a.put o.dst val) w')→o.wp X.P a μ.w next Q
structure Fp where
 tm:Nat
 fl:Nat
 ro:Option Nat
def Marks (n:Fp) (w:World) (ds:List Deferred):Prop:=(n.fl≤w.heap.size∧ ∀l,n.ro=some l→ ∃L,w.heap[l]? =some (.loop L))∧ ∃Ds:List Nat,ds=Ds.map (fun D=> {target:= .collected D,args:= #[]})∧Ds.Nodup∧ ∀D ∈ Ds,n.fl≤D∧w.heap[D]? =some (.deferred (some []))
theorem Marks.nil {n:Fp} {w:World} (h:n.fl≤w.heap.size) (hl: ∀l,n.ro=some l→ ∃L,w.heap[l]? =some (.loop L)):Marks n w []:=⟨⟨h,hl⟩,[],rfl,.nil,abW⟩
theorem dr {X:Ctx} {μ:Mu} (ho:bk X μ) {D:Nat} {o:Go.Obj} (hD:μ.w.heap[D]? =some o) (h1:o.isCells=false) (h2:o.isWalk=false): ¬μ.own D:=by
 rintro⟨r,hr,_,hc,hb⟩
 obtain⟨es,bq⟩:=ai1.1 hr
 rcases ho.ok r es bq with⟨_,_,_,h4⟩ | ⟨_,_,ob,h3,h4⟩
 ·rcases h4 with h4| ⟨c,T,vs,k1,_⟩
  ·exact hc h4
  ·rw[hb,hD] at k1;injection k1 with k1;subst k1;simp[Obj.isCells] at h1
 ·rw[hb,hD] at h3;injection h3 with h3;subst h3
  rcases h4 with⟨_,_,rfl,_⟩ | ⟨_,_,rfl,_⟩ | ⟨_,_,_,rfl,_⟩ <;>simp[Obj.isWalk] at h2
theorem Marks.le {X:Ctx} {μ μ':Mu} {n:Fp} {ds:List Deferred} (h:Marks n μ.w ds) (ho:bk X μ) (le:Le μ μ'):Marks n μ'.w ds:=by
 obtain⟨⟨h0,jX⟩,Ds,h1,h2,h3⟩:=h
 refine⟨⟨ajb h0 le.size,fun l hl=>by
  obtain⟨L,k⟩:=jX l hl
  exact⟨L,(le.bS l (aiV.1 k).1 (dr ho k rfl rfl)).1.trans k⟩⟩,Ds,h1,h2,fun D hD=> ⟨(h3 D hD).1,?_⟩⟩
 have k:=(h3 D hD).2
 rw[(le.bS D (aiV.1 k).1 (dr ho k rfl rfl)).1]
 exact k
structure jY (X:Ctx) (μ0:Mu) (n:Fp) (σ:St) (a:Go.Act) (w:World):Prop where
 defers:Marks n w a.defers
 size:a.tmps.size=n.1
 rel: ∃φ,Rel X σ.T a ⟨w,φ,σ.O⟩∧Le μ0 ⟨w,φ,σ.O⟩
section
variable {X:Ctx} {E:Env} {C:bo} {μ0:Mu} {n:Fp}
theorem po {T:Nat→V} {a:Go.Act} {μ μ':Mu} {dst:Option Nat} {v:V} {val:Value} (hr:Rel X T a μ) (le:Le μ μ') (ho:bk X μ') (hv:aj X μ' v val) (hd:dst.all (· <a.tmps.size)=true) (O:Nat→Obj):
   Rel X (St.put ⟨T,O⟩ dst v).T (a.put dst val) μ':=by
 refine⟨fun t=> ?_,ho⟩
 cases dst with
 | none=>exact aj.mono le (hr.tmps t)
 | some d=>
   simp at hd
   simp only[St.put,Go.Act.put,da]
   split
   ·rename_i e
    subst e
    have: (a.tmps.setIfInBounds t val).getD t undef=val:=by simp[hd]
    rw[this];exact hv
   ·rename_i cL
    have: (a.tmps.setIfInBounds d val).getD t undef=a.tmps.getD t undef:=by
     simp[ajU (fun e=>cL e.symm)]
    rw[this];exact aj.mono le (hr.tmps t)
theorem mE (a:Go.Act) (dst:Option Nat) (v:Value): (a.put dst v).tmps.size=a.tmps.size:=by cases dst<;>simp[Go.Act.put]
theorem put_defers (a:Go.Act) (dst:Option Nat) (v:Value): (a.put dst v).defers=a.defers:=by cases dst<;>simp[Go.Act.put]
theorem r8 {μ:Mu}:aj X μ dO undef:=by simp only[dO,aj];exact⟨#[],rfl,by simp[ag]⟩
theorem mD (H:rf X E C) {h:Hints} {ops:Array Oper} {i:Nat} {o:Oper} {ao:b9} {σ σ':St} {a:Go.Act} {w:World} {K:Go.Act→World→Prop} {Q:Go.Exit→Go.Act→World→Prop}
  (ho:ops[i]? =some o) (aO:nR X h ops o=some ao) (hn:h.n=n.1) (hs:jY X μ0 n σ a w) (ah:dV E C ao σ=some σ') (hK: ∀a' w',jY X μ0 n σ' a' w'→K a' w'):
  wpOpIn (Fr n.ro) 0 X.P ops Q i K a w:=by
 obtain⟨kE,bI,φ,hr,hle⟩:=hs
 unfold nR at aO
 simp only at aO
 split at aO
 ·rename_i g hg FX
  injection aO with aO
  subst aO
  have hd:o.dst.all (· <a.tmps.size)=true:=by rw[bI,←hn];exact FX
  simp only[dV] at ah
  split at ah
  ·rename_i v σ1 uk
   injection ah with ah
   subst ah
   have runs: (aM E ((CO X h (o.dst.getD 0) o.op).getD .bad)).run C σ=some (v,σ1)→o.wpIn (Fr n.ro) 0 X.P a w K Q:=fun eK=>by
     cases TF:CO X h (o.dst.getD 0) o.op with
     | none=>rw[TF] at eK;exact absurd eK MU
     | some sG=>
       rw[TF] at eK
       obtain⟨hT,hwp⟩:=H h _ o sG a σ.T ⟨w,φ,σ.O⟩ v σ1 hr TF eK
       refine r6 (fun c e=>by rw[e] at TF;simp[CO] at TF) (hwp K Q fun val w' φ' hv le fi=>hK _ _ ⟨by rw[put_defers];exact kE.le hr.bg le,by rw[mE];exact bI,φ',?_,?_⟩)
       ·have:=po hr le fi hv hd σ1.O
        rw[←hT] at this
        have e: (σ1.put o.dst v).O=σ1.O:=by cases o.dst<;>rfl
        rw[e];exact this
       ·have e: (σ1.put o.dst v).O=σ1.O:=by cases o.dst<;>rfl
        rw[e];exact hle.trans le
   have XR:v=dO→σ1=σ→K (a.put o.dst undef) w:=fun hv hσ=>by
     subst hv;subst hσ
     refine hK _ _ ⟨by rw[put_defers];exact kE,by rw[mE];exact bI,φ,?_,?_⟩
     · have:=po hr (Le.refl _) hr.bg r8 hd σ1.O
       have e: (σ1.put o.dst dO).O=σ1.O:=by cases o.dst<;>rfl
       rw[e];exact this
     · have e: (σ1.put o.dst dO).O=σ1.O:=by cases o.dst<;>rfl
       rw[e];exact hle
   simp only[wpOpIn,ho]
   cases OX:o.guard with
   | none=>
     rw[OX] at hg
     injection hg with hg
     subst hg
     rw[if_pos (by simp[Region.wanted,OX])]
     exact runs (by simpa [cP] using uk)
   | some gw=>
     obtain⟨j,want⟩:=gw
     rw[OX] at hg
     simp only at hg
     split at hg
     · rename_i d hdj
       injection hg with hg
       subst hg
       simp only[cP,Act.run] at uk
       have hv:=hr.tmps d
       split at uk
       ·rename_i b hb
        rw[hb] at hv
        simp only[aj] at hv
        have bl:d<a.tmps.size:=by
         rcases akn d a.tmps.size with hl| hl
         ·exact hl
         ·simp[aj0 hl,undef] at hv
        have ahO:a.tmps[d]? =some (.bool b):=by
         rw[ajd bl]
         simp[ajd bl] at hv
         rw[hv]
        have hy:yielded ops a.tmps j=some b:=by simp[yielded,hdj,ahO]
        split at uk
        ·rename_i hbw
         rw[if_pos (by simp[Region.wanted,OX,hy,hbw])]
         exact runs uk
        ·rename_i hbw
         rw[if_neg (by simp[Region.wanted,OX,hy,hbw])]
         obtain⟨e1,e2⟩:=aZ uk
         exact⟨fun _ _=>trivial,XR e1.symm e2⟩
       ·rename_i hb
        rw[hb] at hv
        simp only[aj] at hv
        obtain⟨vs,nn,hv0⟩:=hv
        have hy:yielded ops a.tmps j=none:=by
         simp only[yielded,hdj,Option.bind_some]
         cases hq:a.tmps[d]? with
         | none=>rfl
         | some x=>
           have:x= .tuple vs:=by simpa [hq] using nn
           rw[this]
        rw[if_neg (by simp[Region.wanted,OX,hy])]
        obtain⟨e1,e2⟩:=aZ uk
        exact⟨fun _ _=>trivial,XR e1.symm e2⟩
       ·exact absurd uk au
     ·simp at hg
  ·simp at ah
 ·simp at aO
theorem nC {h:Hints} {ops:Array Oper}: ∀ {l:List Oper} {asq:List b9},iJ X h ops l=some asq→asq.length=l.length∧ ∀ (i:Nat) o,l[i]? =some o→ ∃ao,asq[i]? =some ao∧nR X h ops o=some ao
 | [],asq,h'=>by simp[iJ] at h';subst h';simp
 | o::l,asq,h'=>by
   simp only[iJ] at h'
   split at h'
   ·rename_i ao aiP h1 h2
    injection h' with h';subst h'
    obtain⟨k1,k2⟩:=nC h2
    refine⟨by simp[k1],fun i o' hi=> ?_⟩
    cases i with
    | zero=>simp at hi;subst hi;exact⟨ao,abW,h1⟩
    | succ i=>simpa using k2 i o' (by simpa using hi)
   ·simp at h'
theorem Pe {ao:b9} {σ:St} {p:List Nat}:dV E C {ao with pre:=p} σ=dV E C ao σ:=rfl
theorem fK (H:rf X E C) {h:Hints} {ops:Array Oper} {asq:List b9} (hn:h.n=n.1) (aO:iJ X h ops ops.toList=some asq) {Q:Go.Exit→Go.Act→World→Prop}:
   ∀ (m k:Nat),k+m=ops.size→ ∀ {σ σ':St} {a:Go.Act} {w:World},jY X μ0 n σ a w→iN E C ((asq.drop k).map fun o=> {o with pre:=[]}) σ=some σ'→
    (∀a' w',jY X μ0 n σ' a' w'→Q .normal a' w')→wpOpsIn (Fr n.ro) 0 X.P ops Q (List.range' k m) a w
 | 0,k,hk,σ,σ',a,w,hs,ah,hQ=>by
   obtain⟨hl,_⟩:=nC aO
   have:asq.drop k=[]:=by simp at hl;simp;omega
   rw[this] at ah
   simp[iN] at ah
   subst ah
   simpa [wpOpsIn] using hQ a w hs
 | m+1,k,hk,σ,σ',a,w,hs,ah,hQ=>by
   obtain⟨hl,eS⟩:=nC aO
   have Yk:k<ops.size:=abV
   obtain⟨ao,Pf,oH⟩:=eS k ops[k] (by simp[Yk])
   have hka:k<asq.length:=by simp at hl;omega
   have hd:asq.drop k=ao::asq.drop (k+1):=by
    rw[ajf hka]
    rw[aiW hka] at Pf
    injection Pf with Pf;rw[Pf]
   rw[hd] at ah
   simp only[List.map_cons,iN,Pe] at ah
   split at ah
   ·rename_i σ1 h1
    rw[List.range'_succ,wpOpsIn_cons]
    refine mD H (o:=ops[k]) (by simp[Yk]) oH hn hs h1 fun a' w' jE=> ?_
    exact fK H hn aO m (k+1) abV jE ah hQ
   ·simp at ah
end
end Go.AM
namespace Go.AM
open Go Go.RowKit
inductive Cell where
 | v (x:V)
 | o (x:Obj)
 | m (x:Nat×Nat×Option (Bool× (V→V)))
inductive Lm where
 | t (n:Nat)
 | o (n:Nat)
 | m (n:Nat) (ks:List Nat)
def St.at (σ:St):Lm→Cell
 | .t n=> .v (σ.T n)
 | .o n=> .o (σ.O n)
 | .m n ks=> .m (kV ks (σ.O n))
def St.xH (σ:St):Loc→Cell
 | .t n=> .v (σ.T n)
 | .o n=> .o (σ.O n)
 | _=> .v dO
def rd (f:eL):Lm→Prop
 | .t n=>Loc.t n ∈ f.reads
 | .o n=>Loc.o n ∈ f.reads
 | .m n ks=>Loc.m n ks ∈ f.reads
def wr (f:eL):Lm→Prop
 | .t n=>Loc.t n ∈ f.writes
 | .o n=>Loc.o n ∈ f.writes∨ ∃ks,Loc.e n ks ∈ f.writes
 | .m n ks=>Loc.o n ∈ f.writes∨ ∃wG,wG≠ks∧Loc.e n wG ∈ f.writes
def Pg (a b:eL):Prop:= ∃l,(wr a l∧wr b l)∨(wr a l∧rd b l)∨(rd a l∧wr b l)
theorem Pg.symm {a b:eL} (h:Pg a b):Pg b a:=by
 obtain⟨l,h⟩:=h
 exact⟨l,by rcases h with⟨h1,h2⟩ | ⟨h1,h2⟩ | ⟨h1,h2⟩ <;>simp[h1,h2]⟩
theorem gU {a b:List Loc} {x y:Loc} (hx:x ∈ a) (hy:y ∈ b) (h:x.wU y=true):meets a b=true:=by
 simp only[meets,List.any_eq_true]
 exact⟨x,hx,y,hy,h⟩
theorem Pg.uV {a b:eL} (h:Pg a b):a.uV b=true:=by
 simp only[eL.uV,ajX]
 obtain⟨l,⟨h1,h2⟩ | ⟨h1,h2⟩ | ⟨h1,h2⟩⟩:=h
 ·refine .inl (.inl ?_)
  cases l with
  | t n=>exact gU h1 h2 (by simp[Loc.wU])
  | o n=>rcases h1 with h1| ⟨k1,h1⟩ <;>rcases h2 with h2| ⟨k2,h2⟩ <;>exact gU h1 h2 (by simp[Loc.wU])
  | m n ks=>rcases h1 with h1| ⟨k1,_,h1⟩ <;>rcases h2 with h2| ⟨k2,_,h2⟩ <;>exact gU h1 h2 (by simp[Loc.wU])
 ·refine .inl (.inr ?_)
  cases l with
  | t n=>exact gU h1 h2 (by simp[Loc.wU])
  | o n=>rcases h1 with h1| ⟨k1,h1⟩ <;>exact gU h1 h2 (by simp[Loc.wU])
  | m n ks=>
    rcases h1 with h1| ⟨k1,hk,h1⟩
    ·exact gU h1 h2 (by simp[Loc.wU])
    ·exact gU h1 h2 (by simp[Loc.wU,hk])
 ·refine .inr ?_
  cases l with
  | t n=>exact gU h1 h2 (by simp[Loc.wU])
  | o n=>rcases h2 with h2| ⟨k2,h2⟩ <;>exact gU h1 h2 (by simp[Loc.wU])
  | m n ks=>
    rcases h2 with h2| ⟨k2,hk,h2⟩
    ·exact gU h1 h2 (by simp[Loc.wU])
    ·exact gU h1 h2 (by simp[Loc.wU,aj4 hk])
theorem St.ext' {σ τ:St} (h: ∀l,σ.at l=τ.at l):σ=τ:=by
 cases σ;cases τ
 congr
 ·funext n;have:=h (.t n);simpa [St.at] using this
 ·funext n;have:=h (.o n);simpa [St.at] using this
theorem lW {C:bo}: ∀ (act:Act) {σ τ σ':St} {v:V},act.run C σ=some (v,σ')→(∀l ∈ (act.cV C σ).reads,σ.xH l=τ.xH l)→
   ∃τ',act.run C τ=some (v,τ')∧act.cV C τ=act.cV C σ∧ ∀l,(l ∈ (act.cV C σ).writes→τ'.xH l=σ'.xH l)∧(l ∉ (act.cV C σ).writes→τ'.xH l=τ.xH l∧σ'.xH l=σ.xH l)
 | .done u,σ,τ,σ',v,h,_=>by
   simp only[Act.run,aiT,aiX] at h
   obtain⟨rfl,rfl⟩:=h
   exact⟨τ,rfl,rfl,fun l=> ⟨fun hl=>by simp[Act.cV] at hl,fun _=> ⟨rfl,rfl⟩⟩⟩
 | .fail,_,_,_,_,h,_=>by simp[Act.run] at h
 | .nW t k,σ,τ,σ',v,h,hr=>by
   simp only[Act.run] at h
   have e:σ.T t=τ.T t:=by have:=hr (.t t) (by simp[Act.cV]);simpa [St.xH] using this
   obtain⟨τ',h1,h2,h3⟩:=lW (k (σ.T t)) h (fun l hl=>hr l (by simp[Act.cV,hl]))
   exact⟨τ',by simp only[Act.run,←e];exact h1,by simp only[Act.cV,←e,h2],by simpa [Act.cV] using h3⟩
 | .bR r k,σ,τ,σ',v,h,hr=>by
   simp only[Act.run] at h
   have e:σ.O r=τ.O r:=by have:=hr (.o r) (by simp[Act.cV]);simpa [St.xH] using this
   obtain⟨τ',h1,h2,h3⟩:=lW (k (σ.O r)) h (fun l hl=>hr l (by simp[Act.cV,hl]))
   exact⟨τ',by simp only[Act.run,←e];exact h1,by simp only[Act.cV,←e,h2],by simpa [Act.cV] using h3⟩
 | .bO r o k,σ,τ,σ',v,h,hr=>by
   simp only[Act.run] at h
   obtain⟨τ',h1,h2,h3⟩:=lW k (τ:={τ with O:=da τ.O r o}) h (fun l hl=>by
    have:=hr l (by simp[Act.cV,hl])
    cases l with
    | t n=>simpa [St.xH] using this
    | m n ks=>rfl
    | e n ks=>rfl
    | o n=>
      simp only[St.xH,Cell.o.injEq] at this ⊢
      by_cases hn:n=r
      ·subst hn;simp[aA]
      ·simp[aX _ _ hn,this])
   refine⟨τ',by simp only[Act.run];exact h1,by simp only[Act.cV,h2],fun l=> ⟨fun hl=> ?_,fun hl=> ?_⟩⟩
   ·simp only[Act.cV,ai0] at hl
    by_cases hw:l ∈ (k.cV C {σ with O:=da σ.O r o}).writes
    ·exact(h3 l).1 hw
    · obtain⟨e1,e2⟩:=(h3 l).2 hw
      rcases hl with rfl| hl
      ·rw[e1,e2];simp[St.xH,aA]
      ·exact absurd hl hw
   ·simp only[Act.cV,ai0,not_or] at hl
    obtain⟨e1,e2⟩:=(h3 l).2 hl.2
    rw[e1,e2]
    cases l with
    | t n=>simp[St.xH]
    | m n ks=>simp[St.xH]
    | e n ks=>simp[St.xH]
    | o n=>
      have hn:n≠r:=fun e=>hl.1 (by rw[e])
      simp[St.xH,aX _ _ hn]
 | .call f asq k,σ,τ,σ',v,h,hr=>by
   simp only[Act.run] at h
   split at h
   ·rename_i res jj
    obtain⟨τ',h1,h2,h3⟩:=lW (k res) h (fun l hl=>hr l (by simp[Act.cV,jj,hl]))
    exact⟨τ',by simp only[Act.run,jj];exact h1,by simp only[Act.cV,jj,h2],by simpa [Act.cV,jj] using h3⟩
   ·simp at h
theorem TG (σ:St) (dst:Option Nat) (v:V) (n:Nat): (σ.put dst v).T n=if dst.any (fun d=>n=d) then v else σ.T n:=by
 cases dst with
 | none=>simp[St.put]
 | some d=>simp only[St.put,da,Option.any_some];by_cases h:n=d<;>simp[h]
theorem xI (σ:St) (dst:Option Nat) (v:V): (σ.put dst v).O=σ.O:=by cases dst<;>rfl
theorem gV {C:bo}: ∀ (act:Act) (σ:St) (l:Loc),l ∈ (act.cV C σ).reads∨l ∈ (act.cV C σ).writes→(∃n,l= .t n)∨ ∃n,l= .o n
 | .done _,_,l,h=>by simp[Act.cV] at h
 | .fail,_,l,h=>by simp[Act.cV] at h
 | .nW t k,σ,l,h=>by
   simp only[Act.cV,ai0] at h
   rcases h with(rfl| h) | h
   ·exact .inl ⟨_,rfl⟩
   ·exact gV _ _ l (.inl h)
   ·exact gV _ _ l (.inr h)
 | .bR r k,σ,l,h=>by
   simp only[Act.cV,ai0] at h
   rcases h with(rfl| h) | h
   ·exact .inr ⟨_,rfl⟩
   ·exact gV _ _ l (.inl h)
   ·exact gV _ _ l (.inr h)
 | .bO r o k,σ,l,h=>by
   simp only[Act.cV,ai0] at h
   rcases h with h| (rfl| h)
   ·exact gV _ _ l (.inl h)
   ·exact .inr ⟨_,rfl⟩
   ·exact gV _ _ l (.inr h)
 | .call f asq k,σ,l,h=>by
   simp only[Act.cV] at h
   split at h
   ·exact gV _ _ l h
   ·simp at h
def nD (ks:List Nat):Act→Prop
 | .done _=>True
 | .fail=>True
 | .nW _ k=> ∀v,nD ks (k v)
 | .bR _ k=> (∀o o',kV ks o=kV ks o'→k o=k o')∧ ∀o,nD ks (k o)
 | .bO .. =>False
 | .call .. =>False
theorem uo {C:bo} {ks:List Nat}: ∀ (act:Act),nD ks act→ ∀ {σ τ σ':St} {v:V},act.run C σ=some (v,σ')→(∀n,Loc.t n ∈ (act.cV C σ).reads→σ.T n=τ.T n)→(∀n,Loc.o n ∈ (act.cV C σ).reads→kV ks (σ.O n)=kV ks (τ.O n))→
   act.run C τ=some (v,τ)∧σ'=σ∧(act.cV C σ).writes=[]
 | .done u,_,σ,τ,σ',v,h,_,_=>by
   simp only[Act.run,aiT,aiX] at h
   obtain⟨rfl,rfl⟩:=h
   exact⟨rfl,rfl,rfl⟩
 | .fail,_,_,_,_,_,h,_,_=>by simp[Act.run] at h
 | .nW t k,hv,σ,τ,σ',v,h,h1,h2=>by
   simp only[Act.run] at h ⊢
   rw[←h1 t (by simp[Act.cV])]
   simp only[Act.cV]
   exact uo (k (σ.T t)) (hv _) h (fun n hn=>h1 n (by simp[Act.cV,hn])) (fun n hn=>h2 n (by simp[Act.cV,hn]))
 | .bR r k,hv,σ,τ,σ',v,h,h1,h2=>by
   simp only[Act.run] at h ⊢
   rw[←hv.1 _ _ (h2 r (by simp[Act.cV]))]
   simp only[Act.cV]
   exact uo (k (σ.O r)) (hv.2 _) h (fun n hn=>h1 n (by simp[Act.cV,hn])) (fun n hn=>h2 n (by simp[Act.cV,hn]))
 | .bO ..,hv,_,_,_,_,_,_,_=>hv.elim
 | .call ..,hv,_,_,_,_,_,_,_=>hv.elim
theorem BY {ks:List Nat} {x:aU} {k:V→Act} (h: ∀v,nD ks (k v)):nD ks (ev x k):=by
 cases x with
 | tmp t=>exact h
 | const v=>exact h v
theorem vY {E:Env} {ks:List Nat} {x k:aU}:nD ks (aM E (.lu ks x k)):=by
 simp only[aM]
 refine BY fun v=> ?_
 split
 ·refine BY fun kv=> ?_
  refine⟨fun o o' e=>congrArg (JI ks _ kv) e,fun o=> ?_⟩
  show nD ks (JI ks _ kv (kV ks o))
  generalize kV ks o=q
  unfold JI
  split
  ·split<;>trivial
  ·trivial
 ·trivial
theorem yH {E:Env} {C:bo} {o:b9} {σ τ σ':St} (h:dV E C o σ=some σ') (hr: ∀l,rd (db E C o σ) l→σ.at l=τ.at l):
  ∃τ',dV E C o τ=some τ'∧ ∀l,(wr (db E C o σ) l→τ'.at l=σ'.at l)∧(¬wr (db E C o σ) l→τ'.at l=τ.at l∧σ'.at l=σ.at l):=by
 simp only[dV] at h
 rcases uk: (cP E o).run C σ with _| ⟨v,σ1⟩
 ·rw[uk] at h;simp at h
 rw[uk] at h
 injection h with h
 subst h
 have xf:=gV (C:=C) (cP E o) σ
 obtain⟨F0,Gn⟩: ∃F,F=(cP E o).cV C σ:=⟨_,rfl⟩
 have ahP: ∀n ks,Loc.m n ks ∉ F0.writes∧Loc.e n ks ∉ F0.writes∧Loc.m n ks ∉ F0.reads:=fun n ks=>by
  rw[Gn]
  refine⟨fun hm=> ?_,fun hm=> ?_,fun hm=> ?_⟩
  ·rcases xf _ (.inr hm) with⟨_,h⟩ | ⟨_,h⟩ <;>cases h
  ·rcases xf _ (.inr hm) with⟨_,h⟩ | ⟨_,h⟩ <;>cases h
  ·rcases xf _ (.inl hm) with⟨_,h⟩ | ⟨_,h⟩ <;>cases h
 have FX: ∀ (l:Loc),l ∈ (match o.dst with| some d=> [Loc.t d] | none=> [])↔ ∃d,o.dst=some d∧l= .t d:=fun l=>by cases o.dst<;>simp
 have hF:db E C o σ=fa o.op ⟨F0.reads,(match o.dst with| some d=> [.t d] | none=> [])++F0.writes⟩:=by rw[Gn];rfl
 rw[hF] at hr ⊢
 have hT: ∀ (τ1:St),(∀n,(Loc.t n ∈ F0.writes→τ1.T n=σ1.T n)∧(Loc.t n ∉ F0.writes→τ1.T n=τ.T n∧σ1.T n=σ.T n))→ ∀n,
    ((∃d,o.dst=some d∧n=d)∨Loc.t n ∈ F0.writes→(τ1.put o.dst v).T n=(σ1.put o.dst v).T n)∧
    (¬ ((∃d,o.dst=some d∧n=d)∨Loc.t n ∈ F0.writes)→(τ1.put o.dst v).T n=τ.T n∧(σ1.put o.dst v).T n=σ.T n):=by
  intro τ1 h1 n
  rw[TG,TG]
  by_cases hd: ∃d,o.dst=some d∧n=d
  · obtain⟨d,e1,e2⟩:=hd
    simp[e1,e2]
  · have hn: (o.dst.any fun d=>decide (n=d))=false:=by
      cases e:o.dst with
      | none=>rfl
      | some d=>simp only[Option.any_some,decide_eq_false_iff_not];exact fun h=>hd ⟨d,e,h⟩
    simp only[hn,ai3,if_false]
    exact⟨fun hh=> (h1 n).1 (hh.resolve_left hd),fun hh=> (h1 n).2 fun hw=>hh (.inr hw)⟩
 by_cases hC: ∃ks x k,o.op= .lu ks x k
 ·obtain⟨ks,x,k,eK⟩:=hC
  have hva:nD ks (cP E o):=by
    unfold cP
    cases o.guard with
    | none=>simp only[eK];exact vY
    | some p=>
      obtain⟨t,want⟩:=p
      intro u
      simp only[eK]
      split
      ·split
       ·exact vY
       ·trivial
      ·trivial
      ·trivial
  simp only[eK,fa] at hr ⊢
  obtain⟨g1,rfl,g3⟩:=uo (cP E o) hva uk (τ:=τ)
    (fun n hn=>by
      have:=hr (.t n) (by simp only[rd,ai9];exact⟨.t n,by rw[Gn];exact hn,rfl⟩)
      simpa [St.at] using this)
    (fun n hn=>by
      have:=hr (.m n ks) (by simp only[rd,ai9];exact⟨.o n,by rw[Gn];exact hn,rfl⟩)
      simpa [St.at] using this)
  rw[←Gn] at g3
  refine⟨τ.put o.dst v,by simp only[dV,g1],fun l=> ?_⟩
  have ht:=hT τ (fun n=> ⟨fun hh=>by rw[g3] at hh;simp at hh,fun _=> ⟨rfl,rfl⟩⟩)
  cases l with
  | t n=>
    simp only[wr,ai6,FX,St.at,Cell.v.injEq,Loc.t.injEq]
    exact ht n
  | o n=>simp only[wr,ai6,FX,g3,St.at,xI];simp
  | m n wG=>simp only[wr,ai6,FX,g3,St.at,xI];simp
 by_cases hE: ∃ks x k,o.op= .lz ks x k
 ·obtain⟨ks,x,k,eK⟩:=hE
  simp only[eK,fa] at hr ⊢
  obtain⟨τ1,h1,h2,h3⟩:=lW (cP E o) (τ:=τ) uk (fun l hl=>by
    rw[←Gn] at hl
    rcases xf l (by rw[←Gn];exact .inl hl) with⟨n,rfl⟩ | ⟨n,rfl⟩
    ·have:=hr (.t n) hl;simpa [St.at,St.xH] using this
    ·have:=hr (.o n) hl;simpa [St.at,St.xH] using this)
  rw[←Gn] at h3
  have XS: ∀ {ρ ρ':St} {u:V},(cP E o).run C ρ=some (u,ρ')→ ∀n,kV ks (ρ'.O n)=kV ks (ρ.O n):=by
    intro ρ ρ' u hh n
    unfold cP at hh
    cases hg:o.guard with
    | none=>simp only[hg,eK] at hh;exact(Ek hh).2 n
    | some p=>
      obtain⟨t,want⟩:=p
      simp only[hg,eK,Act.run] at hh
      split at hh
      ·split at hh
       ·exact(Ek hh).2 n
       ·obtain⟨_,rfl⟩:=aZ hh;rfl
      ·obtain⟨_,rfl⟩:=aZ hh;rfl
      ·exact absurd hh au
  refine⟨τ1.put o.dst v,by simp only[dV,h1],fun l=> ?_⟩
  have ht:=hT τ1 (fun n=>by have:=h3 (.t n);simpa [St.xH] using this)
  have KM: ∀l,l ∈ ((match o.dst with| some d=> [Loc.t d] | none=> [])++F0.writes).map (asE ks)↔(∃d,o.dst=some d∧l= .t d)∨(∃n,l= .t n∧Loc.t n ∈ F0.writes)∨ ∃n,l= .e n ks∧Loc.o n ∈ F0.writes:=by
    intro l
    simp only[ai9,ai6,FX]
    constructor
    · rintro⟨x,⟨d,e1,rfl⟩ | hx,rfl⟩
      ·exact .inl ⟨d,e1,rfl⟩
      ·rcases xf x (by rw[←Gn];exact .inr hx) with⟨n,rfl⟩ | ⟨n,rfl⟩
       ·exact .inr (.inl ⟨n,rfl,hx⟩)
       ·exact .inr (.inr ⟨n,rfl,hx⟩)
    · rintro(⟨d,e1,rfl⟩ | ⟨n,rfl,hx⟩ | ⟨n,rfl,hx⟩)
      ·exact⟨.t d,.inl ⟨d,e1,rfl⟩,rfl⟩
      ·exact⟨.t n,.inr hx,rfl⟩
      ·exact⟨.o n,.inr hx,rfl⟩
  have Vy: ∀n wG,Loc.e n wG ∈ ((match o.dst with| some d=> [Loc.t d] | none=> [])++F0.writes).map (asE ks)↔wG=ks∧Loc.o n ∈ F0.writes:=fun n wG=>by
    rw[KM]
    constructor
    · rintro(⟨d,_,h⟩ | ⟨m,h,_⟩ | ⟨m,h,hx⟩)
      ·cases h
      ·cases h
      ·injection h with a b;subst a;subst b;exact⟨rfl,hx⟩
    ·rintro⟨rfl,hx⟩;exact .inr (.inr ⟨n,rfl,hx⟩)
  have hoo: ∀n,Loc.o n ∉ ((match o.dst with| some d=> [Loc.t d] | none=> [])++F0.writes).map (asE ks):=fun n=>by rw[KM];simp
  cases l with
  | t n=>
    simp only[wr,KM,St.at,Cell.v.injEq,Loc.t.injEq,reduceCtorEq,false_and,exists_false,or_false]
    have:=ht n
    refine⟨fun hh=>this.1 ?_,fun hh=>this.2 fun h'=>hh ?_⟩
    · rcases hh with hh| ⟨m,rfl,hh⟩
      ·exact .inl hh
      ·exact .inr hh
    · rcases h' with h'| h'
      ·exact .inl h'
      ·exact .inr ⟨n,rfl,h'⟩
  | o n=>
    have:=h3 (.o n)
    simp only[St.xH,Cell.o.injEq] at this
    simp only[wr,hoo,Vy,false_or,St.at,Cell.o.injEq,xI]
    exact⟨fun ⟨_,_,hh⟩=>this.1 hh,fun hh=>this.2 fun h'=>hh ⟨ks,rfl,h'⟩⟩
  | m n wG=>
    have:=h3 (.o n)
    simp only[St.xH,Cell.o.injEq] at this
    simp only[wr,hoo,Vy,false_or,St.at,Cell.m.injEq,xI]
    refine⟨fun ⟨k2,e1,e2,hh⟩=>by rw[this.1 hh],fun hh=> ?_⟩
    by_cases hw:Loc.o n ∈ F0.writes
    · by_cases e:ks=wG
      ·subst e;exact⟨XS h1 n,XS uk n⟩
      ·exact absurd ⟨ks,e,rfl,hw⟩ hh
    · obtain⟨e1,e2⟩:=this.2 hw
      rw[e1,e2];exact⟨rfl,rfl⟩
 ·have ahQ: ∀f,fa o.op f=f:=fun f=>by
    unfold fa
    split
    ·rename_i ks x k eK;exact absurd ⟨ks,x,k,eK⟩ hC
    ·rename_i ks x k eK;exact absurd ⟨ks,x,k,eK⟩ hE
    ·rfl
  rw[ahQ] at hr ⊢
  obtain⟨τ1,h1,h2,h3⟩:=lW (cP E o) (τ:=τ) uk (fun l hl=>by
    rw[←Gn] at hl
    rcases xf l (by rw[←Gn];exact .inl hl) with⟨n,rfl⟩ | ⟨n,rfl⟩
    ·have:=hr (.t n) hl;simpa [St.at,St.xH] using this
    ·have:=hr (.o n) hl;simpa [St.at,St.xH] using this)
  rw[←Gn] at h3
  refine⟨τ1.put o.dst v,by simp only[dV,h1],fun l=> ?_⟩
  have ht:=hT τ1 (fun n=>by have:=h3 (.t n);simpa [St.xH] using this)
  have hwe: ∀n ks,Loc.e n ks ∉ ((match o.dst with| some d=> [Loc.t d] | none=> [])++F0.writes):=fun n ks=>by
    simp only[ai6,FX,(ahP n ks).2.1,or_false];simp
  have Tz: ∀n,Loc.o n ∈ ((match o.dst with| some d=> [Loc.t d] | none=> [])++F0.writes)↔Loc.o n ∈ F0.writes:=fun n=>by
    simp only[ai6,FX];simp
  cases l with
  | t n=>
    simp only[wr,ai6,FX,St.at,Cell.v.injEq,Loc.t.injEq]
    exact ht n
  | o n=>
    have:=h3 (.o n)
    simp only[St.xH,Cell.o.injEq] at this
    simp only[wr,Tz,hwe,and_false,exists_false,or_false,St.at,Cell.o.injEq,xI]
    exact this
  | m n wG=>
    have:=h3 (.o n)
    simp only[St.xH,Cell.o.injEq] at this
    simp only[wr,Tz,hwe,and_false,exists_false,or_false,St.at,Cell.m.injEq,xI]
    refine⟨fun hh=>by rw[this.1 hh],fun hh=> ?_⟩
    obtain⟨e1,e2⟩:=this.2 hh
    rw[e1,e2];exact⟨rfl,rfl⟩
structure Trace (E:Env) (C:bo) (asq:List b9) (S:Nat→St) (F:Nat→eL) (W:Nat→List Nat):Prop where
 step: ∀ (i:Nat) ao,asq[i]? =some ao→dV E C ao (S i)=some (S (i+1))∧F i=db E C ao (S i)∧(∀x,x ∈ W i↔x ∈ ao.pre++ao.pre.flatMap W)∧(∀p ∈ ao.pre,p<i)∧
  ∀j,j<i→j ∈ W i∨(F j).uV (F i)=false
theorem IN {ck:List eL} {wait:List Nat} {f:eL}: ∀ {k:Nat},fits ck wait f k=true→ ∀j,j<k→j ∈ wait∨(ck.getD j ⟨[],[]⟩).uV f=false
 | 0,_,j,hj=>abV
 | k+1,h,j,hj=>by
   simp only[fits,Bool.and_eq_true,ajX,ajJ] at h
   by_cases e:j=k
   ·subst e
    rcases h.1 with h1| h1
    ·exact .inl (by simpa using h1)
    ·exact .inr h1
   ·exact IN h.2 j abV
theorem rj {α β:Type} {f g:α→List β}: ∀ {l:List α},(∀x ∈ l,f x=g x)→l.flatMap f=l.flatMap g
 | [],_=>rfl
 | x::l,h=>by
   simp only[List.flatMap_cons]
   rw[h x abW,rj fun y hy=>h y (by simp[hy])]
theorem TH {x:Nat}: ∀ {l:List Nat},x ∈ l.foldr ddI []↔x ∈ l
 | []=>Iff.rfl
 | a::l=>by
   have ih:=fun y=>TH (x:=y) (l:=l)
   show x ∈ ddI a (l.foldr ddI [])↔_
   generalize l.foldr ddI []=m at ih
   unfold ddI
   split
   ·rename_i h
    rw[ih,ai0]
    exact⟨.inr,fun k=>k.elim (fun e=>e ▸ (ih a).1 (by simpa using h)) id⟩
   ·rw[ai0,ai0,ih]
theorem yI {E:Env} {C:bo}: ∀ (l:List b9) (ck:List eL) (before:List (List Nat)) (σ σ':St),ck.length=before.length→eE E C l ck before σ=some σ'→
   ∃ (S:Nat→St) (F:Nat→eL) (W:Nat→List Nat),S ck.length=σ∧S (ck.length+l.length)=σ'∧(∀k,k<ck.length→F k=ck.getD k ⟨[],[]⟩∧W k=before.getD k [])∧
    ∀ ( i:Nat) ao,l[i]? =some ao→dV E C ao (S (ck.length+i))=some (S (ck.length+i+1))∧F (ck.length+i)=db E C ao (S (ck.length+i))∧
       (∀x,x ∈ W (ck.length+i)↔x ∈ ao.pre++ao.pre.flatMap W)∧(∀p ∈ ao.pre,p<ck.length+i)∧ ∀j,j<ck.length+i→j ∈ W (ck.length+i)∨(F j).uV (F (ck.length+i))=false
 | [],ck,before,σ,σ',hl,h=>by
   simp only[eE,aiT] at h
   subst h
   exact⟨fun _=>σ,fun k=>ck.getD k ⟨[],[]⟩,fun k=>before.getD k [],rfl,rfl,fun k _=> ⟨rfl,rfl⟩,fun i ao hi=>by simp at hi⟩
 | o::l,ck,before,σ,σ',hl,h=>by
   simp only[eE] at h
   split at h
   ·rename_i hf
    simp only[Bool.and_eq_true,aiY,decide_eq_true_eq] at hf
    split at h
    ·  rename_i σ1 h1
       obtain⟨S,F,W,s1,s2,s3,s4⟩:=yI l (ck++[db E C o σ]) (before++[closure before o.pre]) σ1 σ' (by simp[hl]) h
       simp only[List.length_append,List.length_singleton] at s1 s2 s3 s4
       let S':Nat→St:=fun k=>if k=ck.length then σ else S k
       have e1:S' (ck.length+1)=σ1:=by simp[S',s1]
       have e2: ∀k,ck.length<k→S' k=S k:=fun k hk=>by simp[S'];intro e;omega
       have UG:F ck.length=db E C o σ:=by
        have:=(s3 ck.length abV).1
        simpa using this
       have hWk:W ck.length=closure before o.pre:=by
        have:=(s3 ck.length abV).2
        rw[hl] at this
        simpa [hl] using this
       have adM: ∀k,k<ck.length→W k=before.getD k []:=fun k hk=>by
        have:=(s3 k abV).2
        rw[this]
        simp[ajw (show k<before.length by omega)]
       have adN: ∀k,k<ck.length→F k=ck.getD k ⟨[],[]⟩:=fun k hk=>by
        have:=(s3 k abV).1
        rw[this]
        simp[ajw hk]
       refine⟨S',F,W,by simp[S'],?_,fun k hk=> ⟨adN k hk,adM k hk⟩,fun i ao hi=> ?_⟩
       ·rw[e2 _ abW]
        rw[←s2];congr 1;simp;omega
       ·cases i with
        | zero=>
          simp at hi
          subst hi
          simp only[akl]
          have hS:S' ck.length=σ:=by simp[S']
          rw[hS,e1]
          refine⟨h1,UG,?_,hf.2,fun j hj=> ?_⟩
          ·intro x
           rw[hWk,closure,TH,rj fun p hp=> (adM p (hf.2 p hp)).symm]
          ·rw[UG,hWk,adN j hj]
           exact IN hf.1 j hj
        | succ i=>
          have:=s4 i ao (by simpa using hi)
          have ea:ck.length+1+i=ck.length+(i+1):=abV
          rw[ea] at this
          rw[e2 _ abV,e2 _ abV]
          exact this
    ·simp at h
   ·simp at h
open Classical in
noncomputable def pC (S:Nat→St) (F:Nat→eL) (D:Nat→Bool) (l:Lm):Nat→Cell
 | 0=> (S 0).at l
 | i+1=>if D i=true∧wr (F i) l then(S (i+1)).at l else pC S F D l i
theorem uq {S:Nat→St} {F:Nat→eL} {D D':Nat→Bool} {l:Lm}: ∀ {n:Nat},(∀i,i<n→wr (F i) l→D i=D' i)→pC S F D l n=pC S F D' l n
 | 0,_=>rfl
 | n+1,h=>by
   simp only[pC]
   rw[uq fun i hi=>h i abV]
   by_cases hl:wr (F n) l
   ·rw[h n abV hl]
   ·simp[hl]
theorem sx {  S:Nat→St} {F:Nat→eL} {D:Nat→Bool} {l:Lm} {m:Nat}: ∀ {n:Nat},m≤n→(∀i,m≤i→i<n→wr (F i) l→D i=false)→pC S F D l n=pC S F D l m
 | 0,h,_=>by have:m=0:=abV
             subst this;rfl
 | n+1,h,hh=>by
   by_cases e:m=n+1
   ·subst e;rfl
   ·simp only[pC]
    rw[if_neg (by rintro⟨h1,h2⟩;have:=hh n abV abV h2;simp[this] at h1)]
    exact sx abV fun i h1 h2=>hh i h1 abV
theorem BZ {E:Env} {C:bo} {asq:List b9} {S:Nat→St} {F:Nat→eL} {W:Nat→List Nat} (tr:Trace E C asq S F W) {D:Nat→Bool} {l:Lm}:
   ∀ {n:Nat},n≤asq.length→(∀i,i<n→D i=true)→pC S F D l n=(S n).at l
 | 0,_,_=>rfl
 | n+1,hn,hD=>by
   obtain⟨ao,Pf⟩: ∃ao,asq[n]? =some ao:=⟨asq[n],aiW abV⟩
   obtain⟨h1,h2,_⟩:=tr.step n ao Pf
   simp only[pC,hD n abV,true_and]
   split
   ·rfl
   ·rename_i hl
    rw[BZ tr abV fun i hi=>hD i abV]
    obtain⟨_,_,h3⟩:=yH h1 (τ:=S n) fun _ _=>rfl
    rw[h2] at hl
    exact((h3 l).2 fun hh=>hl ⟨hD n abV,hh⟩).2.symm
structure rk (S:Nat→St) (F:Nat→eL) (W:Nat→List Nat) (m:Nat) (D:Nat→Bool) (τ:St):Prop where
 closed: ∀i,D i=true→ ∀p ∈ W i,D p=true
 state: ∀l,τ.at l=pC S F D l m
theorem CU {E:Env} {C:bo} {asq:List b9} {S:Nat→St} {F:Nat→eL} {W:Nat→List Nat} (tr:Trace E C asq S F W) {D:Nat→Bool} {τ:St} (hA:rk S F W asq.length D τ)
  {j:Nat} {ao:b9} (hj:asq[j]? =some ao) (hD:D j=false) (vy: ∀p ∈ ao.pre,D p=true):
  ∃τ',dV E C ao τ=some τ'∧rk S F W asq.length (fun i=>i==j || D i) τ':=by
 obtain⟨h1,h2,h3,h4,h5⟩:=tr.step j ao hj
 have E2:j<asq.length:=(aiS.1 hj).1
 have hW: ∀p ∈ W j,D p=true:=by
  simp only[h3]
  intro p hp
  simp only[ai6,List.mem_flatMap] at hp
  rcases hp with hp| ⟨q,hq,hp⟩
  ·exact vy p hp
  ·exact hA.closed q (vy q hq) p hp
 have key: ∀i,i≠j→i<asq.length→Pg (F i) (F j)→(D i=true↔i<j):=by
  intro i cL hi hc
  rcases akn i j with bl| oO
  ·refine⟨fun _=>bl,fun _=> ?_⟩
   rcases h5 i bl with h| h
   ·exact hW i h
   ·rw[hc.uV] at h;cases h
  ·have hgt:j<i:=abV
   refine⟨fun hDi=> ?_,fun h=>abV⟩
   obtain⟨ao',ahR⟩: ∃ao',asq[i]? =some ao':=⟨asq[i],aiW hi⟩
   obtain⟨_,_,_,_,g5⟩:=tr.step i ao' ahR
   rcases g5 j hgt with h| h
   ·have:=hA.closed i hDi j h
    rw[hD] at this;cases this
   ·rw[hc.symm.uV] at h;cases h
 have agree: ∀l,rd (F j) l→(S j).at l=τ.at l:=by
  intro l hl
  rw[hA.state l]
  have e1:pC S F D l asq.length=pC S F D l j:=sx abV fun i sM Io hw=>by
   by_cases e:i=j
   ·subst e;exact hD
   ·have:=key i e Io ⟨l,.inr (.inl ⟨hw,hl⟩)⟩
    cases hDi:D i with
    | false=>rfl
    | true=>have:=this.1 hDi;omega
  have e2:pC S F D l j=pC S F (fun i=>decide (i<j)) l j:=uq fun i hi hw=>by
   have:=(key i abV abV ⟨l,.inr (.inl ⟨hw,hl⟩)⟩).2 hi
   simp[this,hi]
  rw[e1,e2]
  exact(BZ tr abV fun i hi=>by simp[hi]).symm
 rw[h2] at agree
 obtain⟨τ',k1,k2⟩:=yH h1 agree
 rw[←h2] at k2
 refine⟨τ',k1,fun i hi p hp=> ?_,fun l=> ?_⟩
 ·simp only[ajX,beq_iff_eq] at hi ⊢
  rcases hi with rfl| hi
  ·exact .inr (hW p hp)
  ·exact .inr (hA.closed i hi p hp)
 ·by_cases hl:wr (F j) l
  ·rw[(k2 l).1 hl]
   have e1:pC S F (fun i=>i==j || D i) l asq.length=pC S F (fun i=>i==j || D i) l (j+1):=sx abV fun i sM Io hw=>by
    have cL:i≠j:=abV
    have:=key i cL Io ⟨l,.inl ⟨hw,hl⟩⟩
    cases hDi:D i with
    | false=>simp[cL,hDi]
    | true=>have:=this.1 hDi;omega
   rw[e1]
   simp[pC,hl]
  ·rw[((k2 l).2 hl).1,hA.state l]
   exact uq fun i _ hw=>by
    by_cases e:i=j
    ·subst e;exact absurd hw hl
    ·simp[e]
theorem FY {E:Env} {C:bo} {asq:List b9} {S:Nat→St} {F:Nat→eL} {W:Nat→List Nat} (tr:Trace E C asq S F W) {D:Nat→Bool} {τ:St} (hA:rk S F W asq.length D τ)
  (iO: ∀i,i<asq.length→D i=true):τ=S asq.length:=
 St.ext' fun l=>by rw[hA.state l,BZ tr (aiZ _) iO]
section
variable {X:Ctx} {E:Env} {C:bo} {μ0:Mu} {n:Fp}
theorem TJ {σ:St} {a:Go.Act} {w:World} (h:jY X μ0 n σ a w):jY X μ0 n σ a {w with drawn:=w.drawn+1}:=by
 obtain⟨h1,h2,φ,hr,hle⟩:=h
 obtain⟨led,hod⟩:=Le.drew (X:=X) (μ:=⟨w,φ,σ.O⟩) hr.bg
 exact⟨h1,h2,φ,⟨fun t=>aj.mono led (hr.tmps t),hod⟩,hle.trans led⟩
theorem Ph ( H:rf X E C) {h:Hints} {ops:Array Oper} {asq:List b9} (hn:h.n=n.1) (aO:iJ X h ops ops.toList=some asq) {S:Nat→St} {F:Nat→eL} {W:Nat→List Nat}
   (tr:Trace E C asq S F W) {Q:Go.Exit→Go.Act→World→Prop} (hQ: ∀a w,jY X μ0 n (S asq.length) a w→Q .normal a w):
   ∀ (fuel:Nat) (ar:Array Bool) (τ:St) (a:Go.Act) (w:World),ar.size=ops.size→((List.range ops.size).filter fun i=> !ar.getD i true).length≤fuel→
     rk S F W asq.length (fun i=>ar.getD i false) τ→jY X μ0 n τ a w→wpAnyIn (Fr n.ro) 0 X.P .any ops Q fuel ar a w:=by
 obtain⟨hlen,eS⟩:=nC aO
 have yy:asq.length=ops.size:=by simpa using hlen
 have ready: ∀ (ar:Array Bool) (j:Nat),j ∈ Region.ready .any ops ar→ ∃o ao,ops[j]? =some o∧asq[j]? =some ao∧nR X h ops o=some ao∧ar.getD j true=false∧ ∀p ∈ ao.pre,ar.getD p false=true:=by
   intro ar j hj
   simp only[Region.ready,ake,List.mem_range,Bool.and_eq_true,ajJ] at hj
   obtain⟨bl,hl,hr⟩:=hj
   have ho:ops[j]? =some ops[j]:=by simp[bl]
   obtain⟨ao,Pf,oH⟩:=eS j ops[j] (by simp[bl])
   refine⟨_,ao,ho,Pf,oH,hl,fun p hp=> ?_⟩
   rw[ho] at hr
   simp only[ai4,akS] at hr
   have vy:ao.pre=(ops[j].after.toList.filter (Region.binds .any)).map (·.on):=by
     unfold nR at oH
     simp only at oH
     split at oH
     ·injection oH with oH;rw[←oH]
     ·simp at oH
   rw[vy] at hp
   simp only[ai9,ake] at hp
   obtain⟨e,⟨YO,UA⟩,rfl⟩:=hp
   rw[Array.all_eq_true'] at hr
   have:=hr e (by simpa using YO)
   simpa [UA] using this
 have done: ∀ (ar:Array Bool),Region.ready .any ops ar=[]→ar.size=ops.size→ ∀i,i<asq.length→ar.getD i false=true:=by
   intro ar Pj bI i
   induction i using Nat.strongRecOn with
   | _ i ih=>
     intro hi
     cases hl:ar.getD i false with
     | true=>rfl
     | false=>
       exfalso
       have bl:i<ops.size:=abV
       have jU:i<ar.size:=abV
       have hlT:ar.getD i true=false:=by simpa [jU] using hl
       obtain⟨ao,Pf,oH⟩:=eS i ops[i] (by simp[bl])
       obtain⟨_,_,_,xf,_⟩:=tr.step i ao Pf
       have vy:ao.pre=(ops[i].after.toList.filter (Region.binds .any)).map (·.on):=by
         unfold nR at oH
         simp only at oH
         split at oH
         ·injection oH with oH;rw[←oH]
         ·simp at oH
       have:i ∈ Region.ready .any ops ar:=by
         simp only[Region.ready,ake,List.mem_range,Bool.and_eq_true,ajJ]
         refine⟨bl,hlT,?_⟩
         have ho:ops[i]? =some ops[i]:=by simp[bl]
         rw[ho]
         simp only[ai4,akS]
         rw[Array.all_eq_true']
         intro e he
         cases hb:Region.binds .any e with
         | false=>simp
         | true=>
           have hm:e.on ∈ ao.pre:=by
            rw[vy];simp only[ai9,ake]
            exact⟨e,⟨by simpa using he,hb⟩,rfl⟩
           have h1:=xf _ hm
           simpa using ih e.on h1 abV
       rw[Pj] at this
       cases this
 have finish: ∀ (ar:Array Bool) (τ:St) (a:Go.Act) (w:World),ar.size=ops.size→rk S F W asq.length (fun i=>ar.getD i false) τ→jY X μ0 n τ a w→Region.ready .any ops ar=[]→Q .normal a w:=by
   intro ar τ a w bI hA hs Pj
   have:=FY tr hA (done ar Pj bI)
   exact hQ a w (this ▸ hs)
 intro fuel
 induction fuel with
 | zero=>
   intro ar τ a w bI hf hA hs
   have Pj:Region.ready .any ops ar=[]:=by
     simp only[Nat.le_zero,ajT,List.filter_eq_nil_iff,List.mem_range] at hf
     simp only[Region.ready,List.filter_eq_nil_iff,List.mem_range]
     intro i hi
     have:=hf i hi
     simp at this
     simp[this]
   exact⟨Pj,finish ar τ a w bI hA hs Pj⟩
 | succ fuel ih=>
   intro ar τ a w bI hf hA hs
   refine⟨finish ar τ a w bI hA hs,fun j hj=> ?_⟩
   obtain⟨o,ao,ho,Pf,oH,hl,vy⟩:=ready ar j hj
   have E2:j<ops.size:=by rw[←yy];exact(aiS.1 Pf).1
   have hlF:ar.getD j false=false:=by
     have h1:j<ar.size:=abV
     simpa [h1] using hl
   obtain⟨τ',k1,k2⟩:=CU tr hA Pf hlF vy
   refine mD H ho oH hn hs k1 fun a' w' jE=>ih _ τ' a' w' (by simpa using bI) ?_ ?_ jE
   ·
     have QD: ∀ (L:List Nat),L.Nodup→j ∈ L→(L.filter fun i=> !(ar.setIfInBounds j true).getD i true).length+1≤(L.filter fun i=> !ar.getD i true).length:=by
       intro L
       induction L with
       | nil=>intro _ h;cases h
       | cons x L ihL=>
         intro Pl hm
         have cL: ∀i,i≠j→(ar.setIfInBounds j true).getD i true=ar.getD i true:=fun i hi=>by
           simp[ajU (fun e=>hi e.symm)]
         have hjt: (ar.setIfInBounds j true).getD j true=true:=by
           have h1:j<ar.size:=abV
           simp[h1]
         by_cases e:x=j
         · subst e
           have eX: (L.filter fun i=> !(ar.setIfInBounds x true).getD i true)=L.filter fun i=> !ar.getD i true:=by
            apply List.filter_congr
            intro i hi
            have:i≠x:=fun e=>by rw[akE] at Pl;exact Pl.1 (e ▸ hi)
            rw[cL i this]
           simp only[List.filter_cons,hjt,hl,eX]
           simp
         · have Gp:j ∈ L:=by
            rcases ai0.1 hm with h1| h1
            ·exact absurd h1.symm e
            ·exact h1
           have:=ihL (akE.1 Pl).2 Gp
           simp only[List.filter_cons,cL x e]
           split
           ·simp only[ai5];omega
           ·omega
     have:=QD (List.range ops.size) List.nodup_range (by simp[E2])
     omega
   · have ahS: (fun i=>i==j || ar.getD i false)=fun i=> (ar.setIfInBounds j true).getD i false:=by
       funext i
       have h1:j<ar.size:=abV
       by_cases e:i=j
       ·subst e;simp[h1]
       ·simp[e,ajU (fun e'=>e e'.symm)]
     rw[ahS] at k2
     exact k2
theorem IP (H:rf X E C) {h:Hints} (hm:X.P.follows .mixedOrders=true) {ops:Array Oper} {asq:List b9} (hn:h.n=n.1) (aO:iJ X h ops ops.toList=some asq) {id:Nat}
  {σ σ':St} {a:Go.Act} {w:World} (hs:jY X μ0 n σ a w) (ah:eE E C asq [] [] σ=some σ') {Q:Go.Exit→Go.Act→World→Prop} (hQ: ∀a' w',jY X μ0 n σ' a' w'→Q .normal a' w'):
  (Code.region id ops true).wpIn (Fr n.ro) 0 X.P Q a w:=by
 obtain⟨S,F,W,s1,s2,_,s4⟩:=yI asq [] [] σ σ' rfl ah
 simp only[ajc,ajF] at s1 s2 s4
 have tr:Trace E C asq S F W:=⟨fun i ao hi=>s4 i ao hi⟩
 refine wpIn_region_any hm ?_
 refine Ph H hn aO tr (by rw[s2];exact hQ) ops.size _ σ _ _ abW ?_ ?_ (TJ hs)
 ·exact ajb (List.length_filter_le _ _) abW
 ·have TK: ∀i,(Array.replicate ops.size false).getD i false=false:=fun i=>by
   simp only[Array.getD_eq_getD_getElem?,aku];split<;>rfl
  refine⟨(fun i hi=>by rw[TK i] at hi;cases hi),fun l=> ?_⟩
  rw[←s1]
  have:pC S F (fun i=> (Array.replicate ops.size false).getD i false) l asq.length=pC S F (fun i=> (Array.replicate ops.size false).getD i false) l 0:=sx (ajG _) fun i _ _ _=>TK i
  rw[this];rfl
end
end Go.AM
namespace Go.AM
open Go Go.RowKit
theorem TL {P:Program} {w:World} {ty:TypeId} {bi bm since:Nat} {seen:Array Nat} {es:Array MapEntry} (hi:w.heap[bi]? =some (.mapIter (some bm) since seen since)) (hb:w.heap[bm]? =some (.map es since)) (hold: ∀x ∈ es.toList,x.born<since):
  ((leftOf es seen).size=0∧(Instr.next (.pointer (some ⟨bi,0,none⟩)) false ty).run P w= .ok (.tuple #[.bool false]) w)∨
  ∃e ∈ (leftOf es seen).toList,∃d,(Instr.next (.pointer (some ⟨bi,0,none⟩)) false ty).run P w= .ok (.tuple #[.bool true,e.key,e.val]) {w with drawn:=w.drawn+d,heap:=w.heap.setIfInBounds bi (.mapIter (some bm) since (seen.push e.born) since)}:=by
 simp only[Instr.next,getObj,Sem.run_bind,Sem.run,hi,hb,Result.andThen,next_test_false seen es since since hold (aiZ _),ai3,if_false]
 unfold leftOf
 have kC: ∀x ∈ (Array.filter (fun e=> !seen.contains e.born) es).toList,x.born<since:=fun x hx=>hold x (by simp at hx ⊢;exact hx.1)
 generalize Array.filter (fun e=> !seen.contains e.born) es=L at kC ⊢
 have e1:L.filter (fun x=>decide (x.born<since))=L:=Array.filter_eq_self.2 (fun x hx=>by simpa using kC x (by simpa using hx))
 have e2:L.filter (fun x=>decide (x.born≥since))= #[]:=by
  rw[Array.filter_eq_empty_iff]
  intro x hx
  have:=kC x (by simpa using hx)
  simp
  omega
 simp only[e1,e2,Array.append_empty]
 by_cases h0:L.size=0
 ·left
  have:L= #[]:=Array.eq_empty_of_size_eq_zero h0
  subst this
  refine⟨rfl,?_⟩
  simp[choose,Sem.run,Question.forced]
 ·right
  have cL:L.isEmpty=false:=by simp[Array.isEmpty,h0]
  simp only[cL,ai3,if_false,Array.empty_append,Array.size_map]
  have hch: ∃ (j d:Nat),j<L.size∧(choose (Question.mapNext L.size)).run P w= .ok j {w with drawn:=w.drawn+d}:=by
   by_cases hf:L.size≤1
   ·exact⟨0,0,abV,by simp[choose,Sem.run,Question.forced,hf]⟩
   ·exact⟨w.tape w.drawn (Question.mapNext L.size) % L.size,1,Nat.mod_lt _ abV,by
     simp only[choose,Sem.run,Question.forced,decide_eq_true_eq,hf,if_false,Question.cut]⟩
  obtain⟨j,d,hj,ah⟩:=hch
  refine⟨L[j],abW,d,?_⟩
  have pS: ∀ (o':Go.Obj),(setObj bi o').run P {w with drawn:=w.drawn+d}= .ok () {w with drawn:=w.drawn+d,heap:=w.heap.setIfInBounds bi o'}:=fun o'=>by
   simp only[setObj,Sem.run,hi]
  simp only[ah,Array.getElem?_map,ajd hj,ai4,Sem.run_bind,pS,Result.andThen]
  rfl
theorem TM {P:Program} {w:World} {ty:TypeId} {bi a b:Nat} {s:Array Nat} (hi:w.heap[bi]? =some (.mapIter none a s b)):
  (Instr.next (.pointer (some ⟨bi,0,none⟩)) false ty).run P w= .ok (.tuple #[.bool false]) w:=by
 simp only[Instr.next,getObj,Sem.run_bind,Sem.run,hi,Result.andThen]
 rfl
structure iT (X:Ctx) (μ:Mu) (w':World):Prop where
 cell: ∀a c,μ.w.cell? a=some c→w'.cell? a=some c
 map: ∀ (a:Nat) ents clock,μ.w.heap[a]? =some (.map ents clock)→w'.heap[a]? =some (.map ents clock)
 size:μ.w.heap.size≤w'.heap.size
section
variable {X:Ctx} {μ:Mu} {w':World}
theorem iT.row (h:iT X μ w') {b off sz:Nat} {vs:List Value} (hr:dH μ.w b off sz vs):dH w' b off sz vs:=
 fun i v hv=> ⟨(hr i v hv).1,fun j c hc=>h.cell _ _ ((hr i v hv).2 j c hc)⟩
mutual
theorem aj.cq (h:iT X μ w'): ∀ {x:V} {v:Value},aj X μ x v→aj X ⟨w',μ.φ,μ.O⟩ x v
 | .bool _,_,k| .int ..,_,k| .float _,_,k| .str _,_,k| .nilp,_,k| .nilfn,_,k| .nili,_,k| .nils,_,k| .sl ..,_,k| .ptr ..,_,k| .mp ..,_,k| .it ..,_,k=>by simpa [aj] using k
 | .any,_,_=>by simp[aj]
 | .own ..,_,k| .msl ..,_,k| .mptr ..,_,k=>by simp[aj] at k
 | .agg cs,_,k=>by
   simp only[aj] at k ⊢
   obtain⟨h1,vs,rfl,h2⟩:=k
   exact⟨h1,vs,rfl,ag.cq h h2⟩
 | .tuple cs,_,k=>by
   simp only[aj] at k ⊢
   obtain⟨vs,rfl,h2⟩:=k
   exact⟨vs,rfl,ag.cq h h2⟩
 | .bfn f cs,_,k=>by
   simp only[aj] at k ⊢
   obtain⟨F,cv,rfl,h1,h2⟩:=k
   exact⟨F,cv,rfl,h1,ag.cq h h2⟩
 | .fn f cs,_,k=>by
   simp only[aj] at k ⊢
   obtain⟨F,cv,rfl,h1,h2⟩:=k
   exact⟨F,cv,rfl,h1,ag.cq h h2⟩
 | .iface t x,_,k=>by
   simp only[aj] at k ⊢
   obtain⟨F,y,rfl,h1,h2⟩:=k
   exact⟨F,y,rfl,h1,aj.cq h h2⟩
 | .lit sz xs,_,k=>by
   simp only[aj] at k ⊢
   obtain⟨h0,jX,a,cap,vs,rfl,h1,h2,h3⟩:=k
   refine⟨h0,jX,a,cap,vs,rfl,h1,ag.cq h h2,h3.imp id ?_⟩
   rintro⟨b,o,rfl,hb,hs,hr⟩
   exact⟨b,o,rfl,hb,ai2 hs h.size,h.row hr⟩
 | .litk sz xs,_,k=>by
   simp only[aj] at k ⊢
   obtain⟨h0,jX,a,cap,vs,rfl,h1,h2,h3⟩:=k
   refine⟨h0,jX,a,cap,vs,rfl,h1,ag.cq h h2,h3.imp id ?_⟩
   rintro⟨rfl,hb,hs,hr⟩
   exact⟨rfl,hb,ai2 hs h.size,h.row hr⟩
 | .eptr e off,_,k=>by
   simp only[aj] at k ⊢
   obtain⟨h0,jX,b,o,sz,x,rfl,hb,hs,h1,hr⟩:=k
   exact⟨h0,jX,b,o,sz,x,rfl,hb,ai2 hs h.size,aj.cq h h1,h.row hr⟩
 | .epk i sz e off,_,k=>by
   simp only[aj] at k ⊢
   obtain⟨h0,jX,x,rfl,hb,hs,h1,hr⟩:=k
   exact⟨h0,jX,x,rfl,hb,ai2 hs h.size,aj.cq h h1,h.row hr⟩
 | .mlit es,_,k=>by
   simp only[aj] at k ⊢
   obtain⟨h0,k⟩:=k
   refine⟨h0,k.imp id ?_⟩
   rintro⟨a,ents,clock,rfl,hb,hs,h1,h2⟩
   exact⟨a,ents,clock,rfl,hb,ai2 hs h.size,⟨h.map _ _ _ h1.1,h1.2⟩,ag.cq h h2⟩
theorem ag.cq (h:iT X μ w'): ∀ {xs:List V} {vs:List Value},ag X μ xs vs→ag X ⟨w',μ.φ,μ.O⟩ xs vs
 | [],[],_=>by simp[ag]
 | [],_::_,k=>by simp[ag] at k
 | _::_,[],k=>by simp[ag] at k
 | x::xs,v::vs,k=>by
   simp only[ag] at k ⊢
   exact⟨aj.cq h k.1,ag.cq h k.2⟩
end
theorem bk.cq (h:iT X μ w') (ho:bk X μ) (hb: ∀r,(μ.O r).es.isSome=true→(μ.φ r).cap≠0→w'.heap[(μ.φ r).bY]? =μ.w.heap[(μ.φ r).bY]?):bk X ⟨w',μ.φ,μ.O⟩ where
 ok:=fun r es bq=>by
  have PS: (μ.O r).es.isSome=true:=by rw[bq];rfl
  rcases ho.ok r es bq with⟨h1,h2,h3,h4⟩ | ⟨h1,h2,ob,h3,h4⟩
  ·refine .inl ⟨h1,h2,h3,?_⟩
   rcases h4 with h4| ⟨c,T,vs,k1,k2,k3,k4⟩
   ·exact .inl h4
   ·by_cases hc: (μ.φ r).cap=0
    ·exact .inl hc
    ·exact .inr ⟨c,T,vs,by show w'.heap[(μ.φ r).bY]? =_;rw[hb r PS hc];exact k1,k2,ag.cq h k3,h.row k4⟩
  ·refine .inr ⟨h1,h2,ob,by show w'.heap[(μ.φ r).bY]? =_;rw[hb r PS h2];exact h3,?_⟩
   rcases h4 with⟨ents,clock,k1,k2,k3⟩ | k| ⟨mo,since,mY,k1,k2,k3⟩
   ·exact .inl ⟨ents,clock,k1,ag.cq h k2,k3⟩
   ·exact .inr (.inl k)
   ·refine .inr (.inr ⟨mo,since,mY,k1,k2,k3.imp id ?_⟩)
    rintro⟨m,ents,l1,l2,l3,l4,l5,l6⟩
    exact⟨m,ents,l1,l2,ai2 l3 h.size,h.map _ _ _ l4,l5,ag.cq h l6⟩
 inj:=ho.inj
 uz:=ho.uz
 blt:=fun b kK=>ai2 (ho.blt b kK) h.size
end
theorem El {X:Ctx} {w:World} {φ:Nat→Row} {O O':Nat→Obj} (ho:bk X ⟨w,φ,O⟩) (h: ∀r,O' r=O r∨(O' r).es=none∧((O r).gen< (O' r).gen∨(O' r).gen=(O r).gen∧(O' r).sz=(O r).sz)):
  Le ⟨w,φ,O⟩ ⟨w,φ,O'⟩∧bk X ⟨w,φ,O'⟩:=by
 have XT: ∀r es,(O' r).es=some es→O' r=O r:=fun r es bq=>by
  rcases h r with h| ⟨h,_⟩
  ·exact h
  ·rw[h] at bq;simp at bq
 have PS: ∀r,(O' r).es.isSome=true→O' r=O r:=fun r hr=>by
  obtain⟨es,bq⟩:=ai1.1 hr
  exact XT r es bq
 have jy: ∀b,(Mu.mk w φ O').own b→(Mu.mk w φ O).own b:=by
  rintro b ⟨r,h1,h2,h3,h4⟩
  have e:=PS r h1
  have Gz: (O' r).es.isSome=true:=h1
  have NF: (O' r).fz=false:=h2
  rw[e] at Gz NF
  exact⟨r,Gz,NF,h3,h4⟩
 have le:Le ⟨w,φ,O⟩ ⟨w,φ,O'⟩:=by
  refine⟨aiZ _,fun b _ hn=> ⟨rfl,fun h'=>hn (jy b h')⟩,fun r=> ?_,fun r e=> ?_,rfl,rfl,rfl,fun _ _=>rfl⟩
  ·show (O r).gen≤(O' r).gen
   rcases h r with h| ⟨_,h| ⟨h,_⟩⟩
   ·rw[h];exact aiZ _
   ·omega
   ·omega
  ·have e': (O' r).gen=(O r).gen:=e
   refine⟨rfl,?_⟩
   show (O' r).sz=(O r).sz
   rcases h r with h| ⟨_,h| ⟨_,h⟩⟩
   ·rw[h]
   ·omega
   ·exact h
 refine⟨le,fun r es bq=> ?_,fun r r' cL h1 h2 h3 h4=> ?_,fun r h1 h2=> ?_,ho.blt⟩
 ·have e:=XT r es bq
  have fG: (O r).es=some es:=by rw[←e];exact bq
  exact gu.bS (r:=r) (r':=r) le (ho.ok r es fG) (by show (O' r).sz=(O r).sz;rw[e]) rfl fun _=>rfl
 ·have Gz: (O' r).es.isSome=true:=h1
  have NF: (O' r').es.isSome=true:=h2
  rw[PS r Gz] at Gz
  rw[PS r' NF] at NF
  exact ho.inj r r' cL Gz NF h3 h4
 ·have Gz: (O' r).es.isSome=true:=h1
  rw[PS r Gz] at Gz
  exact ho.uz r Gz h2
def jM (Z:List (V×MapEntry)) (seen:Array Nat):List (V×MapEntry):=Z.filter fun z=> !seen.contains z.2.born
theorem Em {Z:List (V×MapEntry)} {ents:Array MapEntry} (h:Z.map (·.2)=ents.toList) (seen:Array Nat): (jM Z seen).map (·.2)=(leftOf ents seen).toList:=by
 unfold jM leftOf
 rw[Array.toList_filter,←h,List.filter_map]
 rfl
theorem yJ {α:Type} (f:α→Nat): ∀ {l:List α} {z:α},z ∈ l→(l.map f).Nodup→l.Perm (z::l.filter fun x=> !(f x==f z))
 | a::l,z,hz,hn=>by
   rw[List.map_cons,akE] at hn
   rcases ai0.1 hz with rfl| hz
   ·have:l.filter (fun x=> !(f x==f z))=l:=akw.2 fun x hx=>by
     have:f x≠f z:=fun e=>hn.1 (e ▸ ai9.2 ⟨x,hx,rfl⟩)
     simpa using this
    simp[this]
   ·have cL: ¬ (f a=f z):=fun e=>hn.1 (e ▸ ai9.2 ⟨z,hz,rfl⟩)
    have ih:=yJ f hz hn.2
    have: (a::l).filter (fun x=> !(f x==f z))=a::l.filter (fun x=> !(f x==f z)):=by
     rw[akx (by simpa using cL)]
    rw[this]
    exact(ih.cons a).trans (.swap z a _)
theorem Ln {Z:List (V×MapEntry)} {seen:Array Nat} (hn: (Z.map fun z=>z.2.born).Nodup) {z:V×MapEntry} (hz:z ∈ jM Z seen): (jM Z seen).Perm (z::jM Z (seen.push z.2.born)):=by
 have h1: ((jM Z seen).map fun z=>z.2.born).Nodup:=hn.sublist (List.filter_sublist.map _)
 have h2:=yJ (fun z:V×MapEntry=>z.2.born) hz h1
 have h3: (jM Z seen).filter (fun x=> !(x.2.born==z.2.born))=jM Z (seen.push z.2.born):=by
  unfold jM
  rw[List.filter_filter]
  refine List.filter_congr fun x _=> ?_
  rw[contains_push]
  cases seen.contains x.2.born<;>cases (x.2.born==z.2.born) <;>rfl
 rw[h3] at h2
 exact h2
theorem IQ {X:Ctx} {μ:Mu}: ∀ {es:List V} {l:List MapEntry},ag X μ es (l.map fun e=>Value.tuple #[e.key,e.val])→ ∃Z:List (V×MapEntry),Z.map (·.1)=es∧Z.map (·.2)=l∧ ∀z ∈ Z,aj X μ z.1 (.tuple #[z.2.key,z.2.val])
 | [],[],_=> ⟨[],rfl,rfl,abW⟩
 | [],_::_,h=>by simp[ag] at h
 | _::_,[],h=>by simp[ag] at h
 | x::es,e::l,h=>by
   simp only[List.map_cons,ag] at h
   obtain⟨Z,h1,h2,h3⟩:=IQ h.2
   refine⟨(x,e)::Z,by simp[h1],by simp[h2],fun z hz=> ?_⟩
   rcases ai0.1 hz with rfl| hz
   ·exact h.1
   ·exact h3 z hz
section
variable {X:Ctx} {E:Env} {n:Fp}
def FZ (X:Ctx) (n:Fp) (ops:Array Oper) (y:Code) (rec:aY→St→Option (aR×St)) (tb:aY):Prop:=
 ∀ (σ σ':St) (e:aR) (μ0:Mu) (a:Go.Act) (w:World) (Q K:Go.Exit→Go.Act→World→Prop),rec tb σ=some (e,σ')→jY X μ0 n σ a w→(∀a' w',jY X μ0 n σ' a' w'→Q (match e with| .normal=> .normal| .exit id=> .exit id| .ret=> .ret) a' w')→
  (∀a' w',y.wpIn (Fr n.ro) 0 X.P Q a' w'→K .normal a' w')→wpOpsIn (Fr n.ro) 0 X.P ops K (List.range' 1 (ops.size - 1)) a w
def Lo (X:Ctx) (n:Fp) (ops:Array Oper) (z:Code) (b1:Nat) (rec:aY→St→Option (aR×St)) (tm:aY):Prop:=
 ∀ (σ σ':St) (μ0:Mu) (a:Go.Act) (w:World) (Q:Go.Exit→Go.Act→World→Prop),rec tm σ=some (.normal,σ')→jY X μ0 n σ a w→(∀a' w',jY X μ0 n σ' a' w'→Q .normal a' w')→
  wpOpsIn (Fr n.ro) 0 X.P ops (Exit.then (z.wpIn (Fr n.ro) 0 X.P (Exit.inBlock b1 Q)) (Exit.inBlock b1 Q)) (List.range' 1 (ops.size - 1)) a w
abbrev rn (i0:Nat) (ops:Array Oper) (y:Code) (b1 i5:Nat) (iA:Array Oper) (z5:Code):Code:= .seq (.region i0 ops false) (.seq y (.block b1 (.seq (.region i5 iA false) z5)))
theorem Pm {P:Program} {w:World} {bi bm since:Nat} {seen:Array Nat} {ents:Array MapEntry} {e:MapEntry} (hi:w.heap[bi]? =some (.mapIter (some bm) since (seen.push e.born) since)) (hb:w.heap[bm]? =some (.map ents since)) (he:e ∈ ents.toList) (hn: (ents.toList.map (·.born)).Nodup):
  (Instr.entry (.pointer (some ⟨bi,0,none⟩))).run P w= .ok (.tuple #[e.key,e.val]) w:=by
 have hf:ents.find? (·.born==e.born)=some e:=by
  rw[←Array.find?_toList]
  generalize ents.toList=l at he hn
  induction l with
  | nil=>simp at he
  | cons x l ih=>
    rw[List.map_cons,akE] at hn
    rw[List.find?_cons]
    rcases ai0.1 he with rfl| he
    ·simp
    ·have cL: ¬ (x.born==e.born)=true:=by
      intro h
      exact hn.1 (ai9.2 ⟨e,he,(by simpa using h:x.born=e.born).symm⟩)
     simp only[cL]
     exact ih he hn.2
 simp only[Instr.entry,getObj,Sem.run_bind,Sem.run,hi,hb,Result.andThen,Array.back?_push,bne_self_eq_false,ai3,if_false,hf]
 rfl
structure F1 (X:Ctx) (n:Fp) (μ0:Mu) (rec:aY→St→Option (aR×St)) (tl:aY) (Good:St→Prop) (a:Go.Act) (w:World):Prop where
 h: ∃σe σp,jY X μ0 n σe a w∧rec tl σe=some (.normal,σp)∧Good σp
variable {ops iA:Array Oper} {o1 o5:Oper} {y z5:Code} {it nx ne id b1 r g:Nat} {μ0:Mu} {rec:aY→St→Option (aR×St)} {tb tm tl:aY} {Good:St→Prop} {i0 i5:Nat}
theorem B0 (h0:ops[0]? =some o1) (hd: ∀c,o1.op≠ .defer c) (hg:o1.guard=none) {a:Go.Act} {w w1:World} {v:Value} (jL: (execOp a.eval o1).run X.P w= .ok (.value v) w1) {Q:Go.Exit→Go.Act→World→Prop}
  (h:wpOpsIn (Fr n.ro) 0 X.P ops Q (List.range' 1 (ops.size - 1)) (a.put o1.dst v) w1): (Code.region i0 ops false).wpIn (Fr n.ro) 0 X.P Q a w:=by
 refine wpIn_region ?_
 have bI:0 <ops.size:=(aiV.1 h0).1
 have hr:List.range ops.size=0::List.range' 1 (ops.size - 1):=by
  rw[aj7]
  obtain⟨k,hk⟩: ∃k,ops.size=k+1:=⟨ops.size - 1,abV⟩
  rw[hk,List.range'_succ]
  rfl
 rw[hr,wpOpsIn_cons]
 simp only[wpOpIn,h0]
 rw[if_pos (by simp[Region.wanted,hg])]
 refine r6 hd ?_
 unfold Oper.wp
 rw[jL,Oper.upon_value]
 exact h
theorem En (eK:o1.op= .next (.tmp it) false) {a:Go.Act} {w w1:World} {v:Value} (ah: (Instr.next (a.eval (.tmp it)) false o1.type).run X.P w= .ok v w1): (execOp a.eval o1).run X.P w= .ok (.value v) w1:=by
 simp only[execOp,eK]
 exact dy ah
theorem Lp (eK:o5.op= .entry (.tmp it)) {a:Go.Act} {w w1:World} {v:Value} (ah: (Instr.entry (a.eval (.tmp it))).run X.P w= .ok v w1): (execOp a.eval o5).run X.P w= .ok (.value v) w1:=by
 simp only[execOp,eK]
 exact dy ah
theorem Eo {Q:Go.Exit→Go.Act→World→Prop} (hQ: ∀a w,F1 X n μ0 rec tl Good a w→Q (.exit id) a w) (hB:FZ X n ops y rec tb) (h0:ops[0]? =some o1) (eK:o1.op= .next (.tmp it) false) (hd:o1.dst=some nx) (hg:o1.guard=none) (xw:nx<n.1)
  {σ σp:St} {a:Go.Act} {w:World} (hs:jY X μ0 n σ a w) (ah: (Instr.next (a.eval (.tmp it)) false o1.type).run X.P w= .ok (.tuple #[.bool false]) w)
  (hk:runK rec it r g nx ne id tb tm tl [] σ=some σp) (IS:Good σp) (m:Nat):
  Code.roundsIn (Fr n.ro) 0 X.P (rn i0 ops y b1 i5 iA z5) Q (m+1) a w:=by
 rw[roundsIn_succ]
 simp only[runK] at hk
 split at hk
 ·split at hk
  ·rename_i mO σe gv
   split at hk
   ·rename_i PL
    subst PL
    split at hk
    ·rename_i σ'' pN
     injection hk with hk;subst hk
     refine wpIn_seq (B0 (X:=X) h0 (by rw[eK];simp) hg (En eK ah) ?_)
     obtain⟨kE,bI,φ,hr,hle⟩:=hs
     have iv:jY X μ0 n (σ.put (some nx) (.tuple [.bool false])) (a.put o1.dst (.tuple #[.bool false])) w:=by
      rw[hd]
      exact⟨by rw[put_defers];exact kE,by rw[mE];exact bI,φ,po hr (Le.refl _) hr.bg (by simp only[aj];exact⟨_,rfl,by simp[ag,aj]⟩) (by simp;omega) σ.O,hle⟩
     exact hB _ _ _ _ _ _ (Exit.then (Code.wpIn (Fr n.ro) 0 X.P (.block b1 (.seq (.region i5 iA false) z5)) (Exit.then (Code.roundsIn (Fr n.ro) 0 X.P (rn i0 ops y b1 i5 iA z5) Q m) Q)) (Exit.then (Code.roundsIn (Fr n.ro) 0 X.P (rn i0 ops y b1 i5 iA z5) Q m) Q)) _ gv iv (fun a' w' jE=>hQ _ _ ⟨σe,σ'',jE,pN,IS⟩) fun a' w' h=>wpIn_seq h
    ·simp at hk
   ·simp at hk
  ·simp at hk
 ·simp at hk
theorem B1 {σ:St} (h:yV it r g σ=true):σ.T it= .it r g∧(σ.O r).gen=g:=by
 unfold yV at h
 split at h
 ·rename_i r' g' e
  simp only[Bool.and_eq_true,akb] at h
  obtain⟨rfl,rfl,h⟩:=h
  exact⟨e,h⟩
 ·simp at h
theorem vZ {Q:Go.Exit→Go.Act→World→Prop} (hQ: ∀a w,F1 X n μ0 rec tl Good a w→Q (.exit id) a w) (hB:FZ X n ops y rec tb) (hM:Lo X n iA z5 b1 rec tm) (h0:ops[0]? =some o1) (eK:o1.op= .next (.tmp it) false) (hd:o1.dst=some nx) (hg:o1.guard=none) (xw:nx<n.1)
   (k0:iA[0]? =some o5) (kop:o5.op= .entry (.tmp it)) (kd:o5.dst=some ne) (kg:o5.guard=none) (cL:ne<n.1)
   {bi bm since:Nat} {ents:Array MapEntry} {Z:List (V×MapEntry)} (hZ:Z.map (·.2)=ents.toList) (cC:gQ ents since):
   ∀ (m:Nat) (seen:Array Nat) (σ:St) (a:Go.Act) (w:World) (φ:Nat→Row),(jM Z seen).length=m→Marks n w a.defers→a.tmps.size=n.1→Rel X σ.T a ⟨w,φ,σ.O⟩→Le μ0 ⟨w,φ,σ.O⟩→
    (φ r).bY=bi→w.heap[bi]? =some (.mapIter (some bm) since seen since)→ ¬ (Mu.mk w φ σ.O).own bi→(bi<μ0.w.heap.size→μ0.own bi)→
    (∀r',(σ.O r').es.isSome=true→(φ r').cap≠0→(φ r').bY≠bi)→w.heap[bm]? =some (.map ents since)→ ¬Own X ⟨w,φ,σ.O⟩ bm→
    (∀z ∈ Z,aj X ⟨w,φ,σ.O⟩ z.1 (.tuple #[z.2.key,z.2.val]))→
    (∀p,p.Perm ((jM Z seen).map (·.1))→ ∃σp,runK rec it r g nx ne id tb tm tl p σ=some σp∧Good σp)→
    Code.roundsIn (Fr n.ro) 0 X.P (rn i0 ops y b1 i5 iA z5) Q (m+1) a w
 | m,seen,σ,a,w,φ,hm,kE,bI,hr,hle,hφ,XU,ij,kJ,fi,FE,Qq,bp,B2=>by
   have wS:yV it r g σ=true:=by
    obtain⟨σp,hk,_⟩:=B2 _ (.refl _)
    cases hl: (jM Z seen).map (·.1) with
    | nil=>
      rw[hl] at hk
      simp only[runK] at hk
      split at hk
      ·rename_i h;exact h
      ·simp at hk
    | cons e p=>
      rw[hl] at hk
      simp only[runK] at hk
      split at hk
      · split at hk
        ·rename_i h;exact h
        ·simp at hk
      ·simp at hk
   obtain⟨hT,cK⟩:=B1 wS
   have kY:a.eval (.tmp it)= .pointer (some ⟨bi,0,none⟩):=by
    have:=hr.tmps it
    rw[hT] at this
    simp only[aj] at this
    obtain⟨a0,h1,_,h2⟩:=this
    obtain⟨_,rfl⟩:=h2 cK
    show a.tmps.getD it undef=_
    rw[h1,hφ]
   have kG:jY X μ0 n σ a w:=⟨kE,bI,φ,hr,hle⟩
   have bl:bi<w.heap.size:=(aiV.1 XU).1
   rcases TL (P:=X.P) (ty:=o1.type) XU FE cC.lt with⟨hz,ah⟩ | ⟨e,he,d,ah⟩
   ·
    have hl:jM Z seen=[]:=by
      have:=Em hZ seen
      rw[Array.eq_empty_of_size_eq_zero hz] at this
      exact List.map_eq_nil_iff.1 this
    obtain⟨σp,hk,IS⟩:=B2 [] (by rw[hl];exact .refl _)
    exact Eo hQ hB h0 eK hd hg xw kG (by rw[kY];exact ah) hk IS m
   ·
    rw[←Em hZ seen] at he
    obtain⟨z,hz,rfl⟩:=ai9.1 he
    have Pl: (Z.map fun z=>z.2.born).Nodup:=by
      have:=cC.nodup
      rw[←hZ,List.map_map] at this
      exact this
    have MV:=Ln Pl hz
    obtain⟨m',rfl⟩: ∃m',m=m'+1:=by
      have:=MV.length_eq
      simp only[ai5] at this
      exact⟨_,by rw[←hm];exact this⟩
    have hZm:z ∈ Z:=(ake.1 hz).1
    have BO:=bp z hZm
    obtain⟨σp1,Aw,_⟩:=B2 (z.1:: (jM Z (seen.push z.2.born)).map (·.1)) (by have:=(MV.map (·.1)).symm;simpa using this)
    obtain⟨k,v,σm,σ',hzv,TN,WC,gv⟩: ∃k v σm σ',z.1= .tuple [k,v]∧rec tb (σ.put (some nx) (.tuple [.bool true,k,v]))=some (.normal,σm)∧yV it r g σm=true∧rec tm (σm.put (some ne) (.tuple [k,v]))=some (.normal,σ'):=by
      simp only[runK] at Aw
      split at Aw
      · rename_i k v hkv
        rw[if_pos wS] at Aw
        split at Aw
        ·rename_i σm hb
         split at Aw
         · rename_i WC
           split at Aw
           ·rename_i σ' kK;exact⟨k,v,σm,σ',hkv,hb,WC,kK⟩
           ·simp at Aw
         ·simp at Aw
        ·simp at Aw
      ·simp at Aw
    have hkv:aj X ⟨w,φ,σ.O⟩ k z.2.key∧aj X ⟨w,φ,σ.O⟩ v z.2.val:=by
      rw[hzv] at BO
      simp only[aj] at BO
      obtain⟨vs,h1,h2⟩:=BO
      injection h1 with h1
      subst h1
      simpa [ag] using h2
    rw[roundsIn_succ]
    refine wpIn_seq (B0 (X:=X) h0 (by rw[eK];simp) hg (En eK (by rw[kY];exact ah)) ?_)
    generalize Jl: ({w with drawn:=w.drawn+d,heap:=w.heap.setIfInBounds bi (.mapIter (some bm) since (seen.push z.2.born) since)}:World)=w2
    have kH: ∀b,b≠bi→w2.heap[b]? =w.heap[b]? :=fun b hb=>by
      rw[←Jl];exact ajU (fun e=>hb e.symm)
    have aac:w2.heap[bi]? =some (.mapIter (some bm) since (seen.push z.2.born) since):=by
      rw[←Jl];simp[bl]
    have ny:w2.heap.size=w.heap.size:=by rw[←Jl];simp
    have st:iT X ⟨w,φ,σ.O⟩ w2:=by
      refine⟨fun ad c hc=> ?_,fun b es cl hb=> ?_,by show w.heap.size≤w2.heap.size;omega⟩
      · have cL:ad.block≠bi:=fun e=>by
         have EC:w.cell? ad=some c:=hc
         simp[World.cell?,e,XU] at EC
        have EC:w.cell? ad=some c:=hc
        simp only[World.cell?,kH _ cL] at EC ⊢
        exact EC
      · have kK:w.heap[b]? =some (.map es cl):=hb
        rw[kH b (fun e=>by rw[e,XU] at kK;simp at kK)]
        exact kK
    have adO:bk X ⟨w2,φ,σ.O⟩:=hr.bg.cq st fun r' h1 h2=>kH _ (fi r' h1 h2)
    have aad:Le μ0 ⟨w2,φ,σ.O⟩:=by
      refine⟨by have:=hle.size;show μ0.w.heap.size≤w2.heap.size;have h2:μ0.w.heap.size≤w.heap.size:=this;omega,fun b hb hn=> ?_,hle.gen,hle.row,?_,?_,?_,fun ad OO=> ?_⟩
      · have cL:b≠bi:=fun e=>by subst e;exact hn (kJ hb)
        obtain⟨k1,k2⟩:=hle.bS b hb hn
        exact⟨(kH b cL).trans k1,k2⟩
      ·rw[←hle.os,←Jl]
      ·rw[←hle.output,←Jl]
      ·rw[←hle.tape,←Jl]
      · have k1:w.frozen? ad=μ0.w.frozen? ad:=hle.frozen ad OO
        show w2.frozen? ad=_
        rw[←k1]
        by_cases e:ad.block=bi
        ·simp only[World.frozen?,e,XU,aac]
        ·simp only[World.frozen?,kH _ e]
    have pT:Rel X σ.T a ⟨w2,φ,σ.O⟩:=⟨fun t=>aj.cq st (hr.tmps t),adO⟩
    have TO:Marks n w2 a.defers:=by
      obtain⟨⟨m0,m0'⟩,Ds,m1,m2,m3⟩:=kE
      exact⟨⟨abV,fun l hl=>by
        obtain⟨L,k⟩:=m0' l hl
        exact⟨L,(kH l (fun e=>by rw[e,XU] at k;simp at k)).trans k⟩⟩,Ds,m1,m2,fun D hD=> ⟨(m3 D hD).1,(kH D (fun e=>by have:=(m3 D hD).2;rw[e,XU] at this;simp at this)).trans (m3 D hD).2⟩⟩
    have mn:jY X ⟨w2,φ,σ.O⟩ n (σ.put (some nx) (.tuple [.bool true,k,v])) (a.put o1.dst (.tuple #[.bool true,z.2.key,z.2.val])) w2:=by
      rw[hd]
      refine⟨by rw[put_defers];exact TO,by rw[mE];exact bI,φ,po pT (Le.refl _) adO ?_ (by simp;omega) σ.O,Le.refl _⟩
      simp only[aj]
      exact⟨_,rfl,by simp only[ag,aj];exact⟨trivial,aj.cq st hkv.1,aj.cq st hkv.2,trivial⟩⟩
    refine hB _ _ _ _ _ _ (Exit.then (Code.wpIn (Fr n.ro) 0 X.P (.block b1 (.seq (.region i5 iA false) z5)) (Exit.then (Code.roundsIn (Fr n.ro) 0 X.P (rn i0 ops y b1 i5 iA z5) Q (m'+1)) Q)) (Exit.then (Code.roundsIn (Fr n.ro) 0 X.P (rn i0 ops y b1 i5 iA z5) Q (m'+1)) Q)) _ TN mn (fun am wm hsm=> ?_) fun a' w' h=>wpIn_seq h
    have jU:bi<w2.heap.size:=abV
    have XV:bm<w2.heap.size:=by rw[ny];exact(aiV.1 FE).1
    have XW:bm≠bi:=fun e=>by rw[e,XU] at FE;simp at FE
    obtain⟨hTm,XX⟩:=B1 WC
    have aiG:=hsm
    obtain⟨adP,ahT,φm,hrm,Pn⟩:=hsm
    have hφm:φm r=φ r:=(Pn.row r (by show (σm.O r).gen=(σ.O r).gen;rw[XX,cK])).1
    have ahU:wm.heap[bi]? =some (.mapIter (some bm) since (seen.push z.2.born) since):=(Pn.bS bi jU ij).1.trans aac
    have ahV:wm.heap[bm]? =some (.map ents since):=(Pn.bS bm XV (fun h=>Qq (.inl h))).1.trans ((kH bm XW).trans FE)
    have ahW:am.eval (.tmp it)= .pointer (some ⟨bi,0,none⟩):=by
      have:=hrm.tmps it
      rw[hTm] at this
      simp only[aj] at this
      obtain⟨a0,h1,_,h2⟩:=this
      obtain⟨_,rfl⟩:=h2 XX
      show am.tmps.getD it undef=_
      rw[h1,hφm,hφ]
    have hze:z.2 ∈ ents.toList:=by rw[←hZ];exact ai9.2 ⟨z,hZm,rfl⟩
    refine wpIn_block (wpIn_seq (B0 (X:=X) k0 (by rw[kop];simp) kg (Lp kop (by rw[ahW];exact Pm ahU ahV hze cC.nodup)) ?_))
    have Cn:jY X ⟨w2,φ,σ.O⟩ n (σm.put (some ne) (.tuple [k,v])) (am.put o5.dst (.tuple #[z.2.key,z.2.val])) wm:=by
      rw[kd]
      refine⟨by rw[put_defers];exact adP,by rw[mE];exact ahT,φm,po hrm (Le.refl _) hrm.bg ?_ (by simp;omega) σm.O,Pn⟩
      simp only[aj]
      exact⟨_,rfl,by simp only[ag];exact⟨aj.mono Pn (aj.cq st hkv.1),aj.mono Pn (aj.cq st hkv.2),trivial⟩⟩
    refine hM _ _ _ _ _ _ gv Cn fun a' w' jE=> ?_
    obtain⟨adQ,WA,φ',w9,qO⟩:=jE
    have TP: ∀p,p.Perm ((jM Z (seen.push z.2.born)).map (·.1))→ ∃σp,runK rec it r g nx ne id tb tm tl p σ'=some σp∧Good σp:=fun p hp=>by
      obtain⟨σp,hk,OX⟩:=B2 (z.1::p) ((hp.cons z.1).trans (by have:=(MV.map (·.1)).symm;simpa using this))
      refine⟨σp,?_,OX⟩
      rw[hzv] at hk
      simp only[runK,wS,WC,if_true,TN,gv] at hk
      exact hk
    have ahX:yV it r g σ'=true:=by
      obtain⟨σp,hk,_⟩:=TP _ (.refl _)
      cases hl: (jM Z (seen.push z.2.born)).map (·.1) with
      | nil=>
        rw[hl] at hk
        simp only[runK] at hk
        split at hk
        ·rename_i h;exact h
        ·simp at hk
      | cons e p=>
        rw[hl] at hk
        simp only[runK] at hk
        split at hk
        ·split at hk
         ·rename_i h;exact h
         ·simp at hk
        ·simp at hk
    have B3: (σ'.O r).gen=g:=(B1 ahX).2
    obtain⟨kb1,kb2⟩:=qO.bS bi jU ij
    obtain⟨km1,km2⟩:=qO.bS bm XV (fun h=>Qq (.inl h))
    have aae:w'.heap[bi]? =some (.mapIter (some bm) since (seen.push z.2.born) since):=kb1.trans aac
    have hlen: (jM Z (seen.push z.2.born)).length=m':=by
      have:=MV.length_eq
      rw[hm,ai5] at this
      omega
    refine vZ hQ hB hM h0 eK hd hg xw k0 kop kd kg cL hZ cC m' (seen.push z.2.born) σ' a' w' φ' hlen adQ WA w9 (aad.trans qO) ?_ aae kb2 kJ ?_ (km1.trans ((kH bm XW).trans FE)) ?_ (fun x hx=>aj.mono qO (aj.cq st (bp x hx))) TP
    · have:=(qO.row r (by show (σ'.O r).gen=(σ.O r).gen;rw[B3,cK])).1
      rw[show φ' r=φ r from this];exact hφ
    · intro r' h1 h2 hb
      obtain⟨es,bq⟩:=ai1.1 h1
      rcases w9.bg.ok r' es bq with⟨_,_,_,h4⟩ | ⟨_,_,ob,h3,h4⟩
      · rcases h4 with h4| ⟨c,T,vs,k1,_⟩
        ·exact h2 h4
        ·have k1':w'.heap[(φ' r').bY]? =some (.cells c T (0,0)):=k1
         rw[hb,aae] at k1';simp at k1'
      · have h3':w'.heap[(φ' r').bY]? =some ob:=h3
        rw[hb,aae] at h3'
        injection h3' with h3'
        rcases h4 with⟨_,_,k1,_⟩ | ⟨_,_,k1,_⟩ | ⟨_,_,_,k1,_⟩
        ·rw[←h3'] at k1;simp at k1
        ·rw[←h3'] at k1;simp at k1
        ·rw[←h3'] at k1
         injection k1 with _ _ k1 _
         have:=congrArg Array.size k1
         simp at this
    · rintro(h| h)
      ·exact km2 h
      ·exact Qq (.inr h)
termination_by m=>m
theorem B4 {kT kO:List Nat} (hB:FZ X n ops y rec tb) (hM:Lo X n iA z5 b1 rec tm) (h0:ops[0]? =some o1) (eK:o1.op= .next (.tmp it) false) (hd:o1.dst=some nx) (hg:o1.guard=none) (xw:nx<n.1)
  (l0:iA[0]? =some o5) (lop:o5.op= .entry (.tmp it)) (ld:o5.dst=some ne) (lg:o5.guard=none) (cL:ne<n.1)
  {C:bo} {σ σ2:St} {e:aR} {a:Go.Act} {w:World} (ah:aJ E C rec (.keys it nx ne id kT kO tb tm tl) σ=some (e,σ2)) (hs:jY X μ0 n σ a w):
  e= .normal∧(Code.block id (.loop (rn i0 ops y b1 i5 iA z5))).wpIn (Fr n.ro) 0 X.P (fun ex a' w'=>ex= .normal∧ ∃σe σp,jY X μ0 n σe a' w'∧rec tl σe=some (.normal,σp)∧ ∀P2 MW,jY X μ0 n σp P2 MW→jY X μ0 n σ2 P2 MW) a w:=by
 simp only[aJ] at ah
 split at ah
 ·rename_i r g hT
  split at ah
  ·rename_i es hO
   split at ah
   ·rename_i hc
    obtain⟨cK,Wa,gz⟩:=hc
    split at ah
    ·rename_i σ1 σs iO
     split at ah
     ·rename_i aaf
      simp only[aiT,aiX] at ah
      obtain⟨rfl,rfl⟩:=ah
      refine⟨rfl,?_⟩
      let Good:St→Prop:=fun σp=> ∀P2 MW,jY X μ0 n σp P2 MW→jY X μ0 n (forget kT kO σ1 σs) P2 MW
      have IS: ∀σp ∈ σ1::σs,Good σp:=by
       rintro σp hp P2 MW ⟨kE,bI,φ,hr,hle⟩
       have Xb:agree kT kO σ1 σp=true∨σp=σ1:=by
        rcases ai0.1 hp with h| h
        ·exact .inr h
        ·exact .inl (aiY.1 aaf σp h)
       have hTk: ∀t,t ∈ kT→σp.T t=σ1.T t:=fun t ht=>by
        rcases Xb with h| h
        ·simp only[agree,Bool.and_eq_true,aiY] at h
         exact V.beq_eq (h.1 t ht)
        ·rw[h]
       have hOk: ∀x,x ∈ kO→σp.O x=σ1.O x:=fun x hx=>by
        rcases Xb with h| h
        ·simp only[agree,Bool.and_eq_true,aiY] at h
         exact Obj.beq_eq (h.2 x hx)
        ·rw[h]
       have GV:=El (O':=(forget kT kO σ1 σs).O) hr.bg fun x=>by
        simp only[forget]
        by_cases hx:kO.contains x=true
        ·rw[if_pos hx]
         exact .inl (hOk x (by simpa using hx)).symm
        ·rw[if_neg hx]
         refine .inr ⟨rfl,.inl ?_⟩
         have:=uW (fun σ:St=> (σ.O x).gen) hp
         show (σp.O x).gen<_+1
         omega
       refine⟨kE,bI,φ,⟨fun t=> ?_,GV.2⟩,hle.trans GV.1⟩
       simp only[forget]
       split
       ·rename_i ht
        rw[←hTk t (by simpa using ht)]
        exact aj.mono GV.1 (hr.tmps t)
       ·simp[aj]
      have B2: ∀p,p.Perm es→ ∃σp,runK rec it r g nx ne id tb tm tl p ⟨σ.T,da σ.O r ⟨g,0,false,false,none⟩⟩=some σp∧Good σp:=fun p hp=>by
       obtain⟨σp,h1,h2⟩:=yb iO p (qb hp)
       exact⟨σp,h2,IS σp h1⟩
      obtain⟨kE,bI,φ,hr,hle⟩:=hs
      have GV:=El (O':=da σ.O r ⟨g,0,false,false,none⟩) hr.bg fun x=>by
       by_cases hx:x=r
       ·subst hx
        rw[aA]
        exact .inr ⟨rfl,.inr ⟨cK.symm,Wa.symm⟩⟩
       ·rw[aX _ _ hx];exact .inl rfl
      have pT:Rel X σ.T a ⟨w,φ,da σ.O r ⟨g,0,false,false,none⟩⟩:=⟨fun t=>aj.mono GV.1 (hr.tmps t),GV.2⟩
      obtain⟨_,cS,ob,Gq,hh⟩:=hr.bg.map r _ hO Wa
      have jy: (Mu.mk w φ σ.O).own (φ r).bY:=⟨r,by show (σ.O r).es.isSome=true;rw[hO];rfl,gz,cS,rfl⟩
      have ij: ¬ (Mu.mk w φ (da σ.O r ⟨g,0,false,false,none⟩)).own (φ r).bY:=by
       rintro⟨r',h1,h2,h3,h4⟩
       by_cases hx:r'=r
       ·subst hx;simp[aA] at h1
       ·have Gz: (σ.O r').es.isSome=true:=by have:=h1;simp only[aX _ _ hx] at this;exact this
        exact hr.bg.inj r' r hx Gz (by show (σ.O r).es.isSome=true;rw[hO];rfl) h3 cS h4
      have kJ: (φ r).bY<μ0.w.heap.size→μ0.own (φ r).bY:=fun bl=>akQ fun hn=> (hle.bS _ bl hn).2 jy
      have fi: ∀r',((da σ.O r ⟨g,0,false,false,none⟩) r').es.isSome=true→(φ r').cap≠0→(φ r').bY≠(φ r).bY:=fun r' h1 h2 h4=>by
       by_cases hx:r'=r
       ·subst hx;simp[aA] at h1
       ·have Gz: (σ.O r').es.isSome=true:=by have:=h1;simp only[aX _ _ hx] at this;exact this
        exact hr.bg.inj r' r hx Gz (by show (σ.O r).es.isSome=true;rw[hO];rfl) h2 cS h4
      have hQ: ∀a' w',F1 X n μ0 rec tl Good a' w'→Exit.inBlock id (fun ex a' w'=>ex= .normal∧ ∃σe σp,jY X μ0 n σe a' w'∧rec tl σe=some (.normal,σp)∧ ∀P2 MW,jY X μ0 n σp P2 MW→jY X μ0 n (forget kT kO σ1 σs) P2 MW) (.exit id) a' w':=by
       rintro a' w' ⟨σe,σp,q1,q2,q3⟩
       simp only[Go.Exit.inBlock,if_true]
       exact⟨trivial,σe,σp,q1,q2,q3⟩
      have key: ∃m,Code.roundsIn (Fr n.ro) 0 X.P (rn i0 ops y b1 i5 iA z5) (Exit.inBlock id (fun ex a' w'=>ex= .normal∧ ∃σe σp,jY X μ0 n σe a' w'∧rec tl σe=some (.normal,σp)∧ ∀P2 MW,jY X μ0 n σp P2 MW→jY X μ0 n (forget kT kO σ1 σs) P2 MW)) (m+1) a w:=by
       rcases hh with⟨ents,clock,k1,hh,_⟩ | ⟨s,pos,_,hh⟩ | ⟨mo,since,mY,h1,h2,h3⟩
       ·exfalso
        cases he:ents.toList with
        | nil=>rw[he] at hh;simp[ag] at hh
        | cons x xs=>rw[he] at hh;simp[ag,aj] at hh
       ·simp at hh
       ·simp only[akC,V.mlit.injEq,and_true] at h2
        subst h2
        subst h1
        rcases h3 with⟨rfl,rfl⟩ | ⟨bm,ents,rfl,k2,k3,k4,k5,k6⟩
        ·obtain⟨σp,hk,OX⟩:=B2 [] (.refl _)
         have wS:a.eval (.tmp it)= .pointer (some ⟨(φ r).bY,0,none⟩):=by
            have:=hr.tmps it
            rw[hT] at this
            simp only[aj] at this
            obtain⟨a0,e1,_,e2⟩:=this
            obtain⟨_,rfl⟩:=e2 cK
            exact e1
         exact⟨0,Eo hQ hB h0 eK hd hg xw ⟨kE,bI,φ,pT,hle.trans GV.1⟩ (by rw[wS];exact TM Gq) hk OX 0⟩
        ·obtain⟨Z,z1,z2,z3⟩:=IQ k6
         have vV:jM Z #[]=Z:=akw.2 fun z _=>abW
         refine⟨_,vZ (r:=r) (g:=g) hQ hB hM h0 eK hd hg xw l0 lop ld lg cL z2 k5 _ #[] ⟨σ.T,da σ.O r ⟨g,0,false,false,none⟩⟩ a w φ rfl kE bI pT (hle.trans GV.1) rfl Gq ij kJ fi k4 ?_ (fun z hz=>aj.mono GV.1 (z3 z hz)) ?_⟩
         ·  rintro(⟨r',h1,h2,h3,h4⟩ | h)
            ·refine k2 (.inl ⟨r',?_,?_,h3,h4⟩)
             ·by_cases hx:r'=r
              ·subst hx;simp[aA] at h1
              ·have:=h1;simp only[aX _ _ hx] at this;exact this
             ·by_cases hx:r'=r
              ·subst hx;exact gz
              ·have:=h2;simp only[aX _ _ hx] at this;exact this
            ·exact k2 (.inr h)
         ·rw[vV,z1];exact B2
      obtain⟨m,hm⟩:=key
      exact wpIn_block (wpIn_loop_rounds (m+1) hm)
     ·simp at ah
    ·simp at ah
   ·simp at ah
  ·simp at ah
 ·simp at ah
end
end Go.AM
namespace Go.AM
open Go Go.RowKit
theorem TQ {X:Ctx} {μ:Mu} (ho:bk X μ) {D:Nat} {o:Go.Obj} (hD:μ.w.heap[D]? =some o) (h1:o.isCells=false) (h2:o.isWalk=false) {r:Nat} (hr: (μ.O r).es.isSome=true) (hc: (μ.φ r).cap≠0): (μ.φ r).bY≠D:=fun hb=>by
 obtain⟨es,bq⟩:=ai1.1 hr
 rcases ho.ok r es bq with⟨_,_,_,h4⟩ | ⟨_,_,ob,h3,h4⟩
 ·rcases h4 with h4| ⟨c,T,vs,k1,_⟩
  ·exact hc h4
  ·rw[hb,hD] at k1;injection k1 with k1;subst k1;simp[Obj.isCells] at h1
 ·rw[hb,hD] at h3;injection h3 with h3;subst h3
  rcases h4 with⟨_,_,rfl,_⟩ | ⟨_,_,rfl,_⟩ | ⟨_,_,_,rfl,_⟩ <;>simp[Obj.isWalk] at h2
theorem iU {X:Ctx} {μ:Mu} {D:Nat} {o o':Go.Obj} (hD:μ.w.heap[D]? =some o) (h1:o.isCells=false) (h2:o.isWalk=false):iT X μ (μ.w.putObj D o'):=by
 refine⟨fun ad c hc=> ?_,fun b es cl hb=> ?_,by simp[World.putObj]⟩
 ·have cL:ad.block≠D:=fun e=>by
   simp only[World.cell?,e,hD] at hc
   cases o<;>simp_all[Obj.isCells]
  simp only[World.cell?,World.putObj_heap_other cL] at hc ⊢
  exact hc
 ·rw[World.putObj_heap_other (fun e=>by rw[e,hD] at hb;injection hb with hb;subst hb;simp[Obj.isWalk] at h2)]
  exact hb
theorem FI {μ0:Mu} {w:World} {φ:Nat→Row} {O:Nat→Obj} (le:Le μ0 ⟨w,φ,O⟩) {D:Nat} {o':Go.Obj} (hf:μ0.w.heap.size≤D):Le μ0 ⟨w.putObj D o',φ,O⟩:=by
 refine⟨by have:=le.size;simpa [World.putObj] using this,fun b hb hn=> ?_,le.gen,le.row,le.os,le.output,le.tape,fun ad OO=> ?_⟩
 ·have cL:b≠D:=abV
  exact⟨(World.putObj_heap_other cL).trans (le.bS b hb hn).1,(le.bS b hb hn).2⟩
 ·have cL:ad.block≠D:=abV
  have:=le.frozen ad OO
  simp only[World.frozen?] at this ⊢
  show (match (w.putObj D o').heap[ad.block]? with| some (.cells _ _ (lo,hi))=>_| _=>false)=_
  rw[World.putObj_heap_other cL]
  exact this
theorem xB {X:Ctx} {w:World} {φ:Nat→Row} {O:Nat→Obj} (ho:bk X ⟨w,φ,O⟩) {D:Nat} (h2:w.heap[D]? =some (.deferred (some []))):bk X ⟨w.putObj D (.deferred none),φ,O⟩:=
 ho.cq (iU (μ:=⟨w,φ,O⟩) h2 rfl rfl) fun r h3 h4=>World.putObj_heap_other (TQ ho h2 rfl rfl h3 h4)
def Kept (μ:Mu) (W W':World):Prop:= ∀b,b<μ.w.heap.size→ ¬μ.own b→W'.heap[b]? =W.heap[b]?
def Abides (J:Nat→World→Prop):Prop:= ∀k A B,J k A→A.grownBy B none→J k B
structure AbidesF (J:Nat→(Nat→Prop)→World→Prop):Prop where
 grow: ∀k F A B,J k F A→A.grownBy B none→J k (fun b=>F b∨(A.heap.size≤b∧b<B.heap.size)) B
 less: ∀k F F' A,J k F A→(∀b,F' b→F b)→J k F' A
structure zG (X:Ctx) (μ:Mu) (gf:Nat) (lb:Array Value) (xs:List (List V)):Prop where
 enters: ∀args w,(callFunc gf args).run X.P w= .ok (.enter gf args) w
 ex: ∃CK:List (Array Value),CK.length=xs.length∧(∀ (i:Nat) x v,xs[i]? =some x→CK[i]? =some v→ag X μ x v.toList)∧
  ∀ (l:Nat) (J:Nat→(Nat→Prop)→World→Prop) (Jx:Nat→World→Prop) (W0:World),Below μ.w.heap.size μ.w W0→AbidesF J→Abides Jx→
   (∀ (k:Nat) F W1 v,CK[k]? =some v→J k F W1→YieldAt (Fr none) 0 X.P l v W1 fun e W'=> (e= .returned (.bool true)∧J (k+1) F W'∧Kept μ W1 W'∧ ∀b,F b→W'.heap[b]? =W1.heap[b]?)∨(e= .returned (.bool false)∧Jx (k+1) W'))→
   J 0 (fun _=>False) W0→CallsIn (Fr none) 0 X.P gf (#[.func (.yield l) #[] #[]]++lb) W0 fun e W'=> (∃v,e= .returned v)∧((∃F,J CK.length F W')∨ ∃k,k≤CK.length∧Jx k W')
theorem nq {X:Ctx} {μ:Mu} {W':World} (h:μ.w.grownBy W' none):iT X μ W':=by
 have hb: ∀k,k<μ.w.heap.size→W'.heap[k]? =μ.w.heap[k]? :=fun k hk=>h.block k hk abW
 refine⟨fun ad c hc=> ?_,fun b es cl hc=> ?_,h.size⟩
 ·have bl:ad.block<μ.w.heap.size:=by
   rcases akn ad.block μ.w.heap.size with hl| hl
   ·exact hl
   ·simp[World.cell?,aj0 hl] at hc
  simp only[World.cell?,hb _ bl] at hc ⊢
  exact hc
 ·rw[hb _ (aiV.1 hc).1];exact hc
theorem tX {X:Ctx} {μ:Mu} (ho:bk X μ) {r:Nat} (hr: (μ.O r).es.isSome=true) (hc: (μ.φ r).cap≠0): (μ.φ r).bY<μ.w.heap.size:=by
 obtain⟨es,bq⟩:=ai1.1 hr
 rcases ho.ok r es bq with⟨_,_,_,h4⟩ | ⟨_,_,ob,h3,h4⟩
 ·rcases h4 with h4| ⟨c,T,vs,k1,_⟩
  ·exact absurd h4 hc
  ·exact(aiV.1 k1).1
 ·exact(aiV.1 h3).1
structure dp (X:Ctx) (μb:Mu) (T:Nat→V) (a:Go.Act) (l:Nat) (Dq:Option Nat) (L:Loop) (O:Nat→Obj) (φ:Nat→Row) (W:World):Prop where
 rel:Rel X T a ⟨W,φ,O⟩
 le:Le μb ⟨W,φ,O⟩
 sD:W.heap[l]? =some (.loop L)
 PX: ∀D,Dq=some D→W.heap[D]? =some (.deferred (some []))
section
variable {X:Ctx} {μb:Mu} {T:Nat→V} {a:Go.Act} {l:Nat} {Dq:Option Nat} {L L':Loop} {O:Nat→Obj} {φ:Nat→Row} {W W':World}
theorem dp.grow (h:dp X μb T a l Dq L O φ W) (hg:W.grownBy W' none):dp X μb T a l Dq L O φ W':=by
 have st:iT X ⟨W,φ,O⟩ W':=nq (μ:=⟨W,φ,O⟩) hg
 have hb: ∀k,k<W.heap.size→W'.heap[k]? =W.heap[k]? :=fun k hk=>hg.block k hk abW
 refine⟨⟨fun t=>aj.cq st (h.rel.tmps t),h.rel.bg.cq st fun r h1 h2=>hb _ (tX h.rel.bg h1 h2)⟩,?_,(hb _ (aiV.1 h.sD).1).trans h.sD,fun D hD=> (hb _ (aiV.1 (h.PX D hD)).1).trans (h.PX D hD)⟩
 have le:=h.le
 have bI:μb.w.heap.size≤W.heap.size:=le.size
 exact⟨ajb bI hg.size,fun b kK hn=> ⟨(hb b abV).trans (le.bS b kK hn).1,(le.bS b kK hn).2⟩,le.gen,le.row,hg.os.trans le.os,hg.output.trans le.output,hg.tape.trans le.tape,fun ad OO=>by
  have:=le.frozen ad OO
  rw[←this]
  show W'.frozen? ad=W.frozen? ad
  simp only[World.frozen?,hb ad.block abV]⟩
theorem dp.put (h:dp X μb T a l Dq L O φ W) (hl:μb.w.heap.size≤l) (hD: ∀D,Dq=some D→D≠l):dp X μb T a l Dq L' O φ (W.putObj l (.loop L')):=by
 have st:iT X ⟨W,φ,O⟩ (W.putObj l (.loop L')):=iU (μ:=⟨W,φ,O⟩) h.sD rfl rfl
 refine⟨⟨fun t=>aj.cq st (h.rel.tmps t),h.rel.bg.cq st fun r h3 h4=>World.putObj_heap_other (TQ h.rel.bg h.sD rfl rfl h3 h4)⟩,FI h.le hl,World.putObj_heap_same (aiV.1 h.sD).1,fun D hd=> (World.putObj_heap_other (hD D hd)).trans (h.PX D hd)⟩
end
def aR.conv:aR→Go.Exit
 | .normal=> .normal
 | .exit id=> .exit id
 | .ret=> .ret
def Bu (X:Ctx) (n:Fp) (c:Code) (rec:aY→St→Option (aR×St)) (tc:aY):Prop:=
 ∀ (σ σ':St) (e:aR) (μ0:Mu) (a:Go.Act) (w:World),rec tc σ=some (e,σ')→jY X μ0 n σ a w→c.wpIn (Fr n.ro) 0 X.P (fun ex a' w'=>ex=e.conv∧jY X μ0 n σ' a' w') a w
theorem Fy {X:Ctx} {μ:Mu}: ∀ {ps:List Nat} {x:List V} {vs:List Value} {T:Nat→V} {tmps:Array Value},ag X μ x vs→(∀t,aj X μ (T t) (tmps.getD t undef))→(∀p ∈ ps,p<tmps.size)→
   (∀t,aj X μ (jQ T ps x t) (((ps.zip vs).foldl (fun t p=>t.setIfInBounds p.1 p.2) tmps).getD t undef))∧((ps.zip vs).foldl (fun t p=>t.setIfInBounds p.1 p.2) tmps).size=tmps.size
 | [],x,vs,T,tmps,_,h,_=> ⟨by simpa [jQ] using h,rfl⟩
 | p::ps,[],[],T,tmps,_,h,_=> ⟨by simpa [jQ] using h,rfl⟩
 | p::ps,[],_::_,T,tmps,hx,_,_=>by simp[ag] at hx
 | p::ps,_::_,[],T,tmps,hx,_,_=>by simp[ag] at hx
 | p::ps,x::xs,v::vs,T,tmps,hx,h,hp=>by
   simp only[ag] at hx
   have bl:=hp p abW
   obtain⟨k1,k2⟩:=Fy (ps:=ps) (T:=da T p x) (tmps:=tmps.setIfInBounds p v) hx.2 (fun t=>by
    unfold da
    split
    ·rename_i e;subst e
     have: (tmps.setIfInBounds t v).getD t undef=v:=by simp[bl]
     rw[this];exact hx.1
    ·rename_i cL
     have: (tmps.setIfInBounds p v).getD t undef=tmps.getD t undef:=by
      simp[ajU (fun e=>cL e.symm)]
     rw[this];exact h t) (fun q hq=>by simpa using hp q (by simp[hq]))
   exact⟨k1,by simpa using k2⟩
theorem D4 {P:Program} {w:World} (ro:Option Nat) (h: ∀l,ro=some l→ ∃L,w.heap[l]? =some (.loop L)) (fn:FuncId) (tmps:Array Value) (ps:Array Tmp) (assign body:Code):
   ∃ (l:Nat) (Dq:Option Nat) (dD:Nat) (W1:World),(Instr.enterLoop fn tmps ps assign body ro).run P w= .ok (l,Dq.toList.map fun D=> {target:= .collected D,args:= #[]}) W1∧w.grownBy W1 none∧w.heap.size≤l∧
    W1.heap[l]? =some (.loop {state:= .ready,pending:=none,fn,tmps,params:=ps,assign,body,defers:=dD})∧ ∀D,Dq=some D→w.heap.size≤D∧D≠l∧W1.heap[D]? =some (.deferred (some [])):=by
 cases ro with
 | none=>
   have bI: (w.alloc (.deferred (some []))).heap.size=w.heap.size+1:=World.size_alloc _ _
   refine⟨w.heap.size+1,some w.heap.size,w.heap.size,_,run_enterLoop_outer fn tmps ps assign body,?_,abV,?_,?_⟩
   ·have b1:Below w.heap.size w ((w.alloc (.deferred (some []))).alloc (.loop {state:= .ready,pending:=none,fn,tmps,params:=ps,assign,body,defers:=w.heap.size})):=((Below.refl _ w).alloc (aiZ _) _).alloc abW _
    exact⟨b1.os,b1.tape,b1.output,b1.size,fun k hk _=>b1.block k hk⟩
   ·have:=World.alloc_heap_new (w.alloc (.deferred (some []))) (.loop {state:= .ready,pending:=none,fn,tmps,params:=ps,assign,body,defers:=w.heap.size})
    rwa [bI] at this
   ·rintro D hD
    injection hD with hD;subst hD
    exact⟨aiZ _,abV,(Below.heap_alloc _ _ _ (by rw[bI];omega)).trans (World.alloc_heap_new w _)⟩
 | some l0=>
   obtain⟨L,hL⟩:=h l0 rfl
   refine⟨w.heap.size,none,L.defers,_,run_enterLoop_inner hL fn tmps ps assign body,?_,aiZ _,World.alloc_heap_new w _,abW⟩
   have b1:Below w.heap.size w (w.alloc (.loop {state:= .ready,pending:=none,fn,tmps,params:=ps,assign,body,defers:=L.defers})):=(Below.refl _ w).alloc (aiZ _) _
   exact⟨b1.os,b1.tape,b1.output,b1.size,fun k hk _=>b1.block k hk⟩
theorem xz {X:Ctx} {μ0:Mu} {n:Fp} {T:Nat→V} {a:Go.Act} {w W:World} {φ φ':Nat→Row} {O0 O:Nat→Obj} {l:Nat} {Dq:Option Nat} {L:Loop} (kE:Marks n w a.defers) (bI:a.tmps.size=n.tm) (ho:bk X ⟨w,φ,O0⟩) (hle:Le μ0 ⟨w,φ,O0⟩)
  (h:dp X ⟨w,φ,O0⟩ T a l Dq L O φ' W) (hD: ∀D,Dq=some D→w.heap.size≤D):jY X μ0 n ⟨T,O⟩ {a with defers:=(Dq.toList.map fun D=> {target:= .collected D,args:= #[]})++a.defers} W:=by
 refine⟨?_,bI,φ',⟨h.rel.tmps,h.rel.bg⟩,hle.trans h.le⟩
 obtain⟨h0,Ds,h1,h2,h3⟩:=kE.le ho h.le
 refine⟨h0,Dq.toList++Ds,by simp[h1],?_,fun D hd=> ?_⟩
 ·cases Dq with
  | none=>simpa using h2
  | some D=>
    simp only[Option.toList_some,ajn,ajx,akE]
    refine⟨fun hm=> ?_,h2⟩
    obtain⟨_,Ds',k1,_,k3⟩:=kE
    have:Ds=Ds':=by
      rw[h1] at k1
      have sF:Function.Injective (fun D:Nat=> ({target:= .collected D,args:= #[]}:Deferred)):=fun x y e=>by injection e with e;injection e
      exact List.map_inj_right (fun x y e=>sF e) |>.1 k1
    subst this
    have:=(aiV.1 (k3 D hm).2).1
    have:=hD D rfl
    omega
 ·rcases ai6.1 hd with hd| hd
  · cases Dq with
    | none=>simp at hd
    | some D'=>
      simp at hd;subst hd
      exact⟨ajb kE.1.1 (hD _ rfl),h.PX _ rfl⟩
  ·exact h3 D hd
theorem IT {X:Ctx} {n:Fp} {g:Operand} {ps:Array Tmp} {assign body:Code} {rec:aY→St→Option (aR×St)} {ta tb:aY} (hA: ∀l,Bu X ⟨n.tm,0,some l⟩ assign rec ta) (hB: ∀l,Bu X ⟨n.tm,0,some l⟩ body rec tb)
  {μ0:Mu} {σ σ':St} {e:aR} {a:Go.Act} {w:World} (hs:jY X μ0 n σ a w) (ER: ∀p ∈ ps.toList,p<n.tm) {gf:Nat} {lb:Array Value} {xs:List (List V)} (hg:a.eval g= .func (.func gf) #[] lb)
  (hI: ∀φ,Rel X σ.T a ⟨w,φ,σ.O⟩→zG X ⟨w,φ,σ.O⟩ gf lb xs) (hlen: ∀x ∈ xs,x.length=ps.size) (ah:uS rec ps.toList ta tb σ.T xs σ.O=some (e,σ')):
  (Code.rangeFunc g ps assign body).wpIn (Fr n.ro) 0 X.P (fun ex a' w'=>ex=e.conv∧jY X μ0 n σ' a' w') a w:=by
 obtain⟨kE,bI,φ,hr,hle⟩:=hs
 obtain⟨enters,CK,D1,BA,qJ⟩:=hI φ hr
 refine wpIn_rangeFunc fun fn mS=> ?_
 obtain⟨l,Dq,dD,W1,ZI,eY,hl,SZ,S4⟩:=D4 (P:=X.P) n.ro kE.1.2 fn a.tmps ps assign body
 obtain⟨dd,gM⟩: ∃dd:LoopState→Option Code→Loop,dd=fun st pe=> {state:=st,pending:=pe,fn,tmps:=a.tmps,params:=ps,assign,body,defers:=dD}:=⟨_,rfl⟩
 have cL: ∀D,Dq=some D→D≠l:=fun D hD=> (S4 D hD).2.1
 have V6:dp X ⟨w,φ,σ.O⟩ σ.T a l Dq (dd .ready none) σ.O φ W1:=by
  have st:iT X ⟨w,φ,σ.O⟩ W1:=nq (μ:=⟨w,φ,σ.O⟩) eY
  have hb: ∀k,k<w.heap.size→W1.heap[k]? =w.heap[k]? :=fun k hk=>eY.block k hk abW
  refine⟨⟨fun t=>aj.cq st (hr.tmps t),hr.bg.cq st fun r h1 h2=>hb _ (tX hr.bg h1 h2)⟩,?_,by rw[gM];exact SZ,fun D hD=> (S4 D hD).2.2⟩
  exact⟨eY.size,fun b kK hn=> ⟨hb b kK,hn⟩,fun _=>aiZ _,fun _ _=> ⟨rfl,rfl⟩,eY.os,eY.output,eY.tape,fun ad OO=>by simp only[World.frozen?,hb ad.block OO]⟩
 refine⟨l,_,W1,{target:= .fn (.func gf) lb,args:= #[.func (.yield l) #[] #[]]},W1,gf,#[.func (.yield l) #[] #[]]++lb,W1,ZI,?_,fun _ _=>trivial,?_,fun h=>by simp[Fr,Fence.wide] at h,?_⟩
 ·simp only[resolve,hg]
  simp[go_sem]
 ·simp[invoke,go_sem,enters]
 have key:=qJ l (fun k F W=> ∃O φ',dp X ⟨w,φ,σ.O⟩ σ.T a l Dq (dd .ready none) O φ' W∧uS rec ps.toList ta tb σ.T (xs.drop k) O=some (e,σ')∧ ∀b,F b→b<W.heap.size∧ ¬Mu.own ⟨W,φ',O⟩ b∧b≠l)
  (fun k W=> ∃O φ' c,dp X ⟨w,φ,σ.O⟩ σ.T a l Dq (dd .done (some c)) O φ' W∧σ'=⟨σ.T,O⟩∧(e= .ret∧c= .ret∨ ∃id,e= .exit id∧c= .exit id)) W1
  ⟨eY.os,eY.tape,eY.output,eY.size,fun k hk=>eY.block k hk abW⟩
  ⟨fun  k F A B ⟨O,φ',h1,h2,h3⟩ hg=> ⟨O,φ',h1.grow hg,h2,fun b hb=>by
    rcases hb with hb| ⟨Cm,tO⟩
    ·exact⟨ai2 (h3 b hb).1 hg.size,(h3 b hb).2⟩
    ·  refine⟨tO,?_,fun lf=> ?_⟩
       · rintro⟨r,q1,_,q3,q4⟩
         have:=tX (μ:=⟨A,φ',O⟩) h1.rel.bg q1 q3
         have hq: (φ' r).bY=b:=q4
         have: (φ' r).bY<A.heap.size:=this
         omega
       · subst lf
         have:=(aiV.1 h1.sD).1
         omega⟩,fun k F F' A ⟨O,φ',h1,h2,h3⟩ hF=> ⟨O,φ',h1,h2,fun b hb=>h3 b (hF b hb)⟩⟩ (fun k A B ⟨O,φ',c,h1,h2⟩ hg=> ⟨O,φ',c,h1.grow hg,h2⟩) ?round ⟨σ.O,φ,V6,by simpa using ah,fun b hb=>hb.elim⟩
 case round=>
  rintro k F W v hv ⟨O,φ',kJ,sS,hF⟩
  have hk:k<xs.length:=by rw[←D1];exact(aiS.1 hv).1
  have hx:xs[k]? =some xs[k]:=aiW hk
  rw[ajf hk] at sS
  generalize xs[k]=x at hx sS
  have sE:=BA k x v hx hv
  have Uz:=hlen x (List.mem_of_getElem? hx)
  simp only[uS] at sS
  split at sS
  rotate_left
  ·simp at sS
  rename_i σ1 h1
  have ada:=kJ.le
  have Wb:ag X ⟨W,φ',O⟩ x v.toList:=ag.mono ada sE
  have nn:v.size=ps.size:=by
    have:=sE.length
    rw[←Uz,this];simp
  have JK:=Fy (ps:=ps.toList) (T:=σ.T) (tmps:=a.tmps) Wb kJ.rel.tmps (by rw[bI];exact ER)
  have H8: ((ps.zip v).foldl (fun tmps (p:Tmp×Value)=>tmps.setIfInBounds p.1 p.2) a.tmps)=(ps.toList.zip v.toList).foldl (fun t p=>t.setIfInBounds p.1 p.2) a.tmps:=by
    rw[←Array.foldl_toList,Array.toList_zip]
  have hy:=run_yield (P:=X.P) (args:=v) kJ.sD (by rw[gM];exact nn)
  rw[gM] at hy
  refine⟨fn,_,assign,body,hy,roundIn_of_wpIn mS ?_⟩
  have kG:jY X ⟨W,φ',O⟩ ⟨n.tm,0,some l⟩ ⟨jQ σ.T ps.toList x,O⟩ {tmps:=(ps.zip v).foldl (fun tmps (p:Tmp×Value)=>tmps.setIfInBounds p.1 p.2) a.tmps,defers:=[]} W:=by
    refine⟨Marks.nil (ajG _) (fun l' Ak=>by injection Ak with Ak;subst Ak;exact⟨_,kJ.sD⟩),by show Array.size _=n.tm;rw[H8,JK.2];exact bI,φ',⟨fun t=> ?_,kJ.rel.bg⟩,Le.refl _⟩
    show aj X _ _ (Array.getD _ t undef)
    rw[H8];exact JK.1 t
  refine wpIn_mono (hA l _ _ _ _ _ _ h1 kG) fun ex a1 w1 hq=> ?_
  obtain⟨rfl,Hv,zd,φ1,wH,Bv⟩:=hq
  have H9: ∀ {b:Nat} {o:Go.Obj},W.heap[b]? =some o→o.isCells=false→o.isWalk=false→w1.heap[b]? =some o:=fun {b o} hb i1 i2=>
    (Bv.bS b (aiV.1 hb).1 (dr kJ.rel.bg hb i1 i2)).1.trans hb
  have Fz:dp X ⟨w,φ,σ.O⟩ σ.T a l Dq (dd .ready none) σ1.O φ1 w1:=⟨⟨fun t=>aj.mono Bv (kJ.rel.tmps t),wH.bg⟩,kJ.le.trans Bv,H9 kJ.sD rfl rfl,fun D hD=>H9 (kJ.PX D hD) rfl rfl⟩
  show ∃w₂,_∧_
  refine⟨_,run_beginRound Fz.sD (by rw[gM]),?_⟩
  have nP:dp X ⟨w,φ,σ.O⟩ σ.T a l Dq (dd .busy none) σ1.O φ1 (w1.putObj l (.loop (dd .busy none))):=Fz.put hl cL
  have S5: ({dd .ready none with state:= .busy}:Loop)=dd .busy none:=by rw[gM]
  rw[S5]
  have st2:iT X ⟨w1,φ1,σ1.O⟩ (w1.putObj l (.loop (dd .busy none))):=iU (μ:=⟨w1,φ1,σ1.O⟩) Fz.sD rfl rfl
  have MC:jY X ⟨w1.putObj l (.loop (dd .busy none)),φ1,σ1.O⟩ ⟨n.tm,0,some l⟩ σ1 a1 (w1.putObj l (.loop (dd .busy none))):=by
    refine⟨?_,zd,φ1,⟨fun t=>aj.cq st2 (wH.tmps t),nP.rel.bg⟩,Le.refl _⟩
    obtain⟨_,Ds,m1,m2,m3⟩:=Hv
    refine⟨⟨ajG _,fun l' Ak=>by injection Ak with Ak;subst Ak;exact⟨_,nP.sD⟩⟩,Ds,m1,m2,fun D hD=> ⟨ajG _,?_⟩⟩
    rw[World.putObj_heap_other (fun e=>by have:=(m3 D hD).2;rw[e,Fz.sD] at this;simp at this)]
    exact(m3 D hD).2
  split at sS
  ·
    rename_i σ2 h2
    refine wpIn_mono (hB l _ _ _ _ _ _ h2 MC) fun ex a3 w3 hq=> ?_
    obtain⟨rfl,_,_,φ3,VM,tY⟩:=hq
    have oz: ∀ {b:Nat} {o:Go.Obj},(w1.putObj l (.loop (dd .busy none))).heap[b]? =some o→o.isCells=false→o.isWalk=false→w3.heap[b]? =some o:=fun {b o} hb i1 i2=>
       (tY.bS b (aiV.1 hb).1 (dr nP.rel.bg hb i1 i2)).1.trans hb
    have FA:dp X ⟨w,φ,σ.O⟩ σ.T a l Dq (dd .busy none) σ2.O φ3 w3:=⟨⟨fun t=>aj.mono tY (nP.rel.tmps t),VM.bg⟩,nP.le.trans tY,oz nP.sD rfl rfl,fun D hD=>oz (nP.PX D hD) rfl rfl⟩
    have Ia:dp X ⟨w,φ,σ.O⟩ σ.T a l Dq (dd .ready none) σ2.O φ3 (w3.putObj l (.loop (dd .ready none))):=FA.put hl cL
    have e4: ({dd .busy none with state:=if (none:Option Code).isNone then .ready else .done,pending:=none}:Loop)=dd .ready none:=by rw[gM];rfl
    have UG: ∀b,F b→(w3.putObj l (.loop (dd .ready none))).heap[b]? =W.heap[b]? ∧b<w3.heap.size∧ ¬Mu.own ⟨w3,φ3,σ2.O⟩ b:=fun b hb=>by
       obtain⟨f1,f2,f3⟩:=hF b hb
       have g1:=Bv.bS b f1 f2
       have s1:W.heap.size≤w1.heap.size:=Bv.size
       have s2: (w1.putObj l (.loop (dd .busy none))).heap.size≤w3.heap.size:=tY.size
       have s3: (w1.putObj l (.loop (dd .busy none))).heap.size=w1.heap.size:=World.putObj_size ..
       have g2:=tY.bS b (by show b< (w1.putObj l (.loop (dd .busy none))).heap.size;omega) g1.2
       refine⟨?_,abV,g2.2⟩
       rw[World.putObj_heap_other f3,show w3.heap[b]? =(w1.putObj l (.loop (dd .busy none))).heap[b]? from g2.1,World.putObj_heap_other f3]
       exact g1.1
    refine⟨_,_,run_endRound none FA.sD,.inl ⟨rfl,⟨σ2.O,φ3,by rw[e4];exact Ia,sS,fun b hb=> ?_⟩,fun b hb hn=> ?_,fun b hb=> ?_⟩⟩
    ·  rw[e4]
       refine⟨?_,(UG b hb).2.2,(hF b hb).2.2⟩
       rw[show (w3.putObj l (.loop (dd .ready none))).heap.size=w3.heap.size from World.putObj_size ..]
       exact(UG b hb).2.1
    ·  rw[e4]
       exact(Ia.le.bS b hb hn).1.trans (kJ.le.bS b hb hn).1.symm
    ·rw[e4];exact(UG b hb).1
  ·
    rename_i e2 σ2 hnn h2
    simp only[aiT,aiX] at sS
    obtain⟨rfl,rfl⟩:=sS
    refine wpIn_mono (hB l _ _ _ _ _ _ h2 MC) fun ex a3 w3 hq=> ?_
    obtain⟨rfl,_,_,φ3,VM,tY⟩:=hq
    have oz: ∀ {b:Nat} {o:Go.Obj},(w1.putObj l (.loop (dd .busy none))).heap[b]? =some o→o.isCells=false→o.isWalk=false→w3.heap[b]? =some o:=fun {b o} hb i1 i2=>
       (tY.bS b (aiV.1 hb).1 (dr nP.rel.bg hb i1 i2)).1.trans hb
    have FA:dp X ⟨w,φ,σ.O⟩ σ.T a l Dq (dd .busy none) σ2.O φ3 w3:=⟨⟨fun t=>aj.mono tY (nP.rel.tmps t),VM.bg⟩,nP.le.trans tY,oz nP.sD rfl rfl,fun D hD=>oz (nP.PX D hD) rfl rfl⟩
    have Ia: ∀c,dp X ⟨w,φ,σ.O⟩ σ.T a l Dq (dd .done (some c)) σ2.O φ3 (w3.putObj l (.loop (dd .done (some c)))):=fun c=>FA.put hl cL
    have e4: ∀c,({dd .busy none with state:=if (some c:Option Code).isNone then .ready else .done,pending:=some c}:Loop)=dd .done (some c):=fun c=>by rw[gM];rfl
    cases e2 with
    | normal=>exact absurd rfl (hnn ·)
    | exit id=>exact⟨_,_,run_endRound (some (.exit id)) FA.sD,.inr ⟨rfl,σ2.O,φ3,_,by rw[e4];exact Ia _,rfl,.inr ⟨id,rfl,rfl⟩⟩⟩
    | ret=>exact⟨_,_,run_endRound (some .ret) FA.sD,.inr ⟨rfl,σ2.O,φ3,_,by rw[e4];exact Ia _,rfl,.inl ⟨rfl,rfl⟩⟩⟩
  ·simp at sS
 refine CallsIn.mono (show CallsIn (Fr n.ro) (0 - 1) X.P gf _ W1 _ from key) ?_
 rintro ending W' ⟨⟨v,rfl⟩,(⟨_,O,φ',kJ,sS,_⟩ | ⟨k,_,O,φ',c,kJ,hσ,hc⟩)⟩
 ·rw[akB abV] at sS
  simp only[uS,aiT,aiX] at sS
  obtain⟨rfl,rfl⟩:=sS
  exact⟨none,_,by have:=run_endLoop (P:=X.P) kJ.sD (by rw[gM];simp);rw[this,gM],rfl,xz kE bI hr.bg hle (kJ.put hl cL) fun D hD=> (S4 D hD).1⟩
 ·subst hσ
  refine⟨some c,_,by have:=run_endLoop (P:=X.P) kJ.sD (by rw[gM];simp);rw[this,gM],?_⟩
  have kG:=xz kE bI hr.bg hle (kJ.put (L':=dd .exhausted (some c)) hl cL) fun D hD=> (S4 D hD).1
  rcases hc with⟨rfl,rfl⟩ | ⟨id,rfl,rfl⟩
  · refine wpIn_ret ⟨rfl,?_⟩
    rw[gM] at kG;exact kG
  · refine wpIn_exit ⟨rfl,?_⟩
    rw[gM] at kG;exact kG
end Go.AM
namespace Go.AM
open Go Go.RowKit
def Ends (X:Ctx) (μ0:Mu) (n:Fp) (e:aR) (σ:St):Go.Exit→Go.Act→World→Prop:=fun ex a w=>ex=e.conv∧jY X μ0 n σ a w
section
variable {X:Ctx} {E:Env} {μ0:Mu} {n:Fp}
theorem B5 {σ:St} {a:Go.Act} {w:World} (hs:jY X μ0 n σ a w) {c:Operand} {c':aU} (hc:dm X c=some c') {b:Bool} (hb:bu σ c'= .bool b):a.eval c= .bool b:=by
 obtain⟨_,_,φ,hr,_⟩:=hs
 have:=aS hr hc σ.O
 have e:bu ⟨σ.T,σ.O⟩ c'=bu σ c':=rfl
 rw[e,hb] at this
 simpa [aj] using this
theorem nE {h:Hints} {i:Nat} {ops:Array Oper} {d:Bool} {b:Code} {ta tb:aY}:Iq h (.region i ops d) b ta tb= .seq ta tb:=by
 simp[Iq,FJ]
theorem Po {h:Hints} {c:Operand} {x y b:Code} {ta tb:aY}:Iq h (.cond c x y) b ta tb= .seq ta tb:=by
 simp[Iq,FJ]
theorem Lq {h:Hints} {x y:Code} {ax ay:aY}:Iq h x y ax ay= .seq ax ay∨ ∃iR Pp dR i0 ops cc cx cy b1 i5 iA z5 id iS TR dS rest it nx ne kT kO o1 o5 mO b1' asq tc bs tz tR tS BF,
  x= .seq (.region iR Pp dR) (.block id (.loop (.seq (.region i0 ops false) (.seq (.cond cc cx cy) (.block b1 (.seq (.region i5 iA false) z5))))))∧y= .seq (.region iS TR dS) rest∧(ops[0]? =some o1∧o1.op= .next (.tmp it) false∧o1.dst=some nx∧o1.guard=none∧nx<h.n)∧
  (iA[0]? =some o5∧o5.op= .entry (.tmp it)∧o5.dst=some ne∧o5.guard=none∧ne<h.n)∧
  ax= .seq tR (.block mO (.loop (.seq (.region asq) (.seq tc (.block b1' (.seq (.region bs) tz))))))∧ay= .seq tS BF∧Iq h x y ax ay= .seq tR (.seq (.keys it nx ne id kT kO (.seq (.region (asq.drop 1)) tc) (.block b1' (.seq (.region (bs.drop 1)) tz)) tS) BF):=by
 unfold Iq
 split
 ·rename_i it nx ne id kT kO tR mO asq tc b1' bs tz tS BF hk hr
  right
  unfold FJ at hk
  split at hk
  ·rename_i iR Pp dR id2 i0 ops cc cx cy b1 i5 iA z5
   split at hk
   ·rename_i o1 o5 ho ho5
    split at hk
    ·rename_i it2 nx2 it3 ne2 k1 k2 k3 k4 k5 k6
     split at hk
     ·split at hk
      ·rename_i hn
       simp only[aiT,aiX] at hk
       obtain⟨rfl,rfl,rfl,rfl,rfl,rfl⟩:=hk
       obtain⟨hn1,hn2,rfl⟩:=hn
       unfold Ip at hr
       split at hr
       ·rename_i iS TR dS rest
        exact⟨iR,Pp,dR,i0,ops,cc,cx,cy,b1,i5,iA,z5,id2,iS,TR,dS,rest,it3,nx2,ne2,_,_,o1,o5,mO,b1',asq,tc,bs,tz,tR,tS,BF,rfl,rfl,⟨ho,k1,k2,k3,hn1⟩,⟨ho5,k4,k5,k6,hn2⟩,rfl,rfl,rfl⟩
       ·simp at hr
      ·simp at hk
     ·simp at hk
    ·simp at hk
   ·simp at hk
  ·simp at hk
 ·exact .inl rfl
def MJ (X:Ctx) (E:Env):Prop:= ∀g F caps xs,E.iter g caps=some xs→X.fH F=some g→ ∀ (μ:Mu) (lb:Array Value),ag X μ caps lb.toList→bk X μ→zG X μ F lb xs
theorem mC (     hm:X.P.follows .mixedOrders=true) (wS:MJ X E) {h:Hints}: ∀ (fuel:Nat),(∀m,m<fuel→rf X E (dt E (exec E m)))→ ∀ {n:Fp} (hn:h.n=n.1) {μ0:Mu} (c:Code) (ac:aY) (σ σ':St) (e:aR) (a:Go.Act) (w:World),
   cD X h c=some ac→exec E fuel ac σ=some (e,σ')→jY X μ0 n σ a w→c.wpIn (Fr n.ro) 0 X.P (Ends X μ0 n e σ') a w:=by
 intro fuel
 induction fuel using Nat.strongRecOn with
 | _ rp ih0=>
   intro hH n hn μ0 c
   rcases ajm rp with h0| IU
   ·subst h0;intro ac σ σ' e a w _ ah;simp[exec] at ah
   obtain⟨fuel,rfl⟩: ∃f,rp=f+1:=⟨rp - 1,abV⟩
   have P3: ∀m,m<fuel→rf X E (dt E (exec E m)):=fun m Gp=>hH m abV
   have ih:=ih0 fuel abV
   have H:=hH fuel abV
   cases c with
   | skip=>
     intro ac σ σ' e a w aO ah hs
     simp[cD] at aO;subst aO
     simp[exec,aJ] at ah
     obtain⟨rfl,rfl⟩:=ah
     exact wpIn_skip ⟨rfl,hs⟩
   | region id ops d=>
     intro ac σ σ' e a w aO ah hs
     cases d with
     | false=>
       simp only[cD,aiU] at aO
       obtain⟨asq,h1,rfl⟩:=aO
       simp only[exec,aJ,aiU,aiX] at ah
       obtain⟨σ1,h2,rfl,rfl⟩:=ah
       refine wpIn_region ?_
       rw[aj7]
       exact fK H hn h1 ops.size 0 abV hs (by simpa using h2) fun a' w' jE=> ⟨rfl,jE⟩
     | true=>
       simp only[cD,aiU] at aO
       obtain⟨asq,h1,rfl⟩:=aO
       simp only[exec,aJ,aiU,aiX] at ah
       obtain⟨σ1,h2,rfl,rfl⟩:=ah
       exact IP H hm hn h1 hs h2 fun a' w' jE=> ⟨rfl,jE⟩
   | seq x y=>
     intro ac σ σ' e a w aO ah hs
     simp only[cD] at aO
     split at aO
     · rename_i ax ay h1 h2
       injection aO with aO;subst aO
       rcases Lq (h:=h) (x:=x) (y:=y) (ax:=ax) (ay:=ay) with hk| hk
       rotate_left
       · obtain⟨iR,Pp,dR,i0,ops,cc,cx,cy,b1,i5,iA,z5,id,iS,TR,dS,rest,it,nx,ne,kT,kO,o1,o5,mO,b1',asq,tc,bs,tz,tR,tS,BF,rfl,rfl,⟨ho,k1,k2,k3,xw⟩,⟨ho5,k4,k5,k6,cL⟩,rfl,rfl,hk⟩:=hk
         rw[hk] at ah
         simp only[cD] at h1 h2
         split at h1
         rotate_left
         ·simp at h1
         rename_i t1 t2 g1 g2
         rw[nE] at h1
         simp only[aiT,aY.seq.injEq] at h1
         obtain⟨rfl,rfl⟩:=h1
         split at h2
         rotate_left
         ·simp at h2
         rename_i t3 t4 g3 g4
         rw[nE] at h2
         simp only[aiT,aY.seq.injEq] at h2
         obtain⟨rfl,rfl⟩:=h2
         rw[aiU] at g2
         obtain⟨q1,g2,e2⟩:=g2
         rw[aiU] at g2
         obtain⟨q2,g2,e1⟩:=g2
         subst e1
         simp only[aY.block.injEq,aY.loop.injEq] at e2
         obtain⟨rfl,e2⟩:=e2
         subst e2
         split at g2
         rotate_left
         ·simp at g2
         rename_i t5 t6 g5 g6
         rw[nE] at g2
         simp only[aiT,aY.seq.injEq] at g2
         obtain⟨e3,e4⟩:=g2
         subst e3 e4
         rw[aiU] at g5
         obtain⟨l,g5,e4⟩:=g5
         simp only[aY.region.injEq] at e4
         subst e4
         split at g6
         rotate_left
         ·simp at g6
         rename_i t7 t8 g7 g8
         rw[Po] at g6
         simp only[aiT,aY.seq.injEq] at g6
         obtain⟨e5,e6⟩:=g6
         subst e5 e6
         rw[aiU] at g8
         obtain⟨q3,g8,e7⟩:=g8
         simp only[aY.block.injEq] at e7
         obtain⟨rfl,e7⟩:=e7
         subst e7
         split at g8
         rotate_left
         ·simp at g8
         rename_i t9 t10 g9 g10
         rw[nE] at g8
         simp only[aiT,aY.seq.injEq] at g8
         obtain⟨e8,e9⟩:=g8
         subst e8 e9
         rw[aiU] at g9
         obtain⟨l5,g9,e10⟩:=g9
         simp only[aY.region.injEq] at e10
         subst e10
         simp only[exec,aJ] at ah
         refine wpIn_seq (wpIn_seq ?_)
         split at ah
         rotate_left
         ·rename_i r BH
          refine wpIn_mono (ih P3 hn (.region iR Pp dR) _ σ σ' e a w (by simpa only[cD] using g1) ah hs) fun ex a' w' hq=> ?_
          obtain⟨rfl,jE⟩:=hq
          cases e with
          | normal=>exact absurd ah (BH σ')
          | exit id=>exact⟨rfl,jE⟩
          | ret=>exact⟨rfl,jE⟩
         rename_i σ1 hx
         refine wpIn_mono (ih P3 hn (.region iR Pp dR) _ σ σ1 .normal a w (by simpa only[cD] using g1) hx hs) fun ex a' w' hq=> ?_
         obtain⟨rfl,iv⟩:=hq
         rcases ajm fuel with hf| hf
         ·subst hf;simp[exec] at ah
         obtain⟨f1,rfl⟩: ∃f,fuel=f+1:=⟨fuel - 1,abV⟩
         simp only[exec,aJ] at ah
         rcases ajm f1 with XY| XY
         ·subst XY;simp[exec] at ah
         obtain⟨f2,rfl⟩: ∃f,f1=f+1:=⟨f1 - 1,abV⟩
         have hB:FZ X n ops (.cond cc cx cy) (exec E f2) (.seq (.region ((l.map fun o=> {o with pre:=[]}).drop 1)) t7):=by
          intro s s' e' μ1 a1 w1 Q K hb kG hQ hK
          rcases ajm f2 with Km| Km
          ·subst Km;simp[exec] at hb
          obtain⟨f3,rfl⟩: ∃f,f2=f+1:=⟨f2 - 1,abV⟩
          simp only[exec,aJ] at hb
          rcases ajm f3 with hf3| hf3
          ·subst hf3;simp[exec] at hb
          obtain⟨f4,rfl⟩: ∃f,f3=f+1:=⟨f3 - 1,abV⟩
          have bI:0 <ops.size:=(aiV.1 ho).1
          split at hb
          rotate_left
          ·rename_i r BH
           simp only[exec,aJ,aiU,aiX] at hb
           obtain⟨s1,h3,rfl,rfl⟩:=hb
           exact absurd (by simp only[exec,aJ,h3,ai4]) (BH s1)
          rename_i s1 TS
          simp only[exec,aJ,aiU,aiX,true_and] at TS
          obtain⟨s2,h3,rfl⟩:=TS
          refine fK (hH f4 abV) hn g5 (ops.size - 1) 1 abV kG (by rw[List.map_drop];exact h3) fun a2 w2 mn=>hK _ _ ?_
          refine wpIn_mono (ih0 (f4+1) abV (fun m Gp=>hH m abV) hn (.cond cc cx cy) t7 s2 s' e' a2 w2 (by simpa only[cD] using g7) hb mn) fun ex a3 w3 hq=> ?_
          obtain⟨rfl,Cn⟩:=hq
          have:=hQ a3 w3 Cn
          cases e'<;>exact this
         have hM:Lo X n iA z5 b1 (exec E f2) (.block b1 (.seq (.region ((l5.map fun o=> {o with pre:=[]}).drop 1)) t10)):=by
          intro s s' μ1 a1 w1 Q hb kG hQ
          rcases ajm f2 with Km| Km
          ·subst Km;simp[exec] at hb
          obtain⟨f3,rfl⟩: ∃f,f2=f+1:=⟨f2 - 1,abV⟩
          simp only[exec,aJ] at hb
          rcases ajm f3 with hf3| hf3
          ·subst hf3;simp[exec] at hb
          obtain⟨f4,rfl⟩: ∃f,f3=f+1:=⟨f3 - 1,abV⟩
          have bI:0 <iA.size:=(aiV.1 ho5).1
          have inner: ∀e' (R:Go.Exit→Go.Act→World→Prop),exec E (f4+1) (.seq (.region ((l5.map fun o=> {o with pre:=[]}).drop 1)) t10) s=some (e',s')→(∀a' w',jY X μ1 n s' a' w'→R e'.conv a' w')→wpOpsIn (Fr n.ro) 0 X.P iA (Exit.then (z5.wpIn (Fr n.ro) 0 X.P R) R) (List.range' 1 (iA.size - 1)) a1 w1:=by
           intro e' R hb hR
           simp only[exec,aJ] at hb
           rcases ajm f4 with hf4| hf4
           ·subst hf4;simp[exec] at hb
           obtain⟨f5,rfl⟩: ∃f,f4=f+1:=⟨f4 - 1,abV⟩
           split at hb
           rotate_left
           ·rename_i r BH
            simp only[exec,aJ,aiU,aiX] at hb
            obtain⟨s1,h3,rfl,rfl⟩:=hb
            exact absurd (by simp only[exec,aJ,h3,ai4]) (BH s1)
           rename_i s1 TS
           simp only[exec,aJ,aiU,aiX,true_and] at TS
           obtain⟨s2,h3,rfl⟩:=TS
           refine fK (hH f5 abV) hn g9 (iA.size - 1) 1 abV kG (by rw[List.map_drop];exact h3) fun a2 w2 mn=> ?_
           refine wpIn_mono (ih0 (f5+1) abV (fun m Gp=>hH m abV) hn z5 t10 s2 s' e' a2 w2 g10 hb mn) fun ex a3 w3 hq=> ?_
           obtain⟨rfl,Cn⟩:=hq
           exact hR a3 w3 Cn
          split at hb
          ·rename_i mO s1 kJ
           split at hb
           ·rename_i heq
            simp only[aiT,aiX,true_and] at hb
            subst hb;subst heq
            exact inner _ _ kJ fun a' w' jE=>by
                simp only[aR.conv,Go.Exit.inBlock,if_true]
                exact hQ a' w' jE
           ·simp at hb
          ·exact inner _ _ hb fun a' w' jE=>hQ a' w' jE
         split at ah
         rotate_left
         ·rename_i r BH
          obtain⟨rfl,_⟩:=B4 (μ0:=μ0) (i0:=i0) (i5:=i5) hB hM ho k1 k2 k3 (by rw[←hn];exact xw) ho5 k4 k5 k6 (by rw[←hn];exact cL) ah iv
          exact absurd ah (BH σ')
         rename_i σ2 hkr
         obtain⟨_,hwp⟩:=B4 (μ0:=μ0) (i0:=i0) (i5:=i5) hB hM ho k1 k2 k3 (by rw[←hn];exact xw) ho5 k4 k5 k6 (by rw[←hn];exact cL) hkr iv
         refine wpIn_mono hwp fun ex a2 w2 hq=> ?_
         obtain⟨rfl,σe,σp,q1,q2,q3⟩:=hq
         refine wpIn_seq ?_
         refine wpIn_mono (ih0 f2 abV (fun m Gp=>hH m abV) hn (.region iS TR dS) _ σe σp .normal a2 w2 (by simpa only[cD] using g3) q2 q1) fun ex a3 w3 hq=> ?_
         obtain⟨rfl,Cn⟩:=hq
         exact ih0 (f2+1) abV (fun m Gp=>hH m abV) hn rest _ σ2 σ' e a3 w3 g4 ah (q3 a3 w3 Cn)
       rw[hk] at ah
       simp only[exec,aJ] at ah
       refine wpIn_seq ?_
       split at ah
       · rename_i σ1 hx
         refine wpIn_mono (ih P3 hn x ax σ σ1 .normal a w h1 hx hs) fun ex a' w' hq=> ?_
         obtain⟨rfl,jE⟩:=hq
         exact ih P3 hn y ay σ1 σ' e a' w' h2 ah jE
       · rename_i r cL
         refine wpIn_mono (ih P3 hn x ax σ σ' e a w h1 ah hs) fun ex a' w' hq=> ?_
         obtain⟨rfl,jE⟩:=hq
         cases e with
         | normal=>exact absurd ah (cL σ')
         | exit id=>exact⟨rfl,jE⟩
         | ret=>exact⟨rfl,jE⟩
     ·simp at aO
   | cond c x y=>
     intro ac σ σ' e a w aO ah hs
     simp only[cD] at aO
     split at aO
     · rename_i c' ax ay h0 h1 h2
       injection aO with aO;subst aO
       simp only[exec,aJ] at ah
       split at ah
       · rename_i hb
         exact wpIn_cond_true (B5 hs h0 hb) (ih P3 hn x ax σ σ' e a w h1 ah hs)
       · rename_i hb
         exact wpIn_cond_false (B5 hs h0 hb) (ih P3 hn y ay σ σ' e a w h2 ah hs)
       ·simp at ah
     ·simp at aO
   | block id b=>
     intro ac σ σ' e a w aO ah hs
     simp only[cD,aiU] at aO
     obtain⟨ab,h1,rfl⟩:=aO
     simp only[exec,aJ] at ah
     refine wpIn_block ?_
     split at ah
     · rename_i mO σ1 hb
       refine wpIn_mono (ih P3 hn b ab σ σ1 (.exit mO) a w h1 hb hs) fun ex a' w' hq=> ?_
       obtain⟨rfl,jE⟩:=hq
       simp only[aR.conv,Go.Exit.inBlock]
       split at ah
       · rename_i heq
         simp only[aiT,aiX] at ah
         obtain⟨rfl,rfl⟩:=ah
         rw[if_pos heq]
         exact⟨rfl,jE⟩
       · rename_i cL
         simp only[aiT,aiX] at ah
         obtain⟨rfl,rfl⟩:=ah
         rw[if_neg cL]
         exact⟨rfl,jE⟩
     · rename_i r cL
       refine wpIn_mono (ih P3 hn b ab σ σ' e a w h1 ah hs) fun ex a' w' hq=> ?_
       obtain⟨rfl,jE⟩:=hq
       cases e with
       | normal=>exact⟨rfl,jE⟩
       | exit mO=>exact absurd ah (cL mO σ')
       | ret=>exact⟨rfl,jE⟩
   | loop b=>
     intro ac σ σ' e a w aO ah hs
     simp only[cD,aiU] at aO
     obtain⟨ab,h1,rfl⟩:=aO
     have rounds: ∀ (k:Nat),k≤fuel+1→ ∀ (σ:St),exec E k (.loop ab) σ=some (e,σ')→ ∃m,∀a w,jY X μ0 n σ a w→Code.roundsIn (Fr n.ro) 0 X.P b (Ends X μ0 n e σ') m a w:=by
       intro k
       induction k with
       | zero=>intro _ σ hr;simp[exec] at hr
       | succ k ihk=>
         intro hk σ hr
         simp only[exec,aJ] at hr
         have body: ∀ (σ1:St) (e1:aR),exec E k ab σ=some (e1,σ1)→ ∀a w,jY X μ0 n σ a w→b.wpIn (Fr n.ro) 0 X.P (Ends X μ0 n e1 σ1) a w:=fun σ1 e1 hx a w hs=>
          ih0 k abV (fun m Gp=>hH m abV) hn b ab σ σ1 e1 a w h1 hx hs
         split at hr
         ·rename_i σ1 hx
          obtain⟨m,PM⟩:=ihk abV σ1 hr
          refine⟨m+1,fun a w hs=> ?_⟩
          rw[roundsIn_succ]
          refine wpIn_mono (body σ1 .normal hx a w hs) fun ex a' w' hq=> ?_
          obtain⟨rfl,jE⟩:=hq
          exact PM a' w' jE
         ·rename_i r cL
          refine⟨1,fun a w hs=> ?_⟩
          rw[roundsIn_succ]
          refine wpIn_mono (body σ' e hr a w hs) fun ex a' w' hq=> ?_
          obtain⟨rfl,jE⟩:=hq
          cases e with
          | normal=>exact absurd hr (cL σ')
          | exit mO=>exact⟨rfl,jE⟩
          | ret=>exact⟨rfl,jE⟩
     obtain⟨m,Gp⟩:=rounds (fuel+1) (aiZ _) σ ah
     exact wpIn_loop_rounds m (Gp a w hs)
   | exit id=>
     intro ac σ σ' e a w aO ah hs
     simp[cD] at aO;subst aO
     simp[exec,aJ] at ah
     obtain⟨rfl,rfl⟩:=ah
     exact wpIn_exit ⟨rfl,hs⟩
   | ret=>
     intro ac σ σ' e a w aO ah hs
     simp[cD] at aO;subst aO
     simp[exec,aJ] at ah
     obtain⟨rfl,rfl⟩:=ah
     exact wpIn_ret ⟨rfl,hs⟩
   | label l=>
     intro ac σ σ' e a w aO ah hs
     simp[cD] at aO;subst aO
     simp[exec,aJ] at ah
     obtain⟨rfl,rfl⟩:=ah
     exact wpIn_label ⟨rfl,hs⟩
   | scope b=>
     intro ac σ σ' e a w aO ah hs
     simp only[cD,aiU] at aO
     obtain⟨ab,h1,rfl⟩:=aO
     simp only[exec,aJ] at ah
     refine Lr ?_
     refine wpIn_mono (ih P3 hn b ab σ σ' e a w h1 ah hs) fun ex a' w' hq=> ?_
     obtain⟨rfl,jE⟩:=hq
     cases e<;>exact⟨rfl,jE⟩
   | rangeFunc f ps x y=>
     intro ac σ σ' e a w aO ah hs
     simp only[cD] at aO
     split at aO
     rotate_left
     ·simp at aO
     rename_i f' ax ay h0 h1 h2
     split at aO
     rotate_left
     ·simp at aO
     rename_i ER
     injection aO with aO;subst aO
     simp only[exec,aJ] at ah
     split at ah
     · rename_i g caps mS
       split at ah
       · rename_i xs LN
         split at ah
         ·rename_i hlen
          obtain⟨kE,bI,φ,hr,hle⟩:=hs
          have hf:=aS hr h0 σ.O
          have Vt:bu ⟨σ.T,σ.O⟩ f'= .fn g caps:=mS
          rw[Vt] at hf
          simp only[aj] at hf
          obtain⟨F,cv,hF,Pq,v7⟩:=hf
          refine IT (lb:=cv) (xs:=xs) (rec:=exec E fuel) ?_ ?_ ⟨kE,bI,φ,hr,hle⟩ ?_ hF ?_ ?_ ah
          ·intro l s s' e' m b v hb kG
           exact ih P3 (n:=⟨n.tm,0,some l⟩) hn x ax s s' e' b v h1 hb kG
          ·intro l s s' e' m b v hb kG
           exact ih P3 (n:=⟨n.tm,0,some l⟩) hn y ay s s' e' b v h2 hb kG
          ·intro p hp
           rw[aiY] at ER
           have:=ER p hp
           rw[Nat.blt_eq] at this
           rw[hn] at this
           exact this
          ·intro φ2 pT
           exact wS g F caps xs LN Pq ⟨w,φ2,σ.O⟩ cv (by
            have Km:=aS pT h0 σ.O
            have ahY:bu ⟨σ.T,σ.O⟩ f'= .fn g caps:=mS
            rw[ahY] at Km
            simp only[aj] at Km
            obtain⟨F2,cv2,hF2,_,aag⟩:=Km
            rw[hF] at hF2
            injection hF2 with _ _ e3
            rw[e3];exact aag) pT.bg
          ·intro x hx
           rw[aiY] at hlen
           have:=hlen x hx
           rw[akb] at this
           simpa using this
         ·simp at ah
       ·simp at ah
     ·simp at ah
   | goto l=>
     intro ac σ σ' e a w aO ah hs
     simp[cD] at aO;subst aO
     simp[exec,aJ] at ah
   | refuse y=>
     intro ac σ σ' e a w aO ah hs
     simp[cD] at aO;subst aO
     simp[exec,aJ] at ah
end
end Go.AM
