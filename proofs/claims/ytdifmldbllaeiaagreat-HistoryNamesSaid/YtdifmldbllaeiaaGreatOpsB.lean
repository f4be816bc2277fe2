/- Texts of the proof. -/
import Derived.Test.YtdifmldbllaeiaaGreatOpsA
import Derived.Test.YtdifmldbllaeiaaGreatTail
import Derived.MapKept
import Derived.WideKeyRuns
import Derived.Scope
import Derived.Laws.IdiomRangeMap
set_option linter.unusedSimpArgs false
set_option linter.unusedVariables false
namespace Go.AM
open Go Go.RowKit
section
variable {X:Ctx} {E:Env} {C:bB} {o:Oper} {a:Go.Act} {T:Nat->V} {μ:Mu} {v:V} {σ':St}
theorem LD (a:List UInt8):flat (a.map fun b=>Value.int .u8 b.toNat)=a.map fun b=>Value.int .u8 b.toNat:=by
 induction a with
 | nil=>rfl
 | cons b a c=>simp only[List.map_cons,flat,List.flatMap_cons] at c ⊢;rw[c];rfl
theorem ag.bytes (a:List UInt8):ag X μ (a.map fun b=>V.int .u8 b.toNat) (a.map fun b=>Value.int .u8 b.toNat):=by
 induction a with
 | nil=>simp[ag]
 | cons b a c=>simp only[List.map_cons,ag];exact⟨by simp[aj],c⟩
theorem Dt {sz:Nat} {x:V} {xv:Value} {k:List V->Act} {p:V×St} (m:bq X μ) (hx:aj X μ x xv) (a: (content sz x k).run C ⟨T,μ.O⟩=some p):
  ∃ys us,(k ys).run C ⟨T,μ.O⟩=some p/\ag X μ ys us/\(Builtin.lenOf xv).run X.P μ.w= .ok ys.length μ.w/\
   ∀w',w'.heap=μ.w.heap-> ∀n,n<=ys.length->(Builtin.firstCells sz n xv).run X.P w'= .ok (flat (us.take n)).toArray w':=by
 cases x<;>simp only[content] at a<;>try exact absurd a aq
 .
  split at a
  .rename_i s hs;simp only[aj] at hx;obtain⟨d,rfl,rfl⟩:=hx;refine⟨_,_,a,ag.bytes _,?_,fun w' c n hn=> ?_⟩
   .simp only[Builtin.lenOf,Sem.run_pure,List.length_map];rw[cG];rfl
   have: (d.extract 0 n).data.map (fun b=>Value.int .u8 b.toNat)=(flat ((d.data.toList.map fun b=>Value.int .u8 b.toNat).take n)).toArray:=by rw[<-alx,LD];apply Array.ext';simp[ByteArray.data_extract,ak9,akK]
   simp only[Builtin.firstCells,Sem.run_pure,this]
  exact absurd a aq
 .
  simp only[aj] at hx;obtain⟨q,rfl⟩:=hx;refine⟨[],[],a,by simp[ag],by simp[Builtin.lenOf],fun w' c n hn=> ?_⟩;have:n=0:=by simpa using hn
  subst this;cases q<;>simp[Builtin.firstCells,loadCells,loadCellsFrom,flat]
 .
  split at a
  .rename_i sz' xs hs;subst hs;simp only[aj] at hx;obtain⟨_,_,q,cap,vs,rfl,_,e,o⟩:=hx;refine⟨xs,vs,a,e,by simp[Builtin.lenOf],fun w' c n hn=> ?_⟩;rcases o with rfl| ⟨b,F,rfl,_,_,t⟩
   .have:n=0:=by simpa using hn
    subst this;cases q<;>simp[Builtin.firstCells,loadCells,loadCellsFrom,flat]
   simp only[Builtin.firstCells];exact yF (t.cn (by rw[c])) (by rw[<-e.length];exact hn)
  exact absurd a aq
 rename_i r g off len;simp only[Act.run] at a;split at a
 .rename_i es bC;split at a
  .rename_i hc;obtain⟨u,f,v⟩:=hc;simp only[aj] at hx;obtain⟨q,cap,rfl,y,_,z⟩:=hx;obtain⟨A,G,B⟩:=z u;have h: (aN es off len).length=len:=by simp[aN];omega
   obtain⟨H,I,J,i⟩:=m.row r es bC A;by_cases D:cap=0
   .have JT:len=0:=ajk;subst JT;refine⟨_,[],a,by simp[aN,ag],by simp[Builtin.lenOf,aN],fun w' c n hn=> ?_⟩;have:n=0:=by simpa [aN] using hn
    subst this;cases q<;>simp[Builtin.firstCells,loadCells,loadCellsFrom,flat]
   rcases i with i| ⟨K,TT,vs,L,M,j,E⟩
   .omega
   have ZD:=B.resolve_left D;subst ZD;refine⟨_,(vs.drop off).take len,a,ag.take _ (ag.drop _ j),by simp only[Builtin.lenOf,Sem.run_pure,h],fun w' c n hn=> ?_⟩;simp only[Builtin.firstCells];have l:=(E.drop off).take len;rw[f] at l;rw[f];refine yF (l.cn (by rw[c])) ?_;rw[h] at hn;have:=j.length;simp;omega
  exact absurd a aq
 exact absurd a aq
theorem EP (cb:Nat): ∀ (k c:Nat),c<=cb+(cb+768) / 4->Builtin.growBy cb k c<=cb+(cb+768) / 4
 | 0,c,h=>h
 | k+1,c,h=>by
   simp only[Builtin.growBy];split
   .exact h
   exact EP cb k _ ajk
theorem LF {cb old:Nat} (h:old<cb):Builtin.nextslicecap cb old<=2*cb+192:=by
 unfold Builtin.nextslicecap;split
 .omega
 split
 .omega
 have:=EP cb 4 old ajk;omega
theorem T6 {cb old bytes:Nat} (h:old<cb) (hl:cb<=xa bytes): ¬Builtin.nextslicecap cb old*bytes >2 ^ 48/\ ¬ ((cb:Int) >IntKind.i64.max):=by
 unfold xa at hl;rw[ak2,Nat.sub_mul_div] at hl;have h1:=LF h;have h2:cb+200<=140737488355328 / (bytes+1):=ajk;have h3: (cb+200)*(bytes+1)<=140737488355328:=(Nat.le_div_iff_mul_le ajk).1 h2;have h4:Builtin.nextslicecap cb old*bytes<=(2*(cb+200))*(bytes+1):=Nat.mul_le_mul ajk ajk;have h5: (2*(cb+200))*(bytes+1)=2*((cb+200)*(bytes+1)):=by rw[Nat.mul_assoc]
 have h6: (2:Nat) ^ 48=281474976710656:=ajm;have h7:cb+200<=(cb+200)*(bytes+1):=Nat.le_mul_of_pos_right _ ajk;have h8:IntKind.i64.max=9223372036854775807:=ajm;refine⟨ajk,by rw[h8];omega⟩
theorem lI {sT xT e:TypeId} {d:TypeDesc} {sz n sLen sCap:Nat} {base:Option Addr} {xv:Value} {new:Array Value} {w w':World} {ty:TypeId}
  (hd:X.P.underlying sT=some (.slice e)) (hx:X.P.underlying xT=some d) (JN: ∀k,d≠ .int k) (hn:bU X e=some sz) (hl: (Builtin.lenOf xv).run X.P w= .ok n w)
  (jg:sLen+n<=sCap) (b: (Builtin.firstCells sz n xv).run X.P w= .ok new w)
  (a:match base with| some p=> (storeCells (p.add (sLen*sz)) new.toList).run X.P w= .ok () w'| none=>w'=w):
  (Builtin.append_ #[sT,xT] ty #[.slice base sLen sCap,xv]).run X.P w= .ok (.slice base (sLen+n) sCap) w':=by
 have hm: (match d with| .int _=>true| _=>false)=false:=by cases d<;>first| rfl| exact absurd rfl (JN _)
 have c: (#[sT,xT]:Array TypeId)[0]? =some sT:=rfl;have P8: (#[sT,xT]:Array TypeId)[1]? =some xT:=rfl;have Tu: (#[Value.slice base sLen sCap,xv]:Array Value)[0]? =some (.slice base sLen sCap):=rfl;have Ow: (#[Value.slice base sLen sCap,xv]:Array Value)[1]? =some xv:=rfl;simp only[Builtin.append_,c,P8,Tu,Ow,Sem.run_bind,run_underlying hd,Result.andThen_ok,fJ hn,run_underlying hx,Sem.run_pure,hm,ajA,if_false,hl];rw[if_pos jg];simp only[Bool.not_false,if_true,Sem.run_bind,b,Result.andThen_ok];cases base with
 | none=>simp only at a;subst a;simp
 | some p=>simp only at a;simp[Sem.run_bind,a]
theorem qN {sT xT e:TypeId} {d:TypeDesc} {sz n sLen sCap:Nat} {base:Option Addr} {xv zv:Value} {old new:Array Value} {w:World} {ty:TypeId} {i:TypeInfo}
  (hd:X.P.underlying sT=some (.slice e)) (hx:X.P.underlying xT=some d) (JN: ∀k,d≠ .int k) (hn:bU X e=some sz) (hi:X.P.info? e=some i)
  (c: ∀w,(zeroValue e).run X.P w= .ok zv w) (hl: (Builtin.lenOf xv).run X.P w= .ok n w) (f:sCap<sLen+n) (Je:sLen+n<=xa i.bytes)
  (a: (Builtin.firstCells sz sLen (.slice base sLen sCap)).run X.P w.drew= .ok old w.drew) (g: (Builtin.firstCells sz n xv).run X.P w.drew= .ok new w.drew):
  ∃newCap,sLen+n<=newCap/\(Builtin.append_ #[sT,xT] ty #[.slice base sLen sCap,xv]).run X.P w=
   .ok (.slice (some ⟨w.heap.size,0,none⟩) (sLen+n) newCap) (w.drew.alloc (.cells (old++new++Builtin.zeroCells zv.cells (newCap - (sLen+n))) e)):=by
 have hm: (match d with| .int _=>true| _=>false)=false:=by cases d<;>first| rfl| exact absurd rfl (JN _)
 have j: (#[sT,xT]:Array TypeId)[0]? =some sT:=rfl;have P8: (#[sT,xT]:Array TypeId)[1]? =some xT:=rfl;have Tu: (#[Value.slice base sLen sCap,xv]:Array Value)[0]? =some (.slice base sLen sCap):=rfl;have Ow: (#[Value.slice base sLen sCap,xv]:Array Value)[1]? =some xv:=rfl;obtain⟨r1,r2⟩:=T6 f Je;refine⟨(Question.appendCap (sLen+n) sCap e).cut (w.tape w.drawn (.appendCap (sLen+n) sCap e)),by simp[Question.cut],?_⟩;simp only[Builtin.append_,j,P8,Tu,Ow,Sem.run_bind,run_underlying hd,Result.andThen_ok,fJ hn,run_underlying hx,Sem.run_pure,hm,ajA,if_false,hl];rw[if_neg ajk];simp only[Sem.run_bind,run_typeInfo w hi,Result.andThen_ok];have c2: ¬ (((sLen+n:Nat):Int) >IntKind.i64.max/\(False\/i.bytes=0)):=fun h=>r2 h.1;rw[if_neg c2];simp only[Sem.run_bind,run_typeInfo w hi,Result.andThen_ok];rw[if_neg r1];have b: (choose (.appendCap (sLen+n) sCap e)).run X.P w= .ok ((Question.appendCap (sLen+n) sCap e).cut (w.tape w.drawn (.appendCap (sLen+n) sCap e))) w.drew:=by rw[run_choose];simp only[Question.forced,ajA,if_false];rfl
 simp only[Sem.run_bind,b,Result.andThen_ok,run_typeInfo w.drew hi,run_askRoom,a,Bool.not_false,if_true,g,c,Sem.run_pure,newRow,run_newObj];rfl
theorem Jf {us rest:List Value} {sz:Nat} (h: ∀u ∈ us,u.cells.size=sz):eo (flat us++rest) 0 sz us:=by intro i v hv;have hm:=h v (List.mem_of_getElem? hv);refine⟨hm,fun j x hx=> ?_⟩;have:=xi h hv hx;have a:i*sz+j< (flat us).length:=(ajp.1 this).1;rw[akg,aj2 a];exact this
theorem Jg (us vs:List Value):flat (us++vs)=flat us++flat vs:=by simp[flat]
theorem sj {zv:Value} {sz n:Nat} (h:zv.cells.size=sz): (Builtin.zeroCells zv.cells n).size=n*sz:=by simp[Builtin.zeroCells,h]
theorem Py {α:Type} {n:Nat} {l:List α} (h:l.length<=n):l.take n=l:=List.take_of_length_le h
theorem Jh {O1:Nat->Obj} (l:bq X ⟨μ.w,μ.φ,O1⟩) {r sz newCap:Nat} {olds ys:List V} {ous us:List Value} {zv:Value} {e:TypeId} {o0:Obj}
  (b:o0={gen:=o0.gen,sz:=sz,arr:=true,fz:=false,es:=some (olds++ys)}) (d:o0.gen=(O1 r).gen+1)
  (bM:0 <sz) (h1:ag X ⟨μ.w,μ.φ,O1⟩ olds ous) (h2:ag X ⟨μ.w,μ.φ,O1⟩ ys us) (b1:olds.all (bj · sz)=true) (h:ys.all (bj · sz)=true)
  (m:zv.cells.size=sz) (t:olds.length+ys.length<=newCap):
  let μ':Mu:=⟨μ.w.drew.alloc (.cells ((flat ous).toArray++(flat us).toArray++Builtin.zeroCells zv.cells (newCap - (olds.length+ys.length))) e),dh μ.φ r ⟨μ.w.heap.size,0,newCap⟩,dh O1 r o0⟩
  Le ⟨μ.w,μ.φ,O1⟩ μ'/\bq X μ':=by
 intro μ';obtain⟨a,f⟩:=Le.drew (X:=X) (μ:=⟨μ.w,μ.φ,O1⟩) l;have n:ag X ⟨μ.w.drew,μ.φ,O1⟩ (olds++ys) (ous++us):=ag.mono a (h1.append h2);have hs: ∀u ∈ ous++us,u.cells.size=sz:=((h1.append h2).cells_one (sz:=sz) (by simp only[akL,b1,h,akh])).1;have X4:=h1.length;have JQ:=h2.length;have FQ:=jC hs;have k: ((flat ous).toArray++(flat us).toArray++Builtin.zeroCells zv.cells (newCap - (olds.length+ys.length))).toList=flat (ous++us)++(Builtin.zeroCells zv.cells (newCap - (olds.length+ys.length))).toList:=by simp[Jg]
 have o:newCap*sz<=((flat ous).toArray++(flat us).toArray++Builtin.zeroCells zv.cells (newCap - (olds.length+ys.length))).size:=by rw[<-cG,k,List.length_append,FQ,cG (Builtin.zeroCells _ _),sj m,<-aj4];apply akb;rw[List.length_append];omega
 have:=Gu (X:=X) (μ:=⟨μ.w.drew,μ.φ,O1⟩) f r sz newCap true (es:=olds++ys) (vs:=ous++us) (c:=(flat ous).toArray++(flat us).toArray++Builtin.zeroCells zv.cells (newCap - (olds.length+ys.length))) e bM
  (by simp;omega) (by simp only[akL,b1,h,akh]) n o (fun i u p=>by have Ep:=Jf (rest:=(Builtin.zeroCells zv.cells (newCap - (olds.length+ys.length))).toList) hs;rw[<-k] at Ep;obtain⟨q,s⟩:=Ep i u p;refine⟨q,fun j x hx=> ?_⟩;have:=s j x hx;rw[akg] at this;rw[<-alv];exact this)
 have g: ({gen:=(O1 r).gen+1,sz:=sz,arr:=true,fz:=false,es:=some (olds++ys)}:Obj)=o0:=by rw[b,d]
 simp only[g] at this;exact⟨a.trans this.1,this.2⟩
theorem sm {sz:Nat} {p:Option Addr} {n m:Nat} {w:World}: (Builtin.firstCells sz 0 (.slice p n m)).run X.P w= .ok #[] w:=by cases p<;>simp[Builtin.firstCells,loadCells,loadCellsFrom]
theorem Cr (cn:Bool) {c:Call} {s x:Operand} {sT xT e:TypeId} {d:TypeDesc} {s' x':ba} {r sz:Nat} {i:TypeInfo} {z:V} (hr:Rel X T a μ) (ho:o.op= .call c) (hc:c.callee= .builtin .append)
  (lC:c.args= #[s,x]) (LG:c.argTypes= #[sT,xT]) (hd:bP X sT=some (.slice e)) (hx:bP X xT=some d) (JN: ∀k,d≠ .int k) (hn:bU X e=some sz) (hi:info X e=some i)
  (hz:fW X e=some z) (T4:bj z sz=true) (h1:dy X s=some s') (h2:dy X x=some x')
  (ah: (content sz (bE ⟨T,μ.O⟩ x') fun ys=>match cn with| true=>Hp r sz (xa i.bytes) (bE ⟨T,μ.O⟩ s') ys| false=>oM ys fun ys=>Hp r sz (xa i.bytes) (bE ⟨T,μ.O⟩ s') ys).run C ⟨T,μ.O⟩=some (v,σ')):σ'.T=T/\dg X o a μ σ'.O v:=by
 have hs:=aX hr h1 μ.O;have hxx:=aX hr h2 μ.O;have M:X.P.underlying sT=some (.slice e):=hd;have N:X.P.underlying xT=some d:=hx;have pG:X.P.info? e=some i:=hi;obtain⟨Q,us,k1,k2,H,k4⟩:=Dt hr.bp hxx ah;have iC: ∃ys O1,(Hp r sz (xa i.bytes) (bE ⟨T,μ.O⟩ s') ys).run C ⟨T,O1⟩=some (v,σ')/\ag X ⟨μ.w,μ.φ,O1⟩ ys us/\Le μ ⟨μ.w,μ.φ,O1⟩/\bq X ⟨μ.w,μ.φ,O1⟩:=by
  cases cn with
  | true=>exact⟨Q,μ.O,k1,k2,Le.refl μ,hr.bp⟩
  | false=>exact Cn (μ:=μ) hr.bp k2 k1
 obtain⟨ys,O1,b,F,g3,g4⟩:=iC;unfold Hp at b;have hyl:ys.length=Q.length:=by rw[F.length,k2.length]
 rw[<-hyl] at H k4;have Qk:us.length=ys.length:=F.length.symm;have T7: ∀w',w'.heap=μ.w.heap->(Builtin.firstCells sz ys.length (a.eval x)).run X.P w'= .ok (flat us).toArray w':=fun w' mu=>by have:=k4 w' mu ys.length (ajw _);rwa [Py ajk] at this
 have T8:=T7 μ.w rfl;have T9:=T7 μ.w.drew rfl;have jT:=aj.mono g3 hs;have fin: ∀val w',(Builtin.append_ #[sT,xT] o.type #[a.eval s,a.eval x]).run X.P μ.w= .ok val w'->(execOp a.eval o).run X.P μ.w= .ok (.value val) w':=fun val w' hv=>by refine iE ho hc ?_;simp only[builtin,lC,LG];refine dQ ?_;simpa using hv
 split at b
 .rename_i hb;simp only[ajt,decide_eq_true_eq] at hb;obtain⟨R,bM⟩:=hb;obtain⟨zv,vD,CW⟩:=jk hz μ.w;have S: ∀w,(zeroValue e).run X.P w= .ok zv w:=fun w=>by
   obtain⟨zv',G,q2⟩:=jk hz w;have:zv'=zv:=by simp only[fW,info,Option.bind_eq_some_iff] at hz;obtain⟨i0,e1,zq,e2,_⟩:=hz;simp only[zeroValue,Sem.run_bind,run_typeInfo w e1,run_typeInfo μ.w e1,Result.andThen_ok,e2,Sem.run_pure] at G vD;injection G with G _;injection vD with vD _;rw[<-G,<-vD]
   rw[<-this];exact G
  obtain⟨Cq,LB⟩:=fk (X:=X) (μ:=μ) CW;have T5:zv.cells.size=sz:=by rw[Cq.gB LB,(cF T4).2]
  obtain⟨TX,Df⟩:=F.cells_one R;have FQ:=jC TX;have xk:ys.length=0-> ∀ (p:Option Addr) (len cap:Nat),len<=cap->a.eval s= .slice p len cap->(execOp a.eval o).run X.P μ.w= .ok (.value (.slice p len cap)) μ.w:=fun h0 p len cap m hp=>by
   have hu0:us=[]:=by have:us.length=0:=ajk;simpa using this
   have A:=lI (X:=X) (sT:=sT) (xT:=xT) (sLen:=len) (sCap:=cap) (base:=p) (ty:=o.type) (w':=μ.w) M N JN hn H ajk T8 (by
     cases p with
     | none=>rfl
     | some q=>simp[hu0,flat,storeCells])
   rw[h0,akQ] at A;exact fin _ _ (by rw[hp];exact A)
  generalize bE ⟨T,μ.O⟩ s'=sv at b hs jT;split at b
  .
   simp only[aj] at hs;obtain⟨p,hp⟩:=hs;split at b
   .rename_i Ua;obtain⟨rfl,rfl⟩:=bn b;have t:ys.length=0:=by simpa [List.isEmpty_iff] using Ua
    exact⟨rfl,.slice p 0 0,μ.w,μ.φ,.inl (xk t p 0 0 (ajw _) hp),by simp[aj],g3,g4⟩
   rename_i Ua;split at b
   .rename_i Je;simp only[Act.run,ajq,ajv] at b;obtain⟨rfl,rfl⟩:=b;have aew:0 <ys.length:=by
     rcases ajY ys.length with h0| h0
     .exact absurd (by simpa [List.isEmpty_iff] using h0) Ua
     exact h0
    obtain⟨newCap,LH,A⟩:=qN (X:=X) (sT:=sT) (xT:=xT) (sLen:=0) (sCap:=0) (base:=p) (ty:=o.type) (old:= #[]) M N JN hn pG S H ajk (by simpa using Je) sm T9;obtain⟨LC,Yr⟩:=Jh (X:=X) (μ:=μ) (O1:=O1) g4 (r:=r) (sz:=sz) (newCap:=newCap) (olds:=[]) (ous:=[]) (ys:=ys) (us:=us) (zv:=zv) (e:=e)
     (o0:={gen:=(O1 r).gen+1,sz:=sz,arr:=true,fz:=false,es:=some ys}) rfl rfl bM (by simp[ag]) F rfl R T5 (by simpa using LH)
    have Vv: (flat ([]:List Value)).toArray= #[]:=rfl;simp only[Vv,ajJ] at LC Yr;refine⟨rfl,.slice (some ⟨μ.w.heap.size,0,none⟩) (0+ys.length) newCap,_,dh μ.φ r ⟨μ.w.heap.size,0,newCap⟩,.inl (fin _ _ (by rw[hp];exact A)),?_,g3.trans LC,Yr⟩;simp only[aj,aD];exact⟨_,newCap,by rw[akg],ajk,ajw _,fun _=> ⟨ajk,ajl,ajl⟩⟩
   exact absurd b aq
  .
   rename_i sz' xs;split at b
   .rename_i Ua;obtain⟨rfl,rfl⟩:=bn b;have t:ys.length=0:=by simpa [List.isEmpty_iff] using Ua
    have qj:=hs;simp only[aj] at qj;obtain⟨_,_,p,cap,_,hp,m,_⟩:=qj;exact⟨rfl,a.eval s,μ.w,μ.φ,.inl (by rw[hp];exact xk t p _ cap m hp),jT,g3,g4⟩
   exact absurd b aq
  .
   rename_i r' g off len;simp only[Act.run] at b;split at b
   .rename_i es bC;split at b
    .rename_i hc;obtain⟨cT,mz,iC,f,jg,Je⟩:=hc;simp only[aj] at jT;obtain⟨p,cap,hp,m,nR,b9⟩:=jT;obtain⟨a0,a1,a2⟩:=b9 cT;obtain⟨G,q2,I,B⟩:=g4.row r' es bC a0;simp only at G q2 I B;have fI:O1 r'={O1 r' with es:=some es}:=by rw[<-bC]
     split at b
     .rename_i jB;simp only[Act.run,ajq,ajv] at b;obtain⟨rfl,rfl⟩:=b;refine⟨rfl,?_⟩;rcases ajY ys.length with h0| h0
      .
       have t:ys=[]:=by simpa using h0
       have hov:overwrite es (off+len) ys=es:=by simp[overwrite,t]
       have hO:dh O1 r' {O1 r' with es:=some (overwrite es (off+len) ys)}=O1:=by
        funext q;by_cases J:q=r'
        .subst J;rw[aD,hov];exact fI.symm
        rw[bk _ _ J]
       simp only[hO];refine⟨.slice p len cap,μ.w,μ.φ,.inl (xk h0 p len cap m hp),?_,g3,g4⟩;rw[h0];simp only[aj];exact⟨p,cap,rfl,m,nR,b9⟩
      have K:cap≠0:=ajk;have L: (μ.φ r').cap≠0:=ajk;rcases B with B| ⟨h,T0,vs,E,U,D,W⟩
      .exact absurd B L
      have EM:=a2.resolve_left K;subst EM;have Ez:=D.length;have Ep:eo h.toList (μ.φ r').base sz vs:=by have:=kR E W;rwa [f] at this
      rw[f] at U;have u: (off+len+ys.length)*sz<=(μ.φ r').cap*sz:=akb _ ajk;rw[aj4] at u;have hw:=Ep.write (k:=off+len) (us:=us) ajk TX (by rw[cG h,Qk];omega);have gK:=kS (P:=X.P) (w:=μ.w) (q:=(μ.φ r').base+(off+len)*sz) E (flat us) (by rw[FQ,Qk];omega) Df;have A:=lI (X:=X) (sT:=sT) (xT:=xT) (sLen:=len) (sCap:=cap) (ty:=o.type) (base:=some ⟨(μ.φ r').cj,(μ.φ r').base+off*(O1 r').sz,none⟩)
       (w':=μ.w.setRow (μ.φ r').cj (db h.toList ((μ.φ r').base+(off+len)*sz) (flat us)).toArray) M N JN hn H ajk T8 (by
         simp only[iF,f];have: (μ.φ r').base+off*sz+len*sz=(μ.φ r').base+(off+len)*sz:=by rw[aj4];omega
         rw[this];exact gK)
      have Ub:=mG (X:=X) (μ:=⟨μ.w,μ.φ,O1⟩) g4 r' bC iC E L (c':=(db h.toList ((μ.φ r').base+(off+len)*sz) (flat us)).toArray)
       (by have: (db h.toList ((μ.φ r').base+(off+len)*sz) (flat us)).length=h.toList.length:=gR (by rw[cG h,FQ,Qk];omega);simpa using this)
       (O1 r').gen (μ.φ r').base (μ.φ r').cap (es':=overwrite es (off+len) ys) (vs':=vs.take (off+len)++us++vs.drop (off+len+us.length)) (.inl ⟨rfl,rfl,rfl⟩) L
       (by simp[overwrite];omega)
       (by simp only[f] at I ⊢;have t1:=mH (p:=(bj · sz)) (off+len) I;have t2:=pQ (p:=(bj · sz)) (off+len+ys.length) I;simp only[overwrite,akL,t1,R,t2,akh])
       (by have:=((ag.take (off+len) D).append F).append (ag.drop (off+len+ys.length) D);rw[Qk];exact this)
       (by rw[f];exact U)
       (fun j y hy=>by obtain⟨m1,m2⟩:=hw j y hy;refine⟨by rw[f];exact m1,fun l q J=> ?_⟩;have:=m2 l q J;simp only[f];simpa using this)
      refine⟨_,_,_,.inl (fin _ _ (by rw[hp];exact A)),?_,g3.trans Ub.1,Ub.2⟩;simp only[aj,aD];exact⟨_,cap,rfl,ajk,ajk,fun _=> ⟨a0,a1,.inr rfl⟩⟩
     rename_i jB;simp only[Act.run,ajq,ajv] at b;obtain⟨rfl,rfl⟩:=b;refine⟨rfl,?_⟩;have aew:0 <ys.length:=ajk;have ql: (aN es off len).length=len:=by simp[aN];omega
     have Y: (aN es off len).all (bj · sz)=true:=by rw[f] at I;exact mH _ (pQ _ I)
     by_cases nD:len+ys.length<=cap
     .
      have K:cap≠0:=ajk;have L: (μ.φ r').cap≠0:=ajk;rcases B with B| ⟨h,T0,vs,E,U,D,W⟩
      .exact absurd B L
      have EM:=a2.resolve_left K;subst EM;have Ez:=D.length;have Ep:eo h.toList (μ.φ r').base sz vs:=by have:=kR E W;rwa [f] at this
      rw[f] at U;have u: (off+len+ys.length)*sz<=(μ.φ r').cap*sz:=akb _ ajk;rw[aj4] at u;have hw:=Ep.write (k:=off+len) (us:=us) ajk TX (by rw[cG h,Qk];omega);have gK:=kS (P:=X.P) (w:=μ.w) (q:=(μ.φ r').base+(off+len)*sz) E (flat us) (by rw[FQ,Qk];omega) Df;have A:=lI (X:=X) (sT:=sT) (xT:=xT) (sLen:=len) (sCap:=cap) (ty:=o.type) (base:=some ⟨(μ.φ r').cj,(μ.φ r').base+off*(O1 r').sz,none⟩)
       (w':=μ.w.setRow (μ.φ r').cj (db h.toList ((μ.φ r').base+(off+len)*sz) (flat us)).toArray) M N JN hn H ajk T8 (by
         simp only[iF,f];have: (μ.φ r').base+off*sz+len*sz=(μ.φ r').base+(off+len)*sz:=by rw[aj4];omega
         rw[this];exact gK)
      have HA:eo (db h.toList ((μ.φ r').base+(off+len)*sz) (flat us)) ((μ.φ r').base+off*sz) sz ((vs.drop off).take len++us):=by
       have h3:=(hw.take (off+len+us.length)).drop off;have e1: (List.take (off+len+us.length) (vs.take (off+len)++us++vs.drop (off+len+us.length))).drop off=(vs.drop off).take len++us:=by
         have l1: (vs.take (off+len)).length=off+len:=by simp;omega
         have l2: (vs.take (off+len)++us).length=off+len+us.length:=by rw[List.length_append,l1]
         rw[<-l2,List.take_left,List.drop_append_of_le_length ajk,List.drop_take];congr 2;omega
       rwa [e1] at h3
      have aiU:off*sz+cap*sz=(μ.φ r').cap*sz:=by rw[<-aj4];congr 1;omega
      have Ub:=mG (X:=X) (μ:=⟨μ.w,μ.φ,O1⟩) g4 r' bC iC E L (c':=(db h.toList ((μ.φ r').base+(off+len)*sz) (flat us)).toArray)
       (by have: (db h.toList ((μ.φ r').base+(off+len)*sz) (flat us)).length=h.toList.length:=gR (by rw[cG h,FQ,Qk];omega);simpa using this)
       (g+1) ((μ.φ r').base+off*sz) cap (es':=aN es off len++ys) (vs':=(vs.drop off).take len++us) (.inr (by simp only;omega)) K
       (by rw[List.length_append,ql];omega)
       (by simp only[f];simp only[akL,Y,R,akh])
       ((ag.take len (ag.drop off D)).append F)
       (by simp only[f];omega)
       (fun j y hy=>by obtain⟨m1,m2⟩:=HA j y hy;refine⟨by rw[f];exact m1,fun l q J=> ?_⟩;have:=m2 l q J;simp only[f];simpa using this)
      refine⟨_,_,_,.inl (fin _ _ (by rw[hp];exact A)),?_,g3.trans Ub.1,Ub.2⟩;simp only[aj,aD];exact⟨_,cap,rfl,ajk,ajw _,fun _=> ⟨a0,ajk,.inr (by simp[f])⟩⟩
     have Z: ∃ous,ag X ⟨μ.w,μ.φ,O1⟩ (aN es off len) ous/\(Builtin.firstCells sz len (.slice p len cap)).run X.P μ.w.drew= .ok (flat ous).toArray μ.w.drew:=by
      by_cases K:cap=0
      .have JT:len=0:=ajk;subst JT;exact⟨[],by simp[aN,ag],sm⟩
      .rcases B with B| ⟨h,T0,vs,E,U,D,W⟩
       .omega
       have EM:=a2.resolve_left K;subst EM;have Ez:=D.length;refine⟨(vs.drop off).take len,ag.take _ (ag.drop _ D),?_⟩;have qU:=(W.drop off);rw[f] at qU ⊢;have:=yF (P:=X.P) (qU.cn (w':=μ.w.drew) rfl) (n:=len) (by simp;omega);simpa [Builtin.firstCells] using this
     obtain⟨ous,Ys,Yr⟩:=Z;obtain⟨newCap,LH,A⟩:=qN (X:=X) (sT:=sT) (xT:=xT) (sLen:=len) (sCap:=cap) (base:=p) (ty:=o.type) M N JN hn pG S H ajk Je Yr T9;obtain⟨LC,ho3⟩:=Jh (X:=X) (μ:=μ) (O1:=O1) g4 (r:=r') (sz:=sz) (newCap:=newCap) (olds:=aN es off len) (ous:=ous) (ys:=ys) (us:=us) (zv:=zv) (e:=e)
      (o0:={gen:=g+1,sz:=sz,arr:=true,fz:=false,es:=some (aN es off len++ys)}) rfl (by simp only;omega) bM Ys F Y R T5 (by rw[ql];exact LH)
     have hO:dh O1 r' {O1 r' with gen:=g+1,es:=some (aN es off len++ys)}=dh O1 r' {gen:=g+1,sz:=sz,arr:=true,fz:=false,es:=some (aN es off len++ys)}:=by
      have: ({O1 r' with gen:=g+1,es:=some (aN es off len++ys)}:Obj)={gen:=g+1,sz:=sz,arr:=true,fz:=false,es:=some (aN es off len++ys)}:=by rw[<-f,<-mz,<-iC]
      rw[this]
     simp only[hO];rw[ql] at LC ho3;refine⟨_,_,dh μ.φ r' ⟨μ.w.heap.size,0,newCap⟩,.inl (fin _ _ (by rw[hp];exact A)),?_,g3.trans LC,ho3⟩;simp only[aj,aD];exact⟨_,newCap,rfl,ajk,ajw _,fun _=> ⟨ajk,ajl,ajl⟩⟩
    exact absurd b aq
   exact absurd b aq
  exact absurd b aq
 exact absurd b aq
theorem yH {c:Call} {s x:Operand} {sT xT e:TypeId} {d:TypeDesc} {s' x':ba} {r sz:Nat} {i:TypeInfo} {z:V} (hr:Rel X T a μ) (f:o.op= .call c) (hc:c.callee= .builtin .append)
  (g:c.args= #[s,x]) (LG:c.argTypes= #[sT,xT]) (hd:bP X sT=some (.slice e)) (hx:bP X xT=some d) (JN: ∀k,d≠ .int k) (hn:bU X e=some sz) (hi:info X e=some i)
  (h:fW X e=some z) (T4:bj z sz=true) (h1:dy X s=some s') (h2:dy X x=some x')
  (b: (aQ E (.append r sz (xa i.bytes) s' x')).run C ⟨T,μ.O⟩=some (v,σ')):σ'.T=T/\dg X o a μ σ'.O v:=by
 refine Cr (C:=C) (v:=v) false (r:=r) hr f hc g LG hd hx JN hn hi h T4 h1 h2 ?_;simp only[aQ,bF] at b;exact b
end
end Go.AM
namespace Go.AM
open Go Go.RowKit
section
variable {X:Ctx} {E:Env} {C:bB} {o:Oper} {a:Go.Act} {T:Nat->V} {μ:Mu} {v:V} {σ':St}
theorem Ji (f:bq X μ) {r g off len sz:Nat} {es ys:List V} {us:List Value} {p:Option Addr} {cap:Nat} (bC: (μ.O r).es=some es) (iC: (μ.O r).fz=false) (a: (μ.O r).sz=sz)
  (cT: (μ.O r).gen=g) (z:len<=cap) (a0:0 < (μ.O r).sz) (a1:cap+off=(μ.φ r).cap) (A:cap=0\/p=some ⟨(μ.φ r).cj,(μ.φ r).base+off*(μ.O r).sz,none⟩)
  (jg:off+len<=es.length) (hy:ys.length<=len) (h:ag X μ ys us) (v:ys.all (bj · sz)=true):
  ∃w',(match p with| some q=> (storeCells q (flat us)).run X.P μ.w= .ok () w'| none=>w'=μ.w/\flat us=[])/\
   ∃φ',φ' r=μ.φ r/\Le μ ⟨w',φ',dh μ.O r {μ.O r with es:=some (overwrite es off ys)}⟩/\bq X ⟨w',φ',dh μ.O r {μ.O r with es:=some (overwrite es off ys)}⟩:=by
 have Qk:us.length=ys.length:=h.length.symm;obtain⟨TX,Df⟩:=h.cells_one v;have FQ:=jC TX;have B:μ.O r={μ.O r with es:=some es}:=by rw[<-bC]
 rcases ajY ys.length with h0| h0
 .have i:ys=[]:=by simpa using h0
  have c:us=[]:=aks.1 ajk;have m:overwrite es off ys=es:=by simp[overwrite,i]
  have C:dh μ.O r {μ.O r with es:=some (overwrite es off ys)}=μ.O:=by
   funext q;by_cases e:q=r
   .subst e;rw[aD,m];exact B.symm
   rw[bk _ _ e]
  rw[C];refine⟨μ.w,?_,μ.φ,rfl,Le.refl μ,f⟩;cases p with
  | none=>simp[c,flat]
  | some q=>simp[c,flat,storeCells]
 obtain⟨I,J,n,o⟩:=f.row r es bC a0;have D:cap≠0:=ajk;have s: (μ.φ r).cap≠0:=ajk;rcases o with o| ⟨b,T0,vs,t,x,u,E⟩
 .exact absurd o s
 have EM:=A.resolve_left D;subst EM;have Ez:=u.length;have Ep:eo b.toList (μ.φ r).base sz vs:=by have:=kR t E;rwa [a] at this
 rw[a] at x;have d: (off+ys.length)*sz<=(μ.φ r).cap*sz:=akb _ ajk;rw[aj4] at d;have hw:=Ep.write (k:=off) (us:=us) ajk TX (by rw[cG b,Qk];omega);have F:=kS (P:=X.P) (w:=μ.w) (q:=(μ.φ r).base+off*sz) t (flat us) (by rw[FQ,Qk];omega) Df;have Ub:=mG (X:=X) (μ:=μ) f r bC iC t s (c':=(db b.toList ((μ.φ r).base+off*sz) (flat us)).toArray)
  (by have: (db b.toList ((μ.φ r).base+off*sz) (flat us)).length=b.toList.length:=gR (by rw[cG b,FQ,Qk];omega);simpa using this)
  (μ.O r).gen (μ.φ r).base (μ.φ r).cap (es':=overwrite es off ys) (vs':=vs.take off++us++vs.drop (off+us.length)) (.inl ⟨rfl,rfl,rfl⟩) s
  (by simp[overwrite];omega)
  (by simp only[a] at n ⊢;have t1:=mH (p:=(bj · sz)) off n;have t2:=pQ (p:=(bj · sz)) (off+ys.length) n;simp only[overwrite,akL,t1,v,t2,akh])
  (by have:=((ag.take off u).append h).append (ag.drop (off+ys.length) u);rw[Qk];exact this)
  (by rw[a];exact x)
  (fun j y hy=>by obtain⟨G,H⟩:=hw j y hy;refine⟨by rw[a];exact G,fun l q e=> ?_⟩;have:=H l q e;simp only[a];simpa using this)
 refine⟨_,?_,_,?_,Ub.1,Ub.2⟩
 .simp only[a];exact F
 rw[aD]
theorem sn {zv:Value} {sz n:Nat} (a:zv.cells.size=sz) (bM:0 <sz): (Builtin.zeroCells zv.cells n).toList=flat (List.replicate n zv):=by
 have hs: ∀u ∈ List.replicate n zv,u.cells.size=sz:=fun u d=>by rw[(List.mem_replicate.1 d).2];exact a
 have FQ:=jC hs;rw[ak3] at FQ;apply akp;intro q;by_cases b:q<n*sz
 .have hi:q / sz<n:=Nat.div_lt_of_lt_mul (by rw[ak2];exact b);have EM:q / sz*sz+q % sz=q:=by rw[ak2];exact Nat.div_add_mod q sz
  have hm:q % sz<zv.cells.size:=by rw[a];exact Nat.mod_lt _ bM
  have hc:zv.cells[q % sz]? =some zv.cells[q % sz]:=ajP hm;have hv: (List.replicate n zv)[q / sz]? =some zv:=by rw[List.getElem?_replicate];simp[hi]
  have c:=xi hs hv hc;rw[EM] at c;rw[c,alv];have hr: (Array.range (n*sz))[q]? =some q:=by simp[b]
  simp only[Builtin.zeroCells,Array.getElem?_map,a,hr,ajE];rw[getElem!_def,hc]
 rw[akm (by rw[cG (Builtin.zeroCells _ _),sj a];omega),akm ajk]
theorem Uc {c:Call} {x:Operand} {t e:TypeId} {x':ba} {sz:Nat} {z:V} (hr:Rel X T a μ) (l:o.op= .call c) (hc:c.callee= .builtin .clear)
  (m:c.args= #[x]) (LG:c.argTypes= #[t]) (hd:bP X t=some (.slice e)) (s:fW X e=some z) (h1:dy X x=some x')
  (b: (aQ E (.clear sz z x')).run C ⟨T,μ.O⟩=some (v,σ')):σ'.T=T/\dg X o a μ σ'.O v:=by
 simp only[aQ,bF] at b;have hx:=aX hr h1 μ.O;have i:X.P.underlying t=some (.slice e):=hd;have fin: ∀w',(Builtin.clear_ #[t] o.type #[a.eval x]).run X.P μ.w= .ok (.tuple #[]) w'->(execOp a.eval o).run X.P μ.w= .ok (.value (.tuple #[])) w':=fun w' hv=>by refine iE l hc ?_;simp only[builtin,m,LG];refine dQ ?_;simpa using hv
 have u: (#[t]:Array TypeId)[0]? =some t:=rfl;have Tu: ∀y:Value,(#[y]:Array Value)[0]? =some y:=fun _=>rfl;split at b
 .rename_i ex;obtain⟨rfl,rfl⟩:=bn b;rw[ex] at hx;simp only[aj] at hx;obtain⟨p,hp⟩:=hx;refine⟨rfl,aU (val:= .tuple #[]) hr.bp (fin _ ?_) (by simp only[aj];exact⟨#[],rfl,by simp[ag]⟩)⟩;cases p<;>simp[Builtin.clear_,Sem.run_bind,run_underlying i,hp]
 .rename_i r g off len ex;rw[ex] at hx;simp only[Act.run] at b;split at b
  .rename_i es bC;split at b
   .rename_i Wg;obtain⟨cT,G,iC,j,jg,T4⟩:=Wg;simp only[Act.run,ajq,ajv] at b;obtain⟨rfl,rfl⟩:=b;simp only[aj] at hx;obtain⟨p,cap,hp,f,H,A⟩:=hx;obtain⟨a0,a1,k⟩:=A cT;obtain⟨h,B,CW⟩:=jk s μ.w;obtain⟨Cq,LB⟩:=fk (X:=X) (μ:=μ) CW;have T5:h.cells.size=sz:=by rw[Cq.gB LB,(cF T4).2]
    have bM:0 <sz:=j ▸ a0;obtain⟨w',d,φ',hφ,le,D⟩:=Ji (X:=X) hr.bp (us:=List.replicate len h) bC iC j cT f a0 a1 k jg (ys:=List.replicate len z) ajl (ag.replicate Cq len)
     (by simp only[ajx,List.mem_replicate];rintro y ⟨_,rfl⟩;exact T4)
    refine⟨rfl,.tuple #[],w',φ',.inl (fin _ ?_),by simp only[aj];exact⟨#[],rfl,by simp[ag]⟩,le,D⟩;rw[<-sn T5 bM] at d;rw[hp];simp only[Builtin.clear_,u,Tu,Sem.run_bind,run_underlying i,Result.andThen_ok];rcases ajY len with h0| h0
    .subst h0;have Xs: (Builtin.zeroCells h.cells 0).toList=[]:=by rw[sn T5 bM];rfl
     rw[Xs] at d;have hw:w'=μ.w:=by
       cases p with
       | none=>exact d.1
       | some q=>simp[storeCells] at d;exact d.symm
     subst hw;cases p<;>simp
    cases p with
    | none=>
      have F:cap≠0:=ajk;exact absurd (k.resolve_left F) ajl
    | some q=>
      obtain⟨n,rfl⟩: ∃n,len=n+1:=⟨len - 1,ajk⟩;simp only at d;simp[Sem.run_bind,B,d]
   exact absurd b aq
  exact absurd b aq
 exact absurd b aq
theorem No {x:Operand} {y:ba} (hr:Rel X T a μ) (e:o.op= .move x\/o.op= .assign x) (ht:dy X x=some y) (b: (aQ E (.deep y)).run C ⟨T,μ.O⟩=some (v,σ')):
  σ'.T=T/\dg X o a μ σ'.O v:=by
 simp only[aQ,bF] at b;have f:=aX hr ht μ.O;have m: (execOp a.eval o).run X.P μ.w= .ok (.value (a.eval x)) μ.w:=by rcases e with e| e<;>simp[execOp,e]
 unfold vT at b;split at b
 .rename_i r g off len he;rw[he] at f;simp only[Act.run] at b;split at b
  .rename_i es bC;split at b
   rotate_left
   .exact absurd b aq
   rename_i cT;have Np:=f;simp only[aj] at Np;obtain⟨_,_,_,_,_,q⟩:=Np;obtain⟨s,t,F,h⟩:=hr.bp.row r es bC (q cT).1;obtain⟨vs,n,u⟩: ∃vs,ag X μ es vs/\((μ.φ r).cap=0\/ ∃c T,μ.w.heap[(μ.φ r).cj]? =some (.cells c T (0,0))/\(μ.φ r).base+(μ.φ r).cap*(μ.O r).sz<=c.size/\
     dL μ.w (μ.φ r).cj (μ.φ r).base (μ.O r).sz vs):=by
    rcases h with h| ⟨c,T0,vs,i,j,z,k⟩
    .have:es=[]:=by have:es.length=0:=ajk;simpa using this
     subst this;exact⟨[],by simp[ag],.inl h⟩
    exact⟨vs,z,.inr ⟨c,T0,i,j,k⟩⟩
   obtain⟨es',O1,d,p,g3,g4⟩:=Cn (μ:=μ) hr.bp n b;simp only[Act.run] at d;split at d
   .rename_i hc;obtain⟨A,B,l⟩:=hc;simp only[Act.run,ajq,ajv] at d;obtain⟨rfl,rfl⟩:=d;have hs: (O1 r).sz=(μ.O r).sz:=(g3.row r A).2;have hlen:es'.length=es.length:=by rw[p.length,n.length]
    obtain⟨le,D⟩:=Pn (X:=X) (μ:=⟨μ.w,μ.φ,O1⟩) g4 r (es':=es') B (by rw[hs];exact s) (by rw[hlen];exact t) (by rw[hs];exact l) (by refine u.imp id ?_;rintro⟨c,T0,i,j,k⟩;exact⟨c,T0,vs,i,by simp only[hs];exact j,p,by simp only[hs];exact k⟩);exact⟨rfl,a.eval x,μ.w,μ.φ,.inl m,aj.mono (g3.trans le) f,g3.trans le,D⟩
   exact absurd d aq
  exact absurd b aq
 obtain⟨rfl,rfl⟩:=bn b;exact⟨rfl,aU hr.bp m f⟩
end
end Go.AM
namespace Go.AM
open Go Go.RowKit
def lJ (X:Ctx) (μ:Mu) (rs:List Nat) (a:V) (v:Value):Prop:= ∀ (B:Nat->Prop) (μ':Mu),μ'.w=μ.w->
 (∀b,Own ⟨X.toTrEnv,B,X.tok⟩ μ' b->Own X μ b/\ ∀r ∈ rs,(μ.O r).es.isSome=true->(μ.φ r).cap≠0->b≠(μ.φ r).cj)->aj ⟨X.toTrEnv,B,X.tok⟩ μ' a v
def xl (X:Ctx) (μ:Mu) (rs:List Nat) (aL:List V) (vs:List Value):Prop:= ∀ (B:Nat->Prop) (μ':Mu),μ'.w=μ.w->
 (∀b,Own ⟨X.toTrEnv,B,X.tok⟩ μ' b->Own X μ b/\ ∀r ∈ rs,(μ.O r).es.isSome=true->(μ.φ r).cap≠0->b≠(μ.φ r).cj)->ag ⟨X.toTrEnv,B,X.tok⟩ μ' aL vs
section
variable {X:Ctx} {B:Nat->Prop} {μ μ':Mu}
mutual
theorem eA (hw:μ'.w=μ.w) (c: ∀b,Own ⟨X.toTrEnv,B,X.tok⟩ μ' b->Own X μ b): ∀ {x:V} {v:Value},V.az x=true->aj X μ x v->aj ⟨X.toTrEnv,B,X.tok⟩ μ' x v
 | .bool _,_,_,h| .int ..,_,_,h| .float _,_,_,h| .str _,_,_,h| .nilp,_,_,h| .nilfn,_,_,h| .nili,_,_,h| .nils,_,_,h=>by simpa [aj] using h
 | .any,_,_,_=>by simp[aj]
 | .own ..,_,hp,_| .msl ..,_,hp,_| .mptr ..,_,hp,_| .sl ..,_,hp,_| .ptr ..,_,hp,_| .mp ..,_,hp,_| .it ..,_,hp,_=>by simp[V.az] at hp
 | .mlit es,_,hp,h=>by
   simp only[aj] at h ⊢;obtain⟨h0,h⟩:=h;refine⟨h0,h.imp id ?_⟩;rintro⟨a,ents,clock,rfl,hb,hs,h1,h2⟩;exact⟨a,ents,clock,rfl,fun hh=>hb (c _ hh),by rw[hw];exact hs,by rw[hw];exact h1,bT hw c h0 h2⟩
 | .agg cs,_,hp,h=>by
   simp only[aj] at h ⊢;obtain⟨h1,vs,rfl,h2⟩:=h;exact⟨h1,vs,rfl,bT hw c (by simpa [V.az] using hp) h2⟩
 | .tuple cs,_,hp,h=>by
   simp only[aj] at h ⊢;obtain⟨vs,rfl,h2⟩:=h;exact⟨vs,rfl,bT hw c (by simpa [V.az] using hp) h2⟩
 | .bfn f cs,_,hp,h=>by
   simp only[aj] at h ⊢;obtain⟨F,g,rfl,h1,h2⟩:=h;exact⟨F,g,rfl,h1,bT hw c (by simpa [V.az] using hp) h2⟩
 | .fn f cs,_,hp,h=>by
   simp only[aj] at h ⊢;obtain⟨F,g,rfl,h1,h2⟩:=h;exact⟨F,g,rfl,h1,bT hw c (by simpa [V.az] using hp) h2⟩
 | .iface t x,_,hp,h=>by
   simp only[aj] at h ⊢;obtain⟨F,y,rfl,h1,h2⟩:=h;exact⟨F,y,rfl,h1,eA hw c (by simpa [V.az] using hp) h2⟩
 | .lit sz xs,_,hp,h=>by
   simp only[aj] at h ⊢;obtain⟨h0,d,a,cap,vs,rfl,h1,h2,h3⟩:=h;refine⟨h0,d,a,cap,vs,rfl,h1,bT hw c h0 h2,h3.imp id ?_⟩;rintro⟨b,o,rfl,hb,hs,hr⟩;exact⟨b,o,rfl,fun hh=>hb (c b hh),by rw[hw];exact hs,by rw[hw];exact hr⟩
 | .litk sz xs,_,hp,h=>by
   simp only[aj] at h ⊢;obtain⟨h0,d,a,cap,vs,rfl,h1,h2,h3⟩:=h;refine⟨h0,d,a,cap,vs,rfl,h1,bT hw c h0 h2,h3.imp id ?_⟩;rintro⟨rfl,hb,hs,hr⟩;exact⟨rfl,fun hh=>hb (c _ hh),by rw[hw];exact hs,by rw[hw];exact hr⟩
 | .epk i sz e off,_,hp,h=>by
   simp only[aj] at h ⊢;obtain⟨h0,d,x,rfl,hb,hs,h1,hr⟩:=h;exact⟨h0,d,x,rfl,fun hh=>hb (c _ hh),by rw[hw];exact hs,eA hw c h0 h1,by rw[hw];exact hr⟩
 | .eptr e off,_,hp,h=>by simp only[aj] at h ⊢;obtain⟨h0,d,b,o,sz,x,rfl,hb,hs,h1,hr⟩:=h;exact⟨h0,d,b,o,sz,x,rfl,fun hh=>hb (c b hh),by rw[hw];exact hs,eA hw c h0 h1,by rw[hw];exact hr⟩
theorem bT (hw:μ'.w=μ.w) (a: ∀b,Own ⟨X.toTrEnv,B,X.tok⟩ μ' b->Own X μ b): ∀ {xs:List V} {vs:List Value},V.al xs=true->ag X μ xs vs->ag ⟨X.toTrEnv,B,X.tok⟩ μ' xs vs
 | [],[],_,_=>by simp[ag]
 | [],_::_,_,h=>by simp[ag] at h
 | _::_,[],_,h=>by simp[ag] at h
 | x::xs,v::vs,hp,h=>by simp only[ag] at h ⊢;simp only[V.al,ajt] at hp;exact⟨eA hw a hp.1 h.1,bT hw a hp.2 h.2⟩
end
end
section
variable {X:Ctx} {C:bB} {T:Nat->V} {μ:Mu}
theorem lJ.Nq {a:V} {v:Value} (hp:V.az a=true) (h:aj X μ a v) (rs:List Nat):lJ X μ rs a v:=
 fun _ _ hw c=>eA hw (fun b hb=> (c b hb).1) hp h
theorem lJ.more {rs rs':List Nat} {a:V} {v:Value} (h:lJ X μ rs a v) (hs: ∀r ∈ rs,r ∈ rs'):lJ X μ rs' a v:=
 fun B μ' hw c=>h B μ' hw fun b hb=> ⟨(c b hb).1,fun r hr=> (c b hb).2 r (hs r hr)⟩
theorem xl.more {rs rs':List Nat} {a:List V} {v:List Value} (h:xl X μ rs a v) (hs: ∀r ∈ rs,r ∈ rs'):xl X μ rs' a v:=
 fun B μ' hw c=>h B μ' hw fun b hb=> ⟨(c b hb).1,fun r hr=> (c b hb).2 r (hs r hr)⟩
theorem oC {f:V->(V->List Nat->Act)->Act}
   (hf: ∀ {v:V} {k:V->List Nat->Act} {val:Value} {p:V×St},aj X μ v val->(f v k).run C ⟨T,μ.O⟩=some p-> ∃v' rs,(k v' rs).run C ⟨T,μ.O⟩=some p/\V.az v'=true/\lJ X μ rs v' val/\(v.dw=true->v'.dw=true)/\(v.aZ=true->v'.aZ=true)):
   ∀ {vs:List V} {k:List V->List Nat->Act} {vals:List Value} {p:V×St},ag X μ vs vals->(tW f vs k).run C ⟨T,μ.O⟩=some p->
    ∃vs' rs,(k vs' rs).run C ⟨T,μ.O⟩=some p/\V.al vs'=true/\xl X μ rs vs' vals/\vs'.length=vs.length/\(vs.all V.dw=true->vs'.all V.dw=true)/\(vs.all V.aZ=true->vs'.all V.aZ=true)
 | [],k,[],p,_,a=> ⟨[],[],a,rfl,fun _ _ _ _=>by simp[ag],rfl,id,id⟩
 | [],_,_::_,_,h,_=>by simp[ag] at h
 | _::_,_,[],_,h,_=>by simp[ag] at h
 | v::vs,k,val::vals,p,h,a=>by
   simp only[ag] at h;obtain⟨v',rs,h1,h2,h3,h4,h5⟩:=hf h.1 a;obtain⟨vs',rs',c,d,e,g,i,j⟩:=oC hf h.2 h1;refine⟨v'::vs',rs++rs',c,by simp[V.al,h2,d],fun B μ' hw b=> ?_,by simp[g],?_,?_⟩
   .simp only[ag];exact⟨h3.more (fun r hr=>by simp[hr]) B μ' hw b,e.more (fun r hr=>by simp[hr]) B μ' hw b⟩
   .simp only[ajM,ajt];exact fun hh=> ⟨h4 hh.1,i hh.2⟩
   simp only[ajM,ajt];exact fun hh=> ⟨h5 hh.1,j hh.2⟩
theorem Du {f:V->(V->List Nat->Act)->Act}
  (hf: ∀ {v:V} {k:V->List Nat->Act} {val:Value} {p:V×St},aj X μ v val->(f v k).run C ⟨T,μ.O⟩=some p-> ∃v' rs,(k v' rs).run C ⟨T,μ.O⟩=some p/\V.az v'=true/\lJ X μ rs v' val/\(v.dw=true->v'.dw=true)/\(v.aZ=true->v'.aZ=true))
  {vs:List V} {k:List V->List Nat->Act} {vals:List Value} {p:V×St} (h:ag X μ vs vals) (a: (Ae f vs k).run C ⟨T,μ.O⟩=some p):
    ∃vs' rs,(k vs' rs).run C ⟨T,μ.O⟩=some p/\V.al vs'=true/\xl X μ rs vs' vals/\vs'.length=vs.length/\(vs.all V.dw=true->vs'.all V.dw=true)/\(vs.all V.aZ=true->vs'.all V.aZ=true):=by
 unfold Ae at a;split at a
 .rename_i hp;exact⟨vs,[],a,hp,fun _ _ hw c=>bT hw (fun b hb=> (c b hb).1) hp h,rfl,id,id⟩
 exact oC hf h a
theorem oD (s:bq X μ): ∀ (d:Nat) {v:V} {k:V->List Nat->Act} {val:Value} {p:V×St},aj X μ v val->(iv d v k).run C ⟨T,μ.O⟩=some p->
   ∃v' rs,(k v' rs).run C ⟨T,μ.O⟩=some p/\V.az v'=true/\lJ X μ rs v' val/\(v.dw=true->v'.dw=true)/\(v.aZ=true->v'.aZ=true)
 | 0,v,k,val,p,h,b=>by
   simp only[iv] at b;split at b
   .rename_i hp;exact⟨v,[],b,hp,lJ.Nq hp h _,id,id⟩
   exact absurd b aq
 | d+1,v,k,val,p,h,b=>by
   have l:=fun {v:V} {k:V->List Nat->Act} {val:Value} {p:V×St}=>oD s d (v:=v) (k:=k) (val:=val) (p:=p);simp only[iv] at b;split at b
   .rename_i hp;exact⟨v,[],b,hp,lJ.Nq hp h _,id,id⟩
   rename_i L;split at b
   .
    simp only[aj] at h;obtain⟨h0,vs,rfl,hv⟩:=h;obtain⟨M,rs,c,f,i,j,m,t⟩:=oC l hv b;refine⟨_,rs,c,by simpa [V.az] using f,fun B μ' hw hh=> ?_,fun _=>rfl,fun hc=>by simp[V.aZ] at hc⟩;simp only[aj];exact⟨t h0,vs,rfl,i B μ' hw hh⟩
   .
    simp only[aj] at h;obtain⟨F,N,rfl,hf,hv⟩:=h;obtain⟨M,rs,c,f,i,j,m,t⟩:=oC l hv b;refine⟨_,rs,c,by simpa [V.az] using f,fun B μ' hw hh=> ?_,fun _=>rfl,fun _=>rfl⟩;simp only[aj];exact⟨F,N,rfl,hf,i B μ' hw hh⟩
   .
    simp only[aj] at h;obtain⟨F,y,rfl,hf,hv⟩:=h;obtain⟨x',rs,c,f,i,j,m⟩:=l hv b;refine⟨_,rs,c,by simpa [V.az] using f,fun B μ' hw hh=> ?_,fun _=>rfl,fun _=>rfl⟩;simp only[aj];exact⟨F,y,rfl,hf,i B μ' hw hh⟩
   .
    rename_i r g off len;simp only[Act.run] at b;split at b
    .rename_i es bC;split at b
     .rename_i hc;obtain⟨cT,mz,jg⟩:=hc;simp only[aj] at h;obtain⟨a,cap,rfl,u,P,z⟩:=h;obtain⟨a0,a1,Q⟩:=z cT;obtain⟨R,S,n,o⟩:=s.row r es bC a0;have A: (aN es off len).length=len:=by simp[aN];omega
      have U: (aN es off len).all V.dw=true:=by simp only[ajx] at n ⊢;exact fun x hx=> (cF (n x (aki (ajN hx)))).1
      have W: ∃vs,ag X μ (aN es off len) vs/\(len=0\/((μ.φ r).cap≠0/\(μ.φ r).cj<μ.w.heap.size/\a=some ⟨(μ.φ r).cj,(μ.φ r).base+off*(μ.O r).sz,none⟩/\dL μ.w (μ.φ r).cj ((μ.φ r).base+off*(μ.O r).sz) (μ.O r).sz vs)):=by
       by_cases JT:len=0
       .exact⟨[],by simp[aN,JT,ag],.inl JT⟩
       rcases o with o| ⟨Y,TT,vs,D,Z,E,G⟩
       .omega
       exact⟨(vs.drop off).take len,ag.take _ (ag.drop _ E),.inr ⟨ajk,(ajs.1 D).1,Q.resolve_left ajk,(G.drop off).take len⟩⟩
      obtain⟨vs,H,M0⟩:=W;obtain⟨Tx,rs,c,f,i,j,m,t⟩:=Du l H b;refine⟨_,r::rs,c,rfl,fun B μ' hw hh=> ?_,fun _=>rfl,fun _=>rfl⟩;have hx:=i.more (rs':=r::rs) (fun q I=>by simp[I]) B μ' hw hh;simp only[aj];refine⟨f,m U,a,cap,vs,by rw[j,A],by rw[j,A];exact u,hx,?_⟩;rcases M0 with JT| ⟨c0,c1,c2,c3⟩
      .left
       have:Tx.length=0:=by rw[j,A];exact JT
       simpa using this
      right
      refine⟨_,_,c2,fun J=> ?_,by rw[hw];exact c1,by rw[hw];exact c3⟩;exact(hh _ J).2 r ajl (by simp[bC]) c0 rfl
     exact absurd b aq
    exact absurd b aq
   .
    rename_i r g idx off;simp only[Act.run] at b;split at b
    .rename_i es bC;split at b
     .rename_i cT;split at b
      .rename_i e he;simp only[aj] at h;obtain⟨a,rfl,P,z⟩:=h;obtain⟨a0,K⟩:=z cT;obtain⟨R,S,n,o⟩:=s.row r es bC a0;have bl:idx<es.length:=(ajp.1 he).1;rcases o with o| ⟨Y,TT,vs,D,Z,E,G⟩
       .omega
       obtain⟨x,hx,bA⟩:=E.get he;have kQ:bj e (μ.O r).sz=true:=by simp only[ajx] at n;exact n e (List.mem_of_getElem? he)
       obtain⟨e',rs,c,f,i,j,m⟩:=l bA b;refine⟨_,r::rs,c,rfl,fun B μ' hw hh=> ?_,fun _=>rfl,fun _=>rfl⟩;simp only[aj];have dG:dL μ.w (μ.φ r).cj ((μ.φ r).base+idx*(μ.O r).sz) (μ.O r).sz [x]:=by
        have:=(G.drop idx).take 1;have TD: (vs.drop idx).take 1=[x]:=by have JQ:idx<vs.length:=(ajp.1 hx).1;rw[ajO JQ,akn,akR];rw[aju JQ] at hx;injection hx with hx;rw[hx]
        rwa [TD] at this
       refine⟨f,j (cF kQ).1,(μ.φ r).cj,(μ.φ r).base+idx*(μ.O r).sz,(μ.O r).sz,x,by rw[K],fun J=> ?_,by rw[hw];exact(ajs.1 D).1,
        i.more (rs':=r::rs) (fun q I=>by simp[I]) B μ' hw hh,by rw[hw];exact dG⟩
       exact(hh _ J).2 r ajl (by simp[bC]) ajk rfl
      exact absurd b aq
     exact absurd b aq
    exact absurd b aq
   exact absurd b aq
inductive nF (X:Ctx) (μ:Mu) (r0:Nat):Nat->List V->List Value->List Nat->List eY->Prop
 | nil (i:Nat):nF X μ r0 i [] [] [] []
 | plain {i:Nat} {a:V} {v:Value} {rs rs':List Nat} {aL:List V} {vs:List Value} {ws:List eY} (hp:V.az a=true) (hs:lJ X μ rs a v) (h:nF X μ r0 (i+1) aL vs rs' ws):
    nF X μ r0 i (a::aL) (v::vs) (rs++rs') ws
 | sl {i r g off len:Nat} {es:List V} {v:Value} {rs:List Nat} {aL:List V} {vs:List Value} {ws:List eY} (bC: (μ.O r).es=some es) (iC: (μ.O r).fz=false) (cT: (μ.O r).gen=g) (ot:V.al es=true)
    (jg:off+len<=es.length) (hv:aj X μ (.sl r g off len) v) (h:nF X μ r0 (i+1) aL vs rs ws):nF X μ r0 i (.msl (μ.O r).sz es off len::aL) (v::vs) rs (⟨i,r,none⟩::ws)
 | ptr {i r g idx off:Nat} {es:List V} {v:Value} {rs:List Nat} {aL:List V} {vs:List Value} {ws:List eY} (bC: (μ.O r).es=some es) (iC: (μ.O r).fz=false) (cT: (μ.O r).gen=g) (ot:V.al es=true)
    (hv:aj X μ (.ptr r g idx off) v) (h:nF X μ r0 (i+1) aL vs rs ws):nF X μ r0 i (.mptr (μ.O r).sz es idx off::aL) (v::vs) rs (⟨i,r,none⟩::ws)
 | fresh {i sz:Nat} {v:Value} {rs:List Nat} {aL:List V} {vs:List Value} {ws:List eY} (bM:0 <sz) (hv: ∃a,v= .slice a 0 0) (h:nF X μ r0 (i+1) aL vs rs ws):
    nF X μ r0 i (.msl sz [] 0 0::aL) (v::vs) rs (⟨i,r0+i,some sz⟩::ws)
theorem fo (d:bq X μ) {r0:Nat}: ∀ {vs:List V} {e:List (Option Nat)} {i:Nat} {k:List V->List Nat->List eY->Act} {vals:List Value} {p:V×St},ag X μ vs vals->
   (eh r0 vs e i k).run C ⟨T,μ.O⟩=some p-> ∃aL rs ws,(k aL rs ws).run C ⟨T,μ.O⟩=some p/\nF X μ r0 i aL vals rs ws
 | [],e,i,k,[],p,_,a=> ⟨[],[],[],by simpa [eh] using a,.nil i⟩
 | [],_,_,_,_::_,_,h,_=>by simp[ag] at h
 | _::_,_,_,_,[],_,h,_=>by simp[ag] at h
 | v::vs,[],i,k,val::vals,p,h,a=>by
   simp only[ag] at h;simp only[eh,snap] at a;obtain⟨v',rs,h1,h2,h3,_,_⟩:=oD d 5 h.1 a;obtain⟨aL,rs',ws,b,c⟩:=fo d h.2 h1;exact⟨_,_,_,b,.plain h2 h3 c⟩
 | v::vs,m::e,i,k,val::vals,p,h,a=>by
   simp only[ag] at h;simp only[eh] at a;split at a
   .split at a
    .split at a
     .rename_i bM;obtain⟨aL,rs',ws,b,c⟩:=fo d h.2 a;have h1:=h.1;simp only[aj] at h1;exact⟨_,_,_,b,.fresh bM h1 c⟩
     exact absurd a aq
    .rename_i r g off len;simp only[Act.run] at a;split at a
     .rename_i es bC;split at a
      .rename_i hc;obtain⟨c1,c2,c3,c4,f⟩:=hc;obtain⟨aL,rs',ws,b,c⟩:=fo d h.2 a;rw[<-c3] at b;exact⟨_,_,_,b,.sl bC c2 c1 f c4 h.1 c⟩
      exact absurd a aq
     exact absurd a aq
    .rename_i r g idx off;simp only[Act.run] at a;split at a
     .rename_i es bC;split at a
      .rename_i hc;obtain⟨c1,c2,c3,c4⟩:=hc;obtain⟨aL,rs',ws,b,c⟩:=fo d h.2 a;rw[<-c3] at b;exact⟨_,_,_,b,.ptr bC c2 c1 c4 h.1 c⟩
      exact absurd a aq
     exact absurd a aq
    exact absurd a aq
   simp only[snap] at a;obtain⟨v',rs,h1,h2,h3,_,_⟩:=oD d 5 h.1 a;obtain⟨aL,rs',ws,b,c⟩:=fo d h.2 h1;exact⟨_,_,_,b,.plain h2 h3 c⟩
end
theorem lK {X:Ctx} {C:bB} {T:Nat->V} {w:World} {φ:Nat->Row}: ∀ (rs:List Nat) {O:Nat->Obj} {k:Act} {p:V×St},bq X ⟨w,φ,O⟩->(eC rs k).run C ⟨T,O⟩=some p->
   ∃O',k.run C ⟨T,O'⟩=some p/\Le ⟨w,φ,O⟩ ⟨w,φ,O'⟩/\bq X ⟨w,φ,O'⟩/\(∀r,r ∉ rs->O' r=O r)/\(∀r,r ∈ rs->O' r={O r with fz:=true})
 | [],O,k,p,a,h=> ⟨O,h,Le.refl _,a,fun _ _=>rfl,fun r hr=>by simp at hr⟩
 | q::rs,O,k,p,a,h=>by
   simp only[eC,Act.run] at h;obtain⟨c,o1⟩:=qA a q;obtain⟨O',h1,h2,h3,h4,h5⟩:=lK rs o1 h;refine⟨O',h1,c.trans h2,h3,fun r hr=> ?_,fun r hr=> ?_⟩
   .have b:r≠q/\r ∉ rs:=by simpa using hr
    rw[h4 r b.2,bk _ _ b.1]
   by_cases hm:r ∈ rs
   .rw[h5 r hm];by_cases e:r=q
    .subst e;simp[aD]
    simp[bk _ _ e]
   have e:r=q:=by
    rcases ajy.1 hr with e| hr
    .exact e
    exact absurd hr hm
   subst e;rw[h4 r hm,aD]
theorem Jj {X:Ctx} {C:bB} {T:Nat->V} {μ:Mu} (a:bq X μ) {v:V} {val:Value} {p:V×St} (hv:aj X μ v val) (c: (snap v fun v' rs=>eC rs (.done v')).run C ⟨T,μ.O⟩=some p):
  ∃c' O',(Act.done c').run C ⟨T,O'⟩=some p/\aj X ⟨μ.w,μ.φ,O'⟩ c' val/\Le μ ⟨μ.w,μ.φ,O'⟩/\bq X ⟨μ.w,μ.φ,O'⟩:=by
 obtain⟨v',rs,h1,_,h3,_,_⟩:=oD a 5 hv c;obtain⟨O',d,f,g,h,i⟩:=lK (w:=μ.w) (φ:=μ.φ) rs a h1;refine⟨v',O',d,?_,f,g⟩;refine h3 X.Ym ⟨μ.w,μ.φ,O'⟩ rfl fun b hb=> ?_;rcases hb with⟨r',q1,q2,q3,q4⟩ | hb
 .simp only at q1 q2 q3 q4;by_cases hm:r' ∈ rs
  .rw[i r' hm] at q2;simp at q2
  rw[h r' hm] at q1 q2;refine⟨.inl ⟨r',q1,q2,q3,q4⟩,fun r hr hs hc e=> ?_⟩;exact a.inj r' r (fun e'=>hm (e' ▸ hr)) q1 hs q3 hc (q4.trans e)
 exact⟨.inr hb,fun r hr hs hc e=>a.vE r hs hc (e ▸ hb)⟩
end Go.AM
namespace Go.AM
open Go Go.RowKit Go.MapKept
section
variable {X:Ctx} {E:Env} {C:bB} {o:Oper} {a:Go.Act} {T:Nat->V} {μ:Mu} {v:V} {σ':St}
def qX (e:MapEntry):Value:= .tuple #[e.key,e.val]
def kU (q:Option IntKind) (d:TypeDesc):Prop:=match q with
 | some q=>d= .int q
 | none=>d= .string
theorem Ud {q:Option IntKind} {d:TypeDesc} {k:V} {kv:Value} (hd:kU q d) (a:isKey q k=true) (hv:aj X μ k kv):IsKey d kv:=by
 unfold isKey at a;unfold kU at hd;split at a
 .simp only[aj] at hv;subst hv;subst hd;simpa [IsKey] using a
 .simp only[aj] at hv;obtain⟨b,rfl,_⟩:=hv;subst hd;simp[IsKey]
 simp at a
theorem tE {q:Option IntKind} {d:TypeDesc} {k k':V} {kv a:Value} {b:Bool} (hd:kU q d) (c:isKey q k=true) (h1:aj X μ k kv) (h2:aj X μ k' a) (h:tZ k k'=some b):
  Instr.sameNow d kv a=some b/\(b=true->a=kv):=by
 unfold tZ at h;split at h
 .simp only[aj] at h1 h2;subst h1;subst h2;split at h
  .rename_i e;subst e;injection h with h;subst h;have: ∃f,d= .int f:=by unfold isKey at c;unfold kU at hd;cases q<;>simp_all
   obtain⟨f,rfl⟩:=this;refine⟨by simp[Instr.sameNow],fun hb=> ?_⟩;simp only[beq_iff_eq] at hb;rw[hb]
  simp at h
 .simp only[aj] at h1 h2;obtain⟨x,rfl,rfl⟩:=h1;obtain⟨y,rfl,rfl⟩:=h2;injection h with h;subst h;have:d= .string:=by unfold isKey at c;unfold kU at hd;cases q<;>simp_all
  subst this;have P1: (x==y)=decide (x.data.toList=y.data.toList):=by
   rw[alg,bytes_beq,decide_eq_true_eq];constructor
   .rintro rfl;rfl
   intro h;cases x;cases y;simp only[ByteArray.mk.injEq];exact akI.1 h
  refine⟨by simp[Instr.sameNow,P1],fun hb=> ?_⟩;rw[<-P1,bytes_beq] at hb;rw[hb]
 simp at h
theorem tF {e:V} {me:MapEntry} (h:aj X μ e (qX me)) {k v:V} (he:e= .tuple [k,v]):aj X μ k me.key/\aj X μ v me.val:=by subst he;simp only[qX,aj] at h;obtain⟨vs,h1,h2⟩:=h;injection h1 with h1;subst h1;simpa [ag] using h2
theorem oZ {k v:V} {me:MapEntry} (h1:aj X μ k me.key) (h2:aj X μ v me.val):aj X μ (.tuple [k,v]) (qX me):=by simp only[qX,aj];exact⟨_,rfl,by simp[ag,h1,h2]⟩
theorem so {q:Option IntKind} {d:TypeDesc} {k:V} {kv:Value} (hd:kU q d) (b:isKey q k=true) (h1:aj X μ k kv): ∀ {es:List V} {ents:List MapEntry} {i:Nat} {r:Option V},ag X μ es (ents.map qX)->cp k es=some r->
   (r=none/\Instr.findNow d kv ents i=some none)\/ ∃v j e,r=some v/\Instr.findNow d kv ents i=some (some (j,e))/\aj X μ v e
 | [],[],i,r,_,h=>by simp[cp] at h;subst h;exact .inl ⟨rfl,rfl⟩
 | [],_::_,_,_,h,_=>by simp[ag] at h
 | _::_,[],_,_,h,_=>by simp[ag] at h
 | e::es,m::ents,i,r,hr,h=>by
   simp only[List.map_cons,ag] at hr;unfold cp at h;split at h
   .rename_i a;simp at a
   .rename_i l v' es' a;injection a with f g;subst g;obtain⟨t1,t2⟩:=tF hr.1 f;split at h
    .rename_i c;injection h with h;subst h;obtain⟨s1,_⟩:=tE hd b h1 t1 c;exact .inr ⟨v',i,m.val,rfl,by simp[Instr.findNow,s1],t2⟩
    .rename_i c;obtain⟨s1,_⟩:=tE hd b h1 t1 c;rcases so hd b h1 (i:=i+1) hr.2 h with⟨g1,g2⟩ | ⟨v,j,x,g1,g2,g3⟩
     .exact .inl ⟨g1,by simp[Instr.findNow,s1,g2]⟩
     exact .inr ⟨v,j,x,g1,by simp[Instr.findNow,s1,g2],g3⟩
    simp at h
   simp at h
theorem Cs {q:Option IntKind} {d:TypeDesc} {k u:V} {kv val:Value} (hd:kU q d) (b:isKey q k=true) (h1:aj X μ k kv) (h2:aj X μ u val): ∀ {es es':List V} {ents:List MapEntry} {i:Nat},ag X μ es (ents.map qX)->jt k u es=some es'->
   (Instr.findNow d kv ents i=some none/\ ∀c,ag X μ es' ((ents++[({key:=kv,val:=val,born:=c}:MapEntry)]).map qX))\/
   ∃j e,Instr.findNow d kv ents i=some (some (i+j,e.val))/\ents[j]? =some e/\e.key=kv/\ag X μ es' ((ents.set j ({key:=kv,val:=val,born:=e.born}:MapEntry)).map qX)
 | [],es',[],i,_,h=>by
   simp[jt] at h;subst h;exact .inl ⟨rfl,fun c=>by simp only[aj8,List.map_cons,alj,ag];exact⟨oZ (me:={key:=kv,val:=val,born:=c}) h1 h2,trivial⟩⟩
 | [],_,_::_,_,h,_=>by simp[ag] at h
 | _::_,_,[],_,h,_=>by simp[ag] at h
 | e::es,es',m::ents,i,hr,h=>by
   simp only[List.map_cons,ag] at hr;unfold jt at h;split at h
   .rename_i a;simp at a
   .rename_i p v' C1 a;injection a with g l;subst l;obtain⟨t1,t2⟩:=tF hr.1 g;split at h
    .rename_i f;injection h with h;subst h;obtain⟨s1,s2⟩:=tE hd b h1 t1 f;exact .inr ⟨0,m,by simp[Instr.findNow,s1],rfl,s2 rfl,by simp only[List.set_cons_zero,List.map_cons,ag];exact⟨oZ (me:={key:=kv,val:=val,born:=m.born}) h1 h2,hr.2⟩⟩
    .rename_i f;obtain⟨s1,_⟩:=tE hd b h1 t1 f;rw[ajr] at h;obtain⟨n,o,rfl⟩:=h;rcases Cs hd b h1 h2 (i:=i+1) hr.2 o with⟨g1,g2⟩ | ⟨j,x,g1,g2,g3,g4⟩
     .exact .inl ⟨by simp[Instr.findNow,s1,g1],fun c=>by simp only[ajK,List.map_cons,ag];exact⟨oZ t1 t2,g2 c⟩⟩
     exact .inr ⟨j+1,x,by simp[Instr.findNow,s1,g1];omega,by simpa using g2,g3,by simp only[List.set_cons_succ,List.map_cons,ag];exact⟨oZ t1 t2,g4⟩⟩
    simp at h
   simp at h
theorem Ue {t:TypeId} {rs:Option Operand} {r:Nat} (hr:Rel X T a μ) (c:o.op= .makeMap t rs) (VQ:rs=none) (b: (aQ E (.mkMap r)).run C ⟨T,μ.O⟩=some (v,σ')):σ'.T=T/\dg X o a μ σ'.O v:=by
 subst VQ;simp only[aQ,Act.run,ajq,ajv] at b;obtain⟨rfl,rfl⟩:=b;obtain⟨le,d⟩:=Cj hr.bp r (.map #[] 0) [] (.inl ⟨#[],0,rfl,by simp[ag],by simp[iB]⟩);refine⟨rfl,.map (some μ.w.heap.size),_,_,.inl ?_,?_,le,d⟩
 .simp only[execOp,c];refine dQ ?_;simp[Instr.makeMap,Sem.run_bind]
 simp only[aj,aD];exact⟨_,rfl,ajw _,fun _=> ⟨trivial,rfl⟩⟩
theorem Pz {t D G:TypeId} {d:TypeDesc} {x i:Operand} {x' H:ba} {ok:Bool} {q:Option IntKind} {z:V} (hr:Rel X T a μ) (L:o.op= .lookup t x i ok) (ht:bP X t=some (.map D G)) (Tr:bP X D=some d) (hd:kU q d)
  (M:fW X G=some z) (h1:dy X x=some x') (h2:dy X i=some H) (c: (aQ E (.A6 q ok z x' H)).run C ⟨T,μ.O⟩=some (v,σ')):σ'.T=T/\dg X o a μ σ'.O v:=by
 simp only[aQ,bF] at c;have hx:=aX hr h1 μ.O;have hi:=aX hr h2 μ.O;have F:X.P.underlying t=some (.map D G):=ht;have h:X.P.underlying D=some d:=Tr;obtain⟨J,K,CW⟩:=jk M μ.w;obtain⟨Cq,LB⟩:=fk (X:=X) (μ:=μ) CW;split at c
 .rename_i I;have Bp:=Ud hd I hi;have f: ∀ {es:List V} {ents:Array MapEntry} {m:Option Nat},ag X μ es (ents.toList.map qX)->(cZ ok z es (bE ⟨T,μ.O⟩ H)).run C ⟨T,μ.O⟩=some (v,σ')->a.eval x= .map m->
    (match m with| none=>ents= #[] | some r=> ∃clock,μ.w.heap[r]? =some (.map ents clock))->σ'.T=T/\dg X o a μ σ'.O v:=by
   intro es ents m n B hm hb;have fin: ∀ (u:Value) (b:Bool),(match Instr.findNow d (a.eval i) ents.toList 0 with
      | some (some (_,v))=>u=v/\b=true
      | some none=>u=J/\b=false
      | none=>False)->(execOp a.eval o).run X.P μ.w= .ok (.value (if ok then .tuple #[u,.bool b] else u)) μ.w:=by
    intro u b hf;simp only[execOp,L];refine dQ ?_;cases A:Instr.findNow d (a.eval i) ents.toList 0 with
    | none=>rw[A] at hf;exact hf.elim
    | some r=>
      rw[A] at hf;cases m with
      | none=>
        simp only at hb;subst hb;cases r with
        | none=>
          simp only at hf;obtain⟨rfl,rfl⟩:=hf;cases ok<;>simp[Instr.lookup,Sem.run_bind,run_underlying F,Result.andThen,hm,Go.MapKept.run_checkKey h Bp,Go.MapKept.run_findKey (l:=[]) h (by simpa using A),K]
        | some p=>
          obtain⟨j,y⟩:=p;simp only at hf;obtain⟨rfl,rfl⟩:=hf;cases ok<;>simp[Instr.lookup,Sem.run_bind,run_underlying F,Result.andThen,hm,Go.MapKept.run_checkKey h Bp,Go.MapKept.run_findKey (l:=[]) h (by simpa using A)]
      | some Q=>
        obtain⟨clock,hb⟩:=hb;cases r with
        | none=>
          simp only at hf;obtain⟨rfl,rfl⟩:=hf;cases ok<;>simp[Instr.lookup,Sem.run_bind,run_underlying F,Result.andThen,hm,Go.MapKept.run_getObj_map hb,Go.MapKept.run_checkKey h Bp,Go.MapKept.run_findKey h A,K]
        | some p=>
          obtain⟨j,y⟩:=p;simp only at hf;obtain⟨rfl,rfl⟩:=hf;cases ok<;>simp[Instr.lookup,Sem.run_bind,run_underlying F,Result.andThen,hm,Go.MapKept.run_getObj_map hb,Go.MapKept.run_checkKey h Bp,Go.MapKept.run_findKey h A]
   unfold cZ at B;split at B
   .rename_i y hy;obtain⟨rfl,rfl⟩:=bn B;rcases so hd I hi (i:=0) n hy with⟨k,_⟩ | ⟨v0,j,e,k,g2,g3⟩
    .cases k
    injection k with k;subst k;refine⟨rfl,aU hr.bp (fin e true (by rw[g2];exact⟨rfl,rfl⟩)) ?_⟩;cases ok
    .simpa using g3
    simp only[if_true,aj];exact⟨_,rfl,by simp[ag,aj,g3]⟩
   .rename_i hy;obtain⟨rfl,rfl⟩:=bn B;rcases so hd I hi (i:=0) n hy with⟨_,g2⟩ | ⟨v0,j,e,k,g2,g3⟩
    . refine⟨rfl,aU hr.bp (fin J false (by rw[g2];exact⟨rfl,rfl⟩)) ?_⟩
      cases ok
      .simpa using Cq
      simp only[if_true,aj];exact⟨_,rfl,by simp[ag,aj,Cq]⟩
    cases k
   .exact absurd B aq
  split at c
  .rename_i r g e;rw[e] at hx;simp only[aj] at hx;obtain⟨b,hp,R,N⟩:=hx;simp only[Act.run] at c;split at c
   .rename_i es bC;split at c
    . rename_i hc
      obtain⟨S,rfl⟩:=N hc.1;rcases hr.bp.ents r es bC hc.2 with⟨cW,ents,clock,hm,n,_⟩ | ⟨_,s,pos,_,rfl⟩ | ⟨nN,rfl⟩
      .exact f n c hp ⟨clock,hm⟩
      .exact absurd (by simpa [cZ,cp] using c) aq
      exact absurd (by simpa [cZ,cp] using c) aq
    exact absurd c aq
   exact absurd c aq
  .rename_i es e;rw[e] at hx;simp only[aj] at hx;obtain⟨_,⟨rfl,hp⟩ | ⟨b,ents,clock,hp,_,_,⟨hm,_⟩,n⟩⟩:=hx
   .exact f (ents:= #[]) (by simp[ag]) c hp rfl
   exact f n c hp ⟨clock,hm⟩
  exact absurd c aq
 exact absurd c aq
theorem tG {ents:Array MapEntry} {clock:Nat} (h:iB ents clock) (e:MapEntry) (he:e.born=clock):iB (ents.push e) (clock+1):=by obtain⟨h1,h2⟩:=h;refine⟨by simp[h1],?_⟩;rw[Array.toList_push,ajV,h2,Array.size_push,List.range_succ,List.map_cons,alj,he,h1]
theorem oE {ents:Array MapEntry} {clock:Nat} (h:iB ents clock) (j:Nat) {f:MapEntry->MapEntry} (hf: ∀e,(f e).born=e.born):iB (ents.modify j f) clock:=by
 have hm: (ents.modify j f).toList.map (·.born)=ents.toList.map (·.born):=by
  apply akp;intro n;simp only[ajF,akX,aj1];cases ents.toList[n]? with
  | none=>rfl
  | some x=>
    simp only[ajE];split
    .simp[hf]
    rfl
 exact⟨by simpa using h.1,by rw[hm];simpa using h.2⟩
theorem ER {t l G:TypeId} {d:TypeDesc} {x i y:Operand} {x' H I:ba} {q:Option IntKind} (hr:Rel X T a μ) (f:o.op= .mapUpdate t x i y\/o.op= .insert t x i y) (ht:bP X t=some (.map l G)) (Tr:bP X l=some d) (hd:kU q d)
  (h1:dy X x=some x') (h2:dy X i=some H) (h3:dy X y=some I) (k: (aQ E (.xQ q x' H I)).run C ⟨T,μ.O⟩=some (v,σ')):σ'.T=T/\dg X o a μ σ'.O v:=by
 simp only[aQ,bF] at k;have hx:=aX hr h1 μ.O;have hi:=aX hr h2 μ.O;have hy:=aX hr h3 μ.O;have J:X.P.underlying t=some (.map l G):=ht;have m:X.P.underlying l=some d:=Tr;split at k
 .rename_i r g e;rw[e] at hx;simp only[bF] at k;obtain⟨u,O1,c,N,p,A⟩:=kH (μ:=μ) hr.bp hy k;have Qj:=aj.mono p hx;have K:=aj.mono p hi;simp only[Act.run] at c;split at c
  .rename_i es bC;split at c
   .rename_i hc;obtain⟨cT,bM,iC,L,U⟩:=hc;split at c
    .rename_i es' B;simp only[Act.run,ajq,ajv] at c;obtain⟨rfl,rfl⟩:=c;simp only[aj] at Qj;obtain⟨b,hp,V,Q⟩:=Qj;obtain⟨_,rfl⟩:=Q cT;obtain⟨M,ents,clock,hm,D,z⟩: (μ.φ r).cap≠0/\ ∃ents clock,μ.w.heap[(μ.φ r).cj]? =some (.map ents clock)/\ag X ⟨μ.w,μ.φ,O1⟩ es (ents.toList.map qX)/\iB ents clock:=by
      rcases A.ents r es bC bM with h| ⟨_,s,pos,_,rfl⟩ | ⟨W,rfl⟩
      .exact h
      .simp[jt] at B
      simp[jt] at B
     have Bp:=Ud hd L K;have fin: ∀w',(Instr.mapUpdate t (.map (some (μ.φ r).cj)) (a.eval i) (a.eval y)).run X.P μ.w= .ok () w'->(execOp a.eval o).run X.P μ.w= .ok .skip w':=fun w' hw=>by
      rcases f with f| f
      .simp only[execOp,f,hp];exact Ck hw
      simp only[execOp,f,hp];exact Ck hw
     rcases Cs hd L K N (i:=0) D B with⟨g1,g2⟩ | ⟨j,e,g1,g2,g3,g4⟩
     .obtain⟨le,F⟩:=iD (μ:=⟨μ.w,μ.φ,O1⟩) A r (es':=es') (ob':= .map (ents.push {key:=a.eval i,val:=a.eval y,born:=clock}) (clock+1)) bC iC bM hm M (.inl ⟨ents,clock,rfl,D,z⟩) (.inl ⟨_,_,rfl,by have:=g2 clock;have R: (ents.push ({key:=a.eval i,val:=a.eval y,born:=clock}:MapEntry)).toList=ents.toList++[({key:=a.eval i,val:=a.eval y,born:=clock}:MapEntry)]:=ajl;rw[R];exact this,tG z _ rfl⟩);refine⟨rfl,undef,_,_,.inr ⟨fin _ ?_,rfl⟩,by simp only[aj];exact⟨#[],rfl,by simp[ag]⟩,p.trans le,F⟩;simp[Instr.mapUpdate,run_underlying J,Go.MapKept.run_getObj_map hm,Go.MapKept.run_checkKey m Bp,Go.MapKept.run_findKey m g1,Go.MapKept.run_setObj_map _ hm,Result.andThen,Sem.run_bind]
     rw[akg] at g1;have Vb:ents[j]? =some e:=by simpa using g2
     obtain⟨le,F⟩:=iD (μ:=⟨μ.w,μ.φ,O1⟩) A r (es':=es') (ob':= .map (ents.modify j fun e=> {e with key:=a.eval i,val:=a.eval y}) (clock)) bC iC bM hm M (.inl ⟨ents,clock,rfl,D,z⟩) (.inl ⟨_,_,rfl,by
      have hl: (ents.modify j fun e=> {e with key:=a.eval i,val:=a.eval y}).toList=ents.toList.set j {e with key:=a.eval i,val:=a.eval y}:=by
        apply akp;intro n;rw[akX,aj1,akz];by_cases hn:j=n
        .subst hn;have S:=(ajp.1 g2).1;simp only[if_true,S,g2,ajE,and_self];rfl
        simp[hn]
      rw[hl];exact g4,oE z j fun _=>rfl⟩)
     refine⟨rfl,undef,_,_,.inr ⟨fin _ ?_,rfl⟩,by simp only[aj];exact⟨#[],rfl,by simp[ag]⟩,p.trans le,F⟩;simp[Instr.mapUpdate,run_underlying J,Go.MapKept.run_getObj_map hm,Go.MapKept.run_checkKey m Bp,Go.MapKept.run_findKey m g1,Vb,g3,Go.MapKept.run_keyThatStays Bp,Go.MapKept.run_setObj_map _ hm,Result.andThen,Sem.run_bind]
    exact absurd c aq
   exact absurd c aq
  exact absurd c aq
 exact absurd k aq
theorem LI {t f g:TypeId} {x:Operand} {y:ba} {r:Nat} (hr:Rel X T a μ) (h:o.op= .range t x) (ht:bP X t=some (.map f g)) (h1:dy X x=some y) (c: (aQ E (.mapIter r y)).run C ⟨T,μ.O⟩=some (v,σ')):σ'.T=T/\dg X o a μ σ'.O v:=by
 simp only[aQ,bF] at c;have hx:=aX hr h1 μ.O;have i:X.P.underlying t=some (.map f g):=ht;split at c
 .rename_i es e;rw[e] at hx;simp only[aj] at hx;simp only[Act.run,ajq,ajv] at c;obtain⟨rfl,rfl⟩:=c;obtain⟨_,⟨rfl,hp⟩ | ⟨b,ents,clock,hp,j,k,⟨hm,l⟩,m⟩⟩:=hx
  .obtain⟨le,d⟩:=Cj hr.bp r (.mapIter none 0 #[] 0) [.mlit []] (.inr (.inr ⟨none,0,[],rfl,rfl,.inl ⟨rfl,rfl⟩⟩));refine⟨rfl,.pointer (some ⟨μ.w.heap.size,0,none⟩),_,_,.inl ?_,?_,le,d⟩
   .simp only[execOp,h];refine dQ ?_;simp[Instr.range,Sem.run_bind,run_underlying i,hp,Result.andThen]
   simp only[aj,aD];exact⟨_,rfl,ajw _,fun _=> ⟨trivial,rfl⟩⟩
  obtain⟨le,d⟩:=Cj hr.bp r (.mapIter (some b) clock #[] clock) [.mlit es] (.inr (.inr ⟨some b,clock,es,rfl,rfl,.inr ⟨b,ents,rfl,j,k,hm,l,m⟩⟩));refine⟨rfl,.pointer (some ⟨μ.w.heap.size,0,none⟩),_,_,.inl ?_,?_,le,d⟩
  .simp only[execOp,h];refine dQ ?_;simp[Instr.range,Sem.run_bind,run_underlying i,hp,Result.andThen,Go.MapKept.run_getObj_map hm]
  simp only[aj,aD];exact⟨_,rfl,ajw _,fun _=> ⟨trivial,rfl⟩⟩
 exact absurd c aq
theorem Nr {x:Operand} {y:ba} (hr:Rel X T a μ) (b:o.op= .move x\/o.op= .assign x) (ht:dy X x=some y) (c: (aQ E (.QE y)).run C ⟨T,μ.O⟩=some (v,σ')):σ'.T=T/\dg X o a μ σ'.O v:=by
 simp only[aQ,bF] at c;have e: (execOp a.eval o).run X.P μ.w= .ok (.value (a.eval x)) μ.w:=by rcases b with b| b<;>simp[execOp,b]
 obtain⟨u,O1,f,g,h,i⟩: ∃d O',(Act.done d).run C ⟨T,O'⟩=some (v,σ')/\aj X ⟨μ.w,μ.φ,O'⟩ d (a.eval x)/\Le μ ⟨μ.w,μ.φ,O'⟩/\bq X ⟨μ.w,μ.φ,O'⟩:=by
  split at c
  .exact Jj hr.bp (aX hr ht μ.O) c
  exact kH (μ:=μ) hr.bp (aX hr ht μ.O) c
 obtain⟨rfl,rfl⟩:=bn f;exact⟨rfl,a.eval x,μ.w,μ.φ,.inl e,g,h,i⟩
end
end Go.AM
namespace Go.AM
open Go Go.RowKit Go.MapKept
section
variable {X:Ctx} {E:Env} {C:bB} {o:Oper} {a:Go.Act} {T:Nat->V} {μ:Mu} {v:V} {σ':St}
theorem PA {t:TypeId} {m k:Nat} {c:V} {x:Value} {D:TypeDesc} (hd:bP X t=some D) (a: (k=0/\D= .bool)\/(k=1/\ ∃q,D= .int q)\/(k=2/\D= .string))
  (hc:aj X μ c x) (em:Bool) (w:World): (Instr.checkKey em (m+1) t x).run X.P w= .ok () w:=by
 have b:X.P.underlying t=some D:=hd;rcases a with⟨_,rfl⟩ | ⟨_,q,rfl⟩ | ⟨_,rfl⟩ <;>simp[Instr.checkKey,run_underlying b]
theorem z7 {ks a:List Nat} {cs:List V} (h: (df (ks++a) cs cs).isSome=true): (df ks (cs.take ks.length) (cs.take ks.length)).isSome=true/\(df a (cs.drop ks.length) (cs.drop ks.length)).isSome=true:=by obtain⟨b,hb⟩:=ajz.1 h;obtain⟨b1,c,h1,h2,_⟩:=vu ks hb;rw[h1,h2];exact⟨rfl,rfl⟩
theorem aax ( em:Bool) (w:World): ∀d:Nat,
   (∀t ks cs xs m,iA X d t=some ks->d<=m->ag X μ cs xs->(df ks cs cs).isSome=true->
     bU X t=some ks.length/\((iz X t=some true/\(Instr.checkKey em m t (.agg xs.toArray)).run X.P w= .ok () w)\/
       (iz X t=some false/\ks.length=1/\ ∃x,xs=[x]/\(Instr.checkKey em m t x).run X.P w= .ok () w)))/\
   (∀fs off ks cs xs m,qx X d fs off=some ks->d<=m->ag X μ cs xs->(df ks (cs.drop off) (cs.drop off)).isSome=true->
     ∀f ∈ fs,f.name≠ "_" /\ ∃y,(Go.part f.type xs.toArray f.offset).run X.P w= .ok y w/\(Instr.checkKey em m f.type y).run X.P w= .ok () w):=by
 intro d;induction d with
 | zero=>exact⟨fun _ _ _ _ _ h=>by simp[iA] at h,fun _ _ _ _ _ _ h=>by simp[qx] at h⟩
 | succ d z=>
   refine⟨fun t ks cs xs m a hm hx hb=> ?_,fun fs off ks cs xs m a hm hx hb=> ?_⟩
   . obtain⟨m,rfl⟩: ∃m',m=m'+1:=⟨m - 1,ajk⟩
     have hlen:cs.length=ks.length:=by obtain⟨b,hb⟩:=ajz.1 hb;exact(r9 hb).1
     have scalar: ∀ (D:TypeDesc) (k:Nat),bP X t=some D->((k=0/\D= .bool)\/(k=1/\ ∃q,D= .int q)\/(k=2/\D= .string))->bU X t=some 1->ks=[k]->
         bU X t=some ks.length/\((iz X t=some true/\(Instr.checkKey em (m+1) t (.agg xs.toArray)).run X.P w= .ok () w)\/
       (iz X t=some false/\ks.length=1/\ ∃x,xs=[x]/\(Instr.checkKey em (m+1) t x).run X.P w= .ok () w)):=by
       intro D k hd J hs e;subst e;have lx:=hx.length
       match cs,xs,hlen,lx with
       | [c],[x],_,_=>
         simp only[ag,and_true] at hx;refine⟨by simpa using hs,.inr ⟨?_,rfl,x,rfl,PA hd J hx em w⟩⟩;simp only[iz,hd,ajE];rcases J with⟨_,rfl⟩ | ⟨_,q,rfl⟩ | ⟨_,rfl⟩ <;>rfl
     simp only[iA] at a;split at a
     . split at a<;>simp at a
       rename_i hd hs;exact scalar _ 0 hd ajl hs a.symm
     . split at a<;>simp at a
       rename_i hd hs;exact scalar _ 1 hd ajl hs a.symm
     . split at a<;>simp at a
       rename_i hd hs;exact scalar _ 2 hd ajl hs a.symm
     . rename_i fs hd
       split at a
       . split at a
         .rename_i Y u;split at a
          . rename_i hs
            injection a with a;subst a;refine⟨hs,.inl ⟨by simp[iz,hd],?_⟩⟩;have A:X.P.underlying t=some (.struct fs):=hd;have i:=z.2 _ 0 _ cs xs m u ajk hx (by simpa using hb);rw[Instr.checkKey];simp only[Sem.run_bind,run_underlying A,Result.andThen_ok];rw[<-Array.forIn_toList];generalize fs.toList=L at i;clear u hd A hb;induction L with
            | nil=>simp
            | cons f L B=>
              obtain⟨hn,y,C,E⟩:=i f ajl;simp only[List.forIn_cons,Sem.run_bind,hn,ne_eq,not_false_eq_true,if_true,Result.andThen_ok,C,E,Sem.run_pure];exact B fun y hy=>i y (by simp[hy])
          simp at a
         simp at a
       simp at a
     . rename_i n e hd
       split at a
       . rename_i v
         obtain⟨v,bM⟩:=v;split at a
         .rename_i k r;injection a with a;subst a;refine⟨by rw[ak3];exact bM,.inl ⟨by simp[iz,hd],?_⟩⟩;have A:X.P.underlying t=some (.array n e):=hd;have O:bU X e=some 1:=by
            cases d with
            | zero=>simp[iA] at r
            | succ d=>
              simp only[iA] at r;split at r<;> (try (split at r<;>simp at r<;>assumption)) <;> (try (rename_i Qe;simp[iz,Qe] at v)) <;>simp at r
          obtain⟨s,K,IX⟩: ∃s,X.P.info? e=some s/\s.size=1:=by simpa [bU,info] using O
          have Q:X.P.cellsOf e=1:=by simp[Program.cellsOf,K,IX]
          rw[ak3] at hlen;have lx:=hx.length;have i: ∀j<n,∃y,(Go.part e xs.toArray (j*X.P.cellsOf e)).run X.P w= .ok y w/\(Instr.checkKey em m e y).run X.P w= .ok () w:=by
            intro j M;obtain⟨c,hc⟩: ∃c,cs[j]? =some c:=⟨_,aju ajk⟩;obtain⟨x,F,rx⟩:=hx.get hc;have R:xs.toArray[j*X.P.cellsOf e]? =some x:=by rw[Q];simpa using F
            have Jk: (df [k] [c] [c]).isSome=true:=by
              obtain⟨b,hb⟩:=ajz.1 hb;have key: ∀ (n:Nat) (cs:List V) (b:Bool),df (List.replicate n k) cs cs=some b-> ∀ (j:Nat) c,cs[j]? =some c->(df [k] [c] [c]).isSome=true:=by
               intro n;induction n with
               | zero=>intro cs b h j c hc;cases cs<;>simp[df] at h hc
               | succ n G=>
                 intro cs b h j c hc;cases cs with
                 | nil=>simp at hc
                 | cons c0 cs=>
                   simp only[List.replicate_succ,df] at h;split at h
                   .rename_i p q hp o;cases j with
                    | zero=>simp at hc;subst hc;simp[df,hp]
                    | succ j=>exact G cs q o j c (by simpa using hc)
                   simp at h
              exact key n cs b hb j c hc
            obtain⟨_,o⟩:=z.1 e [k] [c] [x] m r ajk (by simp only[ag,and_true];exact rx) Jk;rcases o with⟨o,_⟩ | ⟨_,_,x',ud,o⟩
            .rw[v] at o;cases o
            obtain rfl:x=x':=by simpa using ud
            exact⟨x,gQ v _ _ _ R w,o⟩
          rw[Instr.checkKey];simp only[Sem.run_bind,run_underlying A,Result.andThen_ok];simp only[Std.Legacy.Range.forIn_eq_forIn_range',Std.Legacy.Range.size,Nat.sub_zero,Nat.add_one_sub_one,Nat.div_one];have Uf: ∀j ∈ List.range' 0 n,∃y,(Go.part e xs.toArray (j*X.P.cellsOf e)).run X.P w= .ok y w/\(Instr.checkKey em m e y).run X.P w= .ok () w:=fun j M=>i j (by simp[List.mem_range'_1] at M;omega);clear i;generalize List.range' 0 n=N at Uf;induction N with
          | nil=>simp
          | cons j N H=>
            obtain⟨y,C,E⟩:=Uf j ajl;simp only[List.forIn_cons,Sem.run_bind,run_sizeOf w K,Result.andThen_ok,C,E,Sem.run_pure];exact H (fun y hy=>Uf y (by simp[hy]))
         simp at a
       simp at a
     simp at a
   obtain⟨m,rfl⟩: ∃m',m=m'+1:=⟨m - 1,ajk⟩;cases fs with
   | nil=>simp
   | cons f fs=>
     simp only[qx] at a;split at a
     . rename_i hn
       split at a
       .rename_i I Al;split at a
        . rename_i S JR
          injection a with a;subst a;obtain⟨T,U⟩:=z7 hb;obtain⟨hs,ha⟩:=z.1 f.type I _ _ (m+1) Al ajk (ag.take I.length (ag.drop off hx)) T;have W:=z.2 fs (off+I.length) S cs xs (m+1) JR ajk hx (by simpa [akS] using U);have Lu:=hn.2;intro g hg;rcases ajy.1 hg with rfl| hg
          . refine⟨hn.1,?_⟩
            rcases ha with⟨XS,o⟩ | ⟨XS,h1,x,Qj,o⟩
            .refine⟨_,xf XS hs xs.toArray _ w,?_⟩;rw[<-o,Lu];congr 3 <;> (apply Array.ext';simp[ak9,akK])
            have gx:xs.toArray[g.offset]? =some x:=by have:=congrArg (fun l=>l[0]?) Qj;simpa [ajW,h1,Lu] using this
            exact⟨x,gQ XS _ _ _ gx w,o⟩
          exact W g hg
        simp at a
       simp at a
     simp at a
theorem fp {a:TypeId} {ks:List Nat} (h:cU X a=some ks): (∃fs,X.P.underlying a=some (.struct fs))/\iA X 100 a=some ks:=by
 unfold cU at h;split at h
 .rename_i fs hd;exact⟨⟨fs,hd⟩,h⟩
 simp at h
theorem jx {ks:List Nat} {k k':V} {b:Bool} (h:dj ks k k'=some b): ∃cs a,k= .agg cs/\k'= .agg a/\df ks cs a=some b:=by
 unfold dj at h;split at h
 .exact⟨_,_,rfl,rfl,h⟩
 simp at h
theorem tH: ∀ {ks:List Nat} {cs a:List V},df ks cs a=some true->cs=a
 | [],[],[],_=>rfl
 | [],[],_::_,h=>by simp[df] at h
 | [],_::_,_,h=>by simp[df] at h
 | _::_,[],_,h=>by simp[df] at h
 | _::_,_::_,[],h=>by simp[df] at h
 | k::ks,c::cs,d::a,h=>by
   simp only[df] at h;split at h
   .rename_i x y hx hy;simp only[ajq,ajt] at h;obtain⟨rfl,rfl⟩:=h;have b:c=d:=by
     unfold JK at hx;split at hx
     .simp only[ajq,beq_iff_eq] at hx;rw[hx]
     .split at hx
      .rename_i e;simp only[ajq,beq_iff_eq] at hx;rw[hx,e]
      simp at hx
     .simp only[ajq,decide_eq_true_eq] at hx;rw[hx]
     simp at hx
    rw[b,tH hy]
   simp at h
theorem zy: ∀ {ks:List Nat} {cs:List V} {xs:List Value},(df ks cs cs).isSome=true->ag X μ cs xs-> ∀p ∈ xs.zip xs,Instr.sameBits 9999 p.1 p.2=true
 | _,[],[],_,_,_,hp=>by simp at hp
 | _,[],_::_,_,h,_,_=>by simp[ag] at h
 | _,_::_,[],_,h,_,_=>by simp[ag] at h
 | [],_::_,_,h,_,_,_=>by simp[df] at h
 | k::ks,c::cs,x::xs,h,hr,p,hp=>by
   simp only[ag] at hr;obtain⟨b,hb⟩:=ajz.1 h;simp only[df] at hb;split at hb
   .rename_i u w d hw;simp only[List.zip_cons_cons,ajy] at hp;rcases hp with rfl| hp
    .have a:=hr.1;unfold JK at d;split at d
     .simp only[aj] at a;subst a;simp[Instr.sameBits]
     .simp only[aj] at a;subst a;simp[Instr.sameBits]
     .simp only[aj] at a;obtain⟨e,rfl,_⟩:=a;simp only[Instr.sameBits];rw[bytes_beq]
     simp at d
    exact zy (ks:=ks) (by rw[hw];rfl) hr.2 p hp
   simp at hb
theorem Jl: ∀ {ks:List Nat} {cs:List V} {xs ys:List Value},(df ks cs cs).isSome=true->ag X μ cs xs->ag X μ cs ys->xs=ys
 | _,[],[],[],_,_,_=>rfl
 | _,[],[],_::_,_,_,h=>by simp[ag] at h
 | _,[],_::_,_,_,h,_=>by simp[ag] at h
 | _,_::_,[],_,_,h,_=>by simp[ag] at h
 | _,_::_,_::_,[],_,_,h=>by simp[ag] at h
 | [],_::_,_,_,h,_,_=>by simp[df] at h
 | k::ks,c::cs,x::xs,y::ys,h,hr,hs=>by
   simp only[ag] at hr hs;obtain⟨b,hb⟩:=ajz.1 h;simp only[df] at hb;split at hb
   .rename_i u w e hw;rw[Jl (ks:=ks) (by rw[hw];rfl) hr.2 hs.2];congr 1
    have a:=hr.1;have d:=hs.1;unfold JK at e;split at e
    .simp only[aj] at a d;rw[a,d]
    .simp only[aj] at a d;rw[a,d]
    .simp only[aj] at a d;obtain⟨g,rfl,i⟩:=a;obtain⟨f,rfl,j⟩:=d;congr 1
     cases g;cases f;simp only[ByteArray.mk.injEq];exact akI.1 (i.trans j.symm)
    simp at e
   simp at hb
theorem LJ {ks:List Nat} {k:V} {x y:Value} (h: (dj ks k k).isSome=true) (h1:aj X μ k x) (h2:aj X μ k y):x=y:=by obtain⟨b,hb⟩:=ajz.1 h;obtain⟨cs,c,rfl,e,a⟩:=jx hb;injection e with e;subst e;simp only[aj] at h1 h2;obtain⟨_,vs,rfl,hv⟩:=h1;obtain⟨_,ws,rfl,hw⟩:=h2;have:=Jl (ks:=ks) (by rw[a];rfl) hv hw;rw[akI.1 this]
theorem Ct {ks:List Nat} {k:V} {kv:Value} (h: (dj ks k k).isSome=true) (hr:aj X μ k kv) (w:World): (Instr.keyThatStays kv kv).run X.P w= .ok kv w:=by
 obtain⟨b,hb⟩:=ajz.1 h;obtain⟨cs,c,rfl,e,a⟩:=jx hb;injection e with e;subst e;simp only[aj] at hr;obtain⟨_,vs,rfl,hv⟩:=hr;have hs:Instr.sameBits 10000 (.agg vs) (.agg vs)=true:=by show Instr.sameBits (9999+1) (.agg vs) (.agg vs)=true;simp only[Instr.sameBits,beq_self_eq_true,alm,ajx];intro p hp;exact zy (ks:=ks) (by rw[a];rfl) hv p hp
 simp[Instr.keyThatStays,hs]
theorem sr {a:TypeId} {ks:List Nat} {k:V} {kv:Value} (d:cU X a=some ks) (h: (dj ks k k).isSome=true) (hr:aj X μ k kv) (em:Bool) (w:World): (Instr.checkKey em 10000 a kv).run X.P w= .ok () w:=by
 obtain⟨⟨fs,hd⟩,c⟩:=fp d;obtain⟨b,hb⟩:=ajz.1 h;obtain⟨cs,f,rfl,e,he⟩:=jx hb;injection e with e;subst e;simp only[aj] at hr;obtain⟨_,vs,rfl,hv⟩:=hr;obtain⟨_,h1| ⟨h1,_⟩⟩:=(aax em w 100).1 a ks cs vs.toList 10000 c ajk hv (by rw[he];rfl)
 .simpa using h1.2
 have:iz X a=some true:=by simp[iz,bP,hd]
 rw[this] at h1;cases h1
theorem pR {c:TypeId} {ks:List Nat} {k k':V} {kv a:Value} {b:Bool} (e:cU X c=some ks) (h:dj ks k k'=some b) (h1:aj X μ k kv) (h2:aj X μ k' a) (w:World):
  (Op.equal c kv a).run X.P w= .ok b w:=by
 obtain⟨⟨fs,hd⟩,d⟩:=fp e;obtain⟨cs,f,rfl,rfl,he⟩:=jx h;simp only[aj] at h1 h2;obtain⟨_,xs,rfl,hx⟩:=h1;obtain⟨_,g,rfl,hy⟩:=h2;obtain⟨_,hh| ⟨hh,_⟩⟩:=(TP (X:=X) (μ:=μ) w 100).1 c ks cs f _ _ b 10000 d ajk hx hy he
 .simpa [Op.equal,Op.maxDepth] using hh.2
 have:iz X c=some true:=by simp[iz,bP,hd]
 rw[this] at hh;cases hh
def xn (X:Ctx) (μ:Mu) (a:TypeId) (kv:Value) (ents:List MapEntry) (r:Option (Nat×Value)):Prop:= ∀i,(Instr.findAsking a kv ents i).run X.P μ.w= .ok (r.map fun p=> (i+p.1,p.2)) μ.w
theorem j7 {b:TypeId} {ks:List Nat} {k:V} {kv:Value} (c:cU X b=some ks) (h1:aj X μ k kv): ∀ {es:List V} {ents:List MapEntry} {r:Option V},ag X μ es (ents.map qX)->cP ks k es=some r->
   (r=none/\xn X μ b kv ents none)\/ ∃v j e,r=some v/\xn X μ b kv ents (some (j,e))/\aj X μ v e
 | [],[],r,_,h=>by simp[cP] at h;subst h;exact .inl ⟨rfl,fun i=>by simp[Instr.findAsking]⟩
 | [],_::_,_,h,_=>by simp[ag] at h
 | _::_,[],_,h,_=>by simp[ag] at h
 | e::es,m::ents,r,hr,h=>by
   simp only[List.map_cons,ag] at hr;unfold cP at h;split at h
   .rename_i a;simp at a
   .rename_i l v' es' a;injection a with f g;subst g;obtain⟨t1,t2⟩:=tF hr.1 f;split at h
    .rename_i d;injection h with h;subst h;exact .inr ⟨v',0,m.val,rfl,fun i=>by simp[Instr.findAsking,Sem.run_bind,pR c d h1 t1 μ.w,Result.andThen_ok],t2⟩
    .rename_i d;have s1:=pR c d h1 t1 μ.w;rcases j7 c h1 hr.2 h with⟨g1,g2⟩ | ⟨v,j,x,g1,g2,g3⟩
     .exact .inl ⟨g1,fun i=>by simp[Instr.findAsking,Sem.run_bind,s1,Result.andThen_ok,g2 (i+1)]⟩
     exact .inr ⟨v,j+1,x,g1,fun i=>by simp[Instr.findAsking,Sem.run_bind,s1,Result.andThen_ok,g2 (i+1)];omega,g3⟩
    simp at h
   simp at h
theorem sx {d:TypeId} {ks:List Nat} {k u:V} {kv val:Value} (f:cU X d=some ks) (h1:aj X μ k kv) (h2:aj X μ u val): ∀ {es es':List V} {ents:List MapEntry},ag X μ es (ents.map qX)->ef ks k u es=some es'->
   (xn X μ d kv ents none/\ ∀c,ag X μ es' ((ents++[({key:=kv,val:=val,born:=c}:MapEntry)]).map qX))\/
   ∃j e,xn X μ d kv ents (some (j,e.val))/\ents[j]? =some e/\aj X μ k e.key/\ag X μ es' ((ents.set j ({key:=kv,val:=val,born:=e.born}:MapEntry)).map qX)
 | [],es',[],_,h=>by
   simp[ef] at h;subst h;exact .inl ⟨fun i=>by simp[Instr.findAsking],fun c=>by simp only[aj8,List.map_cons,alj,ag];exact⟨oZ (me:={key:=kv,val:=val,born:=c}) h1 h2,trivial⟩⟩
 | [],_,_::_,h,_=>by simp[ag] at h
 | _::_,_,[],h,_=>by simp[ag] at h
 | e::es,es',m::ents,hr,h=>by
   simp only[List.map_cons,ag] at hr;unfold ef at h;split at h
   .rename_i a;simp at a
   .rename_i l v' C1 a;injection a with n o;subst o;obtain⟨t1,t2⟩:=tF hr.1 n;split at h
    .rename_i b;injection h with h;subst h;have g:k=l:=by obtain⟨cs,r,rfl,rfl,he⟩:=jx b;rw[tH he]
     exact .inr ⟨0,m,fun i=>by simp[Instr.findAsking,Sem.run_bind,pR f b h1 t1 μ.w,Result.andThen_ok],rfl,by rw[g];exact t1,by simp only[List.set_cons_zero,List.map_cons,ag];exact⟨oZ (me:={key:=kv,val:=val,born:=m.born}) h1 h2,hr.2⟩⟩
    .rename_i b;have s1:=pR f b h1 t1 μ.w;rw[ajr] at h;obtain⟨p,q,rfl⟩:=h;rcases sx f h1 h2 hr.2 q with⟨g1,g2⟩ | ⟨j,x,g1,g2,g3,g4⟩
     .exact .inl ⟨fun i=>by simp[Instr.findAsking,Sem.run_bind,s1,Result.andThen_ok,g1 (i+1)],fun c=>by simp only[ajK,List.map_cons,ag];exact⟨oZ t1 t2,g2 c⟩⟩
     exact .inr ⟨j+1,x,fun i=>by simp[Instr.findAsking,Sem.run_bind,s1,Result.andThen_ok,g1 (i+1)];omega,by simpa using g2,g3,by simp only[List.set_cons_succ,List.map_cons,ag];exact⟨oZ t1 t2,g4⟩⟩
    simp at h
   simp at h
theorem jD {a:TypeId} {fs:Array Field} (hd:X.P.underlying a=some (.struct fs)) {kv:Value} {ents:List MapEntry} {r:Option (Nat×Value)} (h:xn X μ a kv ents r): (Instr.findKey a kv ents).run X.P μ.w= .ok r μ.w:=by rw[run_findKey_eq μ.w (by rw[hd]),h 0];cases r<;>simp
theorem Cu {t l A:TypeId} {x i:Operand} {x' B:ba} {ok:Bool} {ks:List Nat} {z:V} (hr:Rel X T a μ) (G:o.op= .lookup t x i ok) (ht:bP X t=some (.map l A)) (n:cU X l=some ks)
  (H:fW X A=some z) (h1:dy X x=some x') (h2:dy X i=some B) (c: (aQ E (.sS ks ok z x' B)).run C ⟨T,μ.O⟩=some (v,σ')):σ'.T=T/\dg X o a μ σ'.O v:=by
 simp only[aQ,bF] at c;have hx:=aX hr h1 μ.O;have hi:=aX hr h2 μ.O;have q:X.P.underlying t=some (.map l A):=ht;obtain⟨⟨fs,hd⟩,_⟩:=fp n;obtain⟨D,F,CW⟩:=jk H μ.w;obtain⟨Cq,LB⟩:=fk (X:=X) (μ:=μ) CW;split at c
 .rename_i I;have BS:=fun em=>sr n I hi em μ.w;have d: ∀ {es:List V} {ents:Array MapEntry} {m:Option Nat},ag X μ es (ents.toList.map qX)->(dC ks ok z es (bE ⟨T,μ.O⟩ B)).run C ⟨T,μ.O⟩=some (v,σ')->a.eval x= .map m->
    (match m with| none=>ents= #[] | some r=> ∃clock,μ.w.heap[r]? =some (.map ents clock))->σ'.T=T/\dg X o a μ σ'.O v:=by
   intro es ents m h k hm hb;have fin: ∀ (u:Value) (b:Bool) (r:Option (Nat×Value)),xn X μ l (a.eval i) ents.toList r->(match r with
      | some (_,v)=>u=v/\b=true
      | none=>u=D/\b=false)->(execOp a.eval o).run X.P μ.w= .ok (.value (if ok then .tuple #[u,.bool b] else u)) μ.w:=by
    intro u b r J hf;have GF:=jD hd J;simp only[execOp,G];refine dQ ?_;cases m with
    | none=>
      simp only at hb;subst hb;cases r with
      | none=>
        simp only at hf;obtain⟨rfl,rfl⟩:=hf;cases ok<;>simp[Instr.lookup,Sem.run_bind,run_underlying q,Result.andThen,hm,BS,GF,F]
      | some p=>
        obtain⟨j,y⟩:=p;simp only at hf;obtain⟨rfl,rfl⟩:=hf;cases ok<;>simp[Instr.lookup,Sem.run_bind,run_underlying q,Result.andThen,hm,BS,GF]
    | some L=>
      obtain⟨clock,hb⟩:=hb;cases r with
      | none=>
        simp only at hf;obtain⟨rfl,rfl⟩:=hf;cases ok<;>simp[Instr.lookup,Sem.run_bind,run_underlying q,Result.andThen,hm,Go.MapKept.run_getObj_map hb,BS,GF,F]
      | some p=>
        obtain⟨j,y⟩:=p;simp only at hf;obtain⟨rfl,rfl⟩:=hf;cases ok<;>simp[Instr.lookup,Sem.run_bind,run_underlying q,Result.andThen,hm,Go.MapKept.run_getObj_map hb,BS,GF]
   unfold dC at k;split at k
   .rename_i y hy;obtain⟨rfl,rfl⟩:=bn k;rcases j7 n hi h hy with⟨f,_⟩ | ⟨v0,j,e,f,g2,g3⟩
    .cases f
    injection f with f;subst f;refine⟨rfl,aU hr.bp (fin e true _ g2 ⟨rfl,rfl⟩) ?_⟩;cases ok
    .simpa using g3
    simp only[if_true,aj];exact⟨_,rfl,by simp[ag,aj,g3]⟩
   .rename_i hy;obtain⟨rfl,rfl⟩:=bn k;rcases j7 n hi h hy with⟨_,g2⟩ | ⟨v0,j,e,f,g2,g3⟩
    . refine⟨rfl,aU hr.bp (fin D false _ g2 ⟨rfl,rfl⟩) ?_⟩
      cases ok
      .simpa using Cq
      simp only[if_true,aj];exact⟨_,rfl,by simp[ag,aj,Cq]⟩
    cases f
   .exact absurd k aq
  split at c
  .rename_i r g e;rw[e] at hx;simp only[aj] at hx;obtain⟨b,hp,M,K⟩:=hx;simp only[Act.run] at c;split at c
   .rename_i es bC;split at c
    . rename_i hc
      obtain⟨N,rfl⟩:=K hc.1;rcases hr.bp.ents r es bC hc.2 with⟨cW,ents,clock,hm,h,_⟩ | ⟨_,s,pos,_,rfl⟩ | ⟨nN,rfl⟩
      .exact d h c hp ⟨clock,hm⟩
      .exact absurd (by simpa [dC,cP] using c) aq
      exact absurd (by simpa [dC,cP] using c) aq
    exact absurd c aq
   exact absurd c aq
  .rename_i es e;rw[e] at hx;simp only[aj] at hx;obtain⟨_,⟨rfl,hp⟩ | ⟨b,ents,clock,hp,_,_,⟨hm,_⟩,h⟩⟩:=hx
   .exact d (ents:= #[]) (by simp[ag]) c hp rfl
   exact d h c hp ⟨clock,hm⟩
  exact absurd c aq
 exact absurd c aq
theorem Cv {t m F:TypeId} {x i y:Operand} {x' G H:ba} {ks:List Nat} (hr:Rel X T a μ) (d:o.op= .mapUpdate t x i y\/o.op= .insert t x i y) (ht:bP X t=some (.map m F)) (p:cU X m=some ks)
  (h1:dy X x=some x') (h2:dy X i=some G) (h3:dy X y=some H) (f: (aQ E (.sR ks x' G H)).run C ⟨T,μ.O⟩=some (v,σ')):σ'.T=T/\dg X o a μ σ'.O v:=by
 simp only[aQ,bF] at f;have hx:=aX hr h1 μ.O;have hi:=aX hr h2 μ.O;have hy:=aX hr h3 μ.O;have I:X.P.underlying t=some (.map m F):=ht;obtain⟨⟨fs,hd⟩,_⟩:=fp p;split at f
 .rename_i r g e;rw[e] at hx;simp only[bF] at f;obtain⟨u,O1,c,L,k,q⟩:=kH (μ:=μ) hr.bp hy f;have Qj:=aj.mono k hx;have J:=aj.mono k hi;simp only[Act.run] at c;split at c
  .rename_i es bC;split at c
   .rename_i hc;obtain⟨cT,bM,iC,z,U⟩:=hc;split at c
    .rename_i es' A;simp only[Act.run,ajq,ajv] at c;obtain⟨rfl,rfl⟩:=c;simp only[aj] at Qj;obtain⟨b,hp,V,M⟩:=Qj;obtain⟨_,rfl⟩:=M cT;obtain⟨K,ents,clock,hm,B,l⟩: (μ.φ r).cap≠0/\ ∃ents clock,μ.w.heap[(μ.φ r).cj]? =some (.map ents clock)/\ag X ⟨μ.w,μ.φ,O1⟩ es (ents.toList.map qX)/\iB ents clock:=by
      rcases q.ents r es bC bM with h| ⟨_,s,pos,_,rfl⟩ | ⟨W,rfl⟩
      .exact h
      .simp[ef] at A
      simp[ef] at A
     have BS:=sr p z hi false μ.w;have fin: ∀w',(Instr.mapUpdate t (.map (some (μ.φ r).cj)) (a.eval i) (a.eval y)).run X.P μ.w= .ok () w'->(execOp a.eval o).run X.P μ.w= .ok .skip w':=fun w' hw=>by
      rcases d with d| d
      .simp only[execOp,d,hp];exact Ck hw
      simp only[execOp,d,hp];exact Ck hw
     rcases sx p J L B A with⟨g1,g2⟩ | ⟨j,e,g1,g2,g3,g4⟩
     .have GF:=jD (μ:=⟨μ.w,μ.φ,O1⟩) hd g1;obtain⟨le,D⟩:=iD (μ:=⟨μ.w,μ.φ,O1⟩) q r (es':=es') (ob':= .map (ents.push {key:=a.eval i,val:=a.eval y,born:=clock}) (clock+1)) bC iC bM hm K (.inl ⟨ents,clock,rfl,B,l⟩) (.inl ⟨_,_,rfl,by have:=g2 clock;have N: (ents.push ({key:=a.eval i,val:=a.eval y,born:=clock}:MapEntry)).toList=ents.toList++[({key:=a.eval i,val:=a.eval y,born:=clock}:MapEntry)]:=ajl;rw[N];exact this,tG l _ rfl⟩);refine⟨rfl,undef,_,_,.inr ⟨fin _ ?_,rfl⟩,by simp only[aj];exact⟨#[],rfl,by simp[ag]⟩,k.trans le,D⟩;simp[Instr.mapUpdate,run_underlying I,Go.MapKept.run_getObj_map hm,BS,GF,Go.MapKept.run_setObj_map _ hm,Result.andThen,Sem.run_bind]
     have GF:=jD (μ:=⟨μ.w,μ.φ,O1⟩) hd g1;have Q:e.key=a.eval i:=LJ z g3 J;have Vb:ents[j]? =some e:=by simpa using g2
     have R:=Ct z hi μ.w;obtain⟨le,D⟩:=iD (μ:=⟨μ.w,μ.φ,O1⟩) q r (es':=es') (ob':= .map (ents.modify j fun e=> {e with key:=a.eval i,val:=a.eval y}) (clock)) bC iC bM hm K (.inl ⟨ents,clock,rfl,B,l⟩) (.inl ⟨_,_,rfl,by
      have hl: (ents.modify j fun e=> {e with key:=a.eval i,val:=a.eval y}).toList=ents.toList.set j {e with key:=a.eval i,val:=a.eval y}:=by
       apply akp;intro n;rw[akX,aj1,akz];by_cases hn:j=n
       .subst hn;have S:=(ajp.1 g2).1;simp only[if_true,S,g2,ajE,and_self];rfl
       simp[hn]
      rw[hl];exact g4,oE l j fun _=>rfl⟩)
     refine⟨rfl,undef,_,_,.inr ⟨fin _ ?_,rfl⟩,by simp only[aj];exact⟨#[],rfl,by simp[ag]⟩,k.trans le,D⟩;simp[Instr.mapUpdate,run_underlying I,Go.MapKept.run_getObj_map hm,BS,GF,Vb,Q,R,Go.MapKept.run_setObj_map _ hm,Result.andThen,Sem.run_bind]
    exact absurd c aq
   exact absurd c aq
  exact absurd c aq
 exact absurd f aq
theorem Cw {c:Call} {s x:Operand} {sT xT e:TypeId} {d:TypeDesc} {s' x':ba} {f r sz:Nat} {i:TypeInfo} {z:V} (hr:Rel X T a μ) (g:o.op= .call c) (hc:c.callee= .builtin .append)
  (h:c.args= #[s,x]) (LG:c.argTypes= #[sT,xT]) (hd:bP X sT=some (.slice e)) (hx:bP X xT=some d) (JN: ∀k,d≠ .int k) (hn:bU X e=some sz) (hi:info X e=some i)
  (l:fW X e=some z) (T4:bj z sz=true) (h1:dy X s=some s') (h2:dy X x=some x')
  (b: (aQ E (.vW f r sz (xa i.bytes) s' x')).run C ⟨T,μ.O⟩=some (v,σ')):σ'.T=T/\dg X o a μ σ'.O v:=by
 simp only[aQ,bF] at b;split at b
 .rename_i m j he;refine yH (E:=E) (C:=C) (v:=v) (r:=r+16*j.toNat) hr g hc h LG hd hx JN hn hi l T4 h1 h2 ?_;simp only[aQ,bF] at b ⊢;exact b
 exact absurd b aq
theorem sy {c:TypeId} {ks:List Nat} {k:V} {kv:Value} (d:cU X c=some ks) (h1:aj X μ k kv): ∀ {es:List V} {ents:List MapEntry} {i:Nat} {r:Option (Nat×V)},ag X μ es (ents.map qX)->dB ks k i es=some r->
   (r=none/\xn X μ c kv ents none)\/ ∃v j e,r=some (i+j,v)/\xn X μ c kv ents (some (j,e.val))/\aj X μ v e.val/\ents[j]? =some e/\aj X μ k e.key
 | [],[],_,r,_,h=>by simp[dB] at h;subst h;exact .inl ⟨rfl,fun i=>by simp[Instr.findAsking]⟩
 | [],_::_,_,_,h,_=>by simp[ag] at h
 | _::_,[],_,_,h,_=>by simp[ag] at h
 | e::es,m::ents,i,r,hr,h=>by
   simp only[List.map_cons,ag] at hr;unfold dB at h;split at h
   .rename_i a;simp at a
   .rename_i g v' es' a;injection a with l n;subst n;obtain⟨t1,t2⟩:=tF hr.1 l;split at h
    .rename_i b;injection h with h;subst h;have f:k=g:=by obtain⟨cs,o,rfl,rfl,he⟩:=jx b;rw[tH he]
     exact .inr ⟨v',0,m,rfl,fun i=>by simp[Instr.findAsking,Sem.run_bind,pR d b h1 t1 μ.w,Result.andThen_ok],t2,rfl,by rw[f];exact t1⟩
    .rename_i b;have s1:=pR d b h1 t1 μ.w;rcases sy d h1 hr.2 h with⟨g1,g2⟩ | ⟨v,j,x,g1,g2,g3,g4,g5⟩
     .exact .inl ⟨g1,fun i=>by simp[Instr.findAsking,Sem.run_bind,s1,Result.andThen_ok,g2 (i+1)]⟩
     exact .inr ⟨v,j+1,x,by rw[g1];congr 2;omega,fun i=>by simp[Instr.findAsking,Sem.run_bind,s1,Result.andThen_ok,g2 (i+1)];omega,g3,by simpa using g4,g5⟩
    simp at h
   simp at h
theorem LK {t y A:TypeId} {x i:Operand} {x' m:ba} {ks:List Nat} {z:V} (hr:Rel X T a μ) (I:o.op= .mapEntry t x i) (ht:bP X t=some (.map y A)) (p:cU X y=some ks)
  (J:fW X A=some z) (h1:dy X x=some x') (h2:dy X i=some m) (c: (aQ E (.vU ks z x' m)).run C ⟨T,μ.O⟩=some (v,σ')):σ'.T=T/\dg X o a μ σ'.O v:=by
 simp only[aQ,bF] at c;have hx:=aX hr h1 μ.O;have hi:=aX hr h2 μ.O;have G:X.P.underlying t=some (.map y A):=ht;obtain⟨⟨fs,hd⟩,_⟩:=fp p;obtain⟨k,K,CW⟩:=jk J μ.w;obtain⟨Cq,LB⟩:=fk (X:=X) (μ:=μ) CW;split at c
 .rename_i r g e;rw[e] at hx;simp only[bF,Act.run] at c;split at c
  .rename_i es bC;split at c
   .rename_i hc;obtain⟨cT,bM,iC,B,R⟩:=hc;simp only[aj] at hx;obtain⟨b,hp,S,L⟩:=hx;obtain⟨_,rfl⟩:=L cT;have BS:=sr p B hi false μ.w;have fin: ∀u w',(Instr.mapEntry t (.map (some (μ.φ r).cj)) (a.eval i)).run X.P μ.w= .ok u w'->(execOp a.eval o).run X.P μ.w= .ok (.value u) w':=fun u w' hw=>by simp only[execOp,I,hp];exact dQ hw
    have Yt: (∃q,dB ks (bE ⟨T,μ.O⟩ m) 0 es=some q)->(μ.φ r).cap≠0/\ ∃ents clock,μ.w.heap[(μ.φ r).cj]? =some (.map ents clock)/\ag X μ es (ents.toList.map qX)/\iB ents clock:=by
     rintro⟨q,hq⟩;rcases hr.bp.ents r es bC bM with h| ⟨_,s,pos,_,rfl⟩ | ⟨U,rfl⟩
     .exact h
     .simp[dB] at hq
     simp[dB] at hq
    split at c
    .rename_i j u l;simp only[Act.run,ajq,ajv] at c;obtain⟨rfl,rfl⟩:=c;obtain⟨D,ents,clock,hm,d,f⟩:=Yt ⟨_,l⟩;rcases sy p hi d l with⟨g1,_⟩ | ⟨v,j',e,g1,g2,g3,g4,g5⟩
     .cases g1
     simp only[ajq,ajv,akg] at g1;obtain⟨rfl,rfl⟩:=g1;have GF:=jD hd g2;have H:e.key=a.eval i:=LJ B g5 hi;have Vb:ents[j]? =some e:=by simpa using g4
     have M:=Ct B hi μ.w;have N: (ents.modify j fun e=> {e with key:=a.eval i})=ents:=by
      apply Array.ext';apply akp;intro n;rw[akX,aj1];by_cases hn:j=n
      .subst hn;rw[g4,<-H];simp only[if_true];rfl
      simp[hn]
     obtain⟨le,F⟩:=iD hr.bp r (es':=es) (ob':= .map ents clock) bC iC bM hm D (.inl ⟨ents,clock,rfl,d,f⟩) (.inl ⟨ents,clock,rfl,d,f⟩);refine⟨rfl,.tuple #[e.val,goInt e.born],_,_,.inl (fin _ _ ?_),?_,le,F⟩
     .simp[Instr.mapEntry,run_underlying G,Go.MapKept.run_getObj_map hm,BS,GF,Vb,H,M,N,Go.MapKept.run_setObj_map _ hm,Result.andThen,Sem.run_bind]
     simp only[aj];refine⟨_,rfl,?_⟩;simp only[ag,aj,and_true];exact⟨aj.mono le g3,by rw[f.at Vb];rfl⟩
    .rename_i l;simp only[Act.run,ajq,ajv] at c;obtain⟨rfl,rfl⟩:=c;obtain⟨D,ents,clock,hm,d,f⟩:=Yt ⟨_,l⟩;rcases sy p hi d l with⟨_,g2⟩ | ⟨v,j',e,g1,_⟩
     .have GF:=jD hd g2;have hlen:es.length=ents.size:=by have:=d.length;simpa using this
      obtain⟨le,F⟩:=iD hr.bp r (es':=es++[.tuple [bE ⟨T,μ.O⟩ m,z]]) (ob':= .map (ents.push {key:=a.eval i,val:=k,born:=clock}) (clock+1)) bC iC bM hm D (.inl ⟨ents,clock,rfl,d,f⟩) (.inl ⟨_,_,rfl,by have Q: (ents.push ({key:=a.eval i,val:=k,born:=clock}:MapEntry)).toList=ents.toList++[({key:=a.eval i,val:=k,born:=clock}:MapEntry)]:=ajl;rw[Q,ajV];refine d.append ?_;simp only[List.map_cons,alj,ag,and_true];exact oZ (me:={key:=a.eval i,val:=k,born:=clock}) hi Cq,tG f _ rfl⟩);refine⟨rfl,.tuple #[k,goInt clock],_,_,.inl (fin _ _ ?_),?_,le,F⟩
      .simp[Instr.mapEntry,run_underlying G,Go.MapKept.run_getObj_map hm,BS,GF,K,Go.MapKept.run_setObj_map _ hm,Result.andThen,Sem.run_bind]
      simp only[aj];refine⟨_,rfl,?_⟩;simp only[ag,aj,and_true];exact⟨aj.mono le Cq,by rw[f.1,hlen];rfl⟩
     cases g1
    exact absurd c aq
   exact absurd c aq
  exact absurd c aq
 .exact absurd c aq
theorem LL {t:TypeId} {x s y:Operand} {x' s' A:ba} (hr:Rel X T a μ) (H:o.op= .entryStore t x s y)
  (h1:dy X x=some x') (h2:dy X s=some s') (h3:dy X y=some A) (f: (aQ E (.vV x' s' A)).run C ⟨T,μ.O⟩=some (v,σ')):σ'.T=T/\dg X o a μ σ'.O v:=by
 simp only[aQ,bF] at f;have hx:=aX hr h1 μ.O;have hs:=aX hr h2 μ.O;have hy:=aX hr h3 μ.O;split at f
 .rename_i r g e;rw[e] at hx;simp only[bF] at f;split at f
  .rename_i j B;rw[B] at hs;simp only[bF] at f;obtain⟨u,O1,c,I,D,F⟩:=kH (μ:=μ) hr.bp hy f;have Qj:=aj.mono D hx;simp only[Act.run] at c;split at c
   .rename_i es bC;split at c
    .rename_i hc;obtain⟨cT,bM,iC,Q,J⟩:=hc;split at c
     .rename_i G w0 d;simp only[Act.run,ajq,ajv] at c;obtain⟨rfl,rfl⟩:=c;simp only[aj] at Qj hs;obtain⟨b,hp,R,K⟩:=Qj;obtain⟨_,rfl⟩:=K cT;obtain⟨L,ents,clock,hm,p,m⟩: (μ.φ r).cap≠0/\ ∃ents clock,μ.w.heap[(μ.φ r).cj]? =some (.map ents clock)/\ag X ⟨μ.w,μ.φ,O1⟩ es (ents.toList.map qX)/\iB ents clock:=by
       rcases F.ents r es bC bM with h| ⟨_,s,pos,_,rfl⟩ | ⟨B,rfl⟩
       .exact h
       .exfalso;cases hn:j.toNat with
        | zero=>rw[hn] at d;simp at d
        | succ n=>rw[hn] at d;cases n<;>simp at d
       exfalso;cases hn:j.toNat with
       | zero=>rw[hn] at d;simp at d
       | succ n=>rw[hn] at d;simp at d
      obtain⟨me,l,q⟩:=p.get d;simp only[ajF,ajr] at l;obtain⟨en,i,rfl⟩:=l;have k:ents[j.toNat]? =some en:=by simpa using i
      obtain⟨t1,_⟩:=tF q rfl;have M:ents.findIdx? (fun e=> (e.born:Int)==j)=some j.toNat:=by
       have z:=(ajs.1 k).1;rw[Array.findIdx?_eq_some_iff_getElem];refine⟨z,?_,fun n hn=> ?_⟩
       .have:=m.at k;rw[(ajs.1 k).2,this];simp;omega
       have JQ:n<ents.size:=ajk;have:=m.at (ajP JQ);rw[this];simp;omega
      have N:ag X ⟨μ.w,μ.φ,O1⟩ (es.set j.toNat (.tuple [G,u])) ((ents.modify j.toNat fun e=> {e with val:=a.eval y}).toList.map qX):=by
       have hl: (ents.modify j.toNat fun e=> {e with val:=a.eval y}).toList=ents.toList.set j.toNat {en with val:=a.eval y}:=by
        apply akp;intro n;rw[akX,aj1,akz];by_cases hn:j.toNat=n
        .subst hn;have z:=(ajp.1 i).1;simp only[if_true,z,i,ajE,and_self];rfl
        simp[hn]
       rw[hl,akl];exact p.set j.toNat (oZ (me:={en with val:=a.eval y}) t1 I)
      obtain⟨le,P⟩:=iD (μ:=⟨μ.w,μ.φ,O1⟩) F r (es':=es.set j.toNat (.tuple [G,u])) (ob':= .map (ents.modify j.toNat fun e=> {e with val:=a.eval y}) clock) bC iC bM hm L (.inl ⟨ents,clock,rfl,p,m⟩)
       (.inl ⟨_,_,rfl,N,oE m _ fun _=>rfl⟩)
      refine⟨rfl,undef,_,_,.inr ⟨?_,rfl⟩,by simp only[aj];exact⟨#[],rfl,by simp[ag]⟩,D.trans le,P⟩;simp only[execOp,H,hp,hs];refine Ck ?_;simp[Instr.entryStore,Go.MapKept.run_getObj_map hm,Sem.run_bind,Result.andThen,asInt,asIntOf,M,Go.MapKept.run_setObj_map _ hm]
     exact absurd c aq
    exact absurd c aq
   exact absurd c aq
  exact absurd f aq
 .exact absurd f aq
theorem tI: ∀ {ks:List Nat} {cs j:List V},jQ ks cs=true->jQ ks j=true->(df ks cs j).isSome=true
 | [],[],[],_,_=>rfl
 | [],[],_::_,_,h=>by simp[jQ] at h
 | [],_::_,_,h,_=>by simp[jQ] at h
 | k::ks,[],_,h,_=>by unfold jQ at h;split at h<;>simp_all
 | k::ks,_::_,[],_,h=>by unfold jQ at h;split at h<;>simp_all
 | k::ks,c::cs,d::j,h,a=>by
   unfold jQ at h;split at h
   .simp_all
   .rename_i f e;injection f with a1 g;injection e with b1 i;subst a1;subst g;subst b1;subst i;unfold jQ at a;split at a<;>simp_all
    rename_i f e _;have:=tI h a;obtain⟨b,hb⟩:=ajz.1 this;obtain⟨rfl,rfl⟩:=e;simp[df,JK,hb]
   .rename_i f e;injection f with a1 g;injection e with b1 i;subst a1;subst g;subst b1;subst i;unfold jQ at a;split at a<;>simp_all
    have:=tI h a;obtain⟨b,hb⟩:=ajz.1 this;simp[df,JK,hb]
   .rename_i f e;injection f with a1 g;injection e with b1 i;subst a1;subst g;subst b1;subst i;unfold jQ at a;split at a<;>simp_all
    have:=tI h a;obtain⟨b,hb⟩:=ajz.1 this;simp[df,JK,hb]
   simp at h
theorem GG {ks:List Nat} {k k':V} (h:C3 ks k=true) (a:C3 ks k'=true): (dj ks k k').isSome=true:=by
 cases k<;>simp[C3] at h
 cases k'<;>simp[C3] at a
 exact tI h a
theorem Cx {ks:List Nat} {k:V} (a:C3 ks k=true): ∀ {es:List V},es.all (Hj ks)=true-> ∃r,cP ks k es=some r/\ei ks k es=r.getD (.int .i64 0)
 | [],_=> ⟨none,rfl,rfl⟩
 | e::es,h=>by
   simp only[ajM,ajt] at h;obtain⟨h1,h2⟩:=h;unfold Hj at h1;split at h1
   .rename_i c n;obtain⟨b,hb⟩:=ajz.1 (GG a h1);cases b with
    | true=>exact⟨some (.int .i64 n),by simp[cP,hb],by simp[ei,hb]⟩
    | false=>
      obtain⟨r,h3,h4⟩:=Cx a h2;exact⟨r,by simp[cP,hb,h3],by simp[ei,hb,h4]⟩
   simp at h1
theorem ES {z:V} (h:isZero z=true):z= .int .i64 0:=by
 unfold isZero at h;split at h
 .rename_i n;simp at h;rw[h]
 simp at h
theorem aaz {x' b:ba} {ks:List Nat} {T:Nat->V} {O:Nat->Obj} {p:V×St} (a: (aQ E (.lZ ks x' b)).run C ⟨T,O⟩=some p): (aQ E (.sS ks false (.int .i64 0) x' b)).run C ⟨T,O⟩=some p:=by
 simp only[aQ,bF] at a ⊢;split at a
 .rename_i r g e;rw[e];simp only[bF,Act.run] at a;unfold J6 lN at a;split at a
  .rename_i gen sz f hc;simp only[ajv] at hc;obtain⟨rfl,rfl,hc⟩:=hc;cases bC: (O r).es with
   | none=>rw[bC] at hc;simp at hc
   | some es=>
     rw[bC] at hc;simp only[ajE,ajq,ajv] at hc;obtain⟨c,rfl⟩:=hc;split at a
     .rename_i Wg;obtain⟨c1,c2,c3⟩:=Wg;rw[if_pos (GG c3 c3)];simp only[Act.run,bC];rw[if_pos ⟨c1,c2⟩];obtain⟨q,d,h⟩:=Cx c3 c;unfold dC;rw[d];simp only[h] at a;cases q<;>simpa using a
     exact absurd a aq
  exact absurd a aq
 exact absurd a aq
theorem aaA {x' b:ba} {ks:List Nat} {T:Nat->V} {O:Nat->Obj} {p:V×St} (a: (aQ E (.mc ks x' b)).run C ⟨T,O⟩=some p): (aQ E (.vU ks (.int .i64 0) x' b)).run C ⟨T,O⟩=some p:=by
 simp only[aQ,bF] at a ⊢;split at a
 .rename_i r g e;simp only[e,bF,Act.run] at a ⊢;cases bC: (O r).es with
  | none=>rw[bC] at a;exact absurd a aq
  | some es=>
    rw[bC] at a;simp only at a ⊢;split at a
    .rename_i hc;rw[if_pos ⟨hc.1,hc.2.1,hc.2.2.1,GG hc.2.2.2.1 hc.2.2.2.1,rfl⟩];exact a
    exact absurd a aq
 exact absurd a aq
theorem Cy {ks:List Nat} {k k':V}: ∀es:List V,ei ks k' (es++[.tuple [k,.int .i64 0]])=ei ks k' es
 | []=>by
   simp only[aj8,ei];split<;>rfl
 | e::es=>by
   have a:=Cy (ks:=ks) (k:=k) (k':=k') es;rw[ajK];cases e<;>try (simp only[ei,a];done)
   rename_i l
   match l with
   | []=>simp only[ei,a]
   | [_]=>simp only[ei,a]
   | [_,_]=>simp only[ei,a]
   | _::_::_::_=>simp only[ei,a]
theorem ET {x' b:ba} {ks:List Nat} {σ σ':St} {v:V} (a: (aQ E (.mc ks x' b)).run C σ=some (v,σ')):σ'.T=σ.T/\ ∀n,lN ks (σ'.O n)=lN ks (σ.O n):=by
 obtain⟨T,O⟩:=σ;simp only[aQ,bF] at a;split at a
 .rename_i r g e;simp only[bF,Act.run] at a;cases bC: (O r).es with
  | none=>rw[bC] at a;exact absurd a aq
  | some es=>
    rw[bC] at a;simp only at a;split at a
    .rename_i hc;obtain⟨c1,c2,c3,c4,c⟩:=hc;split at a
     .simp only[Act.run,ajq,ajv] at a;obtain⟨_,rfl⟩:=a;refine⟨rfl,fun n=> ?_⟩;by_cases hn:n=r
      .subst hn;simp only[aD,lN,bC]
      simp only[bk _ _ hn]
     .rename_i d;simp only[Act.run,ajq,ajv] at a;obtain⟨_,rfl⟩:=a;refine⟨rfl,fun n=> ?_⟩;by_cases hn:n=r
      .subst hn;simp only[aD,lN,bC,ajE];refine congrArg (fun q=> ((O n).gen,(O n).sz,some q)) (Prod.ext ?_ ?_)
       .simp only[akL,ajM,List.all_nil,aj9];rw[c];simp only[Hj,c4,akh]
       funext k';exact Cy es
      simp only[bk _ _ hn]
     exact absurd a aq
    exact absurd a aq
 exact absurd a aq
theorem LM {t b c:TypeId} {x i:Operand} {x' d:ba} {ks:List Nat} {z:V} (hr:Rel X T a μ) (e:o.op= .lookup t x i false) (ht:bP X t=some (.map b c)) (f:cU X b=some ks)
  (g:fW X c=some z) (Xs:isZero z=true) (h1:dy X x=some x') (h2:dy X i=some d) (h: (aQ E (.lZ ks x' d)).run C ⟨T,μ.O⟩=some (v,σ')):σ'.T=T/\dg X o a μ σ'.O v:=by
 obtain rfl:=ES Xs;exact Cu hr e ht f g h1 h2 (aaz h)
theorem LN {t b c:TypeId} {x i:Operand} {x' d:ba} {ks:List Nat} {z:V} (hr:Rel X T a μ) (e:o.op= .mapEntry t x i) (ht:bP X t=some (.map b c)) (f:cU X b=some ks)
  (g:fW X c=some z) (Xs:isZero z=true) (h1:dy X x=some x') (h2:dy X i=some d) (h: (aQ E (.mc ks x' d)).run C ⟨T,μ.O⟩=some (v,σ')):σ'.T=T/\dg X o a μ σ'.O v:=by
 obtain rfl:=ES Xs;exact LK hr e ht f g h1 h2 (aaA h)
end
end Go.AM
namespace Go.AM
open Go Go.RowKit
def vH.kI:vH->Bool
 | .call .. =>true
 | _=>false
section
variable {X:Ctx} {E:Env} {C:bB} {o:Oper} {a:Go.Act} {T:Nat->V} {μ:Mu} {v:V} {σ':St}
theorem Ns {p:V×St} {σ:St}: (aQ E .bad).run C σ≠some p:=by simp[aQ,Act.run]
theorem LO {h:Hints} {dst:Nat} {c:Call} {w:vH} (hr:Rel X T a μ) (j:o.op= .call c) (f:Cf X h dst c=some w) (LH:w.kI=false)
  (g: (aQ E w).run C ⟨T,μ.O⟩=some (v,σ')):σ'.T=T/\dg X o a μ σ'.O v:=by
 unfold Cf at f;split at f
 .split at f
  .injection f with f;subst f;simp[vH.kI] at LH
  simp at f
 .simp at f
 rename_i b hc;have r: ∀ {α:Type} (l:Array α) (m:List α),l.toList=m->l=m.toArray:=fun l m e=>by rw[<-e]
 split at f
 .rename_i x t h1 h2;have k:=r _ _ h1;have p:=r _ _ h2;split at f
  .rename_i u e hx hd;injection f with f;subst f;exact aaq hr j hc k p hd hx g
  .rename_i u hx hd;injection f with f;subst f;exact Pq hr j hc k p hd hx g
  .rename_i u n e hx hd;injection f with f;subst f;exact Pr hr j hc k p hd g
  simp at f
 .rename_i xs _;simp only[ajr] at f;obtain⟨aL,h1,rfl⟩:=f;exact aar hr j hc h1 g
 .rename_i xs _;simp only[ajr] at f;obtain⟨aL,h1,rfl⟩:=f;exact aas hr j hc h1 g
 .rename_i s x t y h1 h2;have k:=r _ _ h1;have p:=r _ _ h2;split at f
  .rename_i A u e d hs hx hd Pb;split at f
   .rename_i sz i z e' hn hi q;split at f<;>simp at f
    rename_i hb;subst f;unfold Xn at g;split at g
    .exact Cw hr j hc k p hd Pb ajl hn hi q hb hs hx g
    exact yH hr j hc k p hd Pb ajl hn hi q hb hs hx g
   .rename_i sz i z hn hi q;split at f<;>simp at f
    rename_i hb;subst f;unfold Xn at g;split at g
    .exact Cw hr j hc k p hd Pb ajl hn hi q hb hs hx g
    exact yH hr j hc k p hd Pb ajl hn hi q hb hs hx g
   simp at f
  simp at f
 .rename_i x t h1 h2;have k:=r _ _ h1;have p:=r _ _ h2;split at f
  .rename_i u e hx hd;split at f
   .rename_i sz z hn q;injection f with f;subst f;exact Uc hr j hc k p hd q hx g
   simp at f
  simp at f
 simp at f
theorem qC {b:TypeId} {q:Option IntKind} (h:xb X b=some q): ∃d,bP X b=some d/\kU q d:=by
 unfold xb at h;split at h
 .rename_i k a;injection h with h;subst h;exact⟨_,a,rfl⟩
 .rename_i a;injection h with h;subst h;exact⟨_,a,rfl⟩
 simp at h
theorem Ug (Q: ∀t1 t2 k,X.r5 t1=some k->X.r5 t2=some k->t1=t2) {h:Hints} {dst:Nat} {D:vH} (hr:Rel X T a μ) (b:Dm X h dst o.op=some D) (LH:D.kI=false)
  (j: (aQ E D).run C ⟨T,μ.O⟩=some (v,σ')):σ'.T=T/\dg X o a μ σ'.O v:=by
 cases l:o.op<;>simp only[Dm,l] at b<;>try (simp at b;done)
 case move x=>
  split at b
  . simp only[ajr] at b
    obtain⟨y,h1,rfl⟩:=b;exact No hr (.inl l) h1 j
  split at b
  .  simp only[ajr] at b
     obtain⟨y,h1,rfl⟩:=b;exact Nr hr (.inl l) h1 j
  exact Yn hr (.inl l) b j
 case assign x=>
  split at b
  . simp only[ajr] at b
    obtain⟨y,h1,rfl⟩:=b;exact No hr (.inr l) h1 j
  split at b
  .  simp only[ajr] at b
     obtain⟨y,h1,rfl⟩:=b;exact Nr hr (.inr l) h1 j
  exact Yn hr (.inr l) b j
 case pick c p q=>
  split at b
  . rename_i R S U h1 h2 h3
    injection b with b;subst b;exact Xq hr l h1 h2 h3 j
  simp at b
 case alloc t=>
  split at b
  . rename_i sz z h1 h2
    injection b with b;subst b;exact T1 _ hr l h2 j
  simp at b
 case box t x=>
  split at b
  . rename_i sz y h1 h2
    injection b with b;subst b;exact aat _ hr l h2 j
  simp at b
 case build t ps=>
  split at b
  . rename_i z fs h1 h2
    split at b
    .simp at b
    rename_i K;simp only[ajr] at b;obtain⟨aL,h3,rfl⟩:=b;exact Pv _ hr l h1 h2 (by revert K;cases fs.toList.all (fun f=> (bU X f.type).isSome) <;>simp) h3 j
  . rename_i z n e h1 h2
    split at b
    .  rename_i s hs
       simp only[ajr] at b;obtain⟨aL,h3,rfl⟩:=b;exact Px _ hr l h1 h2 hs h3 j
    simp at b
  simp at b
 case buildSlice t n ps=>
  split at b
  . rename_i e hd
    split at b
    .  rename_i sz z aL h1 h2 h3
       injection b with b;subst b;exact Dp hr l hd h1 h2 h3 j
    simp at b
  simp at b
 case load t x=>
  split at b
  . rename_i g sz y h1 h2 h3
    injection b with b;subst b;split at j
    .exact Nl hr l h3 h1 h2 j
    exact TU _ hr l h3 h1 h2 j
  simp at b
 case store t x y=>
  split at b
  . rename_i g sz u L h1 h2 h3 h4
    injection b with b;split at b
    .subst b;exact Pu hr l h3 h4 h2 j
    subst b;exact T2 hr l h3 h4 h2 j
  simp at b
 case nilCheck x=>
  simp only[ajr] at b;obtain⟨y,h1,rfl⟩:=b;exact I2 hr l h1 j
 case binOp op t x y t2=>
  split at b
  . rename_i u L h1 h2
    unfold Nj at b;split at b
    .  rename_i F
       have w:op= .eql\/op= .neq:=by cases op<;>simp[TN] at F<;>simp
       split at b
       .injection b with b;subst b;exact Lv hr l h1 h2 j
       .injection b with b;subst b;exact Lv hr l h1 h2 j
       .rename_i e hd;split at b
        .rename_i n bM;injection b with b;subst b;exact aap hr l w hd bM h1 h2 rfl j
        simp at b
       .rename_i fs hd;split at b
        .rename_i hg;simp only[ajr] at b;obtain⟨ks,h3,rfl⟩:=b;exact TS hr l w hg h3 (by simp[iz,hd]) h1 h2 rfl j
        simp at b
       .rename_i hd;split at b
        .rename_i hg;simp only[ajr] at b;obtain⟨ks,h3,rfl⟩:=b;exact TS hr l w hg h3 (by simp[iz,hd]) h1 h2 rfl j
        simp at b
       simp at b
    injection b with b;subst b;exact Lv hr l h1 h2 j
  simp at b
 case unOp op t x=>
  simp only[ajr] at b;obtain⟨y,h1,rfl⟩:=b;exact aep hr l h1 j
 case convert s d x=>
  split at b
  . rename_i M k y h1 h2 h3
    injection b with b;subst b;exact Lw hr l h1 h2 h3 j
  . rename_i M y h1 h2 h3
    injection b with b;subst b;exact Po hr l h1 h2 h3 j
  . rename_i k y h1 h2 h3
    injection b with b;subst b;exact Pp hr l h1 h2 h3 j
  simp at b
 case makeInterface t x=>
  injection b with b;subst b;exact absurd j Ns
 case makeFunc fn first caps=>
  cases fn<;>simp only at b<;>try (simp at b;done)
  split at b
  . rename_i hf
    split at b
    .  rename_i n cs h1 h2
       injection b with b;split at b
       .subst b;exact GB hr l hf h1 h2 j
       subst b;exact I3 hr l hf h1 h2 j
    simp at b
  . split at b
    .  rename_i hf
       split at b
       .rename_i n cs h1 h2;injection b with b;subst b;exact Gx hr l hf h1 h2 j
       simp at b
    simp at b
 case slice t x lo hi mx=>
  split at b
  . rename_i e u N V P hd h1 h2 h3 h4
    simp only[ajr] at b;obtain⟨sz,hn,rfl⟩:=b;exact TW hr l hd hn h1 h2 h3 h4 j
  simp at b
 case fieldAddr s x i=>
  split at b
  . rename_i fs y hd h1
    split at b
    .  rename_i f hf
       split at b
       .rename_i n hn;injection b with b;subst b;exact Gw hr l h1 hd hf hn j
       simp at b
    simp at b
  simp at b
 case indexAddr t x i=>
  split at b
  . rename_i e u G hd h1 h2
    simp only[ajr] at b;obtain⟨sz,hn,rfl⟩:=b;exact Gy hr l hd hn h1 h2 j
  . rename_i n e u G hd h1 h2
    simp only[ajr] at b;obtain⟨sz,hn,rfl⟩:=b;exact I6 hr l hd hn h1 h2 j
  simp at b
 case index t x i=>
  split at b
  . rename_i u G hd h1 h2
    injection b with b;subst b;exact I7 hr l hd h1 h2 j
  simp at b
 case extract x i=>
  simp only[ajr] at b;obtain⟨y,h1,rfl⟩:=b;exact Lt hr l h1 j
 case makeMap t rs=>
  cases rs with
  | some _=>simp at b
  | none=>
    injection b with b;subst b;exact Ue hr l rfl j
 case range t x=>
  split at b
  . rename_i u hd h1
    injection b with b;subst b;exact LI hr l hd h1 j
  simp at b
 case lookup t x i ok=>
  split at b
  . rename_i H I u G hd h1 h2
    split at b
    .  rename_i q z A B
       injection b with b;subst b;obtain⟨d,Tr,r⟩:=qC A;exact Pz hr l hd Tr r B h1 h2 j
    .  rename_i z A B
       simp only[ajr] at b;obtain⟨ks,r,b⟩:=b;split at b
       .rename_i hc;simp only[ajt,ake] at hc;obtain⟨⟨_,rfl⟩,Xs⟩:=hc;subst b;exact LM hr l hd r B Xs h1 h2 j
       subst b;exact Cu hr l hd r B h1 h2 j
    simp at b
  simp at b
 case mapUpdate t m k v=>
  split at b
  . rename_i H I m' J v' hd h1 h2 h3
    split at b
    .  rename_i q A
       injection b with b;subst b;obtain⟨d,Tr,r⟩:=qC A;exact ER hr (.inl l) hd Tr r h1 h2 h3 j
    simp only[ajr] at b;obtain⟨ks,r,rfl⟩:=b;exact Cv hr (.inl l) hd r h1 h2 h3 j
  simp at b
 case mapEntry t m k=>
  split at b
  . rename_i H I m' J hd h1 h2
    split at b
    .  rename_i ks z r B
       split at b
       .rename_i hc;simp only[ajt] at hc;injection b with b;subst b;exact LN hr l hd r B hc.2 h1 h2 j
       simp at b
    simp at b
  .simp at b
 case entryStore t m s v=>
  split at b
  . rename_i m' W v' h1 h2 h3
    injection b with b;subst b;exact LL hr l h1 h2 h3 j
  .simp at b
 case insert t m k v=>
  split at b
  . rename_i H I m' J v' hd h1 h2 h3
    split at b
    .  rename_i q A
       injection b with b;subst b;obtain⟨d,Tr,r⟩:=qC A;exact ER hr (.inr l) hd Tr r h1 h2 h3 j
    simp only[ajr] at b;obtain⟨ks,r,rfl⟩:=b;exact Cv hr (.inr l) hd r h1 h2 h3 j
  simp at b
 case call c=>exact LO hr l b LH j
end
end Go.AM
namespace Go.AM
open Go Go.RowKit
def sA (X:Ctx) (E:Env) (C:bB):Prop:= ∀ (h:Hints) (dst:Nat) (o:Oper) (c:vH) (a:Go.Act) (T:Nat->V) (μ:Mu) (v:V) (σ':St),Rel X T a μ->Dm X h dst o.op=some c->
 (aQ E c).run C ⟨T,μ.O⟩=some (v,σ')->σ'.T=T/\ ∀ (b:Go.Act->World->Prop) (Q:Go.Exit->Go.Act->World->Prop),
   (∀val w' φ',aj X ⟨w',φ',σ'.O⟩ v val->Le μ ⟨w',φ',σ'.O⟩->bq X ⟨w',φ',σ'.O⟩->b (a.put o.dst val) w')->o.wp X.P a μ.w b Q
structure Fp where
 tm:Nat
 fl:Nat
 ro:Option Nat
def Marks (n:Fp) (w:World) (a:List Deferred):Prop:=(n.fl<=w.heap.size/\ ∀l,n.ro=some l-> ∃L,w.heap[l]? =some (.loop L))/\ ∃Ds:List Nat,a=Ds.map (fun D=> {target:= .collected D,args:= #[]})/\Ds.Nodup/\ ∀D ∈ Ds,n.fl<=D/\w.heap[D]? =some (.deferred (some []))
theorem Marks.nil {n:Fp} {w:World} (h:n.fl<=w.heap.size) (hl: ∀l,n.ro=some l-> ∃L,w.heap[l]? =some (.loop L)):Marks n w []:=⟨⟨h,hl⟩,[],rfl,.nil,ajl⟩
theorem dK {X:Ctx} {μ:Mu} (d:bq X μ) {D:Nat} {o:Go.Obj} (b:μ.w.heap[D]? =some o) (h1:o.isCells=false) (h2:o.isWalk=false): ¬μ.own D:=by
 rintro⟨r,hr,_,hc,hb⟩;obtain⟨es,bC⟩:=ajz.1 hr;rcases d.ok r es bC with⟨_,_,_,h4⟩ | ⟨_,_,ob,h3,h4⟩
 .rcases h4 with h4| ⟨c,T,vs,a,_⟩
  .exact hc h4
  rw[hb,b] at a;injection a with a;subst a;simp[Obj.isCells] at h1
 rw[hb,b] at h3;injection h3 with h3;subst h3;rcases h4 with⟨_,_,rfl,_⟩ | ⟨_,_,rfl,_⟩ | ⟨_,_,_,rfl,_⟩ <;>simp[Obj.isWalk] at h2
theorem Marks.le {X:Ctx} {μ μ':Mu} {n:Fp} {a:List Deferred} (h:Marks n μ.w a) (b:bq X μ) (le:Le μ μ'):Marks n μ'.w a:=by obtain⟨⟨h0,d⟩,Ds,h1,h2,h3⟩:=h;refine⟨⟨ajQ h0 le.size,fun l hl=>by obtain⟨L,k⟩:=d l hl;exact⟨L,(le.cn l (ajs.1 k).1 (dK b k rfl rfl)).1.trans k⟩⟩,Ds,h1,h2,fun D c=> ⟨(h3 D c).1,?_⟩⟩;have k:=(h3 D c).2;rw[(le.cn D (ajs.1 k).1 (dK b k rfl rfl)).1];exact k
structure kB (X:Ctx) (μ0:Mu) (n:Fp) (σ:St) (a:Go.Act) (w:World):Prop where
 defers:Marks n w a.defers
 size:a.tmps.size=n.1
 rel: ∃φ,Rel X σ.T a ⟨w,φ,σ.O⟩/\Le μ0 ⟨w,φ,σ.O⟩
section
variable {X:Ctx} {E:Env} {C:bB} {μ0:Mu} {n:Fp}
theorem qw {T:Nat->V} {a:Go.Act} {μ μ':Mu} {dst:Option Nat} {v:V} {val:Value} (hr:Rel X T a μ) (le:Le μ μ') (b:bq X μ') (hv:aj X μ' v val) (hd:dst.all (· <a.tmps.size)=true) (O:Nat->Obj):
   Rel X (St.put ⟨T,O⟩ dst v).T (a.put dst val) μ':=by
 refine⟨fun t=> ?_,b⟩;cases dst with
 | none=>exact aj.mono le (hr.tmps t)
 | some d=>
   simp at hd;simp only[St.put,Go.Act.put,dh];split
   .rename_i e;subst e;have: (a.tmps.setIfInBounds t val).getD t undef=val:=by simp[hd]
    rw[this];exact hv
   rename_i bW;have: (a.tmps.setIfInBounds d val).getD t undef=a.tmps.getD t undef:=by simp[akt (fun e=>bW e.symm)]
   rw[this];exact aj.mono le (hr.tmps t)
theorem nB (a:Go.Act) (dst:Option Nat) (v:Value): (a.put dst v).tmps.size=a.tmps.size:=by cases dst<;>simp[Go.Act.put]
theorem put_defers (a:Go.Act) (dst:Option Nat) (v:Value): (a.put dst v).defers=a.defers:=by cases dst<;>simp[Go.Act.put]
theorem tu {μ:Mu}:aj X μ ee undef:=by simp only[ee,aj];exact⟨#[],rfl,by simp[ag]⟩
theorem nA (H:sA X E C) {h:Hints} {ops:Array Oper} {i:Nat} {o:Oper} {ao:bN} {σ σ':St} {a:Go.Act} {w:World} {K:Go.Act->World->Prop} {Q:Go.Exit->Go.Act->World->Prop}
  (G:ops[i]? =some o) (l:oY X h ops o=some ao) (hn:h.n=n.1) (hs:kB X μ0 n σ a w) (p:ew E C ao σ=some σ') (A: ∀a' w',kB X μ0 n σ' a' w'->K a' w'):
  wpOpIn (Fr n.ro) 0 X.P ops Q i K a w:=by
 obtain⟨B,bM,φ,hr,q⟩:=hs;unfold oY at l;simp only at l;split at l
 .rename_i g hg GH;injection l with l;subst l;have hd:o.dst.all (· <a.tmps.size)=true:=by rw[bM,<-hn];exact GH
  simp only[ew] at p;split at p
  .rename_i v σ1 f;injection p with p;subst p;have k: (aQ E ((Dm X h (o.dst.getD 0) o.op).getD .bad)).run C σ=some (v,σ1)->o.wpIn (Fr n.ro) 0 X.P a w K Q:=fun s=>by
     cases Uh:Dm X h (o.dst.getD 0) o.op with
     | none=>rw[Uh] at s;exact absurd s Ns
     | some I=>
       rw[Uh] at s;obtain⟨J,t⟩:=H h _ o I a σ.T ⟨w,φ,σ.O⟩ v σ1 hr Uh s;refine tp (fun c e=>by rw[e] at Uh;simp[Dm] at Uh) (t K Q fun val w' φ' hv le L=>A _ _ ⟨by rw[put_defers];exact B.le hr.bp le,by rw[nB];exact bM,φ',?_,?_⟩)
       .have:=qw hr le L hv hd σ1.O;rw[<-J] at this;have e: (σ1.put o.dst v).O=σ1.O:=by cases o.dst<;>rfl
        rw[e];exact this
       have e: (σ1.put o.dst v).O=σ1.O:=by cases o.dst<;>rfl
       rw[e];exact q.trans le
   have Yu:v=ee->σ1=σ->K (a.put o.dst undef) w:=fun hv hσ=>by
     subst hv;subst hσ;refine A _ _ ⟨by rw[put_defers];exact B,by rw[nB];exact bM,φ,?_,?_⟩
     . have:=qw hr (Le.refl _) hr.bp tu hd σ1.O
       have e: (σ1.put o.dst ee).O=σ1.O:=by cases o.dst<;>rfl
       rw[e];exact this
     have e: (σ1.put o.dst ee).O=σ1.O:=by cases o.dst<;>rfl
     rw[e];exact q
   simp only[wpOpIn,G];cases KS:o.guard with
   | none=>
     rw[KS] at hg;injection hg with hg;subst hg;rw[if_pos (by simp[Region.wanted,KS])];exact k (by simpa [cX] using f)
   | some M=>
     obtain⟨j,D⟩:=M;rw[KS] at hg;simp only at hg;split at hg
     . rename_i d r
       injection hg with hg;subst hg;simp only[cX,Act.run] at f;have hv:=hr.tmps d;split at f
       .rename_i b hb;rw[hb] at hv;simp only[aj] at hv;have F:d<a.tmps.size:=by
         rcases ak1 d a.tmps.size with hl| hl
         .exact hl
         simp[akx hl,undef] at hv
        have u:a.tmps[d]? =some (.bool b):=by rw[ajP F];simp[ajP F] at hv;rw[hv]
        have hy:yielded ops a.tmps j=some b:=by simp[yielded,r,u]
        split at f
        .rename_i m;rw[if_pos (by simp[Region.wanted,KS,hy,m])];exact k f
        rename_i m;rw[if_neg (by simp[Region.wanted,KS,hy,m])];obtain⟨y,z⟩:=bn f;exact⟨fun _ _=>trivial,Yu y.symm z⟩
       .rename_i hb;rw[hb] at hv;simp only[aj] at hv;obtain⟨vs,N,R⟩:=hv;have hy:yielded ops a.tmps j=none:=by
         simp only[yielded,r,Option.bind_some];cases S:a.tmps[d]? with
         | none=>rfl
         | some x=>
           have:x= .tuple vs:=by simpa [S] using N
           rw[this]
        rw[if_neg (by simp[Region.wanted,KS,hy])];obtain⟨y,z⟩:=bn f;exact⟨fun _ _=>trivial,Yu y.symm z⟩
       exact absurd f aq
     simp at hg
  simp at p
 simp at l
theorem oF {h:Hints} {ops:Array Oper}: ∀ {l:List Oper} {aL:List bN},jn X h ops l=some aL->aL.length=l.length/\ ∀ (i:Nat) o,l[i]? =some o-> ∃ao,aL[i]? =some ao/\oY X h ops o=some ao
 | [],aL,a=>by simp[jn] at a;subst a;simp
 | o::l,aL,a=>by
   simp only[jn] at a;split at a
   .rename_i ao b h1 h2;injection a with a;subst a;obtain⟨c,d⟩:=oF h2;refine⟨by simp[c],fun i e hi=> ?_⟩;cases i with
    | zero=>simp at hi;subst hi;exact⟨ao,ajl,h1⟩
    | succ i=>simpa using d i e (by simpa using hi)
   simp at a
theorem PB {ao:bN} {σ:St} {p:List Nat}:ew E C {ao with pre:=p} σ=ew E C ao σ:=rfl
theorem gD (H:sA X E C) {h:Hints} {ops:Array Oper} {aL:List bN} (hn:h.n=n.1) (d:jn X h ops ops.toList=some aL) {Q:Go.Exit->Go.Act->World->Prop}:
   ∀ (m k:Nat),k+m=ops.size-> ∀ {σ σ':St} {a:Go.Act} {w:World},kB X μ0 n σ a w->js E C ((aL.drop k).map fun o=> {o with pre:=[]}) σ=some σ'->
    (∀a' w',kB X μ0 n σ' a' w'->Q .normal a' w')->wpOpsIn (Fr n.ro) 0 X.P ops Q (List.range' k m) a w
 | 0,k,f,σ,σ',a,w,hs,b,e=>by
   obtain⟨hl,_⟩:=oF d;have:aL.drop k=[]:=by simp at hl;simp;omega
   rw[this] at b;simp[js] at b;subst b;simpa [wpOpsIn] using e a w hs
 | m+1,k,f,σ,σ',a,w,hs,b,e=>by
   obtain⟨hl,g⟩:=oF d;have QH:k<ops.size:=ajk;obtain⟨ao,PC,i⟩:=g k ops[k] (by simp[QH]);have c:k<aL.length:=by simp at hl;omega
   have hd:aL.drop k=ao::aL.drop (k+1):=by rw[ajO c];rw[aju c] at PC;injection PC with PC;rw[PC]
   rw[hd] at b;simp only[List.map_cons,js,PB] at b;split at b
   .rename_i σ1 h1;rw[List.range'_succ,wpOpsIn_cons];refine nA H (o:=ops[k]) (by simp[QH]) i hn hs h1 fun a' w' j=> ?_;exact gD H hn d m (k+1) ajk j b e
   simp at b
end
end Go.AM
namespace Go.AM
open Go Go.RowKit
inductive Cell where
 | v (x:V)
 | o (x:Obj)
 | m (x:Nat×Nat×Option (Bool× (V->V)))
inductive LP where
 | t (n:Nat)
 | o (n:Nat)
 | m (n:Nat) (ks:List Nat)
def St.at (σ:St):LP->Cell
 | .t n=> .v (σ.T n)
 | .o n=> .o (σ.O n)
 | .m n ks=> .m (lN ks (σ.O n))
def St.yJ (σ:St):Loc->Cell
 | .t n=> .v (σ.T n)
 | .o n=> .o (σ.O n)
 | _=> .v ee
def rd (f:dU):LP->Prop
 | .t n=>Loc.t n ∈ f.reads
 | .o n=>Loc.o n ∈ f.reads
 | .m n ks=>Loc.m n ks ∈ f.reads
def wr (f:dU):LP->Prop
 | .t n=>Loc.t n ∈ f.writes
 | .o n=>Loc.o n ∈ f.writes\/ ∃ks,Loc.e n ks ∈ f.writes
 | .m n ks=>Loc.o n ∈ f.writes\/ ∃a,a≠ks/\Loc.e n a ∈ f.writes
def PD (a b:dU):Prop:= ∃l,(wr a l/\wr b l)\/(wr a l/\rd b l)\/(rd a l/\wr b l)
theorem PD.symm {a b:dU} (h:PD a b):PD b a:=by obtain⟨l,h⟩:=h;exact⟨l,by rcases h with⟨h1,h2⟩ | ⟨h1,h2⟩ | ⟨h1,h2⟩ <;>simp[h1,h2]⟩
theorem iG {a b:List Loc} {x y:Loc} (hx:x ∈ a) (hy:y ∈ b) (h:x.xW y=true):meets a b=true:=by simp only[meets,akG];exact⟨x,hx,y,hy,h⟩
theorem PD.mU {a b:dU} (h:PD a b):a.mU b=true:=by
 simp only[dU.mU,akD];obtain⟨l,⟨h1,h2⟩ | ⟨h1,h2⟩ | ⟨h1,h2⟩⟩:=h
 .refine .inl (.inl ?_);cases l with
  | t n=>exact iG h1 h2 (by simp[Loc.xW])
  | o n=>rcases h1 with h1| ⟨c,h1⟩ <;>rcases h2 with h2| ⟨d,h2⟩ <;>exact iG h1 h2 (by simp[Loc.xW])
  | m n ks=>rcases h1 with h1| ⟨c,_,h1⟩ <;>rcases h2 with h2| ⟨d,_,h2⟩ <;>exact iG h1 h2 (by simp[Loc.xW])
 .refine .inl (.inr ?_);cases l with
  | t n=>exact iG h1 h2 (by simp[Loc.xW])
  | o n=>rcases h1 with h1| ⟨c,h1⟩ <;>exact iG h1 h2 (by simp[Loc.xW])
  | m n ks=>
    rcases h1 with h1| ⟨c,e,h1⟩
    .exact iG h1 h2 (by simp[Loc.xW])
    exact iG h1 h2 (by simp[Loc.xW,e])
 refine .inr ?_;cases l with
 | t n=>exact iG h1 h2 (by simp[Loc.xW])
 | o n=>rcases h2 with h2| ⟨d,h2⟩ <;>exact iG h1 h2 (by simp[Loc.xW])
 | m n ks=>
   rcases h2 with h2| ⟨d,e,h2⟩
   .exact iG h1 h2 (by simp[Loc.xW])
   exact iG h1 h2 (by simp[Loc.xW,akN e])
theorem St.ext' {σ τ:St} (h: ∀l,σ.at l=τ.at l):σ=τ:=by
 cases σ;cases τ;congr
 .funext n;have:=h (.t n);simpa [St.at] using this
 funext n;have:=h (.o n);simpa [St.at] using this
theorem mI {C:bB}: ∀ (act:Act) {σ τ σ':St} {v:V},act.run C σ=some (v,σ')->(∀l ∈ (act.dc C σ).reads,σ.yJ l=τ.yJ l)->
   ∃τ',act.run C τ=some (v,τ')/\act.dc C τ=act.dc C σ/\ ∀l,(l ∈ (act.dc C σ).writes->τ'.yJ l=σ'.yJ l)/\(l ∉ (act.dc C σ).writes->τ'.yJ l=τ.yJ l/\σ'.yJ l=σ.yJ l)
 | .done u,σ,τ,σ',v,h,_=>by
   simp only[Act.run,ajq,ajv] at h;obtain⟨rfl,rfl⟩:=h;exact⟨τ,rfl,rfl,fun l=> ⟨fun hl=>by simp[Act.dc] at hl,fun _=> ⟨rfl,rfl⟩⟩⟩
 | .fail,_,_,_,_,h,_=>by simp[Act.run] at h
 | .pc t k,σ,τ,σ',v,h,hr=>by
   simp only[Act.run] at h;have e:σ.T t=τ.T t:=by have:=hr (.t t) (by simp[Act.dc]);simpa [St.yJ] using this
   obtain⟨τ',h1,h2,h3⟩:=mI (k (σ.T t)) h (fun l hl=>hr l (by simp[Act.dc,hl]));exact⟨τ',by simp only[Act.run,<-e];exact h1,by simp only[Act.dc,<-e,h2],by simpa [Act.dc] using h3⟩
 | .bV r k,σ,τ,σ',v,h,hr=>by
   simp only[Act.run] at h;have e:σ.O r=τ.O r:=by have:=hr (.o r) (by simp[Act.dc]);simpa [St.yJ] using this
   obtain⟨τ',h1,h2,h3⟩:=mI (k (σ.O r)) h (fun l hl=>hr l (by simp[Act.dc,hl]));exact⟨τ',by simp only[Act.run,<-e];exact h1,by simp only[Act.dc,<-e,h2],by simpa [Act.dc] using h3⟩
 | .bS r o k,σ,τ,σ',v,h,hr=>by
   simp only[Act.run] at h;obtain⟨τ',h1,h2,h3⟩:=mI k (τ:={τ with O:=dh τ.O r o}) h (fun l hl=>by
    have:=hr l (by simp[Act.dc,hl]);cases l with
    | t n=>simpa [St.yJ] using this
    | m n ks=>rfl
    | e n ks=>rfl
    | o n=>
      simp only[St.yJ,Cell.o.injEq] at this ⊢;by_cases hn:n=r
      .subst hn;simp[aD]
      .simp[bk _ _ hn,this])
   refine⟨τ',by simp only[Act.run];exact h1,by simp only[Act.dc,h2],fun l=> ⟨fun hl=> ?_,fun hl=> ?_⟩⟩
   .simp only[Act.dc,ajy] at hl;by_cases hw:l ∈ (k.dc C {σ with O:=dh σ.O r o}).writes
    .exact(h3 l).1 hw
    obtain⟨b,c⟩:=(h3 l).2 hw;rcases hl with rfl| hl
    .rw[b,c];simp[St.yJ,aD]
    exact absurd hl hw
   simp only[Act.dc,ajy,not_or] at hl;obtain⟨b,c⟩:=(h3 l).2 hl.2;rw[b,c];cases l with
   | t n=>simp[St.yJ]
   | m n ks=>simp[St.yJ]
   | e n ks=>simp[St.yJ]
   | o n=>
     have hn:n≠r:=fun e=>hl.1 (by rw[e]);simp[St.yJ,bk _ _ hn]
 | .call f aL k,σ,τ,σ',v,h,hr=>by
   simp only[Act.run] at h;split at h
   .rename_i res a;obtain⟨τ',h1,h2,h3⟩:=mI (k res) h (fun l hl=>hr l (by simp[Act.dc,a,hl]));exact⟨τ',by simp only[Act.run,a];exact h1,by simp only[Act.dc,a,h2],by simpa [Act.dc,a] using h3⟩
   simp at h
theorem Ui (σ:St) (dst:Option Nat) (v:V) (n:Nat): (σ.put dst v).T n=if dst.any (fun d=>n=d) then v else σ.T n:=by
 cases dst with
 | none=>simp[St.put]
 | some d=>simp only[St.put,dh,Option.any_some];by_cases h:n=d<;>simp[h]
theorem yK (σ:St) (dst:Option Nat) (v:V): (σ.put dst v).O=σ.O:=by cases dst<;>rfl
theorem iH {C:bB}: ∀ (act:Act) (σ:St) (l:Loc),l ∈ (act.dc C σ).reads\/l ∈ (act.dc C σ).writes->(∃n,l= .t n)\/ ∃n,l= .o n
 | .done _,_,l,h=>by simp[Act.dc] at h
 | .fail,_,l,h=>by simp[Act.dc] at h
 | .pc t k,σ,l,h=>by
   simp only[Act.dc,ajy] at h;rcases h with(rfl| h) | h
   .exact .inl ⟨_,rfl⟩
   .exact iH _ _ l (.inl h)
   exact iH _ _ l (.inr h)
 | .bV r k,σ,l,h=>by
   simp only[Act.dc,ajy] at h;rcases h with(rfl| h) | h
   .exact .inr ⟨_,rfl⟩
   .exact iH _ _ l (.inl h)
   exact iH _ _ l (.inr h)
 | .bS r o k,σ,l,h=>by
   simp only[Act.dc,ajy] at h;rcases h with h| (rfl| h)
   .exact iH _ _ l (.inl h)
   .exact .inr ⟨_,rfl⟩
   exact iH _ _ l (.inr h)
 | .call f aL k,σ,l,h=>by
   simp only[Act.dc] at h;split at h
   .exact iH _ _ l h
   simp at h
def oG (ks:List Nat):Act->Prop
 | .done _=>True
 | .fail=>True
 | .pc _ k=> ∀v,oG ks (k v)
 | .bV _ k=> (∀o a,lN ks o=lN ks a->k o=k a)/\ ∀o,oG ks (k o)
 | .bS .. =>False
 | .call .. =>False
theorem vx {C:bB} {ks:List Nat}: ∀ (act:Act),oG ks act-> ∀ {σ τ σ':St} {v:V},act.run C σ=some (v,σ')->(∀n,Loc.t n ∈ (act.dc C σ).reads->σ.T n=τ.T n)->(∀n,Loc.o n ∈ (act.dc C σ).reads->lN ks (σ.O n)=lN ks (τ.O n))->
   act.run C τ=some (v,τ)/\σ'=σ/\(act.dc C σ).writes=[]
 | .done u,_,σ,τ,σ',v,h,_,_=>by
   simp only[Act.run,ajq,ajv] at h;obtain⟨rfl,rfl⟩:=h;exact⟨rfl,rfl,rfl⟩
 | .fail,_,_,_,_,_,h,_,_=>by simp[Act.run] at h
 | .pc t k,hv,σ,τ,σ',v,h,h1,h2=>by
   simp only[Act.run] at h ⊢;rw[<-h1 t (by simp[Act.dc])];simp only[Act.dc];exact vx (k (σ.T t)) (hv _) h (fun n hn=>h1 n (by simp[Act.dc,hn])) (fun n hn=>h2 n (by simp[Act.dc,hn]))
 | .bV r k,hv,σ,τ,σ',v,h,h1,h2=>by
   simp only[Act.run] at h ⊢;rw[<-hv.1 _ _ (h2 r (by simp[Act.dc]))];simp only[Act.dc];exact vx (k (σ.O r)) (hv.2 _) h (fun n hn=>h1 n (by simp[Act.dc,hn])) (fun n hn=>h2 n (by simp[Act.dc,hn]))
 | .bS ..,hv,_,_,_,_,_,_,_=>hv.elim
 | .call ..,hv,_,_,_,_,_,_,_=>hv.elim
theorem Cz {ks:List Nat} {x:ba} {k:V->Act} (h: ∀v,oG ks (k v)):oG ks (ev x k):=by
 cases x with
 | tmp t=>exact h
 | const v=>exact h v
theorem xo {E:Env} {ks:List Nat} {x k:ba}:oG ks (aQ E (.lZ ks x k)):=by
 simp only[aQ];refine Cz fun v=> ?_;split
 .refine Cz fun kv=> ?_;refine⟨fun o a e=>congrArg (J6 ks _ kv) e,fun o=> ?_⟩;show oG ks (J6 ks _ kv (lN ks o));generalize lN ks o=q;unfold J6;split
  .split<;>trivial
  trivial
 trivial
theorem zz {E:Env} {C:bB} {o:bN} {σ τ σ':St} (h:ew E C o σ=some σ') (hr: ∀l,rd (di E C o σ) l->σ.at l=τ.at l):
  ∃τ',ew E C o τ=some τ'/\ ∀l,(wr (di E C o σ) l->τ'.at l=σ'.at l)/\(¬wr (di E C o σ) l->τ'.at l=τ.at l/\σ'.at l=σ.at l):=by
 simp only[ew] at h;rcases q: (cX E o).run C σ with _| ⟨v,σ1⟩
 .rw[q] at h;simp at h
 rw[q] at h;injection h with h;subst h;have r:=iH (C:=C) (cX E o) σ;obtain⟨F0,G8⟩: ∃F,F=(cX E o).dc C σ:=⟨_,rfl⟩;have A: ∀n ks,Loc.m n ks ∉ F0.writes/\Loc.e n ks ∉ F0.writes/\Loc.m n ks ∉ F0.reads:=fun n ks=>by
  rw[G8];refine⟨fun hm=> ?_,fun hm=> ?_,fun hm=> ?_⟩
  .rcases r _ (.inr hm) with⟨_,h⟩ | ⟨_,h⟩ <;>cases h
  .rcases r _ (.inr hm) with⟨_,h⟩ | ⟨_,h⟩ <;>cases h
  rcases r _ (.inl hm) with⟨_,h⟩ | ⟨_,h⟩ <;>cases h
 have GH: ∀ (l:Loc),l ∈ (match o.dst with| some d=> [Loc.t d] | none=> [])↔ ∃d,o.dst=some d/\l= .t d:=fun l=>by cases o.dst<;>simp
 have J:di E C o σ=fA o.op ⟨F0.reads,(match o.dst with| some d=> [.t d] | none=> [])++F0.writes⟩:=by rw[G8];rfl
 rw[J] at hr ⊢;have B: ∀ (τ1:St),(∀n,(Loc.t n ∈ F0.writes->τ1.T n=σ1.T n)/\(Loc.t n ∉ F0.writes->τ1.T n=τ.T n/\σ1.T n=σ.T n))-> ∀n,
    ((∃d,o.dst=some d/\n=d)\/Loc.t n ∈ F0.writes->(τ1.put o.dst v).T n=(σ1.put o.dst v).T n)/\
    (¬ ((∃d,o.dst=some d/\n=d)\/Loc.t n ∈ F0.writes)->(τ1.put o.dst v).T n=τ.T n/\(σ1.put o.dst v).T n=σ.T n):=by
  intro τ1 h1 n;rw[Ui,Ui];by_cases hd: ∃d,o.dst=some d/\n=d
  . obtain⟨d,g,s⟩:=hd
    simp[g,s]
  have hn: (o.dst.any fun d=>decide (n=d))=false:=by
    cases e:o.dst with
    | none=>rfl
    | some d=>simp only[Option.any_some,decide_eq_false_iff_not];exact fun h=>hd ⟨d,e,h⟩
  simp only[hn,ajA,if_false];exact⟨fun hh=> (h1 n).1 (hh.resolve_left hd),fun hh=> (h1 n).2 fun hw=>hh (.inr hw)⟩
 by_cases H: ∃ks x k,o.op= .lZ ks x k
 .obtain⟨ks,x,k,c⟩:=H;have D:oG ks (cX E o):=by
    unfold cX;cases o.guard with
    | none=>simp only[c];exact xo
    | some p=>
      obtain⟨t,w⟩:=p;intro u;simp only[c];split
      .split
       .exact xo
       trivial
      .trivial
      trivial
  simp only[c,fA] at hr ⊢;obtain⟨K,rfl,g3⟩:=vx (cX E o) D q (τ:=τ)
    (fun n hn=>by have:=hr (.t n) (by simp only[rd,ajL];exact⟨.t n,by rw[G8];exact hn,rfl⟩);simpa [St.at] using this)
    (fun n hn=>by have:=hr (.m n ks) (by simp only[rd,ajL];exact⟨.o n,by rw[G8];exact hn,rfl⟩);simpa [St.at] using this)
  rw[<-G8] at g3;refine⟨τ.put o.dst v,by simp only[ew,K],fun l=> ?_⟩;have ht:=B τ (fun n=> ⟨fun hh=>by rw[g3] at hh;simp at hh,fun _=> ⟨rfl,rfl⟩⟩);cases l with
  | t n=>
    simp only[wr,ajD,GH,St.at,Cell.v.injEq,Loc.t.injEq];exact ht n
  | o n=>simp only[wr,ajD,GH,g3,St.at,yK];simp
  | m n i=>simp only[wr,ajD,GH,g3,St.at,yK];simp
 by_cases I: ∃ks x k,o.op= .mc ks x k
 .obtain⟨ks,x,k,c⟩:=I;simp only[c,fA] at hr ⊢;obtain⟨τ1,h1,h2,h3⟩:=mI (cX E o) (τ:=τ) q (fun l hl=>by
    rw[<-G8] at hl;rcases r l (by rw[<-G8];exact .inl hl) with⟨n,rfl⟩ | ⟨n,rfl⟩
    .have:=hr (.t n) hl;simpa [St.at,St.yJ] using this
    .have:=hr (.o n) hl;simpa [St.at,St.yJ] using this)
  rw[<-G8] at h3;have Yv: ∀ {ρ ρ':St} {u:V},(cX E o).run C ρ=some (u,ρ')-> ∀n,lN ks (ρ'.O n)=lN ks (ρ.O n):=by
    intro ρ ρ' u hh n;unfold cX at hh;cases hg:o.guard with
    | none=>simp only[hg,c] at hh;exact(ET hh).2 n
    | some p=>
      obtain⟨t,w⟩:=p;simp only[hg,c,Act.run] at hh;split at hh
      .split at hh
       .exact(ET hh).2 n
       obtain⟨_,rfl⟩:=bn hh;rfl
      .obtain⟨_,rfl⟩:=bn hh;rfl
      exact absurd hh aq
  refine⟨τ1.put o.dst v,by simp only[ew,h1],fun l=> ?_⟩;have ht:=B τ1 (fun n=>by have:=h3 (.t n);simpa [St.yJ] using this);have Lf: ∀l,l ∈ ((match o.dst with| some d=> [Loc.t d] | none=> [])++F0.writes).map (asE ks)↔(∃d,o.dst=some d/\l= .t d)\/(∃n,l= .t n/\Loc.t n ∈ F0.writes)\/ ∃n,l= .e n ks/\Loc.o n ∈ F0.writes:=by
    intro l;simp only[ajL,ajD,GH];constructor
    . rintro⟨x,⟨d,g,rfl⟩ | hx,rfl⟩
      .exact .inl ⟨d,g,rfl⟩
      rcases r x (by rw[<-G8];exact .inr hx) with⟨n,rfl⟩ | ⟨n,rfl⟩
      .exact .inr (.inl ⟨n,rfl,hx⟩)
      exact .inr (.inr ⟨n,rfl,hx⟩)
    rintro(⟨d,g,rfl⟩ | ⟨n,rfl,hx⟩ | ⟨n,rfl,hx⟩)
    .exact⟨.t d,.inl ⟨d,g,rfl⟩,rfl⟩
    .exact⟨.t n,.inr hx,rfl⟩
    exact⟨.o n,.inr hx,rfl⟩
  have V1: ∀n i,Loc.e n i ∈ ((match o.dst with| some d=> [Loc.t d] | none=> [])++F0.writes).map (asE ks)↔i=ks/\Loc.o n ∈ F0.writes:=fun n i=>by
    rw[Lf];constructor
    . rintro(⟨d,_,h⟩ | ⟨m,h,_⟩ | ⟨m,h,hx⟩)
      .cases h
      .cases h
      injection h with a b;subst a;subst b;exact⟨rfl,hx⟩
    rintro⟨rfl,hx⟩;exact .inr (.inr ⟨n,rfl,hx⟩)
  have y: ∀n,Loc.o n ∉ ((match o.dst with| some d=> [Loc.t d] | none=> [])++F0.writes).map (asE ks):=fun n=>by rw[Lf];simp
  cases l with
  | t n=>
    simp only[wr,Lf,St.at,Cell.v.injEq,Loc.t.injEq,reduceCtorEq,false_and,exists_false,or_false];have:=ht n;refine⟨fun hh=>this.1 ?_,fun hh=>this.2 fun j=>hh ?_⟩
    . rcases hh with hh| ⟨m,rfl,hh⟩
      .exact .inl hh
      exact .inr hh
    rcases j with j| j
    .exact .inl j
    exact .inr ⟨n,rfl,j⟩
  | o n=>
    have:=h3 (.o n);simp only[St.yJ,Cell.o.injEq] at this;simp only[wr,y,V1,false_or,St.at,Cell.o.injEq,yK];exact⟨fun ⟨_,_,hh⟩=>this.1 hh,fun hh=>this.2 fun j=>hh ⟨ks,rfl,j⟩⟩
  | m n i=>
    have:=h3 (.o n);simp only[St.yJ,Cell.o.injEq] at this;simp only[wr,y,V1,false_or,St.at,Cell.m.injEq,yK];refine⟨fun ⟨L,g,s,hh⟩=>by rw[this.1 hh],fun hh=> ?_⟩;by_cases hw:Loc.o n ∈ F0.writes
    . by_cases e:ks=i
      .subst e;exact⟨Yv h1 n,Yv q n⟩
      exact absurd ⟨ks,e,rfl,hw⟩ hh
    obtain⟨g,s⟩:=this.2 hw;rw[g,s];exact⟨rfl,rfl⟩
 have G: ∀f,fA o.op f=f:=fun f=>by
   unfold fA;split
   .rename_i ks x k c;exact absurd ⟨ks,x,k,c⟩ H
   .rename_i ks x k c;exact absurd ⟨ks,x,k,c⟩ I
   rfl
 rw[G] at hr ⊢;obtain⟨τ1,h1,h2,h3⟩:=mI (cX E o) (τ:=τ) q (fun l hl=>by
   rw[<-G8] at hl;rcases r l (by rw[<-G8];exact .inl hl) with⟨n,rfl⟩ | ⟨n,rfl⟩
   .have:=hr (.t n) hl;simpa [St.at,St.yJ] using this
   .have:=hr (.o n) hl;simpa [St.at,St.yJ] using this)
 rw[<-G8] at h3;refine⟨τ1.put o.dst v,by simp only[ew,h1],fun l=> ?_⟩;have ht:=B τ1 (fun n=>by have:=h3 (.t n);simpa [St.yJ] using this);have z: ∀n ks,Loc.e n ks ∉ ((match o.dst with| some d=> [Loc.t d] | none=> [])++F0.writes):=fun n ks=>by simp only[ajD,GH,(A n ks).2.1,or_false];simp
 have Ub: ∀n,Loc.o n ∈ ((match o.dst with| some d=> [Loc.t d] | none=> [])++F0.writes)↔Loc.o n ∈ F0.writes:=fun n=>by simp only[ajD,GH];simp
 cases l with
 | t n=>
   simp only[wr,ajD,GH,St.at,Cell.v.injEq,Loc.t.injEq];exact ht n
 | o n=>
   have:=h3 (.o n);simp only[St.yJ,Cell.o.injEq] at this;simp only[wr,Ub,z,and_false,exists_false,or_false,St.at,Cell.o.injEq,yK];exact this
 | m n i=>
   have:=h3 (.o n);simp only[St.yJ,Cell.o.injEq] at this;simp only[wr,Ub,z,and_false,exists_false,or_false,St.at,Cell.m.injEq,yK];refine⟨fun hh=>by rw[this.1 hh],fun hh=> ?_⟩;obtain⟨g,s⟩:=this.2 hh;rw[g,s];exact⟨rfl,rfl⟩
structure Trace (E:Env) (C:bB) (aL:List bN) (S:Nat->St) (F:Nat->dU) (W:Nat->List Nat):Prop where
 step: ∀ (i:Nat) ao,aL[i]? =some ao->ew E C ao (S i)=some (S (i+1))/\F i=di E C ao (S i)/\(∀x,x ∈ W i↔x ∈ ao.pre++ao.pre.flatMap W)/\(∀p ∈ ao.pre,p<i)/\
  ∀j,j<i->j ∈ W i\/(F j).mU (F i)=false
theorem Jm {b:List dU} {a:List Nat} {f:dU}: ∀ {k:Nat},fits b a f k=true-> ∀j,j<k->j ∈ a\/(b.getD j ⟨[],[]⟩).mU f=false
 | 0,_,j,c=>ajk
 | k+1,h,j,c=>by
   simp only[fits,ajt,akD,ake] at h;by_cases e:j=k
   .subst e;rcases h.1 with h1| h1
    .exact .inl (by simpa using h1)
    exact .inr h1
   exact Jm h.2 j ajk
theorem sB {α β:Type} {f g:α->List β}: ∀ {l:List α},(∀x ∈ l,f x=g x)->l.flatMap f=l.flatMap g
 | [],_=>rfl
 | x::l,h=>by simp only[List.flatMap_cons];rw[h x ajl,sB fun y hy=>h y (by simp[hy])]
theorem Uj {x:Nat}: ∀ {l:List Nat},x ∈ l.foldr ddI []↔x ∈ l
 | []=>Iff.rfl
 | a::l=>by
   have b:=fun y=>Uj (x:=y) (l:=l);show x ∈ ddI a (l.foldr ddI [])↔_;generalize l.foldr ddI []=m at b;unfold ddI;split
   .rename_i h;rw[b,ajy];exact⟨.inr,fun k=>k.elim (fun e=>e ▸ (b a).1 (by simpa using h)) id⟩
   rw[ajy,ajy,b]
theorem zA {E:Env} {C:bB}: ∀ (l:List bN) (a:List dU) (before:List (List Nat)) (σ σ':St),a.length=before.length->eX E C l a before σ=some σ'->
   ∃ (S:Nat->St) (F:Nat->dU) (W:Nat->List Nat),S a.length=σ/\S (a.length+l.length)=σ'/\(∀k,k<a.length->F k=a.getD k ⟨[],[]⟩/\W k=before.getD k [])/\
    ∀ ( i:Nat) ao,l[i]? =some ao->ew E C ao (S (a.length+i))=some (S (a.length+i+1))/\F (a.length+i)=di E C ao (S (a.length+i))/\
       (∀x,x ∈ W (a.length+i)↔x ∈ ao.pre++ao.pre.flatMap W)/\(∀p ∈ ao.pre,p<a.length+i)/\ ∀j,j<a.length+i->j ∈ W (a.length+i)\/(F j).mU (F (a.length+i))=false
 | [],a,before,σ,σ',hl,h=>by
   simp only[eX,ajq] at h;subst h;exact⟨fun _=>σ,fun k=>a.getD k ⟨[],[]⟩,fun k=>before.getD k [],rfl,rfl,fun k _=> ⟨rfl,rfl⟩,fun i ao hi=>by simp at hi⟩
 | o::l,a,before,σ,σ',hl,h=>by
   simp only[eX] at h;split at h
   .rename_i hf;simp only[ajt,ajx,decide_eq_true_eq] at hf;split at h
    .  rename_i σ1 h1
       obtain⟨S,F,W,s1,s2,s3,m⟩:=zA l (a++[di E C o σ]) (before++[closure before o.pre]) σ1 σ' (by simp[hl]) h;simp only[List.length_append,List.length_singleton] at s1 s2 s3 m
       let S':Nat->St:=fun k=>if k=a.length then σ else S k
       have q:S' (a.length+1)=σ1:=by simp[S',s1]
       have g: ∀k,a.length<k->S' k=S k:=fun k b=>by simp[S'];intro e;omega
       have Vc:F a.length=di E C o σ:=by have:=(s3 a.length ajk).1;simpa using this
       have c:W a.length=closure before o.pre:=by have:=(s3 a.length ajk).2;rw[hl] at this;simpa [hl] using this
       have d: ∀k,k<a.length->W k=before.getD k []:=fun k b=>by have:=(s3 k ajk).2;rw[this];simp[aj2 (show k<before.length by omega)]
       have f: ∀k,k<a.length->F k=a.getD k ⟨[],[]⟩:=fun k b=>by have:=(s3 k ajk).1;rw[this];simp[aj2 b]
       refine⟨S',F,W,by simp[S'],?_,fun k b=> ⟨f k b,d k b⟩,fun i ao hi=> ?_⟩
       .rw[g _ ajl];rw[<-s2];congr 1;simp;omega
       cases i with
       | zero=>
         simp at hi;subst hi;simp only[akQ];have r:S' a.length=σ:=by simp[S']
         rw[r,q];refine⟨h1,Vc,?_,hf.2,fun j n=> ?_⟩
         .intro x;rw[c,closure,Uj,sB fun p hp=> (d p (hf.2 p hp)).symm]
         rw[Vc,c,f j n];exact Jm hf.1 j n
       | succ i=>
         have:=m i ao (by simpa using hi);have ea:a.length+1+i=a.length+(i+1):=ajk;rw[ea] at this;rw[g _ ajk,g _ ajk];exact this
    simp at h
   simp at h
open Classical in
noncomputable def qD (S:Nat->St) (F:Nat->dU) (D:Nat->Bool) (l:LP):Nat->Cell
 | 0=> (S 0).at l
 | i+1=>if D i=true/\wr (F i) l then(S (i+1)).at l else qD S F D l i
theorem vy {S:Nat->St} {F:Nat->dU} {D D':Nat->Bool} {l:LP}: ∀ {n:Nat},(∀i,i<n->wr (F i) l->D i=D' i)->qD S F D l n=qD S F D' l n
 | 0,_=>rfl
 | n+1,h=>by
   simp only[qD];rw[vy fun i hi=>h i ajk];by_cases hl:wr (F n) l
   .rw[h n ajk hl]
   simp[hl]
theorem tJ {  S:Nat->St} {F:Nat->dU} {D:Nat->Bool} {l:LP} {m:Nat}: ∀ {n:Nat},m<=n->(∀i,m<=i->i<n->wr (F i) l->D i=false)->qD S F D l n=qD S F D l m
 | 0,h,_=>by have:m=0:=ajk
             subst this;rfl
 | n+1,h,hh=>by
   by_cases e:m=n+1
   .subst e;rfl
   simp only[qD];rw[if_neg (by rintro⟨h1,h2⟩;have:=hh n ajk ajk h2;simp[this] at h1)];exact tJ ajk fun i h1 h2=>hh i h1 ajk
theorem CA {E:Env} {C:bB} {aL:List bN} {S:Nat->St} {F:Nat->dU} {W:Nat->List Nat} (b:Trace E C aL S F W) {D:Nat->Bool} {l:LP}:
   ∀ {n:Nat},n<=aL.length->(∀i,i<n->D i=true)->qD S F D l n=(S n).at l
 | 0,_,_=>rfl
 | n+1,hn,a=>by
   obtain⟨ao,PC⟩: ∃ao,aL[n]? =some ao:=⟨aL[n],aju ajk⟩;obtain⟨h1,h2,_⟩:=b.step n ao PC;simp only[qD,a n ajk,true_and];split
   .rfl
   rename_i hl;rw[CA b ajk fun i hi=>a i ajk];obtain⟨_,_,h3⟩:=zz h1 (τ:=S n) fun _ _=>rfl;rw[h2] at hl;exact((h3 l).2 fun hh=>hl ⟨a n ajk,hh⟩).2.symm
structure sC (S:Nat->St) (F:Nat->dU) (W:Nat->List Nat) (m:Nat) (D:Nat->Bool) (τ:St):Prop where
 closed: ∀i,D i=true-> ∀p ∈ W i,D p=true
 state: ∀l,τ.at l=qD S F D l m
theorem Dv {E:Env} {C:bB} {aL:List bN} {S:Nat->St} {F:Nat->dU} {W:Nat->List Nat} (c:Trace E C aL S F W) {D:Nat->Bool} {τ:St} (hA:sC S F W aL.length D τ)
  {j:Nat} {ao:bN} (m:aL[j]? =some ao) (n:D j=false) (Db: ∀p ∈ ao.pre,D p=true):
  ∃τ',ew E C ao τ=some τ'/\sC S F W aL.length (fun i=>i==j || D i) τ':=by
 obtain⟨h1,h2,h3,h4,h5⟩:=c.step j ao m;have NU:j<aL.length:=(ajp.1 m).1;have o: ∀p ∈ W j,D p=true:=by
  simp only[h3];intro p hp;simp only[ajD,List.mem_flatMap] at hp;rcases hp with hp| ⟨q,s,hp⟩
  .exact Db p hp
  exact hA.closed q (Db q s) p hp
 have key: ∀i,i≠j->i<aL.length->PD (F i) (F j)->(D i=true↔i<j):=by
  intro i bW hi hc;rcases ak1 i j with r| w
  .refine⟨fun _=>r,fun _=> ?_⟩;rcases h5 i r with h| h
   .exact o i h
   rw[hc.mU] at h;cases h
  have d:j<i:=ajk;refine⟨fun a=> ?_,fun h=>ajk⟩;obtain⟨b,f⟩: ∃b,aL[i]? =some b:=⟨aL[i],aju hi⟩;obtain⟨_,_,_,_,g5⟩:=c.step i b f;rcases g5 j d with h| h
  .have:=hA.closed i a j h;rw[n] at this;cases this
  rw[hc.symm.mU] at h;cases h
 have agree: ∀l,rd (F j) l->(S j).at l=τ.at l:=by
  intro l hl;rw[hA.state l];have g:qD S F D l aL.length=qD S F D l j:=tJ ajk fun i t IX hw=>by
   by_cases e:i=j
   .subst e;exact n
   have:=key i e IX ⟨l,.inr (.inl ⟨hw,hl⟩)⟩;cases a:D i with
   | false=>rfl
   | true=>have:=this.1 a;omega
  have u:qD S F D l j=qD S F (fun i=>decide (i<j)) l j:=vy fun i hi hw=>by have:=(key i ajk ajk ⟨l,.inr (.inl ⟨hw,hl⟩)⟩).2 hi;simp[this,hi]
  rw[g,u];exact(CA c ajk fun i hi=>by simp[hi]).symm
 rw[h2] at agree;obtain⟨τ',v,k⟩:=zz h1 agree;rw[<-h2] at k;refine⟨τ',v,fun i hi p hp=> ?_,fun l=> ?_⟩
 .simp only[akD,beq_iff_eq] at hi ⊢;rcases hi with rfl| hi
  .exact .inr (o p hp)
  exact .inr (hA.closed i hi p hp)
 by_cases hl:wr (F j) l
 .rw[(k l).1 hl];have g:qD S F (fun i=>i==j || D i) l aL.length=qD S F (fun i=>i==j || D i) l (j+1):=tJ ajk fun i t IX hw=>by
   have bW:i≠j:=ajk;have:=key i bW IX ⟨l,.inl ⟨hw,hl⟩⟩;cases a:D i with
   | false=>simp[bW,a]
   | true=>have:=this.1 a;omega
  rw[g];simp[qD,hl]
 rw[((k l).2 hl).1,hA.state l];exact vy fun i _ hw=>by
  by_cases e:i=j
  .subst e;exact absurd hw hl
  simp[e]
theorem GI {E:Env} {C:bB} {aL:List bN} {S:Nat->St} {F:Nat->dU} {W:Nat->List Nat} (a:Trace E C aL S F W) {D:Nat->Bool} {τ:St} (hA:sC S F W aL.length D τ)
  (b: ∀i,i<aL.length->D i=true):τ=S aL.length:=
 St.ext' fun l=>by rw[hA.state l,CA a (ajw _) b]
section
variable {X:Ctx} {E:Env} {C:bB} {μ0:Mu} {n:Fp}
theorem Uk {σ:St} {a:Go.Act} {w:World} (h:kB X μ0 n σ a w):kB X μ0 n σ a {w with drawn:=w.drawn+1}:=by obtain⟨h1,h2,φ,hr,c⟩:=h;obtain⟨b,d⟩:=Le.drew (X:=X) (μ:=⟨w,φ,σ.O⟩) hr.bp;exact⟨h1,h2,φ,⟨fun t=>aj.mono b (hr.tmps t),d⟩,c.trans b⟩
theorem PE ( H:sA X E C) {h:Hints} {ops:Array Oper} {aL:List bN} (hn:h.n=n.1) (z:jn X h ops ops.toList=some aL) {S:Nat->St} {F:Nat->dU} {W:Nat->List Nat}
   (k:Trace E C aL S F W) {Q:Go.Exit->Go.Act->World->Prop} (A: ∀a w,kB X μ0 n (S aL.length) a w->Q .normal a w):
   ∀ (c:Nat) (av:Array Bool) (τ:St) (a:Go.Act) (w:World),av.size=ops.size->((List.range ops.size).filter fun i=> !av.getD i true).length<=c->
     sC S F W aL.length (fun i=>av.getD i false) τ->kB X μ0 n τ a w->wpAnyIn (Fr n.ro) 0 X.P .any ops Q c av a w:=by
 obtain⟨hlen,v⟩:=oF z;have B:aL.length=ops.size:=by simpa using hlen
 have ready: ∀ (av:Array Bool) (j:Nat),j ∈ Region.ready .any ops av-> ∃o ao,ops[j]? =some o/\aL[j]? =some ao/\oY X h ops o=some ao/\av.getD j true=false/\ ∀p ∈ ao.pre,av.getD p false=true:=by
   intro av j g;simp only[Region.ready,akr,List.mem_range,ajt,ake] at g;obtain⟨d,hl,hr⟩:=g;have f:ops[j]? =some ops[j]:=by simp[d]
   obtain⟨ao,PC,b⟩:=v j ops[j] (by simp[d]);refine⟨_,ao,f,PC,b,hl,fun p hp=> ?_⟩;rw[f] at hr;simp only[ajE,alC] at hr;have Db:ao.pre=(ops[j].after.toList.filter (Region.binds .any)).map (·.on):=by
     unfold oY at b;simp only at b;split at b
     .injection b with b;rw[<-b]
     simp at b
   rw[Db] at hp;simp only[ajL,akr] at hp;obtain⟨e,⟨l,X2⟩,rfl⟩:=hp;rw[Array.all_eq_true'] at hr;have:=hr e (by simpa using l);simpa [X2] using this
 have done: ∀ (av:Array Bool),Region.ready .any ops av=[]->av.size=ops.size-> ∀i,i<aL.length->av.getD i false=true:=by
   intro av PF bM i;induction i using Nat.strongRecOn with
   | _ i m=>
     intro hi;cases hl:av.getD i false with
     | true=>rfl
     | false=>
       exfalso;have d:i<ops.size:=ajk;have D:i<av.size:=ajk;have q:av.getD i true=false:=by simpa [D] using hl
       obtain⟨ao,PC,b⟩:=v i ops[i] (by simp[d]);obtain⟨_,_,_,G,_⟩:=k.step i ao PC;have Db:ao.pre=(ops[i].after.toList.filter (Region.binds .any)).map (·.on):=by
         unfold oY at b;simp only at b;split at b
         .injection b with b;rw[<-b]
         simp at b
       have:i ∈ Region.ready .any ops av:=by
         simp only[Region.ready,akr,List.mem_range,ajt,ake];refine⟨d,q,?_⟩;have f:ops[i]? =some ops[i]:=by simp[d]
         rw[f];simp only[ajE,alC];rw[Array.all_eq_true'];intro e he;cases hb:Region.binds .any e with
         | false=>simp
         | true=>
           have hm:e.on ∈ ao.pre:=by rw[Db];simp only[ajL,akr];exact⟨e,⟨by simpa using he,hb⟩,rfl⟩
           have h1:=G _ hm;simpa using m e.on h1 ajk
       rw[PF] at this;cases this
 have finish: ∀ (av:Array Bool) (τ:St) (a:Go.Act) (w:World),av.size=ops.size->sC S F W aL.length (fun i=>av.getD i false) τ->kB X μ0 n τ a w->Region.ready .any ops av=[]->Q .normal a w:=by intro av τ a w bM hA hs PF;have:=GI k hA (done av PF bM);exact A a w (this ▸ hs)
 intro c;induction c with
 | zero=>
   intro av τ a w bM hf hA hs;have PF:Region.ready .any ops av=[]:=by simp only[Nat.le_zero,aks,List.filter_eq_nil_iff,List.mem_range] at hf;simp only[Region.ready,List.filter_eq_nil_iff,List.mem_range];intro i hi;have:=hf i hi;simp at this;simp[this]
   exact⟨PF,finish av τ a w bM hA hs PF⟩
 | succ c m=>
   intro av τ a w bM hf hA hs;refine⟨finish av τ a w bM hA hs,fun j g=> ?_⟩;obtain⟨o,ao,f,PC,b,hl,Db⟩:=ready av j g;have NU:j<ops.size:=by rw[<-B];exact(ajp.1 PC).1
   have r:av.getD j false=false:=by have h1:j<av.size:=ajk;simpa [h1] using hl
   obtain⟨τ',I,y⟩:=Dv k hA PC r Db;refine nA H f b hn hs I fun a' w' J=>m _ τ' a' w' (by simpa using bM) ?_ ?_ J
   .
     have KW: ∀ (L:List Nat),L.Nodup->j ∈ L->(L.filter fun i=> !(av.setIfInBounds j true).getD i true).length+1<=(L.filter fun i=> !av.getD i true).length:=by
       intro L;induction L with
       | nil=>intro _ h;cases h
       | cons x L s=>
         intro kc hm;have bW: ∀i,i≠j->(av.setIfInBounds j true).getD i true=av.getD i true:=fun i hi=>by simp[akt (fun e=>hi e.symm)]
         have t: (av.setIfInBounds j true).getD j true=true:=by have h1:j<av.size:=ajk;simp[h1]
         by_cases e:x=j
         . subst e
           have K: (L.filter fun i=> !(av.setIfInBounds x true).getD i true)=L.filter fun i=> !av.getD i true:=by
            apply List.filter_congr;intro i hi;have:i≠x:=fun e=>by rw[ako] at kc;exact kc.1 (e ▸ hi)
            rw[bW i this]
           simp only[akO,t,hl,K];simp
         have G9:j ∈ L:=by
          rcases ajy.1 hm with h1| h1
          .exact absurd h1.symm e
          exact h1
         have:=s (ako.1 kc).2 G9;simp only[akO,bW x e];split
         .simp only[ajC];omega
         omega
     have:=KW (List.range ops.size) List.nodup_range (by simp[NU]);omega
   have u: (fun i=>i==j || av.getD i false)=fun i=> (av.setIfInBounds j true).getD i false:=by
     funext i;have h1:j<av.size:=ajk;by_cases e:i=j
     .subst e;simp[h1]
     simp[e,akt (fun e'=>e e'.symm)]
   rw[u] at y;exact y
theorem Jn (H:sA X E C) {h:Hints} (hm:X.P.follows .mixedOrders=true) {ops:Array Oper} {aL:List bN} (hn:h.n=n.1) (c:jn X h ops ops.toList=some aL) {id:Nat}
  {σ σ':St} {a:Go.Act} {w:World} (hs:kB X μ0 n σ a w) (d:eX E C aL [] [] σ=some σ') {Q:Go.Exit->Go.Act->World->Prop} (e: ∀a' w',kB X μ0 n σ' a' w'->Q .normal a' w'):
  (Code.region id ops true).wpIn (Fr n.ro) 0 X.P Q a w:=by
 obtain⟨S,F,W,s1,s2,_,b⟩:=zA aL [] [] σ σ' rfl d;simp only[ajJ,akg] at s1 s2 b;have f:Trace E C aL S F W:=⟨fun i ao hi=>b i ao hi⟩;refine wpIn_region_any hm ?_;refine PE H hn c f (by rw[s2];exact e) ops.size _ σ _ _ ajl ?_ ?_ (Uk hs)
 .exact ajQ (akA _ _) ajl
 have Ul: ∀i,(Array.replicate ops.size false).getD i false=false:=fun i=>by simp only[Array.getD_eq_getD_getElem?,alh];split<;>rfl
 refine⟨(fun i hi=>by rw[Ul i] at hi;cases hi),fun l=> ?_⟩;rw[<-s1];have:qD S F (fun i=> (Array.replicate ops.size false).getD i false) l aL.length=qD S F (fun i=> (Array.replicate ops.size false).getD i false) l 0:=tJ (akk _) fun i _ _ _=>Ul i;rw[this];rfl
end
end Go.AM
namespace Go.AM
open Go Go.RowKit
theorem Um {P:Program} {w:World} {ty:TypeId} {bi bm a:Nat} {b:Array Nat} {es:Array MapEntry} (hi:w.heap[bi]? =some (.mapIter (some bm) a b a)) (hb:w.heap[bm]? =some (.map es a)) (c: ∀x ∈ es.toList,x.born<a):
  ((leftOf es b).size=0/\(Instr.next (.pointer (some ⟨bi,0,none⟩)) false ty).run P w= .ok (.tuple #[.bool false]) w)\/
  ∃e ∈ (leftOf es b).toList,∃d,(Instr.next (.pointer (some ⟨bi,0,none⟩)) false ty).run P w= .ok (.tuple #[.bool true,e.key,e.val]) {w with drawn:=w.drawn+d,heap:=w.heap.setIfInBounds bi (.mapIter (some bm) a (b.push e.born) a)}:=by
 simp only[Instr.next,getObj,Sem.run_bind,Sem.run,hi,hb,Result.andThen,next_test_false b es a a c (ajw _),ajA,if_false];unfold leftOf;have f: ∀x ∈ (Array.filter (fun e=> !b.contains e.born) es).toList,x.born<a:=fun x hx=>c x (by simp at hx ⊢;exact hx.1);generalize Array.filter (fun e=> !b.contains e.born) es=L at f ⊢;have i:L.filter (fun x=>decide (x.born<a))=L:=Array.filter_eq_self.2 (fun x hx=>by simpa using f x (by simpa using hx));have k:L.filter (fun x=>decide (x.born≥a))= #[]:=by rw[Array.filter_eq_empty_iff];intro x hx;have:=f x (by simpa using hx);simp;omega
 simp only[i,k,Array.append_empty];by_cases h0:L.size=0
 .left
  have:L= #[]:=Array.eq_empty_of_size_eq_zero h0;subst this;refine⟨rfl,?_⟩;simp[choose,Sem.run,Question.forced]
 .right
  have bW:L.isEmpty=false:=by simp[Array.isEmpty,h0]
  simp only[bW,ajA,if_false,Array.empty_append,Array.size_map];have g: ∃ (j d:Nat),j<L.size/\(choose (Question.mapNext L.size)).run P w= .ok j {w with drawn:=w.drawn+d}:=by
   by_cases hf:L.size<=1
   .exact⟨0,0,ajk,by simp[choose,Sem.run,Question.forced,hf]⟩
   exact⟨w.tape w.drawn (Question.mapNext L.size) % L.size,1,Nat.mod_lt _ ajk,by simp only[choose,Sem.run,Question.forced,decide_eq_true_eq,hf,if_false,Question.cut]⟩
  obtain⟨j,d,l,m⟩:=g;refine⟨L[j],ajl,d,?_⟩;have FF: ∀ (h:Go.Obj),(setObj bi h).run P {w with drawn:=w.drawn+d}= .ok () {w with drawn:=w.drawn+d,heap:=w.heap.setIfInBounds bi h}:=fun h=>by simp only[setObj,Sem.run,hi]
  simp only[m,Array.getElem?_map,ajP l,ajE,Sem.run_bind,FF,Result.andThen];rfl
theorem Un {P:Program} {w:World} {ty:TypeId} {bi a b:Nat} {s:Array Nat} (hi:w.heap[bi]? =some (.mapIter none a s b)):
  (Instr.next (.pointer (some ⟨bi,0,none⟩)) false ty).run P w= .ok (.tuple #[.bool false]) w:=by
 simp only[Instr.next,getObj,Sem.run_bind,Sem.run,hi,Result.andThen];rfl
structure ju (X:Ctx) (μ:Mu) (w':World):Prop where
 cell: ∀a c,μ.w.cell? a=some c->w'.cell? a=some c
 map: ∀ (a:Nat) ents clock,μ.w.heap[a]? =some (.map ents clock)->w'.heap[a]? =some (.map ents clock)
 size:μ.w.heap.size<=w'.heap.size
section
variable {X:Ctx} {μ:Mu} {w':World}
theorem ju.row (h:ju X μ w') {b off sz:Nat} {vs:List Value} (hr:dL μ.w b off sz vs):dL w' b off sz vs:=
 fun i v hv=> ⟨(hr i v hv).1,fun j c hc=>h.cell _ _ ((hr i v hv).2 j c hc)⟩
mutual
theorem aj.cE (h:ju X μ w'): ∀ {x:V} {v:Value},aj X μ x v->aj X ⟨w',μ.φ,μ.O⟩ x v
 | .bool _,_,k| .int ..,_,k| .float _,_,k| .str _,_,k| .nilp,_,k| .nilfn,_,k| .nili,_,k| .nils,_,k| .sl ..,_,k| .ptr ..,_,k| .mp ..,_,k| .it ..,_,k=>by simpa [aj] using k
 | .any,_,_=>by simp[aj]
 | .own ..,_,k| .msl ..,_,k| .mptr ..,_,k=>by simp[aj] at k
 | .agg cs,_,k=>by
   simp only[aj] at k ⊢;obtain⟨h1,vs,rfl,h2⟩:=k;exact⟨h1,vs,rfl,ag.cE h h2⟩
 | .tuple cs,_,k=>by
   simp only[aj] at k ⊢;obtain⟨vs,rfl,h2⟩:=k;exact⟨vs,rfl,ag.cE h h2⟩
 | .bfn f cs,_,k=>by
   simp only[aj] at k ⊢;obtain⟨F,d,rfl,h1,h2⟩:=k;exact⟨F,d,rfl,h1,ag.cE h h2⟩
 | .fn f cs,_,k=>by
   simp only[aj] at k ⊢;obtain⟨F,d,rfl,h1,h2⟩:=k;exact⟨F,d,rfl,h1,ag.cE h h2⟩
 | .iface t x,_,k=>by
   simp only[aj] at k ⊢;obtain⟨F,y,rfl,h1,h2⟩:=k;exact⟨F,y,rfl,h1,aj.cE h h2⟩
 | .lit sz xs,_,k=>by
   simp only[aj] at k ⊢;obtain⟨h0,c,a,cap,vs,rfl,h1,h2,h3⟩:=k;refine⟨h0,c,a,cap,vs,rfl,h1,ag.cE h h2,h3.imp id ?_⟩;rintro⟨b,o,rfl,hb,hs,hr⟩;exact⟨b,o,rfl,hb,ajB hs h.size,h.row hr⟩
 | .litk sz xs,_,k=>by
   simp only[aj] at k ⊢;obtain⟨h0,c,a,cap,vs,rfl,h1,h2,h3⟩:=k;refine⟨h0,c,a,cap,vs,rfl,h1,ag.cE h h2,h3.imp id ?_⟩;rintro⟨rfl,hb,hs,hr⟩;exact⟨rfl,hb,ajB hs h.size,h.row hr⟩
 | .eptr e off,_,k=>by
   simp only[aj] at k ⊢;obtain⟨h0,c,b,o,sz,x,rfl,hb,hs,h1,hr⟩:=k;exact⟨h0,c,b,o,sz,x,rfl,hb,ajB hs h.size,aj.cE h h1,h.row hr⟩
 | .epk i sz e off,_,k=>by
   simp only[aj] at k ⊢;obtain⟨h0,c,x,rfl,hb,hs,h1,hr⟩:=k;exact⟨h0,c,x,rfl,hb,ajB hs h.size,aj.cE h h1,h.row hr⟩
 | .mlit es,_,k=>by simp only[aj] at k ⊢;obtain⟨h0,k⟩:=k;refine⟨h0,k.imp id ?_⟩;rintro⟨a,ents,clock,rfl,hb,hs,h1,h2⟩;exact⟨a,ents,clock,rfl,hb,ajB hs h.size,⟨h.map _ _ _ h1.1,h1.2⟩,ag.cE h h2⟩
theorem ag.cE (h:ju X μ w'): ∀ {xs:List V} {vs:List Value},ag X μ xs vs->ag X ⟨w',μ.φ,μ.O⟩ xs vs
 | [],[],_=>by simp[ag]
 | [],_::_,k=>by simp[ag] at k
 | _::_,[],k=>by simp[ag] at k
 | x::xs,v::vs,k=>by simp only[ag] at k ⊢;exact⟨aj.cE h k.1,ag.cE h k.2⟩
end
theorem bq.cE (h:ju X μ w') (f:bq X μ) (hb: ∀r,(μ.O r).es.isSome=true->(μ.φ r).cap≠0->w'.heap[(μ.φ r).cj]? =μ.w.heap[(μ.φ r).cj]?):bq X ⟨w',μ.φ,μ.O⟩ where
 ok:=fun r es bC=>by
  have P6: (μ.O r).es.isSome=true:=by rw[bC];rfl
  rcases f.ok r es bC with⟨h1,h2,h3,h4⟩ | ⟨h1,h2,ob,h3,h4⟩
  .refine .inl ⟨h1,h2,h3,?_⟩;rcases h4 with h4| ⟨c,T,vs,a,d,e,g⟩
   .exact .inl h4
   by_cases hc: (μ.φ r).cap=0
   .exact .inl hc
   exact .inr ⟨c,T,vs,by show w'.heap[(μ.φ r).cj]? =_;rw[hb r P6 hc];exact a,d,ag.cE h e,h.row g⟩
  refine .inr ⟨h1,h2,ob,by show w'.heap[(μ.φ r).cj]? =_;rw[hb r P6 h2];exact h3,?_⟩;rcases h4 with⟨ents,clock,a,d,e⟩ | k| ⟨mo,since,nN,a,d,e⟩
  .exact .inl ⟨ents,clock,a,ag.cE h d,e⟩
  .exact .inr (.inl k)
  refine .inr (.inr ⟨mo,since,nN,a,d,e.imp id ?_⟩);rintro⟨m,ents,l1,l2,l3,l4,l5,l6⟩;exact⟨m,ents,l1,l2,ajB l3 h.size,h.map _ _ _ l4,l5,ag.cE h l6⟩
 inj:=f.inj
 vE:=f.vE
 blt:=fun b i=>ajB (f.blt b i) h.size
end
theorem EU {X:Ctx} {w:World} {φ:Nat->Row} {O O':Nat->Obj} (a:bq X ⟨w,φ,O⟩) (h: ∀r,O' r=O r\/(O' r).es=none/\((O r).gen< (O' r).gen\/(O' r).gen=(O r).gen/\(O' r).sz=(O r).sz)):
  Le ⟨w,φ,O⟩ ⟨w,φ,O'⟩/\bq X ⟨w,φ,O'⟩:=by
 have Yw: ∀r es,(O' r).es=some es->O' r=O r:=fun r es bC=>by
  rcases h r with h| ⟨h,_⟩
  .exact h
  rw[h] at bC;simp at bC
 have P6: ∀r,(O' r).es.isSome=true->O' r=O r:=fun r hr=>by obtain⟨es,bC⟩:=ajz.1 hr;exact Yw r es bC
 have c: ∀b,(Mu.mk w φ O').own b->(Mu.mk w φ O).own b:=by rintro b ⟨r,h1,h2,h3,h4⟩;have e:=P6 r h1;have DI: (O' r).es.isSome=true:=h1;have HI: (O' r).fz=false:=h2;rw[e] at DI HI;exact⟨r,DI,HI,h3,h4⟩
 have le:Le ⟨w,φ,O⟩ ⟨w,φ,O'⟩:=by
  refine⟨ajw _,fun b _ hn=> ⟨rfl,fun d=>hn (c b d)⟩,fun r=> ?_,fun r e=> ?_,rfl,rfl,rfl,fun _ _=>rfl⟩
  .show (O r).gen<=(O' r).gen;rcases h r with h| ⟨_,h| ⟨h,_⟩⟩
   .rw[h];exact ajw _
   .omega
   omega
  have e': (O' r).gen=(O r).gen:=e;refine⟨rfl,?_⟩;show (O' r).sz=(O r).sz;rcases h r with h| ⟨_,h| ⟨_,h⟩⟩
  .rw[h]
  .omega
  exact h
 refine⟨le,fun r es bC=> ?_,fun r r' bW h1 h2 h3 h4=> ?_,fun r h1 h2=> ?_,a.blt⟩
 .have e:=Yw r es bC;have f: (O r).es=some es:=by rw[<-e];exact bC
  exact ig.cn (r:=r) (r':=r) le (a.ok r es f) (by show (O' r).sz=(O r).sz;rw[e]) rfl fun _=>rfl
 .have DI: (O' r).es.isSome=true:=h1;have HI: (O' r').es.isSome=true:=h2;rw[P6 r DI] at DI;rw[P6 r' HI] at HI;exact a.inj r r' bW DI HI h3 h4
 have DI: (O' r).es.isSome=true:=h1;rw[P6 r DI] at DI;exact a.vE r DI h2
def km (Z:List (V×MapEntry)) (a:Array Nat):List (V×MapEntry):=Z.filter fun z=> !a.contains z.2.born
theorem EV {Z:List (V×MapEntry)} {ents:Array MapEntry} (h:Z.map (·.2)=ents.toList) (a:Array Nat): (km Z a).map (·.2)=(leftOf ents a).toList:=by unfold km leftOf;rw[Array.toList_filter,<-h,List.filter_map];rfl
theorem zB {α:Type} (f:α->Nat): ∀ {l:List α} {z:α},z ∈ l->(l.map f).Nodup->l.Perm (z::l.filter fun x=> !(f x==f z))
 | a::l,z,b,hn=>by
   rw[List.map_cons,ako] at hn;rcases ajy.1 b with rfl| b
   .have:l.filter (fun x=> !(f x==f z))=l:=List.filter_eq_self.2 fun x hx=>by have:f x≠f z:=fun e=>hn.1 (e ▸ ajL.2 ⟨x,hx,rfl⟩);simpa using this
    simp[this]
   have bW: ¬ (f a=f z):=fun e=>hn.1 (e ▸ ajL.2 ⟨z,b,rfl⟩);have c:=zB f b hn.2;have: (a::l).filter (fun x=> !(f x==f z))=a::l.filter (fun x=> !(f x==f z)):=by rw[List.filter_cons_of_pos (by simpa using bW)]
   rw[this];exact(c.cons a).trans (.swap z a _)
theorem LQ {Z:List (V×MapEntry)} {a:Array Nat} (hn: (Z.map fun z=>z.2.born).Nodup) {z:V×MapEntry} (b:z ∈ km Z a): (km Z a).Perm (z::km Z (a.push z.2.born)):=by
 have h1: ((km Z a).map fun z=>z.2.born).Nodup:=hn.sublist (List.filter_sublist.map _);have h2:=zB (fun z:V×MapEntry=>z.2.born) b h1;have h3: (km Z a).filter (fun x=> !(x.2.born==z.2.born))=km Z (a.push z.2.born):=by unfold km;rw[List.filter_filter];refine List.filter_congr fun x _=> ?_;rw[contains_push];cases a.contains x.2.born<;>cases (x.2.born==z.2.born) <;>rfl
 rw[h3] at h2;exact h2
theorem Jo {X:Ctx} {μ:Mu}: ∀ {es:List V} {l:List MapEntry},ag X μ es (l.map fun e=>Value.tuple #[e.key,e.val])-> ∃Z:List (V×MapEntry),Z.map (·.1)=es/\Z.map (·.2)=l/\ ∀z ∈ Z,aj X μ z.1 (.tuple #[z.2.key,z.2.val])
 | [],[],_=> ⟨[],rfl,rfl,ajl⟩
 | [],_::_,h=>by simp[ag] at h
 | _::_,[],h=>by simp[ag] at h
 | x::es,e::l,h=>by
   simp only[List.map_cons,ag] at h;obtain⟨Z,h1,h2,h3⟩:=Jo h.2;refine⟨(x,e)::Z,by simp[h1],by simp[h2],fun z a=> ?_⟩;rcases ajy.1 a with rfl| a
   .exact h.1
   exact h3 z a
section
variable {X:Ctx} {E:Env} {n:Fp}
def GJ (X:Ctx) (n:Fp) (ops:Array Oper) (y:Code) (rec:a8->St->Option (aW×St)) (tb:a8):Prop:=
 ∀ (σ σ':St) (e:aW) (μ0:Mu) (a:Go.Act) (w:World) (Q K:Go.Exit->Go.Act->World->Prop),rec tb σ=some (e,σ')->kB X μ0 n σ a w->(∀a' w',kB X μ0 n σ' a' w'->Q (match e with| .normal=> .normal| .exit id=> .exit id| .ret=> .ret) a' w')->
  (∀a' w',y.wpIn (Fr n.ro) 0 X.P Q a' w'->K .normal a' w')->wpOpsIn (Fr n.ro) 0 X.P ops K (List.range' 1 (ops.size - 1)) a w
def LR (X:Ctx) (n:Fp) (ops:Array Oper) (z:Code) (b1:Nat) (rec:a8->St->Option (aW×St)) (tm:a8):Prop:=
 ∀ (σ σ':St) (μ0:Mu) (a:Go.Act) (w:World) (Q:Go.Exit->Go.Act->World->Prop),rec tm σ=some (.normal,σ')->kB X μ0 n σ a w->(∀a' w',kB X μ0 n σ' a' w'->Q .normal a' w')->
  wpOpsIn (Fr n.ro) 0 X.P ops (Exit.then (z.wpIn (Fr n.ro) 0 X.P (Exit.inBlock b1 Q)) (Exit.inBlock b1 Q)) (List.range' 1 (ops.size - 1)) a w
abbrev sD (i0:Nat) (ops:Array Oper) (y:Code) (b1 i5:Nat) (ja:Array Oper) (z5:Code):Code:= .seq (.region i0 ops false) (.seq y (.block b1 (.seq (.region i5 ja false) z5)))
theorem PG {P:Program} {w:World} {bi bm a:Nat} {b:Array Nat} {ents:Array MapEntry} {e:MapEntry} (hi:w.heap[bi]? =some (.mapIter (some bm) a (b.push e.born) a)) (hb:w.heap[bm]? =some (.map ents a)) (he:e ∈ ents.toList) (hn: (ents.toList.map (·.born)).Nodup):
  (Instr.entry (.pointer (some ⟨bi,0,none⟩))).run P w= .ok (.tuple #[e.key,e.val]) w:=by
 have hf:ents.find? (·.born==e.born)=some e:=by
  rw[<-Array.find?_toList];generalize ents.toList=l at he hn;induction l with
  | nil=>simp at he
  | cons x l c=>
    rw[List.map_cons,ako] at hn;rw[List.find?_cons];rcases ajy.1 he with rfl| he
    .simp
    have bW: ¬ (x.born==e.born)=true:=by intro h;exact hn.1 (ajL.2 ⟨e,he,(by simpa using h:x.born=e.born).symm⟩)
    simp only[bW];exact c he hn.2
 simp only[Instr.entry,getObj,Sem.run_bind,Sem.run,hi,hb,Result.andThen,Array.back?_push,bne_self_eq_false,ajA,if_false,hf];rfl
structure GK (X:Ctx) (n:Fp) (μ0:Mu) (rec:a8->St->Option (aW×St)) (tl:a8) (Good:St->Prop) (a:Go.Act) (w:World):Prop where
 h: ∃σe σp,kB X μ0 n σe a w/\rec tl σe=some (.normal,σp)/\Good σp
variable {ops ja:Array Oper} {o1 o5:Oper} {y z5:Code} {it nx ne id b1 r g:Nat} {μ0:Mu} {rec:a8->St->Option (aW×St)} {tb tm tl:a8} {Good:St->Prop} {i0 i5:Nat}
theorem CB (h0:ops[0]? =some o1) (hd: ∀c,o1.op≠ .defer c) (hg:o1.guard=none) {a:Go.Act} {w b:World} {v:Value} (d: (execOp a.eval o1).run X.P w= .ok (.value v) b) {Q:Go.Exit->Go.Act->World->Prop}
  (h:wpOpsIn (Fr n.ro) 0 X.P ops Q (List.range' 1 (ops.size - 1)) (a.put o1.dst v) b): (Code.region i0 ops false).wpIn (Fr n.ro) 0 X.P Q a w:=by
 refine wpIn_region ?_;have bM:0 <ops.size:=(ajs.1 h0).1;have hr:List.range ops.size=0::List.range' 1 (ops.size - 1):=by rw[akP];obtain⟨k,e⟩: ∃k,ops.size=k+1:=⟨ops.size - 1,ajk⟩;rw[e,List.range'_succ];rfl
 rw[hr,wpOpsIn_cons];simp only[wpOpIn,h0];rw[if_pos (by simp[Region.wanted,hg])];refine tp hd ?_;unfold Oper.wp;rw[d,Oper.upon_value];exact h
theorem EW (c:o1.op= .next (.tmp it) false) {a:Go.Act} {w b:World} {v:Value} (d: (Instr.next (a.eval (.tmp it)) false o1.type).run X.P w= .ok v b): (execOp a.eval o1).run X.P w= .ok (.value v) b:=by simp only[execOp,c];exact dQ d
theorem LS (c:o5.op= .entry (.tmp it)) {a:Go.Act} {w b:World} {v:Value} (d: (Instr.entry (a.eval (.tmp it))).run X.P w= .ok v b): (execOp a.eval o5).run X.P w= .ok (.value v) b:=by simp only[execOp,c];exact dQ d
theorem EX {Q:Go.Exit->Go.Act->World->Prop} (e: ∀a w,GK X n μ0 rec tl Good a w->Q (.exit id) a w) (f:GJ X n ops y rec tb) (h0:ops[0]? =some o1) (d:o1.op= .next (.tmp it) false) (hd:o1.dst=some nx) (hg:o1.guard=none) (Ew:nx<n.1)
  {σ σp:St} {a:Go.Act} {w:World} (hs:kB X μ0 n σ a w) (i: (Instr.next (a.eval (.tmp it)) false o1.type).run X.P w= .ok (.tuple #[.bool false]) w)
  (b:runK rec it r g nx ne id tb tm tl [] σ=some σp) (Jp:Good σp) (m:Nat):
  Code.roundsIn (Fr n.ro) 0 X.P (sD i0 ops y b1 i5 ja z5) Q (m+1) a w:=by
 rw[roundsIn_succ];simp only[runK] at b;split at b
 .split at b
  .rename_i q σe j;split at b
   .rename_i k;subst k;split at b
    .rename_i σ'' Nn;injection b with b;subst b;refine wpIn_seq (CB (X:=X) h0 (by rw[d];simp) hg (EW d i) ?_);obtain⟨l,bM,φ,hr,c⟩:=hs;have o:kB X μ0 n (σ.put (some nx) (.tuple [.bool false])) (a.put o1.dst (.tuple #[.bool false])) w:=by rw[hd];exact⟨by rw[put_defers];exact l,by rw[nB];exact bM,φ,qw hr (Le.refl _) hr.bp (by simp only[aj];exact⟨_,rfl,by simp[ag,aj]⟩) (by simp;omega) σ.O,c⟩
     exact f _ _ _ _ _ _ (Exit.then (Code.wpIn (Fr n.ro) 0 X.P (.block b1 (.seq (.region i5 ja false) z5)) (Exit.then (Code.roundsIn (Fr n.ro) 0 X.P (sD i0 ops y b1 i5 ja z5) Q m) Q)) (Exit.then (Code.roundsIn (Fr n.ro) 0 X.P (sD i0 ops y b1 i5 ja z5) Q m) Q)) _ j o (fun a' w' p=>e _ _ ⟨σe,σ'',p,Nn,Jp⟩) fun a' w' h=>wpIn_seq h
    simp at b
   simp at b
  simp at b
 simp at b
theorem CC {σ:St} (h:zM it r g σ=true):σ.T it= .it r g/\(σ.O r).gen=g:=by
 unfold zM at h;split at h
 .rename_i r' a e;simp only[ajt,akV] at h;obtain⟨rfl,rfl,h⟩:=h;exact⟨e,h⟩
 simp at h
theorem xp {Q:Go.Exit->Go.Act->World->Prop} (hQ: ∀a w,GK X n μ0 rec tl Good a w->Q (.exit id) a w) (Y:GJ X n ops y rec tb) (hM:LR X n ja z5 b1 rec tm) (h0:ops[0]? =some o1) (S:o1.op= .next (.tmp it) false) (hd:o1.dst=some nx) (hg:o1.guard=none) (Ew:nx<n.1)
   (k0:ja[0]? =some o5) (C:o5.op= .entry (.tmp it)) (kd:o5.dst=some ne) (kg:o5.guard=none) (bW:ne<n.1)
   {bi bm f:Nat} {ents:Array MapEntry} {Z:List (V×MapEntry)} (G:Z.map (·.2)=ents.toList) (U:iB ents f):
   ∀ (m:Nat) (i:Array Nat) (σ:St) (a:Go.Act) (w:World) (φ:Nat->Row),(km Z i).length=m->Marks n w a.defers->a.tmps.size=n.1->Rel X σ.T a ⟨w,φ,σ.O⟩->Le μ0 ⟨w,φ,σ.O⟩->
    (φ r).cj=bi->w.heap[bi]? =some (.mapIter (some bm) f i f)-> ¬ (Mu.mk w φ σ.O).own bi->(bi<μ0.w.heap.size->μ0.own bi)->
    (∀r',(σ.O r').es.isSome=true->(φ r').cap≠0->(φ r').cj≠bi)->w.heap[bm]? =some (.map ents f)-> ¬Own X ⟨w,φ,σ.O⟩ bm->
    (∀z ∈ Z,aj X ⟨w,φ,σ.O⟩ z.1 (.tuple #[z.2.key,z.2.val]))->
    (∀p,p.Perm ((km Z i).map (·.1))-> ∃σp,runK rec it r g nx ne id tb tm tl p σ=some σp/\Good σp)->
    Code.roundsIn (Fr n.ro) 0 X.P (sD i0 ops y b1 i5 ja z5) Q (m+1) a w
 | m,i,σ,a,w,φ,hm,lz,bM,hr,o,hφ,Yx,fQ,jB,fI,Gp,P3,bA,CD=>by
   have qT:zM it r g σ=true:=by
    obtain⟨σp,j,_⟩:=CD _ (.refl _);cases hl: (km Z i).map (·.1) with
    | nil=>
      rw[hl] at j;simp only[runK] at j;split at j
      .rename_i h;exact h
      simp at j
    | cons e p=>
      rw[hl] at j;simp only[runK] at j;split at j
      . split at j
        .rename_i h;exact h
        simp at j
      simp at j
   obtain⟨hT,cT⟩:=CC qT;have xH:a.eval (.tmp it)= .pointer (some ⟨bi,0,none⟩):=by have:=hr.tmps it;rw[hT] at this;simp only[aj] at this;obtain⟨a0,h1,_,h2⟩:=this;obtain⟨_,rfl⟩:=h2 cT;show a.tmps.getD it undef=_;rw[h1,hφ]
   have lA:kB X μ0 n σ a w:=⟨lz,bM,φ,hr,o⟩;have bl:bi<w.heap.size:=(ajs.1 Yx).1;rcases Um (P:=X.P) (ty:=o1.type) Yx Gp U.lt with⟨W,ah⟩ | ⟨e,he,d,ah⟩
   .
    have hl:km Z i=[]:=by have:=EV G i;rw[Array.eq_empty_of_size_eq_zero W] at this;exact List.map_eq_nil_iff.1 this
    obtain⟨σp,j,Jp⟩:=CD [] (by rw[hl];exact .refl _);exact EX hQ Y h0 S hd hg Ew lA (by rw[xH];exact ah) j Jp m
   rw[<-EV G i] at he;obtain⟨z,W,rfl⟩:=ajL.1 he;have kc: (Z.map fun z=>z.2.born).Nodup:=by have:=U.nodup;rw[<-G,List.map_map] at this;exact this
   have Nt:=LQ kc W;obtain⟨m',rfl⟩: ∃m',m=m'+1:=by have:=Nt.length_eq;simp only[ajC] at this;exact⟨_,by rw[<-hm];exact this⟩
   have H:z ∈ Z:=(akr.1 W).1;have Cq:=bA z H;obtain⟨σp1,Al,_⟩:=CD (z.1:: (km Z (i.push z.2.born)).map (·.1)) (by have:=(Nt.map (·.1)).symm;simpa using this);obtain⟨k,v,σm,σ',I,Uo,Xx,ij⟩: ∃k v σm σ',z.1= .tuple [k,v]/\rec tb (σ.put (some nx) (.tuple [.bool true,k,v]))=some (.normal,σm)/\zM it r g σm=true/\rec tm (σm.put (some ne) (.tuple [k,v]))=some (.normal,σ'):=by
     simp only[runK] at Al;split at Al
     . rename_i k v u
       rw[if_pos qT] at Al;split at Al
       .rename_i σm hb;split at Al
        . rename_i Xx
          split at Al
          .rename_i σ' J;exact⟨k,v,σm,σ',u,hb,Xx,J⟩
          simp at Al
        simp at Al
       simp at Al
     simp at Al
   have u:aj X ⟨w,φ,σ.O⟩ k z.2.key/\aj X ⟨w,φ,σ.O⟩ v z.2.val:=by rw[I] at Cq;simp only[aj] at Cq;obtain⟨vs,h1,h2⟩:=Cq;injection h1 with h1;subst h1;simpa [ag] using h2
   rw[roundsIn_succ];refine wpIn_seq (CB (X:=X) h0 (by rw[S];simp) hg (EW S (by rw[xH];exact ah)) ?_);generalize HA: ({w with drawn:=w.drawn+d,heap:=w.heap.setIfInBounds bi (.mapIter (some bm) f (i.push z.2.born) f)}:World)=q;have B: ∀b,b≠bi->q.heap[b]? =w.heap[b]? :=fun b hb=>by rw[<-HA];exact akt (fun e=>hb e.symm)
   have E:q.heap[bi]? =some (.mapIter (some bm) f (i.push z.2.born) f):=by rw[<-HA];simp[bl]
   have oB:q.heap.size=w.heap.size:=by rw[<-HA];simp
   have st:ju X ⟨w,φ,σ.O⟩ q:=by
     refine⟨fun ad c hc=> ?_,fun b es cl hb=> ?_,by show w.heap.size<=q.heap.size;omega⟩
     . have bW:ad.block≠bi:=fun e=>by have E8:w.cell? ad=some c:=hc;simp[World.cell?,e,Yx] at E8
       have E8:w.cell? ad=some c:=hc;simp only[World.cell?,B _ bW] at E8 ⊢;exact E8
     have J:w.heap[b]? =some (.map es cl):=hb;rw[B b (fun e=>by rw[e,Yx] at J;simp at J)];exact J
   have K:bq X ⟨q,φ,σ.O⟩:=hr.bp.cE st fun r' h1 h2=>B _ (fI r' h1 h2);have Wk:Le μ0 ⟨q,φ,σ.O⟩:=by
     refine⟨by have:=o.size;show μ0.w.heap.size<=q.heap.size;have h2:μ0.w.heap.size<=w.heap.size:=this;omega,fun b hb hn=> ?_,o.gen,o.row,?_,?_,?_,fun ad Pd=> ?_⟩
     . have bW:b≠bi:=fun e=>by subst e;exact hn (jB hb)
       obtain⟨s,k2⟩:=o.cn b hb hn;exact⟨(B b bW).trans s,k2⟩
     .rw[<-o.os,<-HA]
     .rw[<-o.output,<-HA]
     .rw[<-o.tape,<-HA]
     have s:w.frozen? ad=μ0.w.frozen? ad:=o.frozen ad Pd;show q.frozen? ad=_;rw[<-s];by_cases e:ad.block=bi
     .simp only[World.frozen?,e,Yx,E]
     simp only[World.frozen?,B _ e]
   have qU:Rel X σ.T a ⟨q,φ,σ.O⟩:=⟨fun t=>aj.cE st (hr.tmps t),K⟩;have Up:Marks n q a.defers:=by obtain⟨⟨m0,m0'⟩,Ds,m1,m2,m3⟩:=lz;exact⟨⟨ajk,fun l hl=>by obtain⟨L,k⟩:=m0' l hl;exact⟨L,(B l (fun e=>by rw[e,Yx] at k;simp at k)).trans k⟩⟩,Ds,m1,m2,fun D hD=> ⟨(m3 D hD).1,(B D (fun e=>by have:=(m3 D hD).2;rw[e,Yx] at this;simp at this)).trans (m3 D hD).2⟩⟩
   have qj:kB X ⟨q,φ,σ.O⟩ n (σ.put (some nx) (.tuple [.bool true,k,v])) (a.put o1.dst (.tuple #[.bool true,z.2.key,z.2.val])) q:=by rw[hd];refine⟨by rw[put_defers];exact Up,by rw[nB];exact bM,φ,qw qU (Le.refl _) K ?_ (by simp;omega) σ.O,Le.refl _⟩;simp only[aj];exact⟨_,rfl,by simp only[ag,aj];exact⟨trivial,aj.cE st u.1,aj.cE st u.2,trivial⟩⟩
   refine Y _ _ _ _ _ _ (Exit.then (Code.wpIn (Fr n.ro) 0 X.P (.block b1 (.seq (.region i5 ja false) z5)) (Exit.then (Code.roundsIn (Fr n.ro) 0 X.P (sD i0 ops y b1 i5 ja z5) Q (m'+1)) Q)) (Exit.then (Code.roundsIn (Fr n.ro) 0 X.P (sD i0 ops y b1 i5 ja z5) Q (m'+1)) Q)) _ Uo qj (fun am wm M=> ?_) fun a' w' h=>wpIn_seq h;have oS:bi<q.heap.size:=ajk;have Yy:bm<q.heap.size:=by rw[oB];exact(ajs.1 Gp).1
   have Yz:bm≠bi:=fun e=>by rw[e,Yx] at Gp;simp at Gp
   obtain⟨hTm,YA⟩:=CC Xx;have ajg:=M;obtain⟨aeA,aio,φm,WZ,PH⟩:=M;have hφm:φm r=φ r:=(PH.row r (by show (σm.O r).gen=(σ.O r).gen;rw[YA,cT])).1;have aip:wm.heap[bi]? =some (.mapIter (some bm) f (i.push z.2.born) f):=(PH.cn bi oS fQ).1.trans E;have aiq:wm.heap[bm]? =some (.map ents f):=(PH.cn bm Yy (fun h=>P3 (.inl h))).1.trans ((B bm Yz).trans Gp);have air:am.eval (.tmp it)= .pointer (some ⟨bi,0,none⟩):=by have:=WZ.tmps it;rw[hTm] at this;simp only[aj] at this;obtain⟨a0,h1,_,h2⟩:=this;obtain⟨_,rfl⟩:=h2 YA;show am.tmps.getD it undef=_;rw[h1,hφm,hφ]
   have hze:z.2 ∈ ents.toList:=by rw[<-G];exact ajL.2 ⟨z,H,rfl⟩
   refine wpIn_block (wpIn_seq (CB (X:=X) k0 (by rw[C];simp) kg (LS C (by rw[air];exact PG aip aiq hze U.nodup)) ?_));have Er:kB X ⟨q,φ,σ.O⟩ n (σm.put (some ne) (.tuple [k,v])) (am.put o5.dst (.tuple #[z.2.key,z.2.val])) wm:=by rw[kd];refine⟨by rw[put_defers];exact aeA,by rw[nB];exact aio,φm,qw WZ (Le.refl _) WZ.bp ?_ (by simp;omega) σm.O,PH⟩;simp only[aj];exact⟨_,rfl,by simp only[ag];exact⟨aj.mono PH (aj.cE st u.1),aj.mono PH (aj.cE st u.2),trivial⟩⟩
   refine hM _ _ _ _ _ _ ij Er fun a' w' gM=> ?_;obtain⟨aeB,Xv,φ',yb,N⟩:=gM;have Uq: ∀p,p.Perm ((km Z (i.push z.2.born)).map (·.1))-> ∃σp,runK rec it r g nx ne id tb tm tl p σ'=some σp/\Good σp:=fun p hp=>by obtain⟨σp,j,KS⟩:=CD (z.1::p) ((hp.cons z.1).trans (by have:=(Nt.map (·.1)).symm;simpa using this));refine⟨σp,?_,KS⟩;rw[I] at j;simp only[runK,qT,Xx,if_true,Uo,ij] at j;exact j
   have ais:zM it r g σ'=true:=by
     obtain⟨σp,j,_⟩:=Uq _ (.refl _);cases hl: (km Z (i.push z.2.born)).map (·.1) with
     | nil=>
       rw[hl] at j;simp only[runK] at j;split at j
       .rename_i h;exact h
       simp at j
     | cons e p=>
       rw[hl] at j;simp only[runK] at j;split at j
       .split at j
        .rename_i h;exact h
        simp at j
       simp at j
   have CE: (σ'.O r).gen=g:=(CC ais).2;obtain⟨kb1,kb2⟩:=N.cn bi oS fQ;obtain⟨km1,km2⟩:=N.cn bm Yy (fun h=>P3 (.inl h));have F:w'.heap[bi]? =some (.mapIter (some bm) f (i.push z.2.born) f):=kb1.trans E;have hlen: (km Z (i.push z.2.born)).length=m':=by have:=Nt.length_eq;rw[hm,ajC] at this;omega
   refine xp hQ Y hM h0 S hd hg Ew k0 C kd kg bW G U m' (i.push z.2.born) σ' a' w' φ' hlen aeB Xv yb (Wk.trans N) ?_ F kb2 jB ?_ (km1.trans ((B bm Yz).trans Gp)) ?_ (fun x hx=>aj.mono N (aj.cE st (bA x hx))) Uq
   . have:=(N.row r (by show (σ'.O r).gen=(σ.O r).gen;rw[CE,cT])).1
     rw[show φ' r=φ r from this];exact hφ
   . intro r' h1 h2 hb
     obtain⟨es,bC⟩:=ajz.1 h1;rcases yb.bp.ok r' es bC with⟨_,_,_,h4⟩ | ⟨_,_,ob,h3,h4⟩
     . rcases h4 with h4| ⟨c,T,vs,s,_⟩
       .exact h2 h4
       have R:w'.heap[(φ' r').cj]? =some (.cells c T (0,0)):=s;rw[hb,F] at R;simp at R
     have A:w'.heap[(φ' r').cj]? =some ob:=h3;rw[hb,F] at A;injection A with A;rcases h4 with⟨_,_,s,_⟩ | ⟨_,_,s,_⟩ | ⟨_,_,_,s,_⟩
     .rw[<-A] at s;simp at s
     .rw[<-A] at s;simp at s
     rw[<-A] at s;injection s with _ _ s _;have:=congrArg Array.size s;simp at this
   rintro(h| h)
   .exact km2 h
   exact P3 (.inr h)
termination_by m=>m
theorem CG {kT kO:List Nat} (q:GJ X n ops y rec tb) (hM:LR X n ja z5 b1 rec tm) (h0:ops[0]? =some o1) (u:o1.op= .next (.tmp it) false) (hd:o1.dst=some nx) (hg:o1.guard=none) (Ew:nx<n.1)
  (l0:ja[0]? =some o5) (i:o5.op= .entry (.tmp it)) (B:o5.dst=some ne) (D:o5.guard=none) (bW:ne<n.1)
  {C:bB} {σ σ2:St} {e:aW} {a:Go.Act} {w:World} (b:aK E C rec (.keys it nx ne id kT kO tb tm tl) σ=some (e,σ2)) (hs:kB X μ0 n σ a w):
  e= .normal/\(Code.block id (.loop (sD i0 ops y b1 i5 ja z5))).wpIn (Fr n.ro) 0 X.P (fun ex a' w'=>ex= .normal/\ ∃σe σp,kB X μ0 n σe a' w'/\rec tl σe=some (.normal,σp)/\ ∀Ql Nu,kB X μ0 n σp Ql Nu->kB X μ0 n σ2 Ql Nu) a w:=by
 simp only[aK] at b;split at b
 .rename_i r g F;split at b
  .rename_i es d;split at b
   .rename_i hc;obtain⟨cT,W6,iC⟩:=hc;split at b
    .rename_i σ1 σs G;split at b
     .rename_i j;simp only[ajq,ajv] at b;obtain⟨rfl,rfl⟩:=b;refine⟨rfl,?_⟩
      let Good:St->Prop:=fun σp=> ∀Ql Nu,kB X μ0 n σp Ql Nu->kB X μ0 n (forget kT kO σ1 σs) Ql Nu
      have Jp: ∀σp ∈ σ1::σs,Good σp:=by
       rintro σp hp Ql Nu ⟨f,bM,φ,hr,c⟩;have XS:agree kT kO σ1 σp=true\/σp=σ1:=by
        rcases ajy.1 hp with h| h
        .exact .inr h
        exact .inl (ajx.1 j σp h)
       have k: ∀t,t ∈ kT->σp.T t=σ1.T t:=fun t ht=>by
        rcases XS with h| h
        .simp only[agree,ajt,ajx] at h;exact V.beq_eq (h.1 t ht)
        rw[h]
       have l: ∀x,x ∈ kO->σp.O x=σ1.O x:=fun x hx=>by
        rcases XS with h| h
        .simp only[agree,ajt,ajx] at h;exact Obj.beq_eq (h.2 x hx)
        rw[h]
       have Hy:=EU (O':=(forget kT kO σ1 σs).O) hr.bp fun x=>by
        simp only[forget];by_cases hx:kO.contains x=true
        .rw[if_pos hx];exact .inl (l x (by simpa using hx)).symm
        rw[if_neg hx];refine .inr ⟨rfl,.inl ?_⟩;have:=wc (fun σ:St=> (σ.O x).gen) hp;show (σp.O x).gen<_+1;omega
       refine⟨f,bM,φ,⟨fun t=> ?_,Hy.2⟩,c.trans Hy.1⟩;simp only[forget];split
       .rename_i ht;rw[<-k t (by simpa using ht)];exact aj.mono Hy.1 (hr.tmps t)
       simp[aj]
      have CD: ∀p,p.Perm es-> ∃σp,runK rec it r g nx ne id tb tm tl p ⟨σ.T,dh σ.O r ⟨g,0,false,false,none⟩⟩=some σp/\Good σp:=fun p hp=>by obtain⟨σp,h1,h2⟩:=y6 G p (rn hp);exact⟨σp,h2,Jp σp h1⟩
      obtain⟨f,bM,φ,hr,c⟩:=hs;have Hy:=EU (O':=dh σ.O r ⟨g,0,false,false,none⟩) hr.bp fun x=>by
       by_cases hx:x=r
       .subst hx;rw[aD];exact .inr ⟨rfl,.inr ⟨cT.symm,W6.symm⟩⟩
       rw[bk _ _ hx];exact .inl rfl
      have v:Rel X σ.T a ⟨w,φ,dh σ.O r ⟨g,0,false,false,none⟩⟩:=⟨fun t=>aj.mono Hy.1 (hr.tmps t),Hy.2⟩;obtain⟨_,o,ob,Ha,hh⟩:=hr.bp.map r _ d W6;have H: (Mu.mk w φ σ.O).own (φ r).cj:=⟨r,by show (σ.O r).es.isSome=true;rw[d];rfl,iC,o,rfl⟩;have I: ¬ (Mu.mk w φ (dh σ.O r ⟨g,0,false,false,none⟩)).own (φ r).cj:=by
       rintro⟨r',h1,h2,h3,h4⟩;by_cases hx:r'=r
       .subst hx;simp[aD] at h1
       have DI: (σ.O r').es.isSome=true:=by have:=h1;simp only[bk _ _ hx] at this;exact this
       exact hr.bp.inj r' r hx DI (by show (σ.O r).es.isSome=true;rw[d];rfl) h3 o h4
      have J: (φ r).cj<μ0.w.heap.size->μ0.own (φ r).cj:=fun K=>akJ fun hn=> (c.cn _ K hn).2 H;have L: ∀r',((dh σ.O r ⟨g,0,false,false,none⟩) r').es.isSome=true->(φ r').cap≠0->(φ r').cj≠(φ r).cj:=fun r' h1 h2 h4=>by
       by_cases hx:r'=r
       .subst hx;simp[aD] at h1
       have DI: (σ.O r').es.isSome=true:=by have:=h1;simp only[bk _ _ hx] at this;exact this
       exact hr.bp.inj r' r hx DI (by show (σ.O r).es.isSome=true;rw[d];rfl) h2 o h4
      have A: ∀a' w',GK X n μ0 rec tl Good a' w'->Exit.inBlock id (fun ex a' w'=>ex= .normal/\ ∃σe σp,kB X μ0 n σe a' w'/\rec tl σe=some (.normal,σp)/\ ∀Ql Nu,kB X μ0 n σp Ql Nu->kB X μ0 n (forget kT kO σ1 σs) Ql Nu) (.exit id) a' w':=by rintro a' w' ⟨σe,σp,M,N,Q⟩;simp only[Go.Exit.inBlock,if_true];exact⟨trivial,σe,σp,M,N,Q⟩
      have key: ∃m,Code.roundsIn (Fr n.ro) 0 X.P (sD i0 ops y b1 i5 ja z5) (Exit.inBlock id (fun ex a' w'=>ex= .normal/\ ∃σe σp,kB X μ0 n σe a' w'/\rec tl σe=some (.normal,σp)/\ ∀Ql Nu,kB X μ0 n σp Ql Nu->kB X μ0 n (forget kT kO σ1 σs) Ql Nu)) (m+1) a w:=by
       rcases hh with⟨ents,clock,k1,hh,_⟩ | ⟨s,pos,_,hh⟩ | ⟨mo,since,nN,h1,h2,h3⟩
       .exfalso;cases he:ents.toList with
        | nil=>rw[he] at hh;simp[ag] at hh
        | cons x xs=>rw[he] at hh;simp[ag,aj] at hh
       .simp at hh
       simp only[alu,V.mlit.injEq,and_true] at h2;subst h2;subst h1;rcases h3 with⟨rfl,rfl⟩ | ⟨bm,ents,rfl,k2,k3,k4,k5,k6⟩
       .obtain⟨σp,R,KS⟩:=CD [] (.refl _);have S:a.eval (.tmp it)= .pointer (some ⟨(φ r).cj,0,none⟩):=by have:=hr.tmps it;rw[F] at this;simp only[aj] at this;obtain⟨a0,U,_,W⟩:=this;obtain⟨_,rfl⟩:=W cT;exact U
        exact⟨0,EX A q h0 u hd hg Ew ⟨f,bM,φ,v,c.trans Hy.1⟩ (by rw[S];exact Un Ha) R KS 0⟩
       obtain⟨Z,Y,z2,z3⟩:=Jo k6;have xk:km Z #[]=Z:=List.filter_eq_self.2 fun z _=>ajl;refine⟨_,xp (r:=r) (g:=g) A q hM h0 u hd hg Ew l0 i B D bW z2 k5 _ #[] ⟨σ.T,dh σ.O r ⟨g,0,false,false,none⟩⟩ a w φ rfl f bM v (c.trans Hy.1) rfl Ha I J L k4 ?_ (fun z hz=>aj.mono Hy.1 (z3 z hz)) ?_⟩
       .  rintro(⟨r',h1,h2,h3,h4⟩ | h)
          .refine k2 (.inl ⟨r',?_,?_,h3,h4⟩)
           .by_cases hx:r'=r
            .subst hx;simp[aD] at h1
            have:=h1;simp only[bk _ _ hx] at this;exact this
           by_cases hx:r'=r
           .subst hx;exact iC
           have:=h2;simp only[bk _ _ hx] at this;exact this
          exact k2 (.inr h)
       rw[xk,Y];exact CD
      obtain⟨m,hm⟩:=key;exact wpIn_block (wpIn_loop_rounds (m+1) hm)
     simp at b
    simp at b
   simp at b
  simp at b
 simp at b
end
end Go.AM
namespace Go.AM
open Go Go.RowKit
theorem Ur {X:Ctx} {μ:Mu} (d:bq X μ) {D:Nat} {o:Go.Obj} (b:μ.w.heap[D]? =some o) (h1:o.isCells=false) (h2:o.isWalk=false) {r:Nat} (hr: (μ.O r).es.isSome=true) (hc: (μ.φ r).cap≠0): (μ.φ r).cj≠D:=fun hb=>by
 obtain⟨es,bC⟩:=ajz.1 hr;rcases d.ok r es bC with⟨_,_,_,h4⟩ | ⟨_,_,ob,h3,h4⟩
 .rcases h4 with h4| ⟨c,T,vs,a,_⟩
  .exact hc h4
  rw[hb,b] at a;injection a with a;subst a;simp[Obj.isCells] at h1
 rw[hb,b] at h3;injection h3 with h3;subst h3;rcases h4 with⟨_,_,rfl,_⟩ | ⟨_,_,rfl,_⟩ | ⟨_,_,_,rfl,_⟩ <;>simp[Obj.isWalk] at h2
theorem jv {X:Ctx} {μ:Mu} {D:Nat} {o d:Go.Obj} (a:μ.w.heap[D]? =some o) (h1:o.isCells=false) (h2:o.isWalk=false):ju X μ (μ.w.putObj D d):=by
 refine⟨fun ad c hc=> ?_,fun b es cl hb=> ?_,by simp[World.putObj]⟩
 .have bW:ad.block≠D:=fun e=>by simp only[World.cell?,e,a] at hc;cases o<;>simp_all[Obj.isCells]
  simp only[World.cell?,World.putObj_heap_other bW] at hc ⊢;exact hc
 rw[World.putObj_heap_other (fun e=>by rw[e,a] at hb;injection hb with hb;subst hb;simp[Obj.isWalk] at h2)];exact hb
theorem Gs {μ0:Mu} {w:World} {φ:Nat->Row} {O:Nat->Obj} (le:Le μ0 ⟨w,φ,O⟩) {D:Nat} {a:Go.Obj} (hf:μ0.w.heap.size<=D):Le μ0 ⟨w.putObj D a,φ,O⟩:=by
 refine⟨by have:=le.size;simpa [World.putObj] using this,fun b hb hn=> ?_,le.gen,le.row,le.os,le.output,le.tape,fun ad Pd=> ?_⟩
 .have bW:b≠D:=ajk;exact⟨(World.putObj_heap_other bW).trans (le.cn b hb hn).1,(le.cn b hb hn).2⟩
 have bW:ad.block≠D:=ajk;have:=le.frozen ad Pd;simp only[World.frozen?] at this ⊢;show (match (w.putObj D a).heap[ad.block]? with| some (.cells _ _ (lo,hi))=>_| _=>false)=_;rw[World.putObj_heap_other bW];exact this
theorem yD {X:Ctx} {w:World} {φ:Nat->Row} {O:Nat->Obj} (a:bq X ⟨w,φ,O⟩) {D:Nat} (h2:w.heap[D]? =some (.deferred (some []))):bq X ⟨w.putObj D (.deferred none),φ,O⟩:=
 a.cE (jv (μ:=⟨w,φ,O⟩) h2 rfl rfl) fun r h3 h4=>World.putObj_heap_other (Ur a h2 rfl rfl h3 h4)
def Kept (μ:Mu) (W W':World):Prop:= ∀b,b<μ.w.heap.size-> ¬μ.own b->W'.heap[b]? =W.heap[b]?
def Abides (J:Nat->World->Prop):Prop:= ∀k A B,J k A->A.grownBy B none->J k B
structure AbidesF (J:Nat->(Nat->Prop)->World->Prop):Prop where
 grow: ∀k F A B,J k F A->A.grownBy B none->J k (fun b=>F b\/(A.heap.size<=b/\b<B.heap.size)) B
 less: ∀k F F' A,J k F A->(∀b,F' b->F b)->J k F' A
structure AG (X:Ctx) (μ:Mu) (gf:Nat) (lb:Array Value) (xs:List (List V)):Prop where
 enters: ∀args w,(callFunc gf args).run X.P w= .ok (.enter gf args) w
 ex: ∃ve:List (Array Value),ve.length=xs.length/\(∀ (i:Nat) x v,xs[i]? =some x->ve[i]? =some v->ag X μ x v.toList)/\
  ∀ (l:Nat) (J:Nat->(Nat->Prop)->World->Prop) (Jx:Nat->World->Prop) (W0:World),Below μ.w.heap.size μ.w W0->AbidesF J->Abides Jx->
   (∀ (k:Nat) F W1 v,ve[k]? =some v->J k F W1->YieldAt (Fr none) 0 X.P l v W1 fun e W'=> (e= .returned (.bool true)/\J (k+1) F W'/\Kept μ W1 W'/\ ∀b,F b->W'.heap[b]? =W1.heap[b]?)\/(e= .returned (.bool false)/\Jx (k+1) W'))->
   J 0 (fun _=>False) W0->CallsIn (Fr none) 0 X.P gf (#[.func (.yield l) #[] #[]]++lb) W0 fun e W'=> (∃v,e= .returned v)/\((∃F,J ve.length F W')\/ ∃k,k<=ve.length/\Jx k W')
theorem ov {X:Ctx} {μ:Mu} {W':World} (h:μ.w.grownBy W' none):ju X μ W':=by
 have hb: ∀k,k<μ.w.heap.size->W'.heap[k]? =μ.w.heap[k]? :=fun k a=>h.block k a ajl;refine⟨fun ad c hc=> ?_,fun b es cl hc=> ?_,h.size⟩
 .have d:ad.block<μ.w.heap.size:=by
   rcases ak1 ad.block μ.w.heap.size with hl| hl
   .exact hl
   simp[World.cell?,akx hl] at hc
  simp only[World.cell?,hb _ d] at hc ⊢;exact hc
 rw[hb _ (ajs.1 hc).1];exact hc
theorem vg {X:Ctx} {μ:Mu} (a:bq X μ) {r:Nat} (hr: (μ.O r).es.isSome=true) (hc: (μ.φ r).cap≠0): (μ.φ r).cj<μ.w.heap.size:=by
 obtain⟨es,bC⟩:=ajz.1 hr;rcases a.ok r es bC with⟨_,_,_,h4⟩ | ⟨_,_,ob,h3,h4⟩
 .rcases h4 with h4| ⟨c,T,vs,b,_⟩
  .exact absurd h4 hc
  exact(ajs.1 b).1
 exact(ajs.1 h3).1
structure dA (X:Ctx) (μb:Mu) (T:Nat->V) (a:Go.Act) (l:Nat) (Dq:Option Nat) (L:Loop) (O:Nat->Obj) (φ:Nat->Row) (W:World):Prop where
 rel:Rel X T a ⟨W,φ,O⟩
 le:Le μb ⟨W,φ,O⟩
 tN:W.heap[l]? =some (.loop L)
 Qg: ∀D,Dq=some D->W.heap[D]? =some (.deferred (some []))
section
variable {X:Ctx} {μb:Mu} {T:Nat->V} {a:Go.Act} {l:Nat} {Dq:Option Nat} {L L':Loop} {O:Nat->Obj} {φ:Nat->Row} {W W':World}
theorem dA.grow (h:dA X μb T a l Dq L O φ W) (hg:W.grownBy W' none):dA X μb T a l Dq L O φ W':=by have st:ju X ⟨W,φ,O⟩ W':=ov (μ:=⟨W,φ,O⟩) hg;have hb: ∀k,k<W.heap.size->W'.heap[k]? =W.heap[k]? :=fun k e=>hg.block k e ajl;refine⟨⟨fun t=>aj.cE st (h.rel.tmps t),h.rel.bp.cE st fun r h1 h2=>hb _ (vg h.rel.bp h1 h2)⟩,?_,(hb _ (ajs.1 h.tN).1).trans h.tN,fun D c=> (hb _ (ajs.1 (h.Qg D c)).1).trans (h.Qg D c)⟩;have le:=h.le;have bM:μb.w.heap.size<=W.heap.size:=le.size;exact⟨ajQ bM hg.size,fun b d hn=> ⟨(hb b ajk).trans (le.cn b d hn).1,(le.cn b d hn).2⟩,le.gen,le.row,hg.os.trans le.os,hg.output.trans le.output,hg.tape.trans le.tape,fun ad Pd=>by have:=le.frozen ad Pd;rw[<-this];show W'.frozen? ad=W.frozen? ad;simp only[World.frozen?,hb ad.block ajk]⟩
theorem dA.put (h:dA X μb T a l Dq L O φ W) (hl:μb.w.heap.size<=l) (b: ∀D,Dq=some D->D≠l):dA X μb T a l Dq L' O φ (W.putObj l (.loop L')):=by have st:ju X ⟨W,φ,O⟩ (W.putObj l (.loop L')):=jv (μ:=⟨W,φ,O⟩) h.tN rfl rfl;refine⟨⟨fun t=>aj.cE st (h.rel.tmps t),h.rel.bp.cE st fun r h3 h4=>World.putObj_heap_other (Ur h.rel.bp h.tN rfl rfl h3 h4)⟩,Gs h.le hl,World.putObj_heap_same (ajs.1 h.tN).1,fun D hd=> (World.putObj_heap_other (b D hd)).trans (h.Qg D hd)⟩
end
def aW.conv:aW->Go.Exit
 | .normal=> .normal
 | .exit id=> .exit id
 | .ret=> .ret
def B6 (X:Ctx) (n:Fp) (c:Code) (rec:a8->St->Option (aW×St)) (b:a8):Prop:=
 ∀ (σ σ':St) (e:aW) (μ0:Mu) (a:Go.Act) (w:World),rec b σ=some (e,σ')->kB X μ0 n σ a w->c.wpIn (Fr n.ro) 0 X.P (fun ex a' w'=>ex=e.conv/\kB X μ0 n σ' a' w') a w
theorem Gj {X:Ctx} {μ:Mu}: ∀ {ps:List Nat} {x:List V} {vs:List Value} {T:Nat->V} {tmps:Array Value},ag X μ x vs->(∀t,aj X μ (T t) (tmps.getD t undef))->(∀p ∈ ps,p<tmps.size)->
   (∀t,aj X μ (kr T ps x t) (((ps.zip vs).foldl (fun t p=>t.setIfInBounds p.1 p.2) tmps).getD t undef))/\((ps.zip vs).foldl (fun t p=>t.setIfInBounds p.1 p.2) tmps).size=tmps.size
 | [],x,vs,T,tmps,_,h,_=> ⟨by simpa [kr] using h,rfl⟩
 | p::ps,[],[],T,tmps,_,h,_=> ⟨by simpa [kr] using h,rfl⟩
 | p::ps,[],_::_,T,tmps,hx,_,_=>by simp[ag] at hx
 | p::ps,_::_,[],T,tmps,hx,_,_=>by simp[ag] at hx
 | p::ps,x::xs,v::vs,T,tmps,hx,h,hp=>by
   simp only[ag] at hx;have a:=hp p ajl;obtain⟨b,c⟩:=Gj (ps:=ps) (T:=dh T p x) (tmps:=tmps.setIfInBounds p v) hx.2 (fun t=>by
    unfold dh;split
    .rename_i e;subst e;have: (tmps.setIfInBounds t v).getD t undef=v:=by simp[a]
     rw[this];exact hx.1
    .rename_i bW;have: (tmps.setIfInBounds p v).getD t undef=tmps.getD t undef:=by simp[akt (fun e=>bW e.symm)]
     rw[this];exact h t) (fun q d=>by simpa using hp q (by simp[d]))
   exact⟨b,by simpa using c⟩
theorem EC {P:Program} {w:World} (ro:Option Nat) (h: ∀l,ro=some l-> ∃L,w.heap[l]? =some (.loop L)) (fn:FuncId) (tmps:Array Value) (ps:Array Tmp) (assign body:Code):
   ∃ (l:Nat) (Dq:Option Nat) (c:Nat) (W1:World),(Instr.enterLoop fn tmps ps assign body ro).run P w= .ok (l,Dq.toList.map fun D=> {target:= .collected D,args:= #[]}) W1/\w.grownBy W1 none/\w.heap.size<=l/\
    W1.heap[l]? =some (.loop {state:= .ready,pending:=none,fn,tmps,params:=ps,assign,body,defers:=c})/\ ∀D,Dq=some D->w.heap.size<=D/\D≠l/\W1.heap[D]? =some (.deferred (some [])):=by
 cases ro with
 | none=>
   have bM: (w.alloc (.deferred (some []))).heap.size=w.heap.size+1:=World.size_alloc _ _;refine⟨w.heap.size+1,some w.heap.size,w.heap.size,_,run_enterLoop_outer fn tmps ps assign body,?_,ajk,?_,?_⟩
   .have b1:Below w.heap.size w ((w.alloc (.deferred (some []))).alloc (.loop {state:= .ready,pending:=none,fn,tmps,params:=ps,assign,body,defers:=w.heap.size})):=((Below.refl _ w).alloc (ajw _) _).alloc ajl _;exact⟨b1.os,b1.tape,b1.output,b1.size,fun k a _=>b1.block k a⟩
   .have:=World.alloc_heap_new (w.alloc (.deferred (some []))) (.loop {state:= .ready,pending:=none,fn,tmps,params:=ps,assign,body,defers:=w.heap.size});rwa [bM] at this
   rintro D b;injection b with b;subst b;exact⟨ajw _,ajk,(Below.heap_alloc _ _ _ (by rw[bM];omega)).trans (World.alloc_heap_new w _)⟩
 | some d=>
   obtain⟨L,e⟩:=h d rfl;refine⟨w.heap.size,none,L.defers,_,run_enterLoop_inner e fn tmps ps assign body,?_,ajw _,World.alloc_heap_new w _,ajl⟩;have b1:Below w.heap.size w (w.alloc (.loop {state:= .ready,pending:=none,fn,tmps,params:=ps,assign,body,defers:=L.defers})):=(Below.refl _ w).alloc (ajw _) _;exact⟨b1.os,b1.tape,b1.output,b1.size,fun k a _=>b1.block k a⟩
theorem yB {X:Ctx} {μ0:Mu} {n:Fp} {T:Nat->V} {a:Go.Act} {w W:World} {φ φ':Nat->Row} {O0 O:Nat->Obj} {l:Nat} {Dq:Option Nat} {L:Loop} (b:Marks n w a.defers) (bM:a.tmps.size=n.tm) (g:bq X ⟨w,φ,O0⟩) (c:Le μ0 ⟨w,φ,O0⟩)
  (h:dA X ⟨w,φ,O0⟩ T a l Dq L O φ' W) (d: ∀D,Dq=some D->w.heap.size<=D):kB X μ0 n ⟨T,O⟩ {a with defers:=(Dq.toList.map fun D=> {target:= .collected D,args:= #[]})++a.defers} W:=by
 refine⟨?_,bM,φ',⟨h.rel.tmps,h.rel.bp⟩,c.trans h.le⟩;obtain⟨h0,Ds,h1,h2,h3⟩:=b.le g h.le;refine⟨h0,Dq.toList++Ds,by simp[h1],?_,fun D hd=> ?_⟩
 .cases Dq with
  | none=>simpa using h2
  | some D=>
    simp only[Option.toList_some,ajK,aj8,ako];refine⟨fun hm=> ?_,h2⟩;obtain⟨_,Ds',f,_,i⟩:=b;have:Ds=Ds':=by
      rw[h1] at f;have j:Function.Injective (fun D:Nat=> ({target:= .collected D,args:= #[]}:Deferred)):=fun x y e=>by injection e with e;injection e
      exact List.map_inj_right (fun x y e=>j e) |>.1 f
    subst this;have:=(ajs.1 (i D hm).2).1;have:=d D rfl;omega
 rcases ajD.1 hd with hd| hd
 . cases Dq with
   | none=>simp at hd
   | some D'=>
     simp at hd;subst hd;exact⟨ajQ b.1.1 (d _ rfl),h.Qg _ rfl⟩
 exact h3 D hd
theorem Jq {X:Ctx} {n:Fp} {g:Operand} {ps:Array Tmp} {assign body:Code} {rec:a8->St->Option (aW×St)} {ta tb:a8} (hA: ∀l,B6 X ⟨n.tm,0,some l⟩ assign rec ta) (R: ∀l,B6 X ⟨n.tm,0,some l⟩ body rec tb)
  {μ0:Mu} {σ σ':St} {e:aW} {a:Go.Act} {w:World} (hs:kB X μ0 n σ a w) (xJ: ∀p ∈ ps.toList,p<n.tm) {gf:Nat} {lb:Array Value} {xs:List (List V)} (hg:a.eval g= .func (.func gf) #[] lb)
  (hI: ∀φ,Rel X σ.T a ⟨w,φ,σ.O⟩->AG X ⟨w,φ,σ.O⟩ gf lb xs) (hlen: ∀x ∈ xs,x.length=ps.size) (ah:vZ rec ps.toList ta tb σ.T xs σ.O=some (e,σ')):
  (Code.rangeFunc g ps assign body).wpIn (Fr n.ro) 0 X.P (fun ex a' w'=>ex=e.conv/\kB X μ0 n σ' a' w') a w:=by
 obtain⟨K,bM,φ,hr,I⟩:=hs;obtain⟨enters,ve,Ez,Cb,rX⟩:=hI φ hr;refine wpIn_rangeFunc fun fn nr=> ?_;obtain⟨l,Dq,dD,W1,L,u,hl,TB,TC⟩:=EC (P:=X.P) n.ro K.1.2 fn a.tmps ps assign body;obtain⟨d,q⟩: ∃d:LoopState->Option Code->Loop,d=fun st pe=> {state:=st,pending:=pe,fn,tmps:=a.tmps,params:=ps,assign,body,defers:=dD}:=⟨_,rfl⟩;have bW: ∀D,Dq=some D->D≠l:=fun D i=> (TC D i).2.1;have WY:dA X ⟨w,φ,σ.O⟩ σ.T a l Dq (d .ready none) σ.O φ W1:=by have st:ju X ⟨w,φ,σ.O⟩ W1:=ov (μ:=⟨w,φ,σ.O⟩) u;have hb: ∀k,k<w.heap.size->W1.heap[k]? =w.heap[k]? :=fun k E=>u.block k E ajl;refine⟨⟨fun t=>aj.cE st (hr.tmps t),hr.bp.cE st fun r h1 h2=>hb _ (vg hr.bp h1 h2)⟩,?_,by rw[q];exact TB,fun D i=> (TC D i).2.2⟩;exact⟨u.size,fun b ke hn=> ⟨hb b ke,hn⟩,fun _=>ajw _,fun _ _=> ⟨rfl,rfl⟩,u.os,u.output,u.tape,fun ad Pd=>by simp only[World.frozen?,hb ad.block Pd]⟩
 refine⟨l,_,W1,{target:= .fn (.func gf) lb,args:= #[.func (.yield l) #[] #[]]},W1,gf,#[.func (.yield l) #[] #[]]++lb,W1,L,?_,fun _ _=>trivial,?_,fun h=>by simp[Fr,Fence.wide] at h,?_⟩
 .simp only[resolve,hg];simp[go_sem]
 .simp[invoke,go_sem,enters]
 have key:=rX l (fun k F W=> ∃O φ',dA X ⟨w,φ,σ.O⟩ σ.T a l Dq (d .ready none) O φ' W/\vZ rec ps.toList ta tb σ.T (xs.drop k) O=some (e,σ')/\ ∀b,F b->b<W.heap.size/\ ¬Mu.own ⟨W,φ',O⟩ b/\b≠l)
  (fun k W=> ∃O φ' c,dA X ⟨w,φ,σ.O⟩ σ.T a l Dq (d .done (some c)) O φ' W/\σ'=⟨σ.T,O⟩/\(e= .ret/\c= .ret\/ ∃id,e= .exit id/\c= .exit id)) W1
  ⟨u.os,u.tape,u.output,u.size,fun k E=>u.block k E ajl⟩
  ⟨fun  k F A B ⟨O,φ',h1,h2,h3⟩ hg=> ⟨O,φ',h1.grow hg,h2,fun b hb=>by
    rcases hb with hb| ⟨Ap,td⟩
    .exact⟨ajB (h3 b hb).1 hg.size,(h3 b hb).2⟩
    .  refine⟨td,?_,fun kQ=> ?_⟩
       . rintro⟨r,q1,_,q3,q4⟩
         have:=vg (μ:=⟨A,φ',O⟩) h1.rel.bp q1 q3;have G: (φ' r).cj=b:=q4;have: (φ' r).cj<A.heap.size:=this;omega
       . subst kQ
         have:=(ajs.1 h1.tN).1;omega⟩,fun k F F' A ⟨O,φ',h1,h2,h3⟩ J=> ⟨O,φ',h1,h2,fun b hb=>h3 b (J b hb)⟩⟩ (fun k A B ⟨O,φ',c,h1,h2⟩ hg=> ⟨O,φ',c,h1.grow hg,h2⟩) ?round ⟨σ.O,φ,WY,by simpa using ah,fun b hb=>hb.elim⟩
 case round=>
  rintro k F W v hv ⟨O,φ',f,m,J⟩;have E:k<xs.length:=by rw[<-Ez];exact(ajp.1 hv).1
  have hx:xs[k]? =some xs[k]:=aju E;rw[ajO E] at m;generalize xs[k]=x at hx m;have S:=Cb k x v hx hv;have U3:=hlen x (List.mem_of_getElem? hx);simp only[vZ] at m;split at m
  rotate_left
  .simp at m
  rename_i σ1 h1;have M:=f.le;have W7:ag X ⟨W,φ',O⟩ x v.toList:=ag.mono M S;have ns:v.size=ps.size:=by have:=S.length;rw[<-U3,this];simp
  have Hn:=Gj (ps:=ps.toList) (T:=σ.T) (tmps:=a.tmps) W7 f.rel.tmps (by rw[bM];exact xJ);have II: ((ps.zip v).foldl (fun tmps (p:Tmp×Value)=>tmps.setIfInBounds p.1 p.2) a.tmps)=(ps.toList.zip v.toList).foldl (fun t p=>t.setIfInBounds p.1 p.2) a.tmps:=by rw[<-Array.foldl_toList,Array.toList_zip]
  have hy:=run_yield (P:=X.P) (args:=v) f.tN (by rw[q];exact ns);rw[q] at hy;refine⟨fn,_,assign,body,hy,roundIn_of_wpIn nr ?_⟩;have H:kB X ⟨W,φ',O⟩ ⟨n.tm,0,some l⟩ ⟨kr σ.T ps.toList x,O⟩ {tmps:=(ps.zip v).foldl (fun tmps (p:Tmp×Value)=>tmps.setIfInBounds p.1 p.2) a.tmps,defers:=[]} W:=by refine⟨Marks.nil (akk _) (fun l' z=>by injection z with z;subst z;exact⟨_,f.tN⟩),by show Array.size _=n.tm;rw[II,Hn.2];exact bM,φ',⟨fun t=> ?_,f.rel.bp⟩,Le.refl _⟩;show aj X _ _ (Array.getD _ t undef);rw[II];exact Hn.1 t
  refine wpIn_mono (hA l _ _ _ _ _ _ h1 H) fun ex a1 j G=> ?_;obtain⟨rfl,TD,vD,φ1,U,B7⟩:=G;have IJ: ∀ {b:Nat} {o:Go.Obj},W.heap[b]? =some o->o.isCells=false->o.isWalk=false->j.heap[b]? =some o:=fun {b o} hb i1 i2=>
    (B7.cn b (ajs.1 hb).1 (dK f.rel.bp hb i1 i2)).1.trans hb
  have Gk:dA X ⟨w,φ,σ.O⟩ σ.T a l Dq (d .ready none) σ1.O φ1 j:=⟨⟨fun t=>aj.mono B7 (f.rel.tmps t),U.bp⟩,f.le.trans B7,IJ f.tN rfl rfl,fun D i=>IJ (f.Qg D i) rfl rfl⟩;show ∃w₂,_/\_;refine⟨_,run_beginRound Gk.tN (by rw[q]),?_⟩;have s:dA X ⟨w,φ,σ.O⟩ σ.T a l Dq (d .busy none) σ1.O φ1 (j.putObj l (.loop (d .busy none))):=Gk.put hl bW;have TE: ({d .ready none with state:= .busy}:Loop)=d .busy none:=by rw[q]
  rw[TE];have N:ju X ⟨j,φ1,σ1.O⟩ (j.putObj l (.loop (d .busy none))):=jv (μ:=⟨j,φ1,σ1.O⟩) Gk.tN rfl rfl;have M7:kB X ⟨j.putObj l (.loop (d .busy none)),φ1,σ1.O⟩ ⟨n.tm,0,some l⟩ σ1 a1 (j.putObj l (.loop (d .busy none))):=by refine⟨?_,vD,φ1,⟨fun t=>aj.cE N (U.tmps t),s.rel.bp⟩,Le.refl _⟩;obtain⟨_,Ds,m1,m2,Y⟩:=TD;refine⟨⟨akk _,fun l' z=>by injection z with z;subst z;exact⟨_,s.tN⟩⟩,Ds,m1,m2,fun D i=> ⟨akk _,?_⟩⟩;rw[World.putObj_heap_other (fun e=>by have:=(Y D i).2;rw[e,Gk.tN] at this;simp at this)];exact(Y D i).2
  split at m
  .
    rename_i σ2 h2;refine wpIn_mono (R l _ _ _ _ _ _ h2 M7) fun ex a3 w3 G=> ?_;obtain⟨rfl,_,_,φ3,Wh,y⟩:=G;have pK: ∀ {b:Nat} {o:Go.Obj},(j.putObj l (.loop (d .busy none))).heap[b]? =some o->o.isCells=false->o.isWalk=false->w3.heap[b]? =some o:=fun {b o} hb i1 i2=>
       (y.cn b (ajs.1 hb).1 (dK s.rel.bp hb i1 i2)).1.trans hb
    have Gl:dA X ⟨w,φ,σ.O⟩ σ.T a l Dq (d .busy none) σ2.O φ3 w3:=⟨⟨fun t=>aj.mono y (s.rel.tmps t),Wh.bp⟩,s.le.trans y,pK s.tN rfl rfl,fun D i=>pK (s.Qg D i) rfl rfl⟩;have IK:dA X ⟨w,φ,σ.O⟩ σ.T a l Dq (d .ready none) σ2.O φ3 (w3.putObj l (.loop (d .ready none))):=Gl.put hl bW;have C: ({d .busy none with state:=if (none:Option Code).isNone then .ready else .done,pending:=none}:Loop)=d .ready none:=by rw[q];rfl
    have Vc: ∀b,F b->(w3.putObj l (.loop (d .ready none))).heap[b]? =W.heap[b]? /\b<w3.heap.size/\ ¬Mu.own ⟨w3,φ3,σ2.O⟩ b:=fun b hb=>by obtain⟨f1,f2,Z⟩:=J b hb;have g1:=B7.cn b f1 f2;have s1:W.heap.size<=j.heap.size:=B7.size;have s2: (j.putObj l (.loop (d .busy none))).heap.size<=w3.heap.size:=y.size;have s3: (j.putObj l (.loop (d .busy none))).heap.size=j.heap.size:=World.putObj_size ..;have g2:=y.cn b (by show b< (j.putObj l (.loop (d .busy none))).heap.size;omega) g1.2;refine⟨?_,ajk,g2.2⟩;rw[World.putObj_heap_other Z,show w3.heap[b]? =(j.putObj l (.loop (d .busy none))).heap[b]? from g2.1,World.putObj_heap_other Z];exact g1.1
    refine⟨_,_,run_endRound none Gl.tN,.inl ⟨rfl,⟨σ2.O,φ3,by rw[C];exact IK,m,fun b hb=> ?_⟩,fun b hb hn=> ?_,fun b hb=> ?_⟩⟩
    .  rw[C]
       refine⟨?_,(Vc b hb).2.2,(J b hb).2.2⟩;rw[show (w3.putObj l (.loop (d .ready none))).heap.size=w3.heap.size from World.putObj_size ..];exact(Vc b hb).2.1
    .  rw[C]
       exact(IK.le.cn b hb hn).1.trans (f.le.cn b hb hn).1.symm
    rw[C];exact(Vc b hb).1
  .
    rename_i e2 σ2 Q h2;simp only[ajq,ajv] at m;obtain⟨rfl,rfl⟩:=m;refine wpIn_mono (R l _ _ _ _ _ _ h2 M7) fun ex a3 w3 G=> ?_;obtain⟨rfl,_,_,φ3,Wh,y⟩:=G;have pK: ∀ {b:Nat} {o:Go.Obj},(j.putObj l (.loop (d .busy none))).heap[b]? =some o->o.isCells=false->o.isWalk=false->w3.heap[b]? =some o:=fun {b o} hb i1 i2=>
       (y.cn b (ajs.1 hb).1 (dK s.rel.bp hb i1 i2)).1.trans hb
    have Gl:dA X ⟨w,φ,σ.O⟩ σ.T a l Dq (d .busy none) σ2.O φ3 w3:=⟨⟨fun t=>aj.mono y (s.rel.tmps t),Wh.bp⟩,s.le.trans y,pK s.tN rfl rfl,fun D i=>pK (s.Qg D i) rfl rfl⟩;have IK: ∀c,dA X ⟨w,φ,σ.O⟩ σ.T a l Dq (d .done (some c)) σ2.O φ3 (w3.putObj l (.loop (d .done (some c)))):=fun c=>Gl.put hl bW;have C: ∀c,({d .busy none with state:=if (some c:Option Code).isNone then .ready else .done,pending:=some c}:Loop)=d .done (some c):=fun c=>by rw[q];rfl
    cases e2 with
    | normal=>exact absurd rfl (Q ·)
    | exit id=>exact⟨_,_,run_endRound (some (.exit id)) Gl.tN,.inr ⟨rfl,σ2.O,φ3,_,by rw[C];exact IK _,rfl,.inr ⟨id,rfl,rfl⟩⟩⟩
    | ret=>exact⟨_,_,run_endRound (some .ret) Gl.tN,.inr ⟨rfl,σ2.O,φ3,_,by rw[C];exact IK _,rfl,.inl ⟨rfl,rfl⟩⟩⟩
  simp at m
 refine CallsIn.mono (show CallsIn (Fr n.ro) (0 - 1) X.P gf _ W1 _ from key) ?_;rintro ending W' ⟨⟨v,rfl⟩,(⟨_,O,φ',f,m,_⟩ | ⟨k,_,O,φ',c,f,hσ,hc⟩)⟩
 .rw[alr ajk] at m;simp only[vZ,ajq,ajv] at m;obtain⟨rfl,rfl⟩:=m;exact⟨none,_,by have:=run_endLoop (P:=X.P) f.tN (by rw[q];simp);rw[this,q],rfl,yB K bM hr.bp I (f.put hl bW) fun D i=> (TC D i).1⟩
 subst hσ;refine⟨some c,_,by have:=run_endLoop (P:=X.P) f.tN (by rw[q];simp);rw[this,q],?_⟩;have H:=yB K bM hr.bp I (f.put (L':=d .exhausted (some c)) hl bW) fun D i=> (TC D i).1;rcases hc with⟨rfl,rfl⟩ | ⟨id,rfl,rfl⟩
 . refine wpIn_ret ⟨rfl,?_⟩
   rw[q] at H;exact H
 refine wpIn_exit ⟨rfl,?_⟩;rw[q] at H;exact H
end Go.AM
namespace Go.AM
open Go Go.RowKit
def Ends (X:Ctx) (μ0:Mu) (n:Fp) (e:aW) (σ:St):Go.Exit->Go.Act->World->Prop:=fun ex a w=>ex=e.conv/\kB X μ0 n σ a w
section
variable {X:Ctx} {E:Env} {μ0:Mu} {n:Fp}
theorem CH {σ:St} {a:Go.Act} {w:World} (hs:kB X μ0 n σ a w) {c:Operand} {c':ba} (hc:dy X c=some c') {b:Bool} (hb:bE σ c'= .bool b):a.eval c= .bool b:=by obtain⟨_,_,φ,hr,_⟩:=hs;have:=aX hr hc σ.O;have e:bE ⟨σ.T,σ.O⟩ c'=bE σ c':=rfl;rw[e,hb] at this;simpa [aj] using this
theorem oH {h:Hints} {i:Nat} {ops:Array Oper} {d:Bool} {b:Code} {ta tb:a8}:IZ h (.region i ops d) b ta tb= .seq ta tb:=by simp[IZ,Gt]
theorem PI {h:Hints} {c:Operand} {x y b:Code} {ta tb:a8}:IZ h (.cond c x y) b ta tb= .seq ta tb:=by simp[IZ,Gt]
theorem LU {h:Hints} {x y:Code} {ax ay:a8}:IZ h x y ax ay= .seq ax ay\/ ∃i PJ j i0 ops k l m b1 i5 ja z5 id o Us p rest it nx ne kT kO o1 o5 q b aL c d e f g Cg,
  x= .seq (.region i PJ j) (.block id (.loop (.seq (.region i0 ops false) (.seq (.cond k l m) (.block b1 (.seq (.region i5 ja false) z5))))))/\y= .seq (.region o Us p) rest/\(ops[0]? =some o1/\o1.op= .next (.tmp it) false/\o1.dst=some nx/\o1.guard=none/\nx<h.n)/\
  (ja[0]? =some o5/\o5.op= .entry (.tmp it)/\o5.dst=some ne/\o5.guard=none/\ne<h.n)/\
  ax= .seq f (.block q (.loop (.seq (.region aL) (.seq c (.block b (.seq (.region d) e))))))/\ay= .seq g Cg/\IZ h x y ax ay= .seq f (.seq (.keys it nx ne id kT kO (.seq (.region (aL.drop 1)) c) (.block b (.seq (.region (d.drop 1)) e)) g) Cg):=by
 unfold IZ;split
 .rename_i it nx ne id kT kO f q aL c b d e g Cg a hr;right
  unfold Gt at a;split at a
  .rename_i i PJ j r i0 ops k l m b1 i5 ja z5;split at a
   .rename_i o1 o5 A s;split at a
    .rename_i B t u v C D E F G H;split at a
     .split at a
      .rename_i hn;simp only[ajq,ajv] at a;obtain⟨rfl,rfl,rfl,rfl,rfl,rfl⟩:=a;obtain⟨w,z,rfl⟩:=hn;unfold IY at hr;split at hr
       .rename_i o Us p rest;exact⟨i,PJ,j,i0,ops,k,l,m,b1,i5,ja,z5,r,o,Us,p,rest,u,t,v,_,_,o1,o5,q,b,aL,c,d,e,f,g,Cg,rfl,rfl,⟨A,C,D,E,w⟩,⟨s,F,G,H,z⟩,rfl,rfl,rfl⟩
       simp at hr
      simp at a
     simp at a
    simp at a
   simp at a
  simp at a
 exact .inl rfl
def Nf (X:Ctx) (E:Env):Prop:= ∀g F caps xs,E.iter g caps=some xs->X.gA F=some g-> ∀ (μ:Mu) (lb:Array Value),ag X μ caps lb.toList->bq X μ->AG X μ F lb xs
theorem nz (     hm:X.P.follows .mixedOrders=true) (qT:Nf X E) {h:Hints}: ∀ (q:Nat),(∀m,m<q->sA X E (dM E (exec E m)))-> ∀ {n:Fp} (hn:h.n=n.1) {μ0:Mu} (c:Code) (ac:a8) (σ σ':St) (e:aW) (a:Go.Act) (w:World),
   cM X h c=some ac->exec E q ac σ=some (e,σ')->kB X μ0 n σ a w->c.wpIn (Fr n.ro) 0 X.P (Ends X μ0 n e σ') a w:=by
 intro q;induction q using Nat.strongRecOn with
 | _ Jr z=>
   intro D n hn μ0 c;rcases ajY Jr with h0| zU
   .subst h0;intro ac σ σ' e a w _ i;simp[exec] at i
   obtain⟨q,rfl⟩: ∃f,Jr=f+1:=⟨Jr - 1,ajk⟩;have Qm: ∀m,m<q->sA X E (dM E (exec E m)):=fun m G9=>D m ajk;have A:=z q ajk;have H:=D q ajk;cases c with
   | skip=>
     intro ac σ σ' e a w j i hs;simp[cM] at j;subst j;simp[exec,aK] at i;obtain⟨rfl,rfl⟩:=i;exact wpIn_skip ⟨rfl,hs⟩
   | region id ops d=>
     intro ac σ σ' e a w j i hs;cases d with
     | false=>
       simp only[cM,ajr] at j;obtain⟨aL,h1,rfl⟩:=j;simp only[exec,aK,ajr,ajv] at i;obtain⟨σ1,h2,rfl,rfl⟩:=i;refine wpIn_region ?_;rw[akP];exact gD H hn h1 ops.size 0 ajk hs (by simpa using h2) fun a' w' t=> ⟨rfl,t⟩
     | true=>
       simp only[cM,ajr] at j;obtain⟨aL,h1,rfl⟩:=j;simp only[exec,aK,ajr,ajv] at i;obtain⟨σ1,h2,rfl,rfl⟩:=i;exact Jn H hm hn h1 hs h2 fun a' w' t=> ⟨rfl,t⟩
   | seq x y=>
     intro ac σ σ' e a w j i hs;simp only[cM] at j;split at j
     . rename_i ax ay h1 h2
       injection j with j;subst j;rcases LU (h:=h) (x:=x) (y:=y) (ax:=ax) (ay:=ay) with W| W
       rotate_left
       . obtain⟨iR,PJ,dR,i0,ops,cc,cx,cy,b1,i5,ja,z5,id,iS,Us,dS,rest,it,nx,ne,kT,kO,o1,o5,Y,b1',aL,tc,bs,tz,tR,tS,Cg,rfl,rfl,⟨ho,k1,k2,k3,Ew⟩,⟨L,k4,k5,k6,bW⟩,rfl,rfl,W⟩:=W
         rw[W] at i;simp only[cM] at h1 h2;split at h1
         rotate_left
         .simp at h1
         rename_i t1 t2 g1 B;rw[oH] at h1;simp only[ajq,a8.seq.injEq] at h1;obtain⟨rfl,rfl⟩:=h1;split at h2
         rotate_left
         .simp at h2
         rename_i t3 t4 g3 g4;rw[oH] at h2;simp only[ajq,a8.seq.injEq] at h2;obtain⟨rfl,rfl⟩:=h2;rw[ajr] at B;obtain⟨q1,B,e2⟩:=B;rw[ajr] at B;obtain⟨q2,B,Z⟩:=B;subst Z;simp only[a8.block.injEq,a8.loop.injEq] at e2;obtain⟨rfl,e2⟩:=e2;subst e2;split at B
         rotate_left
         .simp at B
         rename_i t5 t6 g5 g6;rw[oH] at B;simp only[ajq,a8.seq.injEq] at B;obtain⟨e3,e4⟩:=B;subst e3 e4;rw[ajr] at g5;obtain⟨l,g5,e4⟩:=g5;simp only[a8.region.injEq] at e4;subst e4;split at g6
         rotate_left
         .simp at g6
         rename_i t7 t8 g7 I;rw[PI] at g6;simp only[ajq,a8.seq.injEq] at g6;obtain⟨e5,e6⟩:=g6;subst e5 e6;rw[ajr] at I;obtain⟨q3,I,e7⟩:=I;simp only[a8.block.injEq] at e7;obtain⟨rfl,e7⟩:=e7;subst e7;split at I
         rotate_left
         .simp at I
         rename_i t9 M g9 g10;rw[oH] at I;simp only[ajq,a8.seq.injEq] at I;obtain⟨e8,e9⟩:=I;subst e8 e9;rw[ajr] at g9;obtain⟨l5,g9,e10⟩:=g9;simp only[a8.region.injEq] at e10;subst e10;simp only[exec,aK] at i;refine wpIn_seq (wpIn_seq ?_);split at i
         rotate_left
         .rename_i r Ci;refine wpIn_mono (A Qm hn (.region iR PJ dR) _ σ σ' e a w (by simpa only[cM] using g1) i hs) fun ex a' w' u=> ?_;obtain⟨rfl,t⟩:=u;cases e with
          | normal=>exact absurd i (Ci σ')
          | exit id=>exact⟨rfl,t⟩
          | ret=>exact⟨rfl,t⟩
         rename_i σ1 hx;refine wpIn_mono (A Qm hn (.region iR PJ dR) _ σ σ1 .normal a w (by simpa only[cM] using g1) hx hs) fun ex a' w' u=> ?_;obtain⟨rfl,jT⟩:=u;rcases ajY q with hf| hf
         .subst hf;simp[exec] at i
         obtain⟨f1,rfl⟩: ∃f,q=f+1:=⟨q - 1,ajk⟩;simp only[exec,aK] at i;rcases ajY f1 with hf1| hf1
         .subst hf1;simp[exec] at i
         obtain⟨f2,rfl⟩: ∃f,f1=f+1:=⟨f1 - 1,ajk⟩;have hB:GJ X n ops (.cond cc cx cy) (exec E f2) (.seq (.region ((l.map fun o=> {o with pre:=[]}).drop 1)) t7):=by
          intro s G e' μ1 a1 w1 Q K hb N hQ hK;rcases ajY f2 with Og| Og
          .subst Og;simp[exec] at hb
          obtain⟨S,rfl⟩: ∃f,f2=f+1:=⟨f2 - 1,ajk⟩;simp only[exec,aK] at hb;rcases ajY S with C| C
          .subst C;simp[exec] at hb
          obtain⟨U,rfl⟩: ∃f,S=f+1:=⟨S - 1,ajk⟩;have bM:0 <ops.size:=(ajs.1 ho).1;split at hb
          rotate_left
          .rename_i r Ci;simp only[exec,aK,ajr,ajv] at hb;obtain⟨s1,h3,rfl,rfl⟩:=hb;exact absurd (by simp only[exec,aK,h3,ajE]) (Ci s1)
          rename_i s1 Ut;simp only[exec,aK,ajr,ajv,true_and] at Ut;obtain⟨s2,h3,rfl⟩:=Ut;refine gD (D U ajk) hn g5 (ops.size - 1) 1 ajk N (by rw[List.map_drop];exact h3) fun a2 w2 qj=>hK _ _ ?_;refine wpIn_mono (z (U+1) ajk (fun m G9=>D m ajk) hn (.cond cc cx cy) t7 s2 G e' a2 w2 (by simpa only[cM] using g7) hb qj) fun ex a3 w3 u=> ?_;obtain⟨rfl,Er⟩:=u;have:=hQ a3 w3 Er;cases e'<;>exact this
         have hM:LR X n ja z5 b1 (exec E f2) (.block b1 (.seq (.region ((l5.map fun o=> {o with pre:=[]}).drop 1)) M)):=by
          intro s G μ1 a1 w1 Q hb N hQ;rcases ajY f2 with Og| Og
          .subst Og;simp[exec] at hb
          obtain⟨S,rfl⟩: ∃f,f2=f+1:=⟨f2 - 1,ajk⟩;simp only[exec,aK] at hb;rcases ajY S with C| C
          .subst C;simp[exec] at hb
          obtain⟨U,rfl⟩: ∃f,S=f+1:=⟨S - 1,ajk⟩;have bM:0 <ja.size:=(ajs.1 L).1;have inner: ∀e' (R:Go.Exit->Go.Act->World->Prop),exec E (U+1) (.seq (.region ((l5.map fun o=> {o with pre:=[]}).drop 1)) M) s=some (e',G)->(∀a' w',kB X μ1 n G a' w'->R e'.conv a' w')->wpOpsIn (Fr n.ro) 0 X.P ja (Exit.then (z5.wpIn (Fr n.ro) 0 X.P R) R) (List.range' 1 (ja.size - 1)) a1 w1:=by
           intro e' R hb hR;simp only[exec,aK] at hb;rcases ajY U with hf4| hf4
           .subst hf4;simp[exec] at hb
           obtain⟨f5,rfl⟩: ∃f,U=f+1:=⟨U - 1,ajk⟩;split at hb
           rotate_left
           .rename_i r Ci;simp only[exec,aK,ajr,ajv] at hb;obtain⟨s1,h3,rfl,rfl⟩:=hb;exact absurd (by simp only[exec,aK,h3,ajE]) (Ci s1)
           rename_i s1 Ut;simp only[exec,aK,ajr,ajv,true_and] at Ut;obtain⟨s2,h3,rfl⟩:=Ut;refine gD (D f5 ajk) hn g9 (ja.size - 1) 1 ajk N (by rw[List.map_drop];exact h3) fun a2 w2 qj=> ?_;refine wpIn_mono (z (f5+1) ajk (fun m G9=>D m ajk) hn z5 M s2 G e' a2 w2 g10 hb qj) fun ex a3 w3 u=> ?_;obtain⟨rfl,Er⟩:=u;exact hR a3 w3 Er
          split at hb
          .rename_i Y s1 jB;split at hb
           .rename_i V;simp only[ajq,ajv,true_and] at hb;subst hb;subst V;exact inner _ _ jB fun a' w' t=>by simp only[aW.conv,Go.Exit.inBlock,if_true];exact hQ a' w' t
           simp at hb
          exact inner _ _ hb fun a' w' t=>hQ a' w' t
         split at i
         rotate_left
         .rename_i r Ci;obtain⟨rfl,_⟩:=CG (μ0:=μ0) (i0:=i0) (i5:=i5) hB hM ho k1 k2 k3 (by rw[<-hn];exact Ew) L k4 k5 k6 (by rw[<-hn];exact bW) i jT;exact absurd i (Ci σ')
         rename_i σ2 hkr;obtain⟨_,hwp⟩:=CG (μ0:=μ0) (i0:=i0) (i5:=i5) hB hM ho k1 k2 k3 (by rw[<-hn];exact Ew) L k4 k5 k6 (by rw[<-hn];exact bW) hkr jT;refine wpIn_mono hwp fun ex a2 w2 u=> ?_;obtain⟨rfl,σe,σp,q1,q2,q3⟩:=u;refine wpIn_seq ?_;refine wpIn_mono (z f2 ajk (fun m G9=>D m ajk) hn (.region iS Us dS) _ σe σp .normal a2 w2 (by simpa only[cM] using g3) q2 q1) fun ex a3 w3 u=> ?_;obtain⟨rfl,Er⟩:=u;exact z (f2+1) ajk (fun m G9=>D m ajk) hn rest _ σ2 σ' e a3 w3 g4 i (q3 a3 w3 Er)
       rw[W] at i;simp only[exec,aK] at i;refine wpIn_seq ?_;split at i
       . rename_i σ1 hx
         refine wpIn_mono (A Qm hn x ax σ σ1 .normal a w h1 hx hs) fun ex a' w' u=> ?_;obtain⟨rfl,t⟩:=u;exact A Qm hn y ay σ1 σ' e a' w' h2 i t
       rename_i r bW;refine wpIn_mono (A Qm hn x ax σ σ' e a w h1 i hs) fun ex a' w' u=> ?_;obtain⟨rfl,t⟩:=u;cases e with
       | normal=>exact absurd i (bW σ')
       | exit id=>exact⟨rfl,t⟩
       | ret=>exact⟨rfl,t⟩
     simp at j
   | cond c x y=>
     intro ac σ σ' e a w j i hs;simp only[cM] at j;split at j
     . rename_i c' ax ay h0 h1 h2
       injection j with j;subst j;simp only[exec,aK] at i;split at i
       . rename_i hb
         exact wpIn_cond_true (CH hs h0 hb) (A Qm hn x ax σ σ' e a w h1 i hs)
       . rename_i hb
         exact wpIn_cond_false (CH hs h0 hb) (A Qm hn y ay σ σ' e a w h2 i hs)
       simp at i
     simp at j
   | block id b=>
     intro ac σ σ' e a w j i hs;simp only[cM,ajr] at j;obtain⟨J,h1,rfl⟩:=j;simp only[exec,aK] at i;refine wpIn_block ?_;split at i
     . rename_i Y σ1 hb
       refine wpIn_mono (A Qm hn b J σ σ1 (.exit Y) a w h1 hb hs) fun ex a' w' u=> ?_;obtain⟨rfl,t⟩:=u;simp only[aW.conv,Go.Exit.inBlock];split at i
       . rename_i V
         simp only[ajq,ajv] at i;obtain⟨rfl,rfl⟩:=i;rw[if_pos V];exact⟨rfl,t⟩
       rename_i bW;simp only[ajq,ajv] at i;obtain⟨rfl,rfl⟩:=i;rw[if_neg bW];exact⟨rfl,t⟩
     rename_i r bW;refine wpIn_mono (A Qm hn b J σ σ' e a w h1 i hs) fun ex a' w' u=> ?_;obtain⟨rfl,t⟩:=u;cases e with
     | normal=>exact⟨rfl,t⟩
     | exit Y=>exact absurd i (bW Y σ')
     | ret=>exact⟨rfl,t⟩
   | loop b=>
     intro ac σ σ' e a w j i hs;simp only[cM,ajr] at j;obtain⟨J,h1,rfl⟩:=j;have rounds: ∀ (k:Nat),k<=q+1-> ∀ (σ:St),exec E k (.loop J) σ=some (e,σ')-> ∃m,∀a w,kB X μ0 n σ a w->Code.roundsIn (Fr n.ro) 0 X.P b (Ends X μ0 n e σ') m a w:=by
       intro k;induction k with
       | zero=>intro _ σ hr;simp[exec] at hr
       | succ k ihk=>
         intro W σ hr;simp only[exec,aK] at hr;have body: ∀ (σ1:St) (Z:aW),exec E k J σ=some (Z,σ1)-> ∀a w,kB X μ0 n σ a w->b.wpIn (Fr n.ro) 0 X.P (Ends X μ0 n Z σ1) a w:=fun σ1 Z hx a w hs=>
          z k ajk (fun m G9=>D m ajk) hn b J σ σ1 Z a w h1 hx hs
         split at hr
         .rename_i σ1 hx;obtain⟨m,ME⟩:=ihk ajk σ1 hr;refine⟨m+1,fun a w hs=> ?_⟩;rw[roundsIn_succ];refine wpIn_mono (body σ1 .normal hx a w hs) fun ex a' w' u=> ?_;obtain⟨rfl,t⟩:=u;exact ME a' w' t
         rename_i r bW;refine⟨1,fun a w hs=> ?_⟩;rw[roundsIn_succ];refine wpIn_mono (body σ' e hr a w hs) fun ex a' w' u=> ?_;obtain⟨rfl,t⟩:=u;cases e with
         | normal=>exact absurd hr (bW σ')
         | exit Y=>exact⟨rfl,t⟩
         | ret=>exact⟨rfl,t⟩
     obtain⟨m,G9⟩:=rounds (q+1) (ajw _) σ i;exact wpIn_loop_rounds m (G9 a w hs)
   | exit id=>
     intro ac σ σ' e a w j i hs;simp[cM] at j;subst j;simp[exec,aK] at i;obtain⟨rfl,rfl⟩:=i;exact wpIn_exit ⟨rfl,hs⟩
   | ret=>
     intro ac σ σ' e a w j i hs;simp[cM] at j;subst j;simp[exec,aK] at i;obtain⟨rfl,rfl⟩:=i;exact wpIn_ret ⟨rfl,hs⟩
   | label l=>
     intro ac σ σ' e a w j i hs;simp[cM] at j;subst j;simp[exec,aK] at i;obtain⟨rfl,rfl⟩:=i;exact wpIn_label ⟨rfl,hs⟩
   | scope b=>
     intro ac σ σ' e a w j i hs;simp only[cM,ajr] at j;obtain⟨J,h1,rfl⟩:=j;simp only[exec,aK] at i;refine LV ?_;refine wpIn_mono (A Qm hn b J σ σ' e a w h1 i hs) fun ex a' w' u=> ?_;obtain⟨rfl,t⟩:=u;cases e<;>exact⟨rfl,t⟩
   | rangeFunc f ps x y=>
     intro ac σ σ' e a w j i hs;simp only[cM] at j;split at j
     rotate_left
     .simp at j
     rename_i f' ax ay h0 h1 h2;split at j
     rotate_left
     .simp at j
     rename_i xJ;injection j with j;subst j;simp only[exec,aK] at i;split at i
     . rename_i g caps nr
       split at i
       . rename_i xs Mf
         split at i
         .rename_i hlen;obtain⟨lz,bM,φ,hr,hle⟩:=hs;have hf:=aX hr h0 σ.O;have VW:bE ⟨σ.T,σ.O⟩ f'= .fn g caps:=nr;rw[VW] at hf;simp only[aj] at hf;obtain⟨F,cv,hF,PK,xq⟩:=hf;refine Jq (lb:=cv) (xs:=xs) (rec:=exec E q) ?_ ?_ ⟨lz,bM,φ,hr,hle⟩ ?_ hF ?_ ?_ i
          .intro l s G e' m b v hb N;exact A Qm (n:=⟨n.tm,0,some l⟩) hn x ax s G e' b v h1 hb N
          .intro l s G e' m b v hb N;exact A Qm (n:=⟨n.tm,0,some l⟩) hn y ay s G e' b v h2 hb N
          .intro p hp;rw[ajx] at xJ;have:=xJ p hp;rw[Nat.blt_eq] at this;rw[hn] at this;exact this
          .intro φ2 qU;exact qT g F caps xs Mf PK ⟨w,φ2,σ.O⟩ cv (by have Og:=aX qU h0 σ.O;have ait:bE ⟨σ.T,σ.O⟩ f'= .fn g caps:=nr;rw[ait] at Og;simp only[aj] at Og;obtain⟨F2,cv2,hF2,_,aaF⟩:=Og;rw[hF] at hF2;injection hF2 with _ _ e3;rw[e3];exact aaF) qU.bp
          intro x hx;rw[ajx] at hlen;have:=hlen x hx;rw[akV] at this;simpa using this
         simp at i
       simp at i
     simp at i
   | goto l=>
     intro ac σ σ' e a w j i hs;simp[cM] at j;subst j;simp[exec,aK] at i
   | refuse y=>
     intro ac σ σ' e a w j i hs;simp[cM] at j;subst j;simp[exec,aK] at i
end
end Go.AM
