/- Texts of the proof. -/
import Derived.Test.YtdifmldbllaeiaaGreatOpsC
import Derived.Test.YtdifmldbllaeiaaGreatRows
import Derived.WalkKit
import Derived.RangeFuncRecord
import Derived.Tactics
import Derived.Tactics2
import Derived.Orders
import Derived.StillTail
set_option maxHeartbeats 4000000
set_option linter.unusedSimpArgs false
set_option linter.unusedVariables false
namespace Go.Proofs
open Go.RowKit Go.AM Go.Proofs.YtdifmldbllaeiaaGreat
theorem ltk {a b k:Nat} (h:a<b): (a<b+k)=True:=eq_true ae0
attribute [local go_sem] ltk
@[local go_sem] theorem lF {w:World} {o:Obj} {a:Addr} (h:a.block<w.heap.size): (w.alloc o).cell? a=w.cell? a:=by
  simp only[World.cell?,Below.heap_alloc w o a.block h]
@[local go_sem] theorem jz {w:World} {o1 o2 o3:Obj} {a:Addr} (h:a.block<w.heap.size): (((w.alloc o1).alloc o2).alloc o3).cell? a=w.cell? a:=by
  rw[lF (by simp only[World.size_alloc];omega),lF (by simp only[World.size_alloc];omega),lF h]
@[local go_sem] theorem cZ {w:World} {o:Obj} {r:Nat} (h:r<w.heap.size): (w.alloc o).heap[r]? =w.heap[r]? :=Below.heap_alloc w o r h
theorem jQ {fn:Func} {p:Tmp} {ty:TypeId} (h:fn.results= #[.cell p ty]) (tmps:Array Value) (P:Program) (w:World):
  (results fn tmps).run P w=((asAddr (tmps.getD p undef)).run P w).andThen fun a w₁=> (loadVar ty a).run P w₁:=by
 simp only[results,h]
 simp[Sem.run_bind,Result.andThen]
theorem QQ (W:World) (a b:Obj): ((W.alloc a).alloc b).heap[W.heap.size+1]? =some b:=by
 have:=World.alloc_heap_new (W.alloc a) b
 rwa [World.size_alloc] at this
def Hid (p:Prop):Prop:=p
theorem UQ {p:Prop} (h:Hid p):p:=h
theorem gG {A B C:World} {row:Option Nat} (h:A.grownBy B row) (k:B.grownBy C row):A.grownBy C row:=
 ⟨k.os.trans h.os,k.tape.trans h.tape,k.output.trans h.output,agm h.size k.size,fun i hi hr=> (k.block i (af9 hi h.size) hr).trans (h.block i hi hr)⟩
theorem nK {A B:World} {row:Option Nat} (h:A.grownBy B row) {a:Addr} (ha:A.heap.size≤a.block) (v:Value):A.grownBy (B.setCell a v) row:=
 ⟨h.os,h.tape,h.output,by simpa using h.size,fun i hi hr=> (Below.heap_setCell _ _ _ _ ae0).trans (h.block i hi hr)⟩
theorem uO {A B:World} (h:A.grownBy B none) (row:Option Nat):A.grownBy B row:=⟨h.os,h.tape,h.output,h.size,fun i hi _=>h.block i hi afU⟩
theorem GK (W:World) (a b c:Obj):W.grownBy (((W.alloc a).alloc b).alloc c) none:=gG (gG (World.grownBy_alloc W a none) (World.grownBy_alloc _ b none)) (World.grownBy_alloc _ c none)
set_option maxRecDepth 100000 in
theorem I7 (W:World) (Bs Bc bm clock:Nat) (ents:Array MapEntry) (a b c p q r:Int) (ok:Bool) (xO:Bs<W.heap.size) (pF:Bc<W.heap.size) (IV:bm<W.heap.size)
  (hs:W.cell? ⟨Bs,0,none⟩=some (.map (some bm))) (hc:W.cell? ⟨Bc,0,none⟩=some (.func (.func 75) #[] #[.pointer (some ⟨Bs,0,none⟩),.pointer (some ⟨Bc,0,none⟩)]))
  (hm:W.heap[bm]? =some (.map ents clock)) (mm:ok=true→p=a∧q=b∧r=c)
  (QR: ∀w:World,w.heap[bm]? =some (.map ents clock)→(Instr.lookup 72 (.map (some bm)) (.agg #[.int .i64 a,.int .i64 b,.int .i64 c]) true).run Tryz.prog w= .ok (.tuple #[.agg #[.int .i64 p,.int .i64 q,.int .i64 r],.bool ok]) w):
  Calls Tryz.prog 75 #[.agg #[.int .i64 a,.int .i64 b,.int .i64 c],.pointer (some ⟨Bs,0,none⟩),.pointer (some ⟨Bc,0,none⟩)] W fun e W'=>e= .returned (.agg #[.int .i64 a,.int .i64 b,.int .i64 c])∧W.grownBy W' none:=by
 go_enter Tryz.func75,Tryz.ntmps75
 go_wp2
 rw[QR _ (by rw[cZ (by rw[World.size_alloc];omega),cZ IV];exact hm)]
 cases ok
 ·go_wp2
  refine bodyPost_ret (by rw[jQ rfl];go_simp;rfl) rfl ?_
  exact⟨rfl,GK _ _ _ _⟩
 ·obtain⟨rfl,rfl,rfl⟩:=mm rfl
  go_wp2
  refine bodyPost_ret (by rw[jQ rfl];go_simp;rfl) rfl ?_
  exact⟨rfl,GK _ _ _ _⟩
set_option maxRecDepth 100000 in
theorem Ms (W:World) (Bs Bc bm clock:Nat) (ents:Array MapEntry) (a b c p q r u v z:Int) (Z:Array MapEntry→Nat→Prop) (Z':Array MapEntry→Nat→Prop) (xO:Bs<W.heap.size) (pF:Bc<W.heap.size) (IV:bm<W.heap.size)
  (hs:W.cell? ⟨Bs,0,none⟩=some (.map (some bm))) (hc:W.cell? ⟨Bc,0,none⟩=some (.func (.func 75) #[] #[.pointer (some ⟨Bs,0,none⟩),.pointer (some ⟨Bc,0,none⟩)]))
  (hm:W.heap[bm]? =some (.map ents clock)) (aby: (p==a && (q==b &&r==c))=false)
  (QR: ∀w:World,w.heap[bm]? =some (.map ents clock)→(Instr.lookup 72 (.map (some bm)) (.agg #[.int .i64 a,.int .i64 b,.int .i64 c]) true).run Tryz.prog w= .ok (.tuple #[.agg #[.int .i64 p,.int .i64 q,.int .i64 r],.bool true]) w)
  (PI: ∀w:World,Bs<w.heap.size→Bc<w.heap.size→bm<w.heap.size→w.cell? ⟨Bs,0,none⟩=some (.map (some bm))→w.cell? ⟨Bc,0,none⟩=some (.func (.func 75) #[] #[.pointer (some ⟨Bs,0,none⟩),.pointer (some ⟨Bc,0,none⟩)])→w.heap[bm]? =some (.map ents clock)→
    Calls Tryz.prog 75 #[.agg #[.int .i64 p,.int .i64 q,.int .i64 r],.pointer (some ⟨Bs,0,none⟩),.pointer (some ⟨Bc,0,none⟩)] w fun e W'=>e= .returned (.agg #[.int .i64 u,.int .i64 v,.int .i64 z])∧w.grownBy W' (some bm)∧ ∃en cl,W'.heap[bm]? =some (.map en cl)∧Z en cl)
  (Xd: ∀ (w:World) en cl,w.heap[bm]? =some (.map en cl)→Z en cl→ ∃w3 DU DV,(Instr.mapUpdate 72 (.map (some bm)) (.agg #[.int .i64 a,.int .i64 b,.int .i64 c]) (.agg #[.int .i64 u,.int .i64 v,.int .i64 z])).run Tryz.prog w= .ok () w3∧w.grownBy w3 (some bm)∧w3.heap[bm]? =some (.map DU DV)∧Z' DU DV):
  Calls Tryz.prog 75 #[.agg #[.int .i64 a,.int .i64 b,.int .i64 c],.pointer (some ⟨Bs,0,none⟩),.pointer (some ⟨Bc,0,none⟩)] W fun e W'=>e= .returned (.agg #[.int .i64 u,.int .i64 v,.int .i64 z])∧W.grownBy W' (some bm)∧ ∃en cl,W'.heap[bm]? =some (.map en cl)∧Z' en cl:=by
 go_enter Tryz.func75,Tryz.ntmps75
 go_wp2
 rw[QR _ (by rw[cZ (by rw[World.size_alloc];omega),cZ IV];exact hm)]
 go_wp2_with (go_at_call 75;refine UQ ?_)
 all_goals subst_vars
 all_goals (try (exfalso;simp at aby;done))
 all_goals unfold Hid
 all_goals refine Calls.mono (PI _ (by simp only[World.size_alloc];omega) (by simp only[World.size_alloc];omega) (by simp only[World.size_alloc];omega) (by rw[jz xO];exact hs) (by rw[jz pF];exact hc) (by rw[cZ (by simp only[World.size_alloc];omega),cZ (by simp only[World.size_alloc];omega),cZ IV];exact hm)) ?_
 all_goals rintro e w2 ⟨rfl,hg,en,cl,Mz,hZ⟩
 all_goals have bF:W.heap.size+3≤w2.heap.size:=by have:=hg.size;simp only[World.size_alloc] at this;omega
 all_goals have n1:Bs≠bm:=by rintro rfl;simp[World.cell?,hm] at hs
 all_goals have n2:W.heap.size≠bm:=ae0
 all_goals have n3:W.heap.size+1≠bm:=ae0
 all_goals have g1:Bs<w2.heap.size:=ae0
 all_goals have g2:W.heap.size<w2.heap.size:=ae0
 all_goals have g3:W.heap.size+1 <w2.heap.size:=ae0
 all_goals have g4:bm<w2.heap.size:=ae0
 all_goals have f1:w2.cell? ⟨Bs,0,none⟩=some (.map (some bm)):=hg.cell (by rw[jz xO];exact hs) (by simpa using n1)
 all_goals have f2:=hg.cell (a:=⟨W.heap.size,0,none⟩) (by go_simp;rfl) (by simpa using n2)
 all_goals have f3:=hg.cell (a:=⟨W.heap.size,1,none⟩) (by go_simp;rfl) (by simpa using n2)
 all_goals have f4:=hg.cell (a:=⟨W.heap.size,2,none⟩) (by go_simp;rfl) (by simpa using n2)
 all_goals simp only[]
 all_goals go_wp2
 all_goals obtain⟨w3,DU,DV,hup,Te,hm3,hZ'⟩:=Xd (w2.alloc (.cells #[.int .i64 u,.int .i64 v,.int .i64 z] 80)) en cl (by rw[cZ g4];exact Mz) hZ
 all_goals rw[hup]
 all_goals have m1:w2.heap.size≠bm:=ae0
 all_goals have e1:=Te.cell (a:=⟨w2.heap.size,0,none⟩) (by go_simp;rfl) (by simpa using m1)
 all_goals have e2:=Te.cell (a:=⟨w2.heap.size,1,none⟩) (by go_simp;rfl) (by simpa using m1)
 all_goals have e3:=Te.cell (a:=⟨w2.heap.size,2,none⟩) (by go_simp;rfl) (by simpa using m1)
 all_goals have e4:w3.heap[W.heap.size+1]? =some (.cells #[.int .i64 0,.int .i64 0,.int .i64 0] 80):=(by rw[Te.block _ (by rw[World.size_alloc];omega) (by simpa using n3),cZ g3,hg.block _ (by simp only[World.size_alloc];omega) (by simpa using n3),cZ (by simp only[World.size_alloc];omega)];exact QQ _ _ _)
 all_goals have d0:w3.cell? ⟨W.heap.size+1,0,none⟩=some (.int .i64 0):=by simp[World.cell?,e4]
 all_goals have z0:w3.frozen? ⟨W.heap.size+1,0,none⟩=false:=by simp[World.frozen?,e4]
 all_goals have d1:w3.cell? ⟨W.heap.size+1,1,none⟩=some (.int .i64 0):=by simp[World.cell?,e4]
 all_goals have z1:w3.frozen? ⟨W.heap.size+1,1,none⟩=false:=by simp[World.frozen?,e4]
 all_goals have d2:w3.cell? ⟨W.heap.size+1,2,none⟩=some (.int .i64 0):=by simp[World.cell?,e4]
 all_goals have z2:w3.frozen? ⟨W.heap.size+1,2,none⟩=false:=by simp[World.frozen?,e4]
 all_goals clear e4
 all_goals go_wp2
 all_goals refine bodyPost_ret (by rw[jQ rfl];go_simp;rfl) rfl ?_
 all_goals refine⟨rfl,?_,DU,DV,?_,hZ'⟩
 all_goals first
  | exact nK (nK (nK (gG (gG (uO (GK W _ _ _) _) hg) (gG (World.grownBy_alloc w2 _ _) Te)) (Nat.le_succ _) _) (Nat.le_succ _) _) (Nat.le_succ _) _
  | (rw[Below.heap_setCell _ _ _ _ n3.symm,Below.heap_setCell _ _ _ _ n3.symm,Below.heap_setCell _ _ _ _ n3.symm];exact hm3)
end Go.Proofs
namespace Go.AM
open Go.RowKit Go.Proofs Go.Proofs.YtdifmldbllaeiaaGreat
def Xe (z:Value):Option (Nat×Value)→Value
 | some p=>p.2
 | none=>z
section
variable {X:Ctx} {μ:Mu}
theorem Ah {t kt et:TypeId} {ks:List Nat} {kv zv:Value} {k:V} {b clock:Nat} {ents:Array MapEntry} {r:Option (Nat×Value)} (ht:X.P.underlying t=some (.map kt et)) (hk:cH X kt=some ks) (mf: (dn ks k k).isSome=true)
  (h1:aj X μ k kv) (hb:μ.w.heap[b]? =some (.map ents clock)) (hf:uB X μ kt kv ents.toList r) (hz: (zeroValue et).run X.P μ.w= .ok zv μ.w):
  (Instr.lookup t (.map (some b)) kv true).run X.P μ.w= .ok (.tuple #[Xe zv r,.bool r.isSome]) μ.w:=by
 obtain⟨⟨fs,hd⟩,_⟩:=eI hk
 have DD:=iI hd hf
 have GX:=fun em=>qb hk mf h1 em μ.w
 cases r with
 | none=>simp[Instr.lookup,Sem.run_bind,run_underlying ht,Result.andThen,Go.MapKept.run_getObj_map hb,GX,DD,hz,Xe]
 | some p=>simp[Instr.lookup,Sem.run_bind,run_underlying ht,Result.andThen,Go.MapKept.run_getObj_map hb,GX,DD,Xe]
theorem Ai {t kt et:TypeId} {ks:List Nat} {kv uv:Value} {k u:V} {b clock:Nat} {ents:Array MapEntry} {es es':List V} (ht:X.P.underlying t=some (.map kt et)) (hk:cH X kt=some ks) (mf: (dn ks k k).isSome=true)
  (h1:aj X μ k kv) (h2:aj X μ u uv) (hb:μ.w.heap[b]? =some (.map ents clock)) (cr:gr ents clock) (hrel:ag X μ es (ents.toList.map oY)) (fj:dF ks k u es=some es'):
  ∃w3 en cl,(Instr.mapUpdate t (.map (some b)) kv uv).run X.P μ.w= .ok () w3∧μ.w.grownBy w3 (some b)∧w3.heap[b]? =some (.map en cl)∧gr en cl∧ag X μ es' (en.toList.map oY):=by
 obtain⟨⟨fs,hd⟩,_⟩:=eI hk
 have GX:=qb hk mf h1 false μ.w
 have bk:b<μ.w.heap.size:=(af1.1 hb).1
 have grow: ∀ob:Go.Obj,μ.w.grownBy {μ.w with heap:=μ.w.heap.setIfInBounds b ob} (some b):=fun ob=>
  ⟨rfl,rfl,rfl,afU,fun i hi hr=>by simp[ag1,show b≠i from fun e=>hr (by rw[e])]⟩
 rcases qc hk h1 h2 hrel fj with⟨g1,g2⟩ | ⟨j,e,g1,g2,g3,g4⟩
 ·have DD:=iI hd g1
  refine⟨_,ents.push {key:=kv,val:=uv,born:=clock},clock+1,?_,grow (.map (ents.push {key:=kv,val:=uv,born:=clock}) (clock+1)),by simp[bk],qU cr _ rfl,by simpa using g2 clock⟩
  simp[Instr.mapUpdate,run_underlying ht,Go.MapKept.run_getObj_map hb,GX,DD,Go.MapKept.run_setObj_map _ hb,Result.andThen,Sem.run_bind]
 ·have DD:=iI hd g1
  have oW:e.key=kv:=IA mf g3 h1
  have Rc:ents[j]? =some e:=by simpa using g2
  have eJ:=zK mf h1 μ.w
  have hl: (ents.modify j fun e=> {e with key:=kv,val:=uv}).toList=ents.toList.set j {e with key:=kv,val:=uv}:=by
   apply agQ
   intro n
   rw[ahh,agu,agY]
   by_cases hn:j=n
   ·subst hn
    have bk:=(af0.1 g2).1
    simp only[if_true,bk,g2,agc,and_self]
    rfl
   ·simp[hn]
  refine⟨_,ents.modify j fun e=> {e with key:=kv,val:=uv},clock,?_,grow (.map (ents.modify j fun e=> {e with key:=kv,val:=uv}) clock),by simp[bk],mF cr j fun _=>rfl,by rw[hl];exact g4⟩
  simp[Instr.mapUpdate,run_underlying ht,Go.MapKept.run_getObj_map hb,GX,DD,Rc,oW,eJ,Go.MapKept.run_setObj_map _ hb,Result.andThen,Sem.run_bind]
end
theorem fV {x:V} (h:bK x=true): ∃a b c,x= .agg [.int .i64 a,.int .i64 b,.int .i64 c]:=by
 unfold bK at h
 split at h
 ·exact⟨_,_,_,rfl⟩
 ·simp at h
theorem Kj {x y:V} (hx:bK x=true) (hy:bK y=true): (dn [1,1,1] x y).isSome=true:=by
 obtain⟨a,b,c,rfl⟩:=fV hx
 obtain⟨p,q,r,rfl⟩:=fV hy
 simp[dn,cR,GO]
theorem dY {X:Ctx} {μ:Mu} {a b c:Int} {v:Value}:aj X μ (.agg [.int .i64 a,.int .i64 b,.int .i64 c]) v↔v= .agg #[.int .i64 a,.int .i64 b,.int .i64 c]:=by
 simp only[aj]
 constructor
 ·rintro⟨_,vs,rfl,h⟩
  obtain⟨l,hl⟩: ∃l,vs.toList=l:=⟨_,rfl⟩
  rw[hl] at h
  match l,h with
  | [u,v,w],h=>
    simp only[ag,aj,and_true] at h
    obtain⟨rfl,rfl,rfl⟩:=h
    rw[ag3.1 (show vs.toList=(#[Value.int .i64 a,.int .i64 b,.int .i64 c]:Array Value).toList from hl)]
 ·rintro rfl
  exact⟨rfl,_,rfl,by simp[ag,aj]⟩
theorem vS {x y:V}: ∀ {es:List V},es.all iL=true→cG [1,1,1] x es=some (some y)→bK y=true
 | [],_,h=>by simp[cG] at h
 | e::es,ha,h=>by
   simp only[agj,af2] at ha
   obtain⟨h1,h2⟩:=ha
   unfold iL at h1
   split at h1
   ·rename_i k v
    simp only[af2] at h1
    simp only[cG] at h
    split at h
    ·simp only[afY] at h;subst h;exact h1.2
    ·exact vS h2 h
    ·simp at h
   ·simp at h1
theorem uP {x y:V} (hx:bK x=true) (hy:bK y=true): ∀ {es es':List V},es.all iL=true→dF [1,1,1] x y es=some es'→es'.all iL=true
 | [],es',_,h=>by simp[dF] at h;subst h;simp[iL,hx,hy]
 | e::es,es',ha,h=>by
   simp only[agj,af2] at ha
   obtain⟨h1,h2⟩:=ha
   unfold iL at h1
   split at h1
   ·rename_i k v
    simp only[dF] at h
    split at h
    ·simp only[afY] at h;subst h;rw[agj,h2];simp[iL,hx,hy]
    ·simp only[afZ] at h
     obtain⟨l,h3,rfl⟩:=h
     have:=uP hx hy h2 h3
     simp only[agj,this,agB]
     exact h1
    ·simp at h
   ·simp at h1
theorem qu: ∀ (n:Nat) {es es':List V} {x r:V},jo n es x=some (r,es')→bK x=true→es.all iL=true→bK r=true∧es'.all iL=true
 | 0,_,_,_,_,h,_,_=>by simp[jo] at h
 | n+1,es,es',x,r,h,hx,hs=>by
   unfold jo at h
   split at h
   ·simp only[afY,af4] at h;obtain⟨rfl,rfl⟩:=h;exact⟨hx,hs⟩
   ·rename_i y hy
    have hsy:=vS hs hy
    split at h
    ·simp only[afY,af4] at h;obtain⟨rfl,rfl⟩:=h;exact⟨hx,hs⟩
    ·split at h
     ·rename_i r1 QY h1
      simp only[afZ,af4] at h
      obtain⟨l,h2,rfl,rfl⟩:=h
      obtain⟨a1,a2⟩:=qu n h1 hsy hs
      exact⟨a1,uP hx a1 a2 h2⟩
     ·simp at h
    ·simp at h
   ·simp at h
theorem wZ {x:V} (hh:bK x=true):V.isScalar x=true:=by obtain⟨a,b,c,rfl⟩:=fV hh;rfl
theorem fK: ∀ {es:List V},es.all iL=true→V.bj es=true
 | [],_=>rfl
 | e::es,hh=>by
   simp only[agj,af2] at hh
   obtain⟨h1,h2⟩:=hh
   unfold iL at h1
   split at h1
   ·simp only[af2] at h1
    obtain⟨a,b,c,rfl⟩:=fV h1.1
    obtain⟨p,q,r,rfl⟩:=fV h1.2
    simp[V.bj,V.isScalar,fK h2]
   ·simp at h1
abbrev v3 (a b c:Int):Value:= .agg #[.int .i64 a,.int .i64 b,.int .i64 c]
abbrev Ck (Bs Bc:Nat):Value:= .func (.func 75) #[] #[.pointer (some ⟨Bs,0,none⟩),.pointer (some ⟨Bc,0,none⟩)]
structure nL (P:Program):Prop where
 same: ∀ (W:World) (Bs Bc bm clock:Nat) (ents:Array MapEntry) (a b c p q r:Int) (ok:Bool),Bs<W.heap.size→Bc<W.heap.size→bm<W.heap.size→
  W.cell? ⟨Bs,0,none⟩=some (.map (some bm))→W.cell? ⟨Bc,0,none⟩=some (Ck Bs Bc)→W.heap[bm]? =some (.map ents clock)→(ok=true→p=a∧q=b∧r=c)→
  (∀w:World,w.heap[bm]? =some (.map ents clock)→(Instr.lookup 72 (.map (some bm)) (v3 a b c) true).run P w= .ok (.tuple #[v3 p q r,.bool ok]) w)→
  Calls P 75 #[v3 a b c,.pointer (some ⟨Bs,0,none⟩),.pointer (some ⟨Bc,0,none⟩)] W fun e W'=>e= .returned (v3 a b c)∧W.grownBy W' none
 abz: ∀ (W:World) (Bs Bc bm clock:Nat) (ents:Array MapEntry) (a b c p q r u v z:Int) (Z Z':Array MapEntry→Nat→Prop),Bs<W.heap.size→Bc<W.heap.size→bm<W.heap.size→
  W.cell? ⟨Bs,0,none⟩=some (.map (some bm))→W.cell? ⟨Bc,0,none⟩=some (Ck Bs Bc)→W.heap[bm]? =some (.map ents clock)→(p==a && (q==b &&r==c))=false→
  (∀w:World,w.heap[bm]? =some (.map ents clock)→(Instr.lookup 72 (.map (some bm)) (v3 a b c) true).run P w= .ok (.tuple #[v3 p q r,.bool true]) w)→
  (∀w:World,Bs<w.heap.size→Bc<w.heap.size→bm<w.heap.size→w.cell? ⟨Bs,0,none⟩=some (.map (some bm))→w.cell? ⟨Bc,0,none⟩=some (Ck Bs Bc)→w.heap[bm]? =some (.map ents clock)→
    Calls P 75 #[v3 p q r,.pointer (some ⟨Bs,0,none⟩),.pointer (some ⟨Bc,0,none⟩)] w fun e W'=>e= .returned (v3 u v z)∧w.grownBy W' (some bm)∧ ∃en cl,W'.heap[bm]? =some (.map en cl)∧Z en cl)→
  (∀ (w:World) en cl,w.heap[bm]? =some (.map en cl)→Z en cl→ ∃w3 DU DV,(Instr.mapUpdate 72 (.map (some bm)) (v3 a b c) (v3 u v z)).run P w= .ok () w3∧w.grownBy w3 (some bm)∧w3.heap[bm]? =some (.map DU DV)∧Z' DU DV)→
  Calls P 75 #[v3 a b c,.pointer (some ⟨Bs,0,none⟩),.pointer (some ⟨Bc,0,none⟩)] W fun e W'=>e= .returned (v3 u v z)∧W.grownBy W' (some bm)∧ ∃en cl,W'.heap[bm]? =some (.map en cl)∧Z' en cl
 map:P.underlying 72=some (.map 80 80)
 zero: ∀w:World,(zeroValue 80).run P w= .ok (v3 0 0 0) w
theorem Cj:nL Tryz.prog where
 same:=I7
 abz:=Ms
 map:=afW
 zero:=fun w=>by
  have z:eY (⟨Tryz.prog,fun _=>none,fun _=>none⟩:TrEnv) 80=some (.agg [.int .i64 0,.int .i64 0,.int .i64 0]):=afW
  obtain⟨zv,z1,z2⟩:=ij (X:=⟨⟨Tryz.prog,fun _=>none,fun _=>none⟩,fun _=>False,(0,0)⟩) z w
  obtain⟨z3,_⟩:=eG (X:=⟨⟨Tryz.prog,fun _=>none,fun _=>none⟩,fun _=>False,(0,0)⟩) (μ:=⟨w,fun _=> ⟨0,0,0⟩,fun _=>bE⟩) z2
  rw[dY.1 z3] at z1
  exact z1
theorem Cm {Y:Ctx} {μ:Mu} (hW:nL Y.P) (hk:cH Y.toTrEnv 80=some [1,1,1]): ∀ (n:Nat) {es es':List V} {x r:V} {xv:Value},jo n es x=some (r,es')→bK x=true→es.all iL=true→aj Y μ x xv→
   ∀ (W:World) (Bs Bc bm clock:Nat) (ents:Array MapEntry),Bs<W.heap.size→Bc<W.heap.size→bm<W.heap.size→W.cell? ⟨Bs,0,none⟩=some (.map (some bm))→
    W.cell? ⟨Bc,0,none⟩=some (Ck Bs Bc)→W.heap[bm]? =some (.map ents clock)→gr ents clock→ag Y μ es (ents.toList.map oY)→
    Calls Y.P 75 #[xv,.pointer (some ⟨Bs,0,none⟩),.pointer (some ⟨Bc,0,none⟩)] W fun e W'=> (∃rv,e= .returned rv∧aj Y μ r rv)∧W.grownBy W' (some bm)∧ ∃en cl,W'.heap[bm]? =some (.map en cl)∧gr en cl∧ag Y μ es' (en.toList.map oY)
 | 0,_,_,_,_,_,h,_,_,_=>by simp[jo] at h
 | n+1,es,es',x,r,xv,h,hx,hs,re=>by
   intro W Bs Bc bm clock ents xO pF IV XU WA hm cr hrel
   have Gm:=Kj hx hx
   have toW: ∀ (w:World),ag Y ⟨w,μ.φ,μ.O⟩ es (ents.toList.map oY):=fun w=>bQ rfl (fK hs) hrel
   have toX: ∀ (w:World),aj Y ⟨w,μ.φ,μ.O⟩ x xv:=fun w=>iu rfl (wZ hx) re
   obtain⟨a,b,c,rfl⟩:=fV hx
   obtain rfl:=dY.1 re
   unfold jo at h
   split at h
   ·rename_i tK
    simp only[afY,af4] at h
    obtain⟨rfl,rfl⟩:=h
    refine(hW.same W Bs Bc bm clock ents a b c 0 0 0 false xO pF IV XU WA hm afU fun w hw=> ?_).mono ?_
    ·rcases jf hk (toX w) (toW w) tK with⟨_,g⟩ | ⟨v,j,e,g1,_⟩
     ·exact Ah (X:=Y) (μ:=⟨w,μ.φ,μ.O⟩) hW.map hk Gm (toX w) hw g (hW.zero w)
     ·cases g1
    ·rintro e w' ⟨rfl,hg⟩
     exact⟨⟨_,rfl,re⟩,uO hg _,ents,clock,by rw[hg.block bm IV afU];exact hm,cr,hrel⟩
   ·rename_i y tK
    have hy:=vS hs tK
    obtain⟨p,q,r0,rfl⟩:=fV hy
    have look: ∀w:World,w.heap[bm]? =some (.map ents clock)→(Instr.lookup 72 (.map (some bm)) (v3 a b c) true).run Y.P w= .ok (.tuple #[v3 p q r0,.bool true]) w:=fun w hw=>by
     rcases jf hk (toX w) (toW w) tK with⟨g1,_⟩ | ⟨v,j,e,g1,g2,g3⟩
     ·cases g1
     ·simp only[afY] at g1
      subst g1
      obtain rfl:=dY.1 g3
      exact Ah (X:=Y) (μ:=⟨w,μ.φ,μ.O⟩) hW.map hk Gm (toX w) hw g2 (hW.zero w)
    split at h
    ·rename_i heq
     simp only[afY,af4] at h
     obtain⟨rfl,rfl⟩:=h
     have Wr:p=a∧q=b∧r0=c:=by
      obtain⟨cs,ds,e1,e2,e3⟩:=iC heq
      injection e1 with e1;injection e2 with e2
      subst e1;subst e2
      have:=qV e3
      simpa using this
     refine(hW.same W Bs Bc bm clock ents a b c p q r0 true xO pF IV XU WA hm (fun _=>Wr) look).mono ?_
     rintro e w' ⟨rfl,hg⟩
     exact⟨⟨_,rfl,re⟩,uO hg _,ents,clock,by rw[hg.block bm IV afU];exact hm,cr,hrel⟩
    ·rename_i heq
     split at h
     ·rename_i r1 QY h1
      simp only[afZ,af4] at h
      obtain⟨l,fj,rfl,rfl⟩:=h
      obtain⟨ve,iY⟩:=qu n h1 hy hs
      obtain⟨u,v,z,rfl⟩:=fV ve
      have cF: (p==a && (q==b &&r0==c))=false:=by
       simp only[dn,cR,GO,if_true,afY,agB] at heq
       simpa [Bool.and_assoc] using heq
      refine(hW.abz W Bs Bc bm clock ents a b c p q r0 u v z (fun en cl=>gr en cl∧ag Y μ QY (en.toList.map oY)) (fun en cl=>gr en cl∧ag Y μ l (en.toList.map oY)) xO pF IV XU WA hm cF look ?_ ?_).mono ?_
      ·intro w g1 g2 g3 g4 g5 g6
       refine(Cm hW hk n h1 hy hs (dY.2 rfl) w Bs Bc bm clock ents g1 g2 g3 g4 g5 g6 cr hrel).mono ?_
       rintro e w' ⟨⟨rv,rfl,hrv⟩,k1,en,cl,k2,k3,k4⟩
       obtain rfl:=dY.1 hrv
       exact⟨rfl,k1,en,cl,k2,k3,k4⟩
      ·rintro w en cl k1 ⟨k2,k3⟩
       obtain⟨w3,DU,DV,q1,q2,q3,q4,q5⟩:=Ai (X:=Y) (μ:=⟨w,μ.φ,μ.O⟩) hW.map hk Gm (toX w) (dY.2 (rfl:v3 u v z=_)) k1 k2 (bQ rfl (fK iY) k3) fj
       exact⟨w3,DU,DV,q1,q2,q3,q4,bQ rfl (fK (uP hx ve iY fj)) q5⟩
      ·rintro e w' ⟨rfl,k1,en,cl,k2,k3,k4⟩
       exact⟨⟨_,rfl,dY.2 rfl⟩,k1,en,cl,k2,k3,k4⟩
     ·simp at h
    ·simp at h
   ·simp at h
end Go.AM
namespace Go.Proofs
open Go.RowKit Go.AM Go.Proofs.YtdifmldbllaeiaaGreat
attribute [local go_sem] ltk lF jz cZ
@[local go_sem] theorem QS {P:Program} {w:World} {ad:Addr} {m:Mode} (f:Fn) (x y:Array Value): (store ad (.func f x y) m).run P w=stored P w ad (.func f x y) m:=run_store P w ad _ m rfl
set_option maxRecDepth 100000 in
theorem Mt (W:World) (bm:Nat) (a b c u v z:Int) (Z:Array MapEntry→Nat→Prop) (Dj:bm<W.heap.size)
  (ig: ∀ (w:World) (Bs Bc:Nat),Bs<w.heap.size→Bc<w.heap.size→bm<w.heap.size→w.cell? ⟨Bs,0,none⟩=some (.map (some bm))→w.cell? ⟨Bc,0,none⟩=some (Ck Bs Bc)→w.heap[bm]? =W.heap[bm]? →
    Calls Tryz.prog 75 #[v3 a b c,.pointer (some ⟨Bs,0,none⟩),.pointer (some ⟨Bc,0,none⟩)] w fun e W'=>e= .returned (v3 u v z)∧w.grownBy W' (some bm)∧ ∃en cl,W'.heap[bm]? =some (.map en cl)∧Z en cl):
  Calls Tryz.prog 29 #[.agg #[.map (some bm)],v3 a b c] W fun e W'=>e= .returned (v3 u v z)∧W.grownBy W' (some bm)∧ ∃en cl,W'.heap[bm]? =some (.map en cl)∧Z en cl:=by
 go_enter Tryz.func29,Tryz.ntmps29
 go_wp2_with (go_at_call 75;refine UQ ?_)
 unfold Hid
 refine Calls.mono (ig _ _ _ (by simp only[World.size_alloc];omega) (by simp only[World.size_alloc];omega) (by simp only[World.size_alloc];omega) (by go_simp) (by go_simp) (by rw[cZ (by simp only[World.size_alloc];omega),cZ (by simp only[World.size_alloc];omega),cZ (by simp only[World.size_alloc];omega),cZ Dj])) ?_
 rintro e w2 ⟨rfl,hg,en,cl,Mz,hZ⟩
 have n3:W.heap.size+1+1≠bm:=ae0
 have bF:W.heap.size+4≤w2.heap.size:=by have:=hg.size;simp only[World.size_alloc] at this;omega
 have e4:w2.heap[W.heap.size+1+1]? =some (.cells #[.int .i64 0,.int .i64 0,.int .i64 0] 80):=by
  rw[hg.block _ (by simp only[World.size_alloc];omega) (by simpa using n3),cZ (by simp only[World.size_alloc];omega)]
  have:=World.alloc_heap_new ((W.alloc (.cells #[.map (some bm)] 74)).alloc (.cells #[.int .i64 a,.int .i64 b,.int .i64 c] 80)) (.cells #[.int .i64 0,.int .i64 0,.int .i64 0] 80)
  simpa only[World.size_alloc] using this
 have g3:W.heap.size+1+1 <w2.heap.size:=ae0
 have d0:w2.cell? ⟨W.heap.size+1+1,0,none⟩=some (.int .i64 0):=by simp[World.cell?,e4]
 have z0:w2.frozen? ⟨W.heap.size+1+1,0,none⟩=false:=by simp[World.frozen?,e4]
 have d1:w2.cell? ⟨W.heap.size+1+1,1,none⟩=some (.int .i64 0):=by simp[World.cell?,e4]
 have z1:w2.frozen? ⟨W.heap.size+1+1,1,none⟩=false:=by simp[World.frozen?,e4]
 have d2:w2.cell? ⟨W.heap.size+1+1,2,none⟩=some (.int .i64 0):=by simp[World.cell?,e4]
 have z2:w2.frozen? ⟨W.heap.size+1+1,2,none⟩=false:=by simp[World.frozen?,e4]
 clear e4
 simp only[]
 go_wp2
 refine bodyPost_ret (by rw[jQ rfl];go_simp;rfl) rfl ?_
 refine⟨rfl,?_,en,cl,?_,hZ⟩
 ·exact nK (nK (nK (gG (uO (gG (GK W _ _ _) (World.grownBy_alloc _ _ none)) _) hg) (by show W.heap.size≤_;dsimp only;omega) _) (by show W.heap.size≤_;dsimp only;omega) _) (by show W.heap.size≤_;dsimp only;omega) _
 ·rw[Below.heap_setCell _ _ _ _ n3.symm,Below.heap_setCell _ _ _ _ n3.symm,Below.heap_setCell _ _ _ _ n3.symm];exact Mz
end Go.Proofs
namespace Go
section
variable {P:Program} {md:Region.Mode} {ops:Array Oper} {Q:Exit→Act→World→Prop}
theorem xU {l:List Bool} {i:Nat} (h:l[i]? =some false): (l.set i true).countP (fun b=> !b)+1=l.countP (fun b=> !b):=by
 induction l generalizing i with
 | nil=>simp at h
 | cons b l ih=>
   cases i with
   | zero=>simp at h;subst h;simp
   | succ i=>
     simp only[List.getElem?_cons_succ] at h
     have:=ih h
     simp only[List.set_cons_succ,List.countP_cons]
     omega
theorem Dh {an:Array Bool} {i:Nat} (h:an.getD i true=false):an.toList[i]? =some false:=by
 rcases Nat.lt_or_ge i an.size with bk| oO
 ·simp only[Array.getD,bk,dite_true] at h
  simp[bk]
  simpa using h
 ·simp[Array.getD,Nat.not_lt.2 oO] at h
theorem Cn (I:Array Bool→Act→World→Prop) (bF: ∀an a w,I an a w→an.size=ops.size)
   (mq: ∀an a w i,I an a w→i ∈ Region.ready md ops an→wpOp P ops Q i (I (an.setIfInBounds i true)) a w)
   (sm: ∀an a w,I an a w→Region.ready md ops an=[]→Q .normal a w):
   ∀ (fuel:Nat) (an:Array Bool) (a:Act) (w:World),I an a w→an.toList.countP (fun b=> !b)≤fuel→wpAny P md ops Q fuel an a w
 | 0,an,a,w,h,hf=>by
   have hr:Region.ready md ops an=[]:=by
    apply List.eq_nil_iff_forall_not_mem.2
    intro i hi
    have hl:=Dh (mem_ready.1 hi).1
    have:=xU hl
    omega
   exact⟨hr,sm _ _ _ h hr⟩
 | fuel+1,an,a,w,h,hf=>by
   refine⟨fun hr=>sm _ _ _ h hr,fun i hi=>wpOp_mono (fun a' w' hI=>Cn I bF mq sm fuel _ a' w' hI ?_) (mq _ _ _ i h hi)⟩
   have hl:=Dh (mem_ready.1 hi).1
   have:=xU hl
   simp only[Array.toList_setIfInBounds]
   omega
end
theorem fG {md:Region.Mode} {ops:Array Oper} {an:Array Bool} {n:Nat} (bF:an.size=n) (hr:Region.ready md ops an=[]) {j:Nat} {o:Oper} (ho:ops[j]? =some o) (FO: ∀e ∈ o.after,an.getD e.on false=true) (hj:j<n:=by decide):an.getD j false=true:=by
 cases h:an.getD j true with
 | false=>
   have:j ∈ Region.ready md ops an:=mem_ready.2 ⟨h,o,ho,fun e he _=>FO e he⟩
   rw[hr] at this;cases this
 | true=>
   have hl:j<an.size:=by omega
   simp only[Array.getD,hl,dite_true] at h ⊢
   exact h
end Go
namespace Go.Proofs
open Go.RowKit Go.AM Go.Proofs.YtdifmldbllaeiaaGreat
attribute [local go_sem] ltk lF jz cZ
structure Kk (W:World) (bm:Nat) (a b c p q r:Int) (Z:Nat→Array MapEntry→Nat→Prop) (k:Nat) (w:World):Prop where
 grow:W.grownBy w (some bm)
 sz:W.heap.size+3≤w.heap.size
 f0:w.cell? ⟨W.heap.size,0,none⟩=some (.map (some bm))
 f1:w.cell? ⟨W.heap.size+1,0,none⟩=some (.int .i64 a)∧w.cell? ⟨W.heap.size+1,1,none⟩=some (.int .i64 b)∧w.cell? ⟨W.heap.size+1,2,none⟩=some (.int .i64 c)
 f2:w.cell? ⟨W.heap.size+1+1,0,none⟩=some (.int .i64 p)∧w.cell? ⟨W.heap.size+1+1,1,none⟩=some (.int .i64 q)∧w.cell? ⟨W.heap.size+1+1,2,none⟩=some (.int .i64 r)
 m: ∃en cl,w.heap[bm]? =some (.map en cl)∧Z k en cl
theorem Kk.go {W:World} {bm:Nat} {a b c p q r:Int} {Z:Nat→Array MapEntry→Nat→Prop} {k k':Nat} {w w':World} (h:Kk W bm a b c p q r Z k w) (Dj:bm<W.heap.size) (hg:w.grownBy w' (some bm)) (hm: ∃en cl,w'.heap[bm]? =some (.map en cl)∧Z k' en cl):Kk W bm a b c p q r Z k' w':=by
 have n0:W.heap.size≠bm:=ae0
 have n1:W.heap.size+1≠bm:=ae0
 have n2:W.heap.size+1+1≠bm:=ae0
 refine⟨gG h.grow hg,agm h.sz hg.size,hg.cell h.f0 (by simpa using n0),⟨hg.cell h.f1.1 (by simpa using n1),hg.cell h.f1.2.1 (by simpa using n1),hg.cell h.f1.2.2 (by simpa using n1)⟩,⟨hg.cell h.f2.1 (by simpa using n2),hg.cell h.f2.2.1 (by simpa using n2),hg.cell h.f2.2.2 (by simpa using n2)⟩,hm⟩
def rk (an:Array Bool):Nat:=if an.getD 8 false=true then 3 else if an.getD 7 false=true then 2 else if an.getD 4 false=true then 1 else 0
structure abA (W:World) (bm:Nat) (a b c p q r u v z u' v' z':Int) (Z:Nat→Array MapEntry→Nat→Prop) (an:Array Bool) (act:Go.Act) (w:World):Prop where
 sz:an.size=9
 Rp:an.getD 7 false=true→an.getD 4 false=true
 QT:an.getD 8 false=true→an.getD 7 false=true
 st:Kk W bm a b c p q r Z (rk an) w
 ac: ∃x6 x7 x8 x9 MB MC MD ME,act={tmps:= #[.agg #[.map (some bm)],v3 a b c,v3 p q r,.pointer (some ⟨W.heap.size,0,none⟩),.pointer (some ⟨W.heap.size+1,0,none⟩),.pointer (some ⟨W.heap.size+1+1,0,none⟩),x6,x7,x8,x9,MB,MC,MD,ME],defers:=[]}∧
  (an.getD 0 false=true→x6= .pointer (some ⟨W.heap.size,0,none⟩))∧(an.getD 1 false=true→x7= .map (some bm))∧(an.getD 2 false=true→x8= .agg #[.map (some bm)])∧(an.getD 3 false=true→x9=v3 a b c)∧
  (an.getD 4 false=true→MB=v3 u v z)∧(an.getD 5 false=true→MC= .agg #[.map (some bm)])∧(an.getD 6 false=true→MD=v3 p q r)∧(an.getD 7 false=true→ME=v3 u' v' z')
theorem kQ {P:Program} {ops:Array Oper} {Q:Exit→Go.Act→World→Prop} {i:Nat} {o:Oper} {K:Go.Act→World→Prop} {a:Go.Act} {w:World} (ho:ops[i]? =some o) (hg:o.guard=none) (h:o.wp P a w K Q):wpOp P ops Q i K a w:=by
 unfold wpOp
 rw[ho]
 simp only[Region.wanted,hg,if_true]
 exact Or.inl h
set_option maxRecDepth 100000 in
theorem Mv (W:World) (bm:Nat) (a b c p q r u v z u' v' z':Int) (Z:Nat→Array MapEntry→Nat→Prop) (Dj:bm<W.heap.size)
  (h0: ∃en cl,W.heap[bm]? =some (.map en cl)∧Z 0 en cl)
  (np: ∀w:World,bm<w.heap.size→(∃en cl,w.heap[bm]? =some (.map en cl)∧Z 0 en cl)→Calls Tryz.prog 29 #[.agg #[.map (some bm)],v3 a b c] w fun e W'=>e= .returned (v3 u v z)∧w.grownBy W' (some bm)∧ ∃en cl,W'.heap[bm]? =some (.map en cl)∧Z 1 en cl)
  (tF: ∀w:World,bm<w.heap.size→(∃en cl,w.heap[bm]? =some (.map en cl)∧Z 1 en cl)→Calls Tryz.prog 29 #[.agg #[.map (some bm)],v3 p q r] w fun e W'=>e= .returned (v3 u' v' z')∧w.grownBy W' (some bm)∧ ∃en cl,W'.heap[bm]? =some (.map en cl)∧Z 2 en cl)
  (Xd: ∀ (w:World) en cl,w.heap[bm]? =some (.map en cl)→Z 2 en cl→ ∃w3 DU DV,(Instr.mapUpdate 72 (.map (some bm)) (v3 u v z) (v3 u' v' z')).run Tryz.prog w= .ok () w3∧w.grownBy w3 (some bm)∧w3.heap[bm]? =some (.map DU DV)∧Z 3 DU DV):
  Calls Tryz.prog 28 #[.agg #[.map (some bm)],v3 a b c,v3 p q r] W fun e W'=>e= .returned (.tuple #[])∧W.grownBy W' (some bm)∧ ∃en cl,W'.heap[bm]? =some (.map en cl)∧Z 3 en cl:=by
 go_enter Tryz.func28,Tryz.ntmps28
 go_wp2
 refine wp_region_any afW ?_
 refine Cn (abA W bm a b c p q r u v z u' v' z' Z) (fun an act w h=>h.sz.trans rfl) ?_ ?_ _ _ _ _ ?_ afV
 ·rintro an act w i ⟨bF,Rp,QT,eJ,x6,x7,x8,x9,MB,MC,MD,ME,rfl,k0,k1,k2,k3,k4,k5,k6,k7⟩ hi
  obtain⟨V8,o,ho,FO⟩:=mem_ready.1 hi
  have bk:i< 9:=by
   rcases ahd i 9 with h| h
   ·exact h
   ·rw[agX (by simpa using h)] at ho;cases ho
  rcases(by omega:i=0∨i=1∨i=2∨i=3∨i=4∨i=5∨i=6∨i=7∨i=8) with rfl| rfl| rfl| rfl| rfl| rfl| rfl| rfl| rfl
  ·have up: ∀j,j≠0→(an.setIfInBounds 0 true).getD j false=an.getD j false:=fun j h=>getD_set_ne _ (ag8 h)
   have se: (an.setIfInBounds 0 true).getD 0 false=true:=by simp[Array.getD,bF]
   have DW:rk (an.setIfInBounds 0 true)=rk an:=by unfold rk;rw[up 8 afV,up 7 afV,up 4 afV]
   have qv:=eJ
   obtain⟨_,GC,f0,⟨f1,f11,f12⟩,⟨f2,f21,f22⟩,_⟩:=eJ
   have g0:W.heap.size<w.heap.size:=ae0
   have g1:W.heap.size+1 <w.heap.size:=ae0
   have g2:W.heap.size+1+1 <w.heap.size:=ae0
   refine kQ rfl rfl ?_
   go_simp
   refine⟨by simpa using bF,by rw[up 7 afV,up 4 afV];exact Rp,by rw[up 8 afV,up 7 afV];exact QT,by rw[DW];exact qv,_,_,_,_,_,_,_,_,rfl,fun _=>rfl,fun h=>k1 (by rwa [up 1 afV] at h),fun h=>k2 (by rwa [up 2 afV] at h),fun h=>k3 (by rwa [up 3 afV] at h),fun h=>k4 (by rwa [up 4 afV] at h),fun h=>k5 (by rwa [up 5 afV] at h),fun h=>k6 (by rwa [up 6 afV] at h),fun h=>k7 (by rwa [up 7 afV] at h)⟩
  ·have up: ∀j,j≠1→(an.setIfInBounds 1 true).getD j false=an.getD j false:=fun j h=>getD_set_ne _ (ag8 h)
   have se: (an.setIfInBounds 1 true).getD 1 false=true:=by simp[Array.getD,bF]
   have q0:an.getD 0 false=true:=(by simp at ho;subst ho;exact FO ⟨0,.data⟩ afU rfl)
   have x20:=k0 q0
   subst x20
   have DW:rk (an.setIfInBounds 1 true)=rk an:=by unfold rk;rw[up 8 afV,up 7 afV,up 4 afV]
   have qv:=eJ
   obtain⟨_,GC,f0,⟨f1,f11,f12⟩,⟨f2,f21,f22⟩,_⟩:=eJ
   have g0:W.heap.size<w.heap.size:=ae0
   have g1:W.heap.size+1 <w.heap.size:=ae0
   have g2:W.heap.size+1+1 <w.heap.size:=ae0
   refine kQ rfl rfl ?_
   go_simp
   refine⟨by simpa using bF,by rw[up 7 afV,up 4 afV];exact Rp,by rw[up 8 afV,up 7 afV];exact QT,by rw[DW];exact qv,_,_,_,_,_,_,_,_,rfl,fun h=>k0 (by rwa [up 0 afV] at h),fun _=>rfl,fun h=>k2 (by rwa [up 2 afV] at h),fun h=>k3 (by rwa [up 3 afV] at h),fun h=>k4 (by rwa [up 4 afV] at h),fun h=>k5 (by rwa [up 5 afV] at h),fun h=>k6 (by rwa [up 6 afV] at h),fun h=>k7 (by rwa [up 7 afV] at h)⟩
  ·have up: ∀j,j≠2→(an.setIfInBounds 2 true).getD j false=an.getD j false:=fun j h=>getD_set_ne _ (ag8 h)
   have se: (an.setIfInBounds 2 true).getD 2 false=true:=by simp[Array.getD,bF]
   have DW:rk (an.setIfInBounds 2 true)=rk an:=by unfold rk;rw[up 8 afV,up 7 afV,up 4 afV]
   have qv:=eJ
   obtain⟨_,GC,f0,⟨f1,f11,f12⟩,⟨f2,f21,f22⟩,_⟩:=eJ
   have g0:W.heap.size<w.heap.size:=ae0
   have g1:W.heap.size+1 <w.heap.size:=ae0
   have g2:W.heap.size+1+1 <w.heap.size:=ae0
   refine kQ rfl rfl ?_
   go_simp
   refine⟨by simpa using bF,by rw[up 7 afV,up 4 afV];exact Rp,by rw[up 8 afV,up 7 afV];exact QT,by rw[DW];exact qv,_,_,_,_,_,_,_,_,rfl,fun h=>k0 (by rwa [up 0 afV] at h),fun h=>k1 (by rwa [up 1 afV] at h),fun _=>rfl,fun h=>k3 (by rwa [up 3 afV] at h),fun h=>k4 (by rwa [up 4 afV] at h),fun h=>k5 (by rwa [up 5 afV] at h),fun h=>k6 (by rwa [up 6 afV] at h),fun h=>k7 (by rwa [up 7 afV] at h)⟩
  ·have up: ∀j,j≠3→(an.setIfInBounds 3 true).getD j false=an.getD j false:=fun j h=>getD_set_ne _ (ag8 h)
   have se: (an.setIfInBounds 3 true).getD 3 false=true:=by simp[Array.getD,bF]
   have DW:rk (an.setIfInBounds 3 true)=rk an:=by unfold rk;rw[up 8 afV,up 7 afV,up 4 afV]
   have qv:=eJ
   obtain⟨_,GC,f0,⟨f1,f11,f12⟩,⟨f2,f21,f22⟩,_⟩:=eJ
   have g0:W.heap.size<w.heap.size:=ae0
   have g1:W.heap.size+1 <w.heap.size:=ae0
   have g2:W.heap.size+1+1 <w.heap.size:=ae0
   refine kQ rfl rfl ?_
   go_simp
   refine⟨by simpa using bF,by rw[up 7 afV,up 4 afV];exact Rp,by rw[up 8 afV,up 7 afV];exact QT,by rw[DW];exact qv,_,_,_,_,_,_,_,_,rfl,fun h=>k0 (by rwa [up 0 afV] at h),fun h=>k1 (by rwa [up 1 afV] at h),fun h=>k2 (by rwa [up 2 afV] at h),fun _=>rfl,fun h=>k4 (by rwa [up 4 afV] at h),fun h=>k5 (by rwa [up 5 afV] at h),fun h=>k6 (by rwa [up 6 afV] at h),fun h=>k7 (by rwa [up 7 afV] at h)⟩
  ·have up: ∀j,j≠4→(an.setIfInBounds 4 true).getD j false=an.getD j false:=fun j h=>getD_set_ne _ (ag8 h)
   have se: (an.setIfInBounds 4 true).getD 4 false=true:=by simp[Array.getD,bF]
   have q2:an.getD 2 false=true:=(by simp at ho;subst ho;exact FO ⟨2,.data⟩ afU rfl)
   have x22:=k2 q2
   have q3:an.getD 3 false=true:=(by simp at ho;subst ho;exact FO ⟨3,.data⟩ afU rfl)
   have x23:=k3 q3
   subst x22
   subst x23
   have q7:an.getD 7 false=false:=by
    cases h:an.getD 7 false with
    | false=>rfl
    | true=>have:=Rp h;rw[Go.getD_both V8] at this;cases this
   have q8:an.getD 8 false=false:=by
    cases h:an.getD 8 false with
    | false=>rfl
    | true=>have:=QT h;rw[q7] at this;cases this
   have DW:rk an=0:=by unfold rk;rw[q8,q7,Go.getD_both V8];rfl
   have QU:rk (an.setIfInBounds 4 true)=1:=by unfold rk;rw[up 8 afV,up 7 afV,se,q8,q7];rfl
   rw[DW] at eJ
   refine kQ rfl rfl ?_
   go_simp
   refine Calls.mono (np w (by have:=eJ.sz;omega) eJ.m) ?_
   rintro e w2 ⟨rfl,hg,hm⟩
   have qv:=eJ.go Dj hg hm
   simp only[]
   go_simp
   refine⟨by simpa using bF,by rw[up 7 afV];intro h;rw[se],by rw[up 8 afV,up 7 afV];exact QT,by rw[QU];exact qv,_,_,_,_,_,_,_,_,rfl,fun h=>k0 (by rwa [up 0 afV] at h),fun h=>k1 (by rwa [up 1 afV] at h),fun h=>k2 (by rwa [up 2 afV] at h),fun h=>k3 (by rwa [up 3 afV] at h),fun _=>rfl,fun h=>k5 (by rwa [up 5 afV] at h),fun h=>k6 (by rwa [up 6 afV] at h),fun h=>k7 (by rwa [up 7 afV] at h)⟩
  ·have up: ∀j,j≠5→(an.setIfInBounds 5 true).getD j false=an.getD j false:=fun j h=>getD_set_ne _ (ag8 h)
   have se: (an.setIfInBounds 5 true).getD 5 false=true:=by simp[Array.getD,bF]
   have DW:rk (an.setIfInBounds 5 true)=rk an:=by unfold rk;rw[up 8 afV,up 7 afV,up 4 afV]
   have qv:=eJ
   obtain⟨_,GC,f0,⟨f1,f11,f12⟩,⟨f2,f21,f22⟩,_⟩:=eJ
   have g0:W.heap.size<w.heap.size:=ae0
   have g1:W.heap.size+1 <w.heap.size:=ae0
   have g2:W.heap.size+1+1 <w.heap.size:=ae0
   refine kQ rfl rfl ?_
   go_simp
   refine⟨by simpa using bF,by rw[up 7 afV,up 4 afV];exact Rp,by rw[up 8 afV,up 7 afV];exact QT,by rw[DW];exact qv,_,_,_,_,_,_,_,_,rfl,fun h=>k0 (by rwa [up 0 afV] at h),fun h=>k1 (by rwa [up 1 afV] at h),fun h=>k2 (by rwa [up 2 afV] at h),fun h=>k3 (by rwa [up 3 afV] at h),fun h=>k4 (by rwa [up 4 afV] at h),fun _=>rfl,fun h=>k6 (by rwa [up 6 afV] at h),fun h=>k7 (by rwa [up 7 afV] at h)⟩
  ·have up: ∀j,j≠6→(an.setIfInBounds 6 true).getD j false=an.getD j false:=fun j h=>getD_set_ne _ (ag8 h)
   have se: (an.setIfInBounds 6 true).getD 6 false=true:=by simp[Array.getD,bF]
   have DW:rk (an.setIfInBounds 6 true)=rk an:=by unfold rk;rw[up 8 afV,up 7 afV,up 4 afV]
   have qv:=eJ
   obtain⟨_,GC,f0,⟨f1,f11,f12⟩,⟨f2,f21,f22⟩,_⟩:=eJ
   have g0:W.heap.size<w.heap.size:=ae0
   have g1:W.heap.size+1 <w.heap.size:=ae0
   have g2:W.heap.size+1+1 <w.heap.size:=ae0
   refine kQ rfl rfl ?_
   go_simp
   refine⟨by simpa using bF,by rw[up 7 afV,up 4 afV];exact Rp,by rw[up 8 afV,up 7 afV];exact QT,by rw[DW];exact qv,_,_,_,_,_,_,_,_,rfl,fun h=>k0 (by rwa [up 0 afV] at h),fun h=>k1 (by rwa [up 1 afV] at h),fun h=>k2 (by rwa [up 2 afV] at h),fun h=>k3 (by rwa [up 3 afV] at h),fun h=>k4 (by rwa [up 4 afV] at h),fun h=>k5 (by rwa [up 5 afV] at h),fun _=>rfl,fun h=>k7 (by rwa [up 7 afV] at h)⟩
  ·have up: ∀j,j≠7→(an.setIfInBounds 7 true).getD j false=an.getD j false:=fun j h=>getD_set_ne _ (ag8 h)
   have se: (an.setIfInBounds 7 true).getD 7 false=true:=by simp[Array.getD,bF]
   have q5:an.getD 5 false=true:=(by simp at ho;subst ho;exact FO ⟨5,.data⟩ afU rfl)
   have x25:=k5 q5
   have q6:an.getD 6 false=true:=(by simp at ho;subst ho;exact FO ⟨6,.data⟩ afU rfl)
   have x26:=k6 q6
   have q4:an.getD 4 false=true:=(by simp at ho;subst ho;exact FO ⟨4,.chain⟩ afU rfl)
   have x24:=k4 q4
   subst x25
   subst x26
   subst x24
   have q8:an.getD 8 false=false:=by
    cases h:an.getD 8 false with
    | false=>rfl
    | true=>have:=QT h;rw[Go.getD_both V8] at this;cases this
   have DW:rk an=1:=by unfold rk;rw[q8,Go.getD_both V8,q4];rfl
   have QU:rk (an.setIfInBounds 7 true)=2:=by unfold rk;rw[up 8 afV,se,q8];rfl
   rw[DW] at eJ
   refine kQ rfl rfl ?_
   go_simp
   refine Calls.mono (tF w (by have:=eJ.sz;omega) eJ.m) ?_
   rintro e w2 ⟨rfl,hg,hm⟩
   have qv:=eJ.go Dj hg hm
   simp only[]
   go_simp
   refine⟨by simpa using bF,by rw[up 4 afV];exact fun _=>q4,by rw[se];exact fun _=>rfl,by rw[QU];exact qv,_,_,_,_,_,_,_,_,rfl,fun h=>k0 (by rwa [up 0 afV] at h),fun h=>k1 (by rwa [up 1 afV] at h),fun h=>k2 (by rwa [up 2 afV] at h),fun h=>k3 (by rwa [up 3 afV] at h),fun h=>k4 (by rwa [up 4 afV] at h),fun h=>k5 (by rwa [up 5 afV] at h),fun h=>k6 (by rwa [up 6 afV] at h),fun _=>rfl⟩
  ·have up: ∀j,j≠8→(an.setIfInBounds 8 true).getD j false=an.getD j false:=fun j h=>getD_set_ne _ (ag8 h)
   have se: (an.setIfInBounds 8 true).getD 8 false=true:=by simp[Array.getD,bF]
   have q1:an.getD 1 false=true:=(by simp at ho;subst ho;exact FO ⟨1,.data⟩ afU rfl)
   have x21:=k1 q1
   have q4:an.getD 4 false=true:=(by simp at ho;subst ho;exact FO ⟨4,.data⟩ afU rfl)
   have x24:=k4 q4
   have q7:an.getD 7 false=true:=(by simp at ho;subst ho;exact FO ⟨7,.data⟩ afU rfl)
   have x27:=k7 q7
   subst x21
   subst x24
   subst x27
   have DW:rk an=2:=by unfold rk;rw[Go.getD_both V8,q7];rfl
   have QU:rk (an.setIfInBounds 8 true)=3:=by unfold rk;rw[se];rfl
   rw[DW] at eJ
   obtain⟨en,cl,hm,hZ⟩:=eJ.m
   obtain⟨w3,DU,DV,hup,Te,hm3,hZ'⟩:=Xd w en cl hm hZ
   have qv:=eJ.go Dj Te ⟨DU,DV,hm3,hZ'⟩
   refine kQ rfl rfl ?_
   go_simp
   refine⟨by simpa using bF,by rw[up 7 afV,up 4 afV];exact Rp,by rw[up 7 afV];exact fun _=>q7,by rw[QU];exact qv,_,_,_,_,_,_,_,_,rfl,fun h=>k0 (by rwa [up 0 afV] at h),fun h=>k1 (by rwa [up 1 afV] at h),fun h=>k2 (by rwa [up 2 afV] at h),fun h=>k3 (by rwa [up 3 afV] at h),fun h=>k4 (by rwa [up 4 afV] at h),fun h=>k5 (by rwa [up 5 afV] at h),fun h=>k6 (by rwa [up 6 afV] at h),fun h=>k7 (by rwa [up 7 afV] at h)⟩
 ·rintro an act w ⟨bF,Rp,QT,eJ,x6,x7,x8,x9,MB,MC,MD,ME,rfl,k0,k1,k2,k3,k4,k5,k6,k7⟩ hr
  have b0:=fG bF hr (j:=0) rfl afU
  have b1:=fG bF hr (j:=1) rfl (by simpa using b0)
  have b2:=fG bF hr (j:=2) rfl afU
  have b3:=fG bF hr (j:=3) rfl afU
  have b4:=fG bF hr (j:=4) rfl (by simpa using And.intro b2 b3)
  have b5:=fG bF hr (j:=5) rfl afU
  have b6:=fG bF hr (j:=6) rfl afU
  have b7:=fG bF hr (j:=7) rfl (by simpa using And.intro b5 (And.intro b6 b4))
  have b8:=fG bF hr (j:=8) rfl (by intro e he;simp at he;rcases he with h| h| h| h| h| h| h| h| h| h| h| h<;>subst h<;>assumption)
  have DW:rk an=3:=by unfold rk;rw[b8];rfl
  rw[DW] at eJ
  have key:=eJ.grow
  have Rt:=eJ.m
  refine bodyPost_end (v:= .tuple #[]) (by simp[results]) rfl ⟨rfl,key,Rt⟩
 ·obtain⟨en,cl,hm,hZ⟩:=h0
  have wJ:=GK W (.cells #[.map (some bm)] 74) (.cells #[.int .i64 a,.int .i64 b,.int .i64 c] 80) (.cells #[.int .i64 p,.int .i64 q,.int .i64 r] 80)
  obtain⟨W3,QV⟩: ∃x,x=((W.alloc (.cells #[.map (some bm)] 74)).alloc (.cells #[.int .i64 a,.int .i64 b,.int .i64 c] 80)).alloc (.cells #[.int .i64 p,.int .i64 q,.int .i64 r] 80):=⟨_,rfl⟩
  have f0:W3.cell? ⟨W.heap.size,0,none⟩=some (.map (some bm)):=by rw[QV];go_simp
  have f1:W3.cell? ⟨W.heap.size+1,0,none⟩=some (.int .i64 a):=by rw[QV];go_simp
  have f11:W3.cell? ⟨W.heap.size+1,1,none⟩=some (.int .i64 b):=by rw[QV];go_simp
  have f12:W3.cell? ⟨W.heap.size+1,2,none⟩=some (.int .i64 c):=by rw[QV];go_simp
  have f2:W3.cell? ⟨W.heap.size+1+1,0,none⟩=some (.int .i64 p):=by rw[QV];go_simp
  have f21:W3.cell? ⟨W.heap.size+1+1,1,none⟩=some (.int .i64 q):=by rw[QV];go_simp
  have f22:W3.cell? ⟨W.heap.size+1+1,2,none⟩=some (.int .i64 r):=by rw[QV];go_simp
  have hs:W3.heap.size=W.heap.size+3:=by rw[QV];simp only[World.size_alloc]
  have hmm:W3.heap[bm]? =some (.map en cl):=by rw[QV,wJ.block bm Dj afU];exact hm
  rw[←QV] at wJ ⊢
  clear QV
  exact⟨afU,afU,afU,⟨⟨wJ.os,wJ.tape,wJ.output,wJ.size,fun k hk hr=>wJ.block k hk afU⟩,by show W.heap.size+3≤W3.heap.size;omega,f0,⟨f1,f11,f12⟩,⟨f2,f21,f22⟩,en,cl,hmm,hZ⟩,_,_,_,_,_,_,_,_,rfl,afU,afU,afU,afU,afU,afU,afU,afU⟩
end Go.Proofs
namespace Go.AM
open Go.RowKit Go.Proofs Go.Proofs.YtdifmldbllaeiaaGreat
structure uQ (P:Program):Prop where
 w: ∀ (W:World) (bm:Nat) (a b c u v z:Int) (Z:Array MapEntry→Nat→Prop),bm<W.heap.size→
  (∀ (w:World) (Bs Bc:Nat),Bs<w.heap.size→Bc<w.heap.size→bm<w.heap.size→w.cell? ⟨Bs,0,none⟩=some (.map (some bm))→w.cell? ⟨Bc,0,none⟩=some (Ck Bs Bc)→w.heap[bm]? =W.heap[bm]? →
    Calls P 75 #[v3 a b c,.pointer (some ⟨Bs,0,none⟩),.pointer (some ⟨Bc,0,none⟩)] w fun e W'=>e= .returned (v3 u v z)∧w.grownBy W' (some bm)∧ ∃en cl,W'.heap[bm]? =some (.map en cl)∧Z en cl)→
  Calls P 29 #[.agg #[.map (some bm)],v3 a b c] W fun e W'=>e= .returned (v3 u v z)∧W.grownBy W' (some bm)∧ ∃en cl,W'.heap[bm]? =some (.map en cl)∧Z en cl
 enter: ∀args w,(callFunc 29 args).run P w= .ok (.enter 29 args) w
structure GL (P:Program):Prop where
 w: ∀ (W:World) (bm:Nat) (a b c p q r u v z u' v' z':Int) (Z:Nat→Array MapEntry→Nat→Prop),bm<W.heap.size→
  (∃en cl,W.heap[bm]? =some (.map en cl)∧Z 0 en cl)→
  (∀w:World,bm<w.heap.size→(∃en cl,w.heap[bm]? =some (.map en cl)∧Z 0 en cl)→Calls P 29 #[.agg #[.map (some bm)],v3 a b c] w fun e W'=>e= .returned (v3 u v z)∧w.grownBy W' (some bm)∧ ∃en cl,W'.heap[bm]? =some (.map en cl)∧Z 1 en cl)→
  (∀w:World,bm<w.heap.size→(∃en cl,w.heap[bm]? =some (.map en cl)∧Z 1 en cl)→Calls P 29 #[.agg #[.map (some bm)],v3 p q r] w fun e W'=>e= .returned (v3 u' v' z')∧w.grownBy W' (some bm)∧ ∃en cl,W'.heap[bm]? =some (.map en cl)∧Z 2 en cl)→
  (∀ (w:World) en cl,w.heap[bm]? =some (.map en cl)→Z 2 en cl→ ∃w3 DU DV,(Instr.mapUpdate 72 (.map (some bm)) (v3 u v z) (v3 u' v' z')).run P w= .ok () w3∧w.grownBy w3 (some bm)∧w3.heap[bm]? =some (.map DU DV)∧Z 3 DU DV)→
  Calls P 28 #[.agg #[.map (some bm)],v3 a b c,v3 p q r] W fun e W'=>e= .returned (.tuple #[])∧W.grownBy W' (some bm)∧ ∃en cl,W'.heap[bm]? =some (.map en cl)∧Z 3 en cl
 enter: ∀args w,(callFunc 28 args).run P w= .ok (.enter 28 args) w
theorem GM {P:Program} {F:FuncId} {fn:Func} {cd:Code} (mc:P.funcs[F]? =some fn) (gQ: (fn.name== "runtime.NumGoroutine")=false) (fS:fn.body=some cd) (args:Array Value) (w:World): (callFunc F args).run P w= .ok (.enter F args) w:=by
 simp[callFunc,Sem.run_bind,program,Sem.run,mc,fS]
 simpa using gQ
theorem GI:uQ Tryz.prog:=⟨Mt,GM Tryz.func29 rfl rfl⟩
theorem QM:GL Tryz.prog:=⟨Mv,GM Tryz.func28 rfl rfl⟩
theorem Aj {Y:Ctx} {μ:Mu} (hW:nL Y.P) (hR:uQ Y.P) (hk:cH Y.toTrEnv 80=some [1,1,1]) {n:Nat} {es es':List V} {a b c u v z:Int} (h:jo n es (.agg [.int .i64 a,.int .i64 b,.int .i64 c])=some (.agg [.int .i64 u,.int .i64 v,.int .i64 z],es')) (hs:es.all iL=true) (W:World) (bm:Nat) (hb:bm<W.heap.size)
  (hm: ∃en cl,W.heap[bm]? =some (.map en cl)∧gr en cl∧ag Y μ es (en.toList.map oY)):
  Calls Y.P 29 #[.agg #[.map (some bm)],v3 a b c] W fun e W'=>e= .returned (v3 u v z)∧W.grownBy W' (some bm)∧ ∃en cl,W'.heap[bm]? =some (.map en cl)∧gr en cl∧ag Y μ es' (en.toList.map oY):=by
 obtain⟨ents,clock,hm,cr,hrel⟩:=hm
 refine hR.w W bm a b c u v z (fun en cl=>gr en cl∧ag Y μ es' (en.toList.map oY)) hb fun w Bs Bc k1 k2 k3 k4 k5 k6=> ?_
 refine(Cm hW hk n h rfl hs (dY.2 rfl) w Bs Bc bm clock ents k1 k2 k3 k4 k5 (k6.trans hm) cr hrel).mono ?_
 rintro e w' ⟨⟨rv,rfl,hrv⟩,g1,en,cl,g2,g3,g4⟩
 obtain rfl:=dY.1 hrv
 exact⟨rfl,g1,en,cl,g2,g3,g4⟩
theorem QN {X:TrEnv} (hW:nL X.P) (hR:uQ X.P) (hk:cH X 80=some [1,1,1]):vM X 29 AY:=by
 intro es xs v es' h
 unfold AY at h
 split at h
 ·rename_i x
  split at h
  ·rename_i hc
   simp only[af2] at hc
   obtain⟨hx,hs⟩:=hc
   obtain⟨hr,ji⟩:=qu _ h hx hs
   refine⟨wZ hr,fK ji,fun Y μ bm ents clock vals hY hm cr hrel w8 _=> ?_⟩
   obtain⟨a,b,c,rfl⟩:=fV hx
   obtain⟨p,q,r,rfl⟩:=fV hr
   obtain⟨xv,rfl⟩: ∃xv,vals=[xv]:=by
    match vals,w8 with
    | [xv],_=>exact⟨xv,rfl⟩
   simp only[ag,and_true] at w8
   obtain rfl:=dY.1 w8
   subst hY
   rw[hR.enter]
   simp only[sC]
   refine Calls.mono (Aj (Y:=Y) (μ:=μ) hW hR hk h hs μ.w bm (af1.1 hm).1 ⟨ents,clock,hm,cr,hrel⟩) ?_
   rintro e w' ⟨rfl,g1,en,cl,g2,g3,g4⟩
   exact⟨dY.2 rfl,g1,en,cl,g2,g3,bQ rfl (fK ji) g4⟩
  ·simp at h
 ·simp at h
theorem QL {X:TrEnv} (hW:nL X.P) (hR:uQ X.P) (hJ:GL X.P) (hk:cH X 80=some [1,1,1]):vM X 28 AZ:=by
 intro es xs v es' h
 unfold AZ at h
 split at h
 ·rename_i x y
  split at h
  ·rename_i hc
   simp only[af2] at hc
   obtain⟨⟨hx,hy⟩,hs⟩:=hc
   split at h
   ·rename_i ra QY h1
    split at h
    ·rename_i rb Ar h2
     simp only[afZ,af4] at h
     obtain⟨ZO,fj,rfl,rfl⟩:=h
     obtain⟨Vf,iY⟩:=qu _ h1 hx hs
     obtain⟨hrb,nZ⟩:=qu _ h2 hy iY
     have BL:=uP Vf hrb nZ fj
     refine⟨rfl,fK BL,fun Y μ bm ents clock vals hY hm cr hrel w8 _=> ?_⟩
     obtain⟨a,b,c,rfl⟩:=fV hx
     obtain⟨p,q,r,rfl⟩:=fV hy
     obtain⟨u,w,z,rfl⟩:=fV Vf
     obtain⟨u',w',z',rfl⟩:=fV hrb
     obtain⟨xv,yv,rfl⟩: ∃xv yv,vals=[xv,yv]:=by
      match vals,w8 with
      | [xv,yv],_=>exact⟨xv,yv,rfl⟩
     simp only[ag,and_true] at w8
     obtain rfl:=dY.1 w8.1
     obtain rfl:=dY.1 w8.2
     subst hY
     rw[hJ.enter]
     simp only[sC]
     refine Calls.mono (hJ.w μ.w bm a b c p q r u w z u' w' z' (fun k en cl=>gr en cl∧ag Y μ (match k with| 0=>es| 1=>QY| 2=>Ar| _=>ZO) (en.toList.map oY)) (af1.1 hm).1 ⟨ents,clock,hm,cr,hrel⟩ ?_ ?_ ?_) ?_
     ·intro W hb D3
      exact Aj (Y:=Y) (μ:=μ) hW hR hk h1 hs W bm hb D3
     ·intro W hb D3
      exact Aj (Y:=Y) (μ:=μ) hW hR hk h2 iY W bm hb D3
     ·rintro W en cl k1 ⟨k2,k3⟩
      obtain⟨w3,DU,DV,q1,q2,q3,q4,q5⟩:=Ai (X:=Y) (μ:=⟨W,μ.φ,μ.O⟩) hW.map hk (Kj Vf Vf) (dY.2 rfl) (dY.2 (rfl:v3 u' w' z'=_)) k1 k2 (bQ rfl (fK nZ) k3) fj
      exact⟨w3,DU,DV,q1,q2,q3,q4,bQ rfl (fK BL) q5⟩
     ·rintro e w4 ⟨rfl,g1,en,cl,g2,g3,g4⟩
      exact⟨by simp[aj,ag],g1,en,cl,g2,g3,bQ rfl (fK BL) g4⟩
    ·simp at h
   ·simp at h
  ·simp at h
 ·simp at h
end Go.AM
