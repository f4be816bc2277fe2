/- Texts of the proof. -/
import Derived.Test.YtdldmebldkgcnaaGreatOpsC
import Derived.Test.YtdldmebldkgcnaaGreatRows
import Derived.WalkKit
import Derived.RangeFuncRecord
import Derived.Tactics
import Derived.Tactics2
import Derived.Orders
import Derived.StillTail
set_option maxHeartbeats 4000000
set_option linter.unusedSimpArgs false
set_option linter.unusedVariables false
namespace Go.Proofs
open Go.RowKit Go.AM Go.Proofs.YtdldmebldkgcnaaGreat
theorem ltk {a b k:Nat} (h:a<b): (a<b+k)=True:=eq_true abV
attribute [local go_sem] ltk
@[local go_sem] theorem mz {w:World} {o:Obj} {a:Addr} (h:a.block<w.heap.size): (w.alloc o).cell? a=w.cell? a:=by
  simp only[World.cell?,Below.heap_alloc w o a.block h]
@[local go_sem] theorem jZ {w:World} {o1 o2 o3:Obj} {a:Addr} (h:a.block<w.heap.size): (((w.alloc o1).alloc o2).alloc o3).cell? a=w.cell? a:=by
  rw[mz (by simp only[World.size_alloc];omega),mz (by simp only[World.size_alloc];omega),mz h]
@[local go_sem] theorem df {w:World} {o:Obj} {r:Nat} (h:r<w.heap.size): (w.alloc o).heap[r]? =w.heap[r]? :=Below.heap_alloc w o r h
theorem ko {fn:Func} {p:Tmp} {ty:TypeId} (h:fn.results= #[.cell p ty]) (tmps:Array Value) (P:Program) (w:World):
  (results fn tmps).run P w=((asAddr (tmps.getD p undef)).run P w).andThen fun a w₁=> (loadVar ty a).run P w₁:=by
 simp only[results,h]
 simp[Sem.run_bind,Result.andThen]
theorem Un (W:World) (a b:Obj): ((W.alloc a).alloc b).heap[W.heap.size+1]? =some b:=by
 have:=World.alloc_heap_new (W.alloc a) b
 rwa [World.size_alloc] at this
def Hid (p:Prop):Prop:=p
theorem Ya {p:Prop} (h:Hid p):p:=h
theorem gY {A B C:World} {row:Option Nat} (h:A.grownBy B row) (k:B.grownBy C row):A.grownBy C row:=
 ⟨k.os.trans h.os,k.tape.trans h.tape,k.output.trans h.output,ajb h.size k.size,fun i hi hr=> (k.block i (ai2 hi h.size) hr).trans (h.block i hi hr)⟩
theorem oK {A B:World} {row:Option Nat} (h:A.grownBy B row) {a:Addr} (ha:A.heap.size≤a.block) (v:Value):A.grownBy (B.setCell a v) row:=
 ⟨h.os,h.tape,h.output,by simpa using h.size,fun i hi hr=> (Below.heap_setCell _ _ _ _ abV).trans (h.block i hi hr)⟩
theorem wC {A B:World} (h:A.grownBy B none) (row:Option Nat):A.grownBy B row:=⟨h.os,h.tape,h.output,h.size,fun i hi _=>h.block i hi abW⟩
theorem Jf (W:World) (a b c:Obj):W.grownBy (((W.alloc a).alloc b).alloc c) none:=gY (gY (World.grownBy_alloc W a none) (World.grownBy_alloc _ b none)) (World.grownBy_alloc _ c none)
set_option maxRecDepth 100000 in
theorem LM (W:World) (Bs Bc bm clock:Nat) (ents:Array MapEntry) (a b c p q r:Int) (ok:Bool) (Cm:Bs<W.heap.size) (tO:Bc<W.heap.size) (Lz:bm<W.heap.size)
  (hs:W.cell? ⟨Bs,0,none⟩=some (.map (some bm))) (hc:W.cell? ⟨Bc,0,none⟩=some (.func (.func 281) #[] #[.pointer (some ⟨Bs,0,none⟩),.pointer (some ⟨Bc,0,none⟩)]))
  (hm:W.heap[bm]? =some (.map ents clock)) (kZ:ok=true→p=a∧q=b∧r=c)
  (Uo: ∀w:World,w.heap[bm]? =some (.map ents clock)→(Instr.lookup 318 (.map (some bm)) (.agg #[.int .i64 a,.int .i64 b,.int .i64 c]) true).run Tryz.prog w= .ok (.tuple #[.agg #[.int .i64 p,.int .i64 q,.int .i64 r],.bool ok]) w):
  Calls Tryz.prog 281 #[.agg #[.int .i64 a,.int .i64 b,.int .i64 c],.pointer (some ⟨Bs,0,none⟩),.pointer (some ⟨Bc,0,none⟩)] W fun e W'=>e= .returned (.agg #[.int .i64 a,.int .i64 b,.int .i64 c])∧W.grownBy W' none:=by
 go_enter Tryz.func281,Tryz.ntmps281
 go_wp2
 rw[Uo _ (by rw[df (by rw[World.size_alloc];omega),df Lz];exact hm)]
 cases ok
 ·go_wp2
  refine bodyPost_ret (by rw[ko rfl];go_simp;rfl) rfl ?_
  exact⟨rfl,Jf _ _ _ _⟩
 ·obtain⟨rfl,rfl,rfl⟩:=kZ rfl
  go_wp2
  refine bodyPost_ret (by rw[ko rfl];go_simp;rfl) rfl ?_
  exact⟨rfl,Jf _ _ _ _⟩
set_option maxRecDepth 100000 in
theorem PG (W:World) (Bs Bc bm clock:Nat) (ents:Array MapEntry) (a b c p q r u v z:Int) (Z:Array MapEntry→Nat→Prop) (Z':Array MapEntry→Nat→Prop) (Cm:Bs<W.heap.size) (tO:Bc<W.heap.size) (Lz:bm<W.heap.size)
  (hs:W.cell? ⟨Bs,0,none⟩=some (.map (some bm))) (hc:W.cell? ⟨Bc,0,none⟩=some (.func (.func 281) #[] #[.pointer (some ⟨Bs,0,none⟩),.pointer (some ⟨Bc,0,none⟩)]))
  (hm:W.heap[bm]? =some (.map ents clock)) (aec: (p==a && (q==b &&r==c))=false)
  (Uo: ∀w:World,w.heap[bm]? =some (.map ents clock)→(Instr.lookup 318 (.map (some bm)) (.agg #[.int .i64 a,.int .i64 b,.int .i64 c]) true).run Tryz.prog w= .ok (.tuple #[.agg #[.int .i64 p,.int .i64 q,.int .i64 r],.bool true]) w)
  (SZ: ∀w:World,Bs<w.heap.size→Bc<w.heap.size→bm<w.heap.size→w.cell? ⟨Bs,0,none⟩=some (.map (some bm))→w.cell? ⟨Bc,0,none⟩=some (.func (.func 281) #[] #[.pointer (some ⟨Bs,0,none⟩),.pointer (some ⟨Bc,0,none⟩)])→w.heap[bm]? =some (.map ents clock)→
    Calls Tryz.prog 281 #[.agg #[.int .i64 p,.int .i64 q,.int .i64 r],.pointer (some ⟨Bs,0,none⟩),.pointer (some ⟨Bc,0,none⟩)] w fun e W'=>e= .returned (.agg #[.int .i64 u,.int .i64 v,.int .i64 z])∧w.grownBy W' (some bm)∧ ∃en cl,W'.heap[bm]? =some (.map en cl)∧Z en cl)
  (aaE: ∀ (w:World) en cl,w.heap[bm]? =some (.map en cl)→Z en cl→ ∃w3 Ge Gf,(Instr.mapUpdate 318 (.map (some bm)) (.agg #[.int .i64 a,.int .i64 b,.int .i64 c]) (.agg #[.int .i64 u,.int .i64 v,.int .i64 z])).run Tryz.prog w= .ok () w3∧w.grownBy w3 (some bm)∧w3.heap[bm]? =some (.map Ge Gf)∧Z' Ge Gf):
  Calls Tryz.prog 281 #[.agg #[.int .i64 a,.int .i64 b,.int .i64 c],.pointer (some ⟨Bs,0,none⟩),.pointer (some ⟨Bc,0,none⟩)] W fun e W'=>e= .returned (.agg #[.int .i64 u,.int .i64 v,.int .i64 z])∧W.grownBy W' (some bm)∧ ∃en cl,W'.heap[bm]? =some (.map en cl)∧Z' en cl:=by
 go_enter Tryz.func281,Tryz.ntmps281
 go_wp2
 rw[Uo _ (by rw[df (by rw[World.size_alloc];omega),df Lz];exact hm)]
 go_wp2_with (go_at_call 281;refine Ya ?_)
 all_goals subst_vars
 all_goals (try (exfalso;simp at aec;done))
 all_goals unfold Hid
 all_goals refine Calls.mono (SZ _ (by simp only[World.size_alloc];omega) (by simp only[World.size_alloc];omega) (by simp only[World.size_alloc];omega) (by rw[jZ Cm];exact hs) (by rw[jZ tO];exact hc) (by rw[df (by simp only[World.size_alloc];omega),df (by simp only[World.size_alloc];omega),df Lz];exact hm)) ?_
 all_goals rintro e w2 ⟨rfl,hg,en,cl,PM,hZ⟩
 all_goals have bI:W.heap.size+3≤w2.heap.size:=by have:=hg.size;simp only[World.size_alloc] at this;omega
 all_goals have n1:Bs≠bm:=by rintro rfl;simp[World.cell?,hm] at hs
 all_goals have n2:W.heap.size≠bm:=abV
 all_goals have n3:W.heap.size+1≠bm:=abV
 all_goals have g1:Bs<w2.heap.size:=abV
 all_goals have g2:W.heap.size<w2.heap.size:=abV
 all_goals have g3:W.heap.size+1 <w2.heap.size:=abV
 all_goals have g4:bm<w2.heap.size:=abV
 all_goals have f1:w2.cell? ⟨Bs,0,none⟩=some (.map (some bm)):=hg.cell (by rw[jZ Cm];exact hs) (by simpa using n1)
 all_goals have f2:=hg.cell (a:=⟨W.heap.size,0,none⟩) (by go_simp;rfl) (by simpa using n2)
 all_goals have f3:=hg.cell (a:=⟨W.heap.size,1,none⟩) (by go_simp;rfl) (by simpa using n2)
 all_goals have f4:=hg.cell (a:=⟨W.heap.size,2,none⟩) (by go_simp;rfl) (by simpa using n2)
 all_goals simp only[]
 all_goals go_wp2
 all_goals obtain⟨w3,Ge,Gf,hup,Wp,hm3,hZ'⟩:=aaE (w2.alloc (.cells #[.int .i64 u,.int .i64 v,.int .i64 z] 285)) en cl (by rw[df g4];exact PM) hZ
 all_goals rw[hup]
 all_goals have m1:w2.heap.size≠bm:=abV
 all_goals have e1:=Wp.cell (a:=⟨w2.heap.size,0,none⟩) (by go_simp;rfl) (by simpa using m1)
 all_goals have e2:=Wp.cell (a:=⟨w2.heap.size,1,none⟩) (by go_simp;rfl) (by simpa using m1)
 all_goals have e3:=Wp.cell (a:=⟨w2.heap.size,2,none⟩) (by go_simp;rfl) (by simpa using m1)
 all_goals have e4:w3.heap[W.heap.size+1]? =some (.cells #[.int .i64 0,.int .i64 0,.int .i64 0] 285):=(by rw[Wp.block _ (by rw[World.size_alloc];omega) (by simpa using n3),df g3,hg.block _ (by simp only[World.size_alloc];omega) (by simpa using n3),df (by simp only[World.size_alloc];omega)];exact Un _ _ _)
 all_goals have d0:w3.cell? ⟨W.heap.size+1,0,none⟩=some (.int .i64 0):=by simp[World.cell?,e4]
 all_goals have z0:w3.frozen? ⟨W.heap.size+1,0,none⟩=false:=by simp[World.frozen?,e4]
 all_goals have d1:w3.cell? ⟨W.heap.size+1,1,none⟩=some (.int .i64 0):=by simp[World.cell?,e4]
 all_goals have z1:w3.frozen? ⟨W.heap.size+1,1,none⟩=false:=by simp[World.frozen?,e4]
 all_goals have d2:w3.cell? ⟨W.heap.size+1,2,none⟩=some (.int .i64 0):=by simp[World.cell?,e4]
 all_goals have z2:w3.frozen? ⟨W.heap.size+1,2,none⟩=false:=by simp[World.frozen?,e4]
 all_goals clear e4
 all_goals go_wp2
 all_goals refine bodyPost_ret (by rw[ko rfl];go_simp;rfl) rfl ?_
 all_goals refine⟨rfl,?_,Ge,Gf,?_,hZ'⟩
 all_goals first
  | exact oK (oK (oK (gY (gY (wC (Jf W _ _ _) _) hg) (gY (World.grownBy_alloc w2 _ _) Wp)) (Nat.le_succ _) _) (Nat.le_succ _) _) (Nat.le_succ _) _
  | (rw[Below.heap_setCell _ _ _ _ n3.symm,Below.heap_setCell _ _ _ _ n3.symm,Below.heap_setCell _ _ _ _ n3.symm];exact hm3)
end Go.Proofs
namespace Go.AM
open Go.RowKit Go.Proofs Go.Proofs.YtdldmebldkgcnaaGreat
def aaF (z:Value):Option (Nat×Value)→Value
 | some p=>p.2
 | none=>z
section
variable {X:Ctx} {μ:Mu}
theorem Cg {t kt et:TypeId} {ks:List Nat} {kv zv:Value} {k:V} {b clock:Nat} {ents:Array MapEntry} {r:Option (Nat×Value)} (ht:X.P.underlying t=some (.map kt et)) (hk:cN X kt=some ks) (mT: (du ks k k).isSome=true)
  (h1:aj X μ k kv) (hb:μ.w.heap[b]? =some (.map ents clock)) (hf:vX X μ kt kv ents.toList r) (hz: (zeroValue et).run X.P μ.w= .ok zv μ.w):
  (Instr.lookup t (.map (some b)) kv true).run X.P μ.w= .ok (.tuple #[aaF zv r,.bool r.isSome]) μ.w:=by
 obtain⟨⟨fs,hd⟩,_⟩:=eV hk
 have CT:=jc hd hf
 have Jt:=fun em=>qZ hk mT h1 em μ.w
 cases r with
 | none=>simp[Instr.lookup,Sem.run_bind,run_underlying ht,Result.andThen,Go.MapKept.run_getObj_map hb,Jt,CT,hz,aaF]
 | some p=>simp[Instr.lookup,Sem.run_bind,run_underlying ht,Result.andThen,Go.MapKept.run_getObj_map hb,Jt,CT,aaF]
theorem Ch {t kt et:TypeId} {ks:List Nat} {kv uv:Value} {k u:V} {b clock:Nat} {ents:Array MapEntry} {es es':List V} (ht:X.P.underlying t=some (.map kt et)) (hk:cN X kt=some ks) (mT: (du ks k k).isSome=true)
  (h1:aj X μ k kv) (h2:aj X μ u uv) (hb:μ.w.heap[b]? =some (.map ents clock)) (cC:gQ ents clock) (hrel:ag X μ es (ents.toList.map pU)) (fE:dP ks k u es=some es'):
  ∃w3 en cl,(Instr.mapUpdate t (.map (some b)) kv uv).run X.P μ.w= .ok () w3∧μ.w.grownBy w3 (some b)∧w3.heap[b]? =some (.map en cl)∧gQ en cl∧ag X μ es' (en.toList.map pU):=by
 obtain⟨⟨fs,hd⟩,_⟩:=eV hk
 have Jt:=qZ hk mT h1 false μ.w
 have bl:b<μ.w.heap.size:=(aiV.1 hb).1
 have grow: ∀ob:Go.Obj,μ.w.grownBy {μ.w with heap:=μ.w.heap.setIfInBounds b ob} (some b):=fun ob=>
  ⟨rfl,rfl,rfl,abW,fun i hi hr=>by simp[ajY,show b≠i from fun e=>hr (by rw[e])]⟩
 rcases q9 hk h1 h2 hrel fE with⟨g1,g2⟩ | ⟨j,e,g1,g2,g3,g4⟩
 ·have CT:=jc hd g1
  refine⟨_,ents.push {key:=kv,val:=uv,born:=clock},clock+1,?_,grow (.map (ents.push {key:=kv,val:=uv,born:=clock}) (clock+1)),by simp[bl],sn cC _ rfl,by simpa using g2 clock⟩
  simp[Instr.mapUpdate,run_underlying ht,Go.MapKept.run_getObj_map hb,Jt,CT,Go.MapKept.run_setObj_map _ hb,Result.andThen,Sem.run_bind]
 ·have CT:=jc hd g1
  have r5:e.key=kv:=Lg mT g3 h1
  have UD:ents[j]? =some e:=by simpa using g2
  have eW:=BS mT h1 μ.w
  have hl: (ents.modify j fun e=> {e with key:=kv,val:=uv}).toList=ents.toList.set j {e with key:=kv,val:=uv}:=by
   apply ajS
   intro n
   rw[akg,ajr,ajQ]
   by_cases hn:j=n
   ·subst hn
    have bl:=(aiS.1 g2).1
    simp only[if_true,bl,g2,ai4,and_self]
    rfl
   ·simp[hn]
  refine⟨_,ents.modify j fun e=> {e with key:=kv,val:=uv},clock,?_,grow (.map (ents.modify j fun e=> {e with key:=kv,val:=uv}) clock),by simp[bl],nB cC j fun _=>rfl,by rw[hl];exact g4⟩
  simp[Instr.mapUpdate,run_underlying ht,Go.MapKept.run_getObj_map hb,Jt,CT,UD,r5,eW,Go.MapKept.run_setObj_map _ hb,Result.andThen,Sem.run_bind]
end
theorem gB {x:V} (h:bM x=true): ∃a b c,x= .agg [.int .i64 a,.int .i64 b,.int .i64 c]:=by
 unfold bM at h
 split at h
 ·exact⟨_,_,_,rfl⟩
 ·simp at h
theorem M6 {x y:V} (hx:bM x=true) (hy:bM y=true): (du [1,1,1] x y).isSome=true:=by
 obtain⟨a,b,c,rfl⟩:=gB hx
 obtain⟨p,q,r,rfl⟩:=gB hy
 simp[du,cX,Jj]
theorem ek {X:Ctx} {μ:Mu} {a b c:Int} {v:Value}:aj X μ (.agg [.int .i64 a,.int .i64 b,.int .i64 c]) v↔v= .agg #[.int .i64 a,.int .i64 b,.int .i64 c]:=by
 simp only[aj]
 constructor
 ·rintro⟨_,vs,rfl,h⟩
  obtain⟨l,hl⟩: ∃l,vs.toList=l:=⟨_,rfl⟩
  rw[hl] at h
  match l,h with
  | [u,v,w],h=>
    simp only[ag,aj,and_true] at h
    obtain⟨rfl,rfl,rfl⟩:=h
    rw[ajZ.1 (show vs.toList=(#[Value.int .i64 a,.int .i64 b,.int .i64 c]:Array Value).toList from hl)]
 ·rintro rfl
  exact⟨rfl,_,rfl,by simp[ag,aj]⟩
theorem xR {x y:V}: ∀ {es:List V},es.all jf=true→cM [1,1,1] x es=some (some y)→bM y=true
 | [],_,h=>by simp[cM] at h
 | e::es,ha,h=>by
   simp only[aja,Bool.and_eq_true] at ha
   obtain⟨h1,h2⟩:=ha
   unfold jf at h1
   split at h1
   ·rename_i k v
    simp only[Bool.and_eq_true] at h1
    simp only[cM] at h
    split at h
    ·simp only[aiT] at h;subst h;exact h1.2
    ·exact xR h2 h
    ·simp at h
   ·simp at h1
theorem wD {x y:V} (hx:bM x=true) (hy:bM y=true): ∀ {es es':List V},es.all jf=true→dP [1,1,1] x y es=some es'→es'.all jf=true
 | [],es',_,h=>by simp[dP] at h;subst h;simp[jf,hx,hy]
 | e::es,es',ha,h=>by
   simp only[aja,Bool.and_eq_true] at ha
   obtain⟨h1,h2⟩:=ha
   unfold jf at h1
   split at h1
   ·rename_i k v
    simp only[dP] at h
    split at h
    ·simp only[aiT] at h;subst h;rw[aja,h2];simp[jf,hx,hy]
    ·simp only[aiU] at h
     obtain⟨l,h3,rfl⟩:=h
     have:=wD hx hy h2 h3
     simp only[aja,this,ajy]
     exact h1
    ·simp at h
   ·simp at h1
theorem rI: ∀ (n:Nat) {es es':List V} {x r:V},jO n es x=some (r,es')→bM x=true→es.all jf=true→bM r=true∧es'.all jf=true
 | 0,_,_,_,_,h,_,_=>by simp[jO] at h
 | n+1,es,es',x,r,h,hx,hs=>by
   unfold jO at h
   split at h
   ·simp only[aiT,aiX] at h;obtain⟨rfl,rfl⟩:=h;exact⟨hx,hs⟩
   ·rename_i y hy
    have hsy:=xR hs hy
    split at h
    ·simp only[aiT,aiX] at h;obtain⟨rfl,rfl⟩:=h;exact⟨hx,hs⟩
    ·split at h
     ·rename_i r1 Uv h1
      simp only[aiU,aiX] at h
      obtain⟨l,h2,rfl,rfl⟩:=h
      obtain⟨a1,a2⟩:=rI n h1 hsy hs
      exact⟨a1,wD hx a1 a2 h2⟩
     ·simp at h
    ·simp at h
   ·simp at h
theorem yP {x:V} (hh:bM x=true):V.isScalar x=true:=by obtain⟨a,b,c,rfl⟩:=gB hh;rfl
theorem fY: ∀ {es:List V},es.all jf=true→V.bn es=true
 | [],_=>rfl
 | e::es,hh=>by
   simp only[aja,Bool.and_eq_true] at hh
   obtain⟨h1,h2⟩:=hh
   unfold jf at h1
   split at h1
   ·simp only[Bool.and_eq_true] at h1
    obtain⟨a,b,c,rfl⟩:=gB h1.1
    obtain⟨p,q,r,rfl⟩:=gB h1.2
    simp[V.bn,V.isScalar,fY h2]
   ·simp at h1
abbrev v3 (a b c:Int):Value:= .agg #[.int .i64 a,.int .i64 b,.int .i64 c]
abbrev Ez (Bs Bc:Nat):Value:= .func (.func 281) #[] #[.pointer (some ⟨Bs,0,none⟩),.pointer (some ⟨Bc,0,none⟩)]
structure oM (P:Program):Prop where
 same: ∀ (W:World) (Bs Bc bm clock:Nat) (ents:Array MapEntry) (a b c p q r:Int) (ok:Bool),Bs<W.heap.size→Bc<W.heap.size→bm<W.heap.size→
  W.cell? ⟨Bs,0,none⟩=some (.map (some bm))→W.cell? ⟨Bc,0,none⟩=some (Ez Bs Bc)→W.heap[bm]? =some (.map ents clock)→(ok=true→p=a∧q=b∧r=c)→
  (∀w:World,w.heap[bm]? =some (.map ents clock)→(Instr.lookup 318 (.map (some bm)) (v3 a b c) true).run P w= .ok (.tuple #[v3 p q r,.bool ok]) w)→
  Calls P 281 #[v3 a b c,.pointer (some ⟨Bs,0,none⟩),.pointer (some ⟨Bc,0,none⟩)] W fun e W'=>e= .returned (v3 a b c)∧W.grownBy W' none
 aed: ∀ (W:World) (Bs Bc bm clock:Nat) (ents:Array MapEntry) (a b c p q r u v z:Int) (Z Z':Array MapEntry→Nat→Prop),Bs<W.heap.size→Bc<W.heap.size→bm<W.heap.size→
  W.cell? ⟨Bs,0,none⟩=some (.map (some bm))→W.cell? ⟨Bc,0,none⟩=some (Ez Bs Bc)→W.heap[bm]? =some (.map ents clock)→(p==a && (q==b &&r==c))=false→
  (∀w:World,w.heap[bm]? =some (.map ents clock)→(Instr.lookup 318 (.map (some bm)) (v3 a b c) true).run P w= .ok (.tuple #[v3 p q r,.bool true]) w)→
  (∀w:World,Bs<w.heap.size→Bc<w.heap.size→bm<w.heap.size→w.cell? ⟨Bs,0,none⟩=some (.map (some bm))→w.cell? ⟨Bc,0,none⟩=some (Ez Bs Bc)→w.heap[bm]? =some (.map ents clock)→
    Calls P 281 #[v3 p q r,.pointer (some ⟨Bs,0,none⟩),.pointer (some ⟨Bc,0,none⟩)] w fun e W'=>e= .returned (v3 u v z)∧w.grownBy W' (some bm)∧ ∃en cl,W'.heap[bm]? =some (.map en cl)∧Z en cl)→
  (∀ (w:World) en cl,w.heap[bm]? =some (.map en cl)→Z en cl→ ∃w3 Ge Gf,(Instr.mapUpdate 318 (.map (some bm)) (v3 a b c) (v3 u v z)).run P w= .ok () w3∧w.grownBy w3 (some bm)∧w3.heap[bm]? =some (.map Ge Gf)∧Z' Ge Gf)→
  Calls P 281 #[v3 a b c,.pointer (some ⟨Bs,0,none⟩),.pointer (some ⟨Bc,0,none⟩)] W fun e W'=>e= .returned (v3 u v z)∧W.grownBy W' (some bm)∧ ∃en cl,W'.heap[bm]? =some (.map en cl)∧Z' en cl
 map:P.underlying 318=some (.map 285 285)
 zero: ∀w:World,(zeroValue 285).run P w= .ok (v3 0 0 0) w
theorem Ey:oM Tryz.prog where
 same:=LM
 aed:=PG
 map:=aiQ
 zero:=fun w=>by
  have z:ft (⟨Tryz.prog,fun _=>none,fun _=>none⟩:TrEnv) 285=some (.agg [.int .i64 0,.int .i64 0,.int .i64 0]):=aiQ
  obtain⟨zv,z1,z2⟩:=iH (X:=⟨⟨Tryz.prog,fun _=>none,fun _=>none⟩,fun _=>False,(0,0)⟩) z w
  obtain⟨z3,_⟩:=eT (X:=⟨⟨Tryz.prog,fun _=>none,fun _=>none⟩,fun _=>False,(0,0)⟩) (μ:=⟨w,fun _=> ⟨0,0,0⟩,fun _=>bH⟩) z2
  rw[ek.1 z3] at z1
  exact z1
theorem EA {Y:Ctx} {μ:Mu} (hW:oM Y.P) (hk:cN Y.toTrEnv 285=some [1,1,1]): ∀ (n:Nat) {es es':List V} {x r:V} {xv:Value},jO n es x=some (r,es')→bM x=true→es.all jf=true→aj Y μ x xv→
   ∀ (W:World) (Bs Bc bm clock:Nat) (ents:Array MapEntry),Bs<W.heap.size→Bc<W.heap.size→bm<W.heap.size→W.cell? ⟨Bs,0,none⟩=some (.map (some bm))→
    W.cell? ⟨Bc,0,none⟩=some (Ez Bs Bc)→W.heap[bm]? =some (.map ents clock)→gQ ents clock→ag Y μ es (ents.toList.map pU)→
    Calls Y.P 281 #[xv,.pointer (some ⟨Bs,0,none⟩),.pointer (some ⟨Bc,0,none⟩)] W fun e W'=> (∃rv,e= .returned rv∧aj Y μ r rv)∧W.grownBy W' (some bm)∧ ∃en cl,W'.heap[bm]? =some (.map en cl)∧gQ en cl∧ag Y μ es' (en.toList.map pU)
 | 0,_,_,_,_,_,h,_,_,_=>by simp[jO] at h
 | n+1,es,es',x,r,xv,h,hx,hs,sE=>by
   intro W Bs Bc bm clock ents Cm tO Lz hsc VK hm cC hrel
   have IK:=M6 hx hx
   have toW: ∀ (w:World),ag Y ⟨w,μ.φ,μ.O⟩ es (ents.toList.map pU):=fun w=>bT rfl (fY hs) hrel
   have toX: ∀ (w:World),aj Y ⟨w,μ.φ,μ.O⟩ x xv:=fun w=>iL rfl (yP hx) sE
   obtain⟨a,b,c,rfl⟩:=gB hx
   obtain rfl:=ek.1 sE
   unfold jO at h
   split at h
   ·rename_i ve
    simp only[aiT,aiX] at h
    obtain⟨rfl,rfl⟩:=h
    refine(hW.same W Bs Bc bm clock ents a b c 0 0 0 false Cm tO Lz hsc VK hm abW fun w hw=> ?_).mono ?_
    ·rcases jA hk (toX w) (toW w) ve with⟨_,g⟩ | ⟨v,j,e,g1,_⟩
     ·exact Cg (X:=Y) (μ:=⟨w,μ.φ,μ.O⟩) hW.map hk IK (toX w) hw g (hW.zero w)
     ·cases g1
    ·rintro e w' ⟨rfl,hg⟩
     exact⟨⟨_,rfl,sE⟩,wC hg _,ents,clock,by rw[hg.block bm Lz abW];exact hm,cC,hrel⟩
   ·rename_i y ve
    have hy:=xR hs ve
    obtain⟨p,q,r0,rfl⟩:=gB hy
    have look: ∀w:World,w.heap[bm]? =some (.map ents clock)→(Instr.lookup 318 (.map (some bm)) (v3 a b c) true).run Y.P w= .ok (.tuple #[v3 p q r0,.bool true]) w:=fun w hw=>by
     rcases jA hk (toX w) (toW w) ve with⟨g1,_⟩ | ⟨v,j,e,g1,g2,g3⟩
     ·cases g1
     ·simp only[aiT] at g1
      subst g1
      obtain rfl:=ek.1 g3
      exact Cg (X:=Y) (μ:=⟨w,μ.φ,μ.O⟩) hW.map hk IK (toX w) hw g2 (hW.zero w)
    split at h
    ·rename_i heq
     simp only[aiT,aiX] at h
     obtain⟨rfl,rfl⟩:=h
     have Z1:p=a∧q=b∧r0=c:=by
      obtain⟨cs,ds,e1,e2,e3⟩:=iW heq
      injection e1 with e1;injection e2 with e2
      subst e1;subst e2
      have:=so e3
      simpa using this
     refine(hW.same W Bs Bc bm clock ents a b c p q r0 true Cm tO Lz hsc VK hm (fun _=>Z1) look).mono ?_
     rintro e w' ⟨rfl,hg⟩
     exact⟨⟨_,rfl,sE⟩,wC hg _,ents,clock,by rw[hg.block bm Lz abW];exact hm,cC,hrel⟩
    ·rename_i heq
     split at h
     ·rename_i r1 Uv h1
      simp only[aiU,aiX] at h
      obtain⟨l,fE,rfl,rfl⟩:=h
      obtain⟨wH,iv⟩:=rI n h1 hy hs
      obtain⟨u,v,z,rfl⟩:=gB wH
      have cL: (p==a && (q==b &&r0==c))=false:=by
       simp only[du,cX,Jj,if_true,aiT,ajy] at heq
       simpa [Bool.and_assoc] using heq
      refine(hW.aed W Bs Bc bm clock ents a b c p q r0 u v z (fun en cl=>gQ en cl∧ag Y μ Uv (en.toList.map pU)) (fun en cl=>gQ en cl∧ag Y μ l (en.toList.map pU)) Cm tO Lz hsc VK hm cL look ?_ ?_).mono ?_
      ·intro w g1 g2 g3 g4 g5 g6
       refine(EA hW hk n h1 hy hs (ek.2 rfl) w Bs Bc bm clock ents g1 g2 g3 g4 g5 g6 cC hrel).mono ?_
       rintro e w' ⟨⟨rv,rfl,hrv⟩,k1,en,cl,k2,k3,k4⟩
       obtain rfl:=ek.1 hrv
       exact⟨rfl,k1,en,cl,k2,k3,k4⟩
      ·rintro w en cl k1 ⟨k2,k3⟩
       obtain⟨w3,Ge,Gf,q1,q2,q3,q4,q5⟩:=Ch (X:=Y) (μ:=⟨w,μ.φ,μ.O⟩) hW.map hk IK (toX w) (ek.2 (rfl:v3 u v z=_)) k1 k2 (bT rfl (fY iv) k3) fE
       exact⟨w3,Ge,Gf,q1,q2,q3,q4,bT rfl (fY (wD hx wH iv fE)) q5⟩
      ·rintro e w' ⟨rfl,k1,en,cl,k2,k3,k4⟩
       exact⟨⟨_,rfl,ek.2 rfl⟩,k1,en,cl,k2,k3,k4⟩
     ·simp at h
    ·simp at h
   ·simp at h
end Go.AM
namespace Go.Proofs
open Go.RowKit Go.AM Go.Proofs.YtdldmebldkgcnaaGreat
attribute [local go_sem] ltk mz jZ df
@[local go_sem] theorem Up {P:Program} {w:World} {ad:Addr} {m:Mode} (f:Fn) (x y:Array Value): (store ad (.func f x y) m).run P w=stored P w ad (.func f x y) m:=run_store P w ad _ m rfl
set_option maxRecDepth 100000 in
theorem PH (W:World) (bm:Nat) (a b c u v z:Int) (Z:Array MapEntry→Nat→Prop) (FE:bm<W.heap.size)
  (iB: ∀ (w:World) (Bs Bc:Nat),Bs<w.heap.size→Bc<w.heap.size→bm<w.heap.size→w.cell? ⟨Bs,0,none⟩=some (.map (some bm))→w.cell? ⟨Bc,0,none⟩=some (Ez Bs Bc)→w.heap[bm]? =W.heap[bm]? →
    Calls Tryz.prog 281 #[v3 a b c,.pointer (some ⟨Bs,0,none⟩),.pointer (some ⟨Bc,0,none⟩)] w fun e W'=>e= .returned (v3 u v z)∧w.grownBy W' (some bm)∧ ∃en cl,W'.heap[bm]? =some (.map en cl)∧Z en cl):
  Calls Tryz.prog 272 #[.agg #[.map (some bm)],v3 a b c] W fun e W'=>e= .returned (v3 u v z)∧W.grownBy W' (some bm)∧ ∃en cl,W'.heap[bm]? =some (.map en cl)∧Z en cl:=by
 go_enter Tryz.func272,Tryz.ntmps272
 go_wp2_with (go_at_call 281;refine Ya ?_)
 unfold Hid
 refine Calls.mono (iB _ _ _ (by simp only[World.size_alloc];omega) (by simp only[World.size_alloc];omega) (by simp only[World.size_alloc];omega) (by go_simp) (by go_simp) (by rw[df (by simp only[World.size_alloc];omega),df (by simp only[World.size_alloc];omega),df (by simp only[World.size_alloc];omega),df FE])) ?_
 rintro e w2 ⟨rfl,hg,en,cl,PM,hZ⟩
 have n3:W.heap.size+1+1≠bm:=abV
 have bI:W.heap.size+4≤w2.heap.size:=by have:=hg.size;simp only[World.size_alloc] at this;omega
 have e4:w2.heap[W.heap.size+1+1]? =some (.cells #[.int .i64 0,.int .i64 0,.int .i64 0] 285):=by
  rw[hg.block _ (by simp only[World.size_alloc];omega) (by simpa using n3),df (by simp only[World.size_alloc];omega)]
  have:=World.alloc_heap_new ((W.alloc (.cells #[.map (some bm)] 320)).alloc (.cells #[.int .i64 a,.int .i64 b,.int .i64 c] 285)) (.cells #[.int .i64 0,.int .i64 0,.int .i64 0] 285)
  simpa only[World.size_alloc] using this
 have g3:W.heap.size+1+1 <w2.heap.size:=abV
 have d0:w2.cell? ⟨W.heap.size+1+1,0,none⟩=some (.int .i64 0):=by simp[World.cell?,e4]
 have z0:w2.frozen? ⟨W.heap.size+1+1,0,none⟩=false:=by simp[World.frozen?,e4]
 have d1:w2.cell? ⟨W.heap.size+1+1,1,none⟩=some (.int .i64 0):=by simp[World.cell?,e4]
 have z1:w2.frozen? ⟨W.heap.size+1+1,1,none⟩=false:=by simp[World.frozen?,e4]
 have d2:w2.cell? ⟨W.heap.size+1+1,2,none⟩=some (.int .i64 0):=by simp[World.cell?,e4]
 have z2:w2.frozen? ⟨W.heap.size+1+1,2,none⟩=false:=by simp[World.frozen?,e4]
 clear e4
 simp only[]
 go_wp2
 refine bodyPost_ret (by rw[ko rfl];go_simp;rfl) rfl ?_
 refine⟨rfl,?_,en,cl,?_,hZ⟩
 ·exact oK (oK (oK (gY (wC (gY (Jf W _ _ _) (World.grownBy_alloc _ _ none)) _) hg) (by show W.heap.size≤_;dsimp only;omega) _) (by show W.heap.size≤_;dsimp only;omega) _) (by show W.heap.size≤_;dsimp only;omega) _
 ·rw[Below.heap_setCell _ _ _ _ n3.symm,Below.heap_setCell _ _ _ _ n3.symm,Below.heap_setCell _ _ _ _ n3.symm];exact PM
end Go.Proofs
namespace Go
section
variable {P:Program} {md:Region.Mode} {ops:Array Oper} {Q:Exit→Act→World→Prop}
theorem zC {l:List Bool} {i:Nat} (h:l[i]? =some false): (l.set i true).countP (fun b=> !b)+1=l.countP (fun b=> !b):=by
 induction l generalizing i with
 | nil=>simp at h
 | cons b l ih=>
   cases i with
   | zero=>simp at h;subst h;simp
   | succ i=>
     simp only[List.getElem?_cons_succ] at h
     have:=ih h
     simp only[List.set_cons_succ,List.countP_cons]
     omega
theorem FC {ar:Array Bool} {i:Nat} (h:ar.getD i true=false):ar.toList[i]? =some false:=by
 rcases Nat.lt_or_ge i ar.size with bl| oO
 ·simp only[Array.getD,bl,dite_true] at h
  simp[bl]
  simpa using h
 ·simp[Array.getD,Nat.not_lt.2 oO] at h
theorem EB (I:Array Bool→Act→World→Prop) (bI: ∀ar a w,I ar a w→ar.size=ops.size)
   (jt: ∀ar a w i,I ar a w→i ∈ Region.ready md ops ar→wpOp P ops Q i (I (ar.setIfInBounds i true)) a w)
   (xu: ∀ar a w,I ar a w→Region.ready md ops ar=[]→Q .normal a w):
   ∀ (fuel:Nat) (ar:Array Bool) (a:Act) (w:World),I ar a w→ar.toList.countP (fun b=> !b)≤fuel→wpAny P md ops Q fuel ar a w
 | 0,ar,a,w,h,hf=>by
   have hr:Region.ready md ops ar=[]:=by
    apply List.eq_nil_iff_forall_not_mem.2
    intro i hi
    have hl:=FC (mem_ready.1 hi).1
    have:=zC hl
    omega
   exact⟨hr,xu _ _ _ h hr⟩
 | fuel+1,ar,a,w,h,hf=>by
   refine⟨fun hr=>xu _ _ _ h hr,fun i hi=>wpOp_mono (fun a' w' hI=>EB I bI jt xu fuel _ a' w' hI ?_) (jt _ _ _ i h hi)⟩
   have hl:=FC (mem_ready.1 hi).1
   have:=zC hl
   simp only[Array.toList_setIfInBounds]
   omega
end
theorem fU {md:Region.Mode} {ops:Array Oper} {ar:Array Bool} {n:Nat} (bI:ar.size=n) (hr:Region.ready md ops ar=[]) {j:Nat} {o:Oper} (ho:ops[j]? =some o) (Ie: ∀e ∈ o.after,ar.getD e.on false=true) (hj:j<n:=by decide):ar.getD j false=true:=by
 cases h:ar.getD j true with
 | false=>
   have:j ∈ Region.ready md ops ar:=mem_ready.2 ⟨h,o,ho,fun e he _=>Ie e he⟩
   rw[hr] at this;cases this
 | true=>
   have hl:j<ar.size:=by omega
   simp only[Array.getD,hl,dite_true] at h ⊢
   exact h
end Go
namespace Go.Proofs
open Go.RowKit Go.AM Go.Proofs.YtdldmebldkgcnaaGreat
attribute [local go_sem] ltk mz jZ df
structure M7 (W:World) (bm:Nat) (a b c p q r:Int) (Z:Nat→Array MapEntry→Nat→Prop) (k:Nat) (w:World):Prop where
 grow:W.grownBy w (some bm)
 sz:W.heap.size+3≤w.heap.size
 f0:w.cell? ⟨W.heap.size,0,none⟩=some (.map (some bm))
 f1:w.cell? ⟨W.heap.size+1,0,none⟩=some (.int .i64 a)∧w.cell? ⟨W.heap.size+1,1,none⟩=some (.int .i64 b)∧w.cell? ⟨W.heap.size+1,2,none⟩=some (.int .i64 c)
 f2:w.cell? ⟨W.heap.size+1+1,0,none⟩=some (.int .i64 p)∧w.cell? ⟨W.heap.size+1+1,1,none⟩=some (.int .i64 q)∧w.cell? ⟨W.heap.size+1+1,2,none⟩=some (.int .i64 r)
 m: ∃en cl,w.heap[bm]? =some (.map en cl)∧Z k en cl
theorem M7.go {W:World} {bm:Nat} {a b c p q r:Int} {Z:Nat→Array MapEntry→Nat→Prop} {k k':Nat} {w w':World} (h:M7 W bm a b c p q r Z k w) (FE:bm<W.heap.size) (hg:w.grownBy w' (some bm)) (hm: ∃en cl,w'.heap[bm]? =some (.map en cl)∧Z k' en cl):M7 W bm a b c p q r Z k' w':=by
 have n0:W.heap.size≠bm:=abV
 have n1:W.heap.size+1≠bm:=abV
 have n2:W.heap.size+1+1≠bm:=abV
 refine⟨gY h.grow hg,ajb h.sz hg.size,hg.cell h.f0 (by simpa using n0),⟨hg.cell h.f1.1 (by simpa using n1),hg.cell h.f1.2.1 (by simpa using n1),hg.cell h.f1.2.2 (by simpa using n1)⟩,⟨hg.cell h.f2.1 (by simpa using n2),hg.cell h.f2.2.1 (by simpa using n2),hg.cell h.f2.2.2 (by simpa using n2)⟩,hm⟩
def sH (ar:Array Bool):Nat:=if ar.getD 8 false=true then 3 else if ar.getD 7 false=true then 2 else if ar.getD 4 false=true then 1 else 0
structure aee (W:World) (bm:Nat) (a b c p q r u v z u' v' z':Int) (Z:Nat→Array MapEntry→Nat→Prop) (ar:Array Bool) (act:Go.Act) (w:World):Prop where
 sz:ar.size=9
 UL:ar.getD 7 false=true→ar.getD 4 false=true
 Uq:ar.getD 8 false=true→ar.getD 7 false=true
 st:M7 W bm a b c p q r Z (sH ar) w
 ac: ∃x6 x7 x8 x9 PN PO PQ PR,act={tmps:= #[.agg #[.map (some bm)],v3 a b c,v3 p q r,.pointer (some ⟨W.heap.size,0,none⟩),.pointer (some ⟨W.heap.size+1,0,none⟩),.pointer (some ⟨W.heap.size+1+1,0,none⟩),x6,x7,x8,x9,PN,PO,PQ,PR],defers:=[]}∧
  (ar.getD 0 false=true→x6= .pointer (some ⟨W.heap.size,0,none⟩))∧(ar.getD 1 false=true→x7= .map (some bm))∧(ar.getD 2 false=true→x8= .agg #[.map (some bm)])∧(ar.getD 3 false=true→x9=v3 a b c)∧
  (ar.getD 4 false=true→PN=v3 u v z)∧(ar.getD 5 false=true→PO= .agg #[.map (some bm)])∧(ar.getD 6 false=true→PQ=v3 p q r)∧(ar.getD 7 false=true→PR=v3 u' v' z')
theorem lN {P:Program} {ops:Array Oper} {Q:Exit→Go.Act→World→Prop} {i:Nat} {o:Oper} {K:Go.Act→World→Prop} {a:Go.Act} {w:World} (ho:ops[i]? =some o) (hg:o.guard=none) (h:o.wp P a w K Q):wpOp P ops Q i K a w:=by
 unfold wpOp
 rw[ho]
 simp only[Region.wanted,hg,if_true]
 exact Or.inl h
set_option maxRecDepth 100000 in
theorem PI (W:World) (bm:Nat) (a b c p q r u v z u' v' z':Int) (Z:Nat→Array MapEntry→Nat→Prop) (FE:bm<W.heap.size)
  (h0: ∃en cl,W.heap[bm]? =some (.map en cl)∧Z 0 en cl)
  (rQ: ∀w:World,bm<w.heap.size→(∃en cl,w.heap[bm]? =some (.map en cl)∧Z 0 en cl)→Calls Tryz.prog 272 #[.agg #[.map (some bm)],v3 a b c] w fun e W'=>e= .returned (v3 u v z)∧w.grownBy W' (some bm)∧ ∃en cl,W'.heap[bm]? =some (.map en cl)∧Z 1 en cl)
  (u5: ∀w:World,bm<w.heap.size→(∃en cl,w.heap[bm]? =some (.map en cl)∧Z 1 en cl)→Calls Tryz.prog 272 #[.agg #[.map (some bm)],v3 p q r] w fun e W'=>e= .returned (v3 u' v' z')∧w.grownBy W' (some bm)∧ ∃en cl,W'.heap[bm]? =some (.map en cl)∧Z 2 en cl)
  (aaE: ∀ (w:World) en cl,w.heap[bm]? =some (.map en cl)→Z 2 en cl→ ∃w3 Ge Gf,(Instr.mapUpdate 318 (.map (some bm)) (v3 u v z) (v3 u' v' z')).run Tryz.prog w= .ok () w3∧w.grownBy w3 (some bm)∧w3.heap[bm]? =some (.map Ge Gf)∧Z 3 Ge Gf):
  Calls Tryz.prog 271 #[.agg #[.map (some bm)],v3 a b c,v3 p q r] W fun e W'=>e= .returned (.tuple #[])∧W.grownBy W' (some bm)∧ ∃en cl,W'.heap[bm]? =some (.map en cl)∧Z 3 en cl:=by
 go_enter Tryz.func271,Tryz.ntmps271
 go_wp2
 refine wp_region_any aiQ ?_
 refine EB (aee W bm a b c p q r u v z u' v' z' Z) (fun ar act w h=>h.sz.trans rfl) ?_ ?_ _ _ _ _ ?_ aiO
 ·rintro ar act w i ⟨bI,UL,Uq,eW,x6,x7,x8,x9,PN,PO,PQ,PR,rfl,k0,k1,k2,k3,k4,k5,k6,k7⟩ hi
  obtain⟨ZK,o,ho,Ie⟩:=mem_ready.1 hi
  have bl:i< 9:=by
   rcases akn i 9 with h| h
   ·exact h
   ·rw[aj0 (by simpa using h)] at ho;cases ho
  rcases(by omega:i=0∨i=1∨i=2∨i=3∨i=4∨i=5∨i=6∨i=7∨i=8) with rfl| rfl| rfl| rfl| rfl| rfl| rfl| rfl| rfl
  ·have up: ∀j,j≠0→(ar.setIfInBounds 0 true).getD j false=ar.getD j false:=fun j h=>getD_set_ne _ (aj4 h)
   have se: (ar.setIfInBounds 0 true).getD 0 false=true:=by simp[Array.getD,bI]
   have Gg:sH (ar.setIfInBounds 0 true)=sH ar:=by unfold sH;rw[up 8 aiO,up 7 aiO,up 4 aiO]
   have rJ:=eW
   obtain⟨_,I1,f0,⟨f1,f11,f12⟩,⟨f2,f21,f22⟩,_⟩:=eW
   have g0:W.heap.size<w.heap.size:=abV
   have g1:W.heap.size+1 <w.heap.size:=abV
   have g2:W.heap.size+1+1 <w.heap.size:=abV
   refine lN rfl rfl ?_
   go_simp
   refine⟨by simpa using bI,by rw[up 7 aiO,up 4 aiO];exact UL,by rw[up 8 aiO,up 7 aiO];exact Uq,by rw[Gg];exact rJ,_,_,_,_,_,_,_,_,rfl,fun _=>rfl,fun h=>k1 (by rwa [up 1 aiO] at h),fun h=>k2 (by rwa [up 2 aiO] at h),fun h=>k3 (by rwa [up 3 aiO] at h),fun h=>k4 (by rwa [up 4 aiO] at h),fun h=>k5 (by rwa [up 5 aiO] at h),fun h=>k6 (by rwa [up 6 aiO] at h),fun h=>k7 (by rwa [up 7 aiO] at h)⟩
  ·have up: ∀j,j≠1→(ar.setIfInBounds 1 true).getD j false=ar.getD j false:=fun j h=>getD_set_ne _ (aj4 h)
   have se: (ar.setIfInBounds 1 true).getD 1 false=true:=by simp[Array.getD,bI]
   have q0:ar.getD 0 false=true:=(by simp at ho;subst ho;exact Ie ⟨0,.data⟩ abW rfl)
   have x20:=k0 q0
   subst x20
   have Gg:sH (ar.setIfInBounds 1 true)=sH ar:=by unfold sH;rw[up 8 aiO,up 7 aiO,up 4 aiO]
   have rJ:=eW
   obtain⟨_,I1,f0,⟨f1,f11,f12⟩,⟨f2,f21,f22⟩,_⟩:=eW
   have g0:W.heap.size<w.heap.size:=abV
   have g1:W.heap.size+1 <w.heap.size:=abV
   have g2:W.heap.size+1+1 <w.heap.size:=abV
   refine lN rfl rfl ?_
   go_simp
   refine⟨by simpa using bI,by rw[up 7 aiO,up 4 aiO];exact UL,by rw[up 8 aiO,up 7 aiO];exact Uq,by rw[Gg];exact rJ,_,_,_,_,_,_,_,_,rfl,fun h=>k0 (by rwa [up 0 aiO] at h),fun _=>rfl,fun h=>k2 (by rwa [up 2 aiO] at h),fun h=>k3 (by rwa [up 3 aiO] at h),fun h=>k4 (by rwa [up 4 aiO] at h),fun h=>k5 (by rwa [up 5 aiO] at h),fun h=>k6 (by rwa [up 6 aiO] at h),fun h=>k7 (by rwa [up 7 aiO] at h)⟩
  ·have up: ∀j,j≠2→(ar.setIfInBounds 2 true).getD j false=ar.getD j false:=fun j h=>getD_set_ne _ (aj4 h)
   have se: (ar.setIfInBounds 2 true).getD 2 false=true:=by simp[Array.getD,bI]
   have Gg:sH (ar.setIfInBounds 2 true)=sH ar:=by unfold sH;rw[up 8 aiO,up 7 aiO,up 4 aiO]
   have rJ:=eW
   obtain⟨_,I1,f0,⟨f1,f11,f12⟩,⟨f2,f21,f22⟩,_⟩:=eW
   have g0:W.heap.size<w.heap.size:=abV
   have g1:W.heap.size+1 <w.heap.size:=abV
   have g2:W.heap.size+1+1 <w.heap.size:=abV
   refine lN rfl rfl ?_
   go_simp
   refine⟨by simpa using bI,by rw[up 7 aiO,up 4 aiO];exact UL,by rw[up 8 aiO,up 7 aiO];exact Uq,by rw[Gg];exact rJ,_,_,_,_,_,_,_,_,rfl,fun h=>k0 (by rwa [up 0 aiO] at h),fun h=>k1 (by rwa [up 1 aiO] at h),fun _=>rfl,fun h=>k3 (by rwa [up 3 aiO] at h),fun h=>k4 (by rwa [up 4 aiO] at h),fun h=>k5 (by rwa [up 5 aiO] at h),fun h=>k6 (by rwa [up 6 aiO] at h),fun h=>k7 (by rwa [up 7 aiO] at h)⟩
  ·have up: ∀j,j≠3→(ar.setIfInBounds 3 true).getD j false=ar.getD j false:=fun j h=>getD_set_ne _ (aj4 h)
   have se: (ar.setIfInBounds 3 true).getD 3 false=true:=by simp[Array.getD,bI]
   have Gg:sH (ar.setIfInBounds 3 true)=sH ar:=by unfold sH;rw[up 8 aiO,up 7 aiO,up 4 aiO]
   have rJ:=eW
   obtain⟨_,I1,f0,⟨f1,f11,f12⟩,⟨f2,f21,f22⟩,_⟩:=eW
   have g0:W.heap.size<w.heap.size:=abV
   have g1:W.heap.size+1 <w.heap.size:=abV
   have g2:W.heap.size+1+1 <w.heap.size:=abV
   refine lN rfl rfl ?_
   go_simp
   refine⟨by simpa using bI,by rw[up 7 aiO,up 4 aiO];exact UL,by rw[up 8 aiO,up 7 aiO];exact Uq,by rw[Gg];exact rJ,_,_,_,_,_,_,_,_,rfl,fun h=>k0 (by rwa [up 0 aiO] at h),fun h=>k1 (by rwa [up 1 aiO] at h),fun h=>k2 (by rwa [up 2 aiO] at h),fun _=>rfl,fun h=>k4 (by rwa [up 4 aiO] at h),fun h=>k5 (by rwa [up 5 aiO] at h),fun h=>k6 (by rwa [up 6 aiO] at h),fun h=>k7 (by rwa [up 7 aiO] at h)⟩
  ·have up: ∀j,j≠4→(ar.setIfInBounds 4 true).getD j false=ar.getD j false:=fun j h=>getD_set_ne _ (aj4 h)
   have se: (ar.setIfInBounds 4 true).getD 4 false=true:=by simp[Array.getD,bI]
   have q2:ar.getD 2 false=true:=(by simp at ho;subst ho;exact Ie ⟨2,.data⟩ abW rfl)
   have x22:=k2 q2
   have q3:ar.getD 3 false=true:=(by simp at ho;subst ho;exact Ie ⟨3,.data⟩ abW rfl)
   have x23:=k3 q3
   subst x22
   subst x23
   have q7:ar.getD 7 false=false:=by
    cases h:ar.getD 7 false with
    | false=>rfl
    | true=>have:=UL h;rw[Go.getD_both ZK] at this;cases this
   have q8:ar.getD 8 false=false:=by
    cases h:ar.getD 8 false with
    | false=>rfl
    | true=>have:=Uq h;rw[q7] at this;cases this
   have Gg:sH ar=0:=by unfold sH;rw[q8,q7,Go.getD_both ZK];rfl
   have Ur:sH (ar.setIfInBounds 4 true)=1:=by unfold sH;rw[up 8 aiO,up 7 aiO,se,q8,q7];rfl
   rw[Gg] at eW
   refine lN rfl rfl ?_
   go_simp
   refine Calls.mono (rQ w (by have:=eW.sz;omega) eW.m) ?_
   rintro e w2 ⟨rfl,hg,hm⟩
   have rJ:=eW.go FE hg hm
   simp only[]
   go_simp
   refine⟨by simpa using bI,by rw[up 7 aiO];intro h;rw[se],by rw[up 8 aiO,up 7 aiO];exact Uq,by rw[Ur];exact rJ,_,_,_,_,_,_,_,_,rfl,fun h=>k0 (by rwa [up 0 aiO] at h),fun h=>k1 (by rwa [up 1 aiO] at h),fun h=>k2 (by rwa [up 2 aiO] at h),fun h=>k3 (by rwa [up 3 aiO] at h),fun _=>rfl,fun h=>k5 (by rwa [up 5 aiO] at h),fun h=>k6 (by rwa [up 6 aiO] at h),fun h=>k7 (by rwa [up 7 aiO] at h)⟩
  ·have up: ∀j,j≠5→(ar.setIfInBounds 5 true).getD j false=ar.getD j false:=fun j h=>getD_set_ne _ (aj4 h)
   have se: (ar.setIfInBounds 5 true).getD 5 false=true:=by simp[Array.getD,bI]
   have Gg:sH (ar.setIfInBounds 5 true)=sH ar:=by unfold sH;rw[up 8 aiO,up 7 aiO,up 4 aiO]
   have rJ:=eW
   obtain⟨_,I1,f0,⟨f1,f11,f12⟩,⟨f2,f21,f22⟩,_⟩:=eW
   have g0:W.heap.size<w.heap.size:=abV
   have g1:W.heap.size+1 <w.heap.size:=abV
   have g2:W.heap.size+1+1 <w.heap.size:=abV
   refine lN rfl rfl ?_
   go_simp
   refine⟨by simpa using bI,by rw[up 7 aiO,up 4 aiO];exact UL,by rw[up 8 aiO,up 7 aiO];exact Uq,by rw[Gg];exact rJ,_,_,_,_,_,_,_,_,rfl,fun h=>k0 (by rwa [up 0 aiO] at h),fun h=>k1 (by rwa [up 1 aiO] at h),fun h=>k2 (by rwa [up 2 aiO] at h),fun h=>k3 (by rwa [up 3 aiO] at h),fun h=>k4 (by rwa [up 4 aiO] at h),fun _=>rfl,fun h=>k6 (by rwa [up 6 aiO] at h),fun h=>k7 (by rwa [up 7 aiO] at h)⟩
  ·have up: ∀j,j≠6→(ar.setIfInBounds 6 true).getD j false=ar.getD j false:=fun j h=>getD_set_ne _ (aj4 h)
   have se: (ar.setIfInBounds 6 true).getD 6 false=true:=by simp[Array.getD,bI]
   have Gg:sH (ar.setIfInBounds 6 true)=sH ar:=by unfold sH;rw[up 8 aiO,up 7 aiO,up 4 aiO]
   have rJ:=eW
   obtain⟨_,I1,f0,⟨f1,f11,f12⟩,⟨f2,f21,f22⟩,_⟩:=eW
   have g0:W.heap.size<w.heap.size:=abV
   have g1:W.heap.size+1 <w.heap.size:=abV
   have g2:W.heap.size+1+1 <w.heap.size:=abV
   refine lN rfl rfl ?_
   go_simp
   refine⟨by simpa using bI,by rw[up 7 aiO,up 4 aiO];exact UL,by rw[up 8 aiO,up 7 aiO];exact Uq,by rw[Gg];exact rJ,_,_,_,_,_,_,_,_,rfl,fun h=>k0 (by rwa [up 0 aiO] at h),fun h=>k1 (by rwa [up 1 aiO] at h),fun h=>k2 (by rwa [up 2 aiO] at h),fun h=>k3 (by rwa [up 3 aiO] at h),fun h=>k4 (by rwa [up 4 aiO] at h),fun h=>k5 (by rwa [up 5 aiO] at h),fun _=>rfl,fun h=>k7 (by rwa [up 7 aiO] at h)⟩
  ·have up: ∀j,j≠7→(ar.setIfInBounds 7 true).getD j false=ar.getD j false:=fun j h=>getD_set_ne _ (aj4 h)
   have se: (ar.setIfInBounds 7 true).getD 7 false=true:=by simp[Array.getD,bI]
   have q5:ar.getD 5 false=true:=(by simp at ho;subst ho;exact Ie ⟨5,.data⟩ abW rfl)
   have x25:=k5 q5
   have q6:ar.getD 6 false=true:=(by simp at ho;subst ho;exact Ie ⟨6,.data⟩ abW rfl)
   have x26:=k6 q6
   have q4:ar.getD 4 false=true:=(by simp at ho;subst ho;exact Ie ⟨4,.chain⟩ abW rfl)
   have x24:=k4 q4
   subst x25
   subst x26
   subst x24
   have q8:ar.getD 8 false=false:=by
    cases h:ar.getD 8 false with
    | false=>rfl
    | true=>have:=Uq h;rw[Go.getD_both ZK] at this;cases this
   have Gg:sH ar=1:=by unfold sH;rw[q8,Go.getD_both ZK,q4];rfl
   have Ur:sH (ar.setIfInBounds 7 true)=2:=by unfold sH;rw[up 8 aiO,se,q8];rfl
   rw[Gg] at eW
   refine lN rfl rfl ?_
   go_simp
   refine Calls.mono (u5 w (by have:=eW.sz;omega) eW.m) ?_
   rintro e w2 ⟨rfl,hg,hm⟩
   have rJ:=eW.go FE hg hm
   simp only[]
   go_simp
   refine⟨by simpa using bI,by rw[up 4 aiO];exact fun _=>q4,by rw[se];exact fun _=>rfl,by rw[Ur];exact rJ,_,_,_,_,_,_,_,_,rfl,fun h=>k0 (by rwa [up 0 aiO] at h),fun h=>k1 (by rwa [up 1 aiO] at h),fun h=>k2 (by rwa [up 2 aiO] at h),fun h=>k3 (by rwa [up 3 aiO] at h),fun h=>k4 (by rwa [up 4 aiO] at h),fun h=>k5 (by rwa [up 5 aiO] at h),fun h=>k6 (by rwa [up 6 aiO] at h),fun _=>rfl⟩
  ·have up: ∀j,j≠8→(ar.setIfInBounds 8 true).getD j false=ar.getD j false:=fun j h=>getD_set_ne _ (aj4 h)
   have se: (ar.setIfInBounds 8 true).getD 8 false=true:=by simp[Array.getD,bI]
   have q1:ar.getD 1 false=true:=(by simp at ho;subst ho;exact Ie ⟨1,.data⟩ abW rfl)
   have x21:=k1 q1
   have q4:ar.getD 4 false=true:=(by simp at ho;subst ho;exact Ie ⟨4,.data⟩ abW rfl)
   have x24:=k4 q4
   have q7:ar.getD 7 false=true:=(by simp at ho;subst ho;exact Ie ⟨7,.data⟩ abW rfl)
   have x27:=k7 q7
   subst x21
   subst x24
   subst x27
   have Gg:sH ar=2:=by unfold sH;rw[Go.getD_both ZK,q7];rfl
   have Ur:sH (ar.setIfInBounds 8 true)=3:=by unfold sH;rw[se];rfl
   rw[Gg] at eW
   obtain⟨en,cl,hm,hZ⟩:=eW.m
   obtain⟨w3,Ge,Gf,hup,Wp,hm3,hZ'⟩:=aaE w en cl hm hZ
   have rJ:=eW.go FE Wp ⟨Ge,Gf,hm3,hZ'⟩
   refine lN rfl rfl ?_
   go_simp
   refine⟨by simpa using bI,by rw[up 7 aiO,up 4 aiO];exact UL,by rw[up 7 aiO];exact fun _=>q7,by rw[Ur];exact rJ,_,_,_,_,_,_,_,_,rfl,fun h=>k0 (by rwa [up 0 aiO] at h),fun h=>k1 (by rwa [up 1 aiO] at h),fun h=>k2 (by rwa [up 2 aiO] at h),fun h=>k3 (by rwa [up 3 aiO] at h),fun h=>k4 (by rwa [up 4 aiO] at h),fun h=>k5 (by rwa [up 5 aiO] at h),fun h=>k6 (by rwa [up 6 aiO] at h),fun h=>k7 (by rwa [up 7 aiO] at h)⟩
 ·rintro ar act w ⟨bI,UL,Uq,eW,x6,x7,x8,x9,PN,PO,PQ,PR,rfl,k0,k1,k2,k3,k4,k5,k6,k7⟩ hr
  have b0:=fU bI hr (j:=0) rfl abW
  have b1:=fU bI hr (j:=1) rfl (by simpa using b0)
  have b2:=fU bI hr (j:=2) rfl abW
  have b3:=fU bI hr (j:=3) rfl abW
  have b4:=fU bI hr (j:=4) rfl (by simpa using And.intro b2 b3)
  have b5:=fU bI hr (j:=5) rfl abW
  have b6:=fU bI hr (j:=6) rfl abW
  have b7:=fU bI hr (j:=7) rfl (by simpa using And.intro b5 (And.intro b6 b4))
  have b8:=fU bI hr (j:=8) rfl (by intro e he;simp at he;rcases he with h| h| h| h| h| h| h| h| h| h| h| h<;>subst h<;>assumption)
  have Gg:sH ar=3:=by unfold sH;rw[b8];rfl
  rw[Gg] at eW
  have key:=eW.grow
  have UO:=eW.m
  refine bodyPost_end (v:= .tuple #[]) (by simp[results]) rfl ⟨rfl,key,UO⟩
 ·obtain⟨en,cl,hm,hZ⟩:=h0
  have yz:=Jf W (.cells #[.map (some bm)] 320) (.cells #[.int .i64 a,.int .i64 b,.int .i64 c] 285) (.cells #[.int .i64 p,.int .i64 q,.int .i64 r] 285)
  obtain⟨W3,Us⟩: ∃x,x=((W.alloc (.cells #[.map (some bm)] 320)).alloc (.cells #[.int .i64 a,.int .i64 b,.int .i64 c] 285)).alloc (.cells #[.int .i64 p,.int .i64 q,.int .i64 r] 285):=⟨_,rfl⟩
  have f0:W3.cell? ⟨W.heap.size,0,none⟩=some (.map (some bm)):=by rw[Us];go_simp
  have f1:W3.cell? ⟨W.heap.size+1,0,none⟩=some (.int .i64 a):=by rw[Us];go_simp
  have f11:W3.cell? ⟨W.heap.size+1,1,none⟩=some (.int .i64 b):=by rw[Us];go_simp
  have f12:W3.cell? ⟨W.heap.size+1,2,none⟩=some (.int .i64 c):=by rw[Us];go_simp
  have f2:W3.cell? ⟨W.heap.size+1+1,0,none⟩=some (.int .i64 p):=by rw[Us];go_simp
  have f21:W3.cell? ⟨W.heap.size+1+1,1,none⟩=some (.int .i64 q):=by rw[Us];go_simp
  have f22:W3.cell? ⟨W.heap.size+1+1,2,none⟩=some (.int .i64 r):=by rw[Us];go_simp
  have hs:W3.heap.size=W.heap.size+3:=by rw[Us];simp only[World.size_alloc]
  have hmm:W3.heap[bm]? =some (.map en cl):=by rw[Us,yz.block bm FE abW];exact hm
  rw[←Us] at yz ⊢
  clear Us
  exact⟨abW,abW,abW,⟨⟨yz.os,yz.tape,yz.output,yz.size,fun k hk hr=>yz.block k hk abW⟩,by show W.heap.size+3≤W3.heap.size;omega,f0,⟨f1,f11,f12⟩,⟨f2,f21,f22⟩,en,cl,hmm,hZ⟩,_,_,_,_,_,_,_,_,rfl,abW,abW,abW,abW,abW,abW,abW,abW⟩
end Go.Proofs
namespace Go.AM
open Go.RowKit Go.Proofs Go.Proofs.YtdldmebldkgcnaaGreat
structure wE (P:Program):Prop where
 w: ∀ (W:World) (bm:Nat) (a b c u v z:Int) (Z:Array MapEntry→Nat→Prop),bm<W.heap.size→
  (∀ (w:World) (Bs Bc:Nat),Bs<w.heap.size→Bc<w.heap.size→bm<w.heap.size→w.cell? ⟨Bs,0,none⟩=some (.map (some bm))→w.cell? ⟨Bc,0,none⟩=some (Ez Bs Bc)→w.heap[bm]? =W.heap[bm]? →
    Calls P 281 #[v3 a b c,.pointer (some ⟨Bs,0,none⟩),.pointer (some ⟨Bc,0,none⟩)] w fun e W'=>e= .returned (v3 u v z)∧w.grownBy W' (some bm)∧ ∃en cl,W'.heap[bm]? =some (.map en cl)∧Z en cl)→
  Calls P 272 #[.agg #[.map (some bm)],v3 a b c] W fun e W'=>e= .returned (v3 u v z)∧W.grownBy W' (some bm)∧ ∃en cl,W'.heap[bm]? =some (.map en cl)∧Z en cl
 enter: ∀args w,(callFunc 272 args).run P w= .ok (.enter 272 args) w
structure Jg (P:Program):Prop where
 w: ∀ (W:World) (bm:Nat) (a b c p q r u v z u' v' z':Int) (Z:Nat→Array MapEntry→Nat→Prop),bm<W.heap.size→
  (∃en cl,W.heap[bm]? =some (.map en cl)∧Z 0 en cl)→
  (∀w:World,bm<w.heap.size→(∃en cl,w.heap[bm]? =some (.map en cl)∧Z 0 en cl)→Calls P 272 #[.agg #[.map (some bm)],v3 a b c] w fun e W'=>e= .returned (v3 u v z)∧w.grownBy W' (some bm)∧ ∃en cl,W'.heap[bm]? =some (.map en cl)∧Z 1 en cl)→
  (∀w:World,bm<w.heap.size→(∃en cl,w.heap[bm]? =some (.map en cl)∧Z 1 en cl)→Calls P 272 #[.agg #[.map (some bm)],v3 p q r] w fun e W'=>e= .returned (v3 u' v' z')∧w.grownBy W' (some bm)∧ ∃en cl,W'.heap[bm]? =some (.map en cl)∧Z 2 en cl)→
  (∀ (w:World) en cl,w.heap[bm]? =some (.map en cl)→Z 2 en cl→ ∃w3 Ge Gf,(Instr.mapUpdate 318 (.map (some bm)) (v3 u v z) (v3 u' v' z')).run P w= .ok () w3∧w.grownBy w3 (some bm)∧w3.heap[bm]? =some (.map Ge Gf)∧Z 3 Ge Gf)→
  Calls P 271 #[.agg #[.map (some bm)],v3 a b c,v3 p q r] W fun e W'=>e= .returned (.tuple #[])∧W.grownBy W' (some bm)∧ ∃en cl,W'.heap[bm]? =some (.map en cl)∧Z 3 en cl
 enter: ∀args w,(callFunc 271 args).run P w= .ok (.enter 271 args) w
theorem Jh {P:Program} {F:FuncId} {fn:Func} {cd:Code} (mS:P.funcs[F]? =some fn) (iu: (fn.name== "runtime.NumGoroutine")=false) (gv:fn.body=some cd) (args:Array Value) (w:World): (callFunc F args).run P w= .ok (.enter F args) w:=by
 simp[callFunc,Sem.run_bind,program,Sem.run,mS,gv]
 simpa using iu
theorem Jd:wE Tryz.prog:=⟨PH,Jh Tryz.func272 rfl rfl⟩
theorem Uj:Jg Tryz.prog:=⟨PI,Jh Tryz.func271 rfl rfl⟩
theorem Ci {Y:Ctx} {μ:Mu} (hW:oM Y.P) (hR:wE Y.P) (hk:cN Y.toTrEnv 285=some [1,1,1]) {n:Nat} {es es':List V} {a b c u v z:Int} (h:jO n es (.agg [.int .i64 a,.int .i64 b,.int .i64 c])=some (.agg [.int .i64 u,.int .i64 v,.int .i64 z],es')) (hs:es.all jf=true) (W:World) (bm:Nat) (hb:bm<W.heap.size)
  (hm: ∃en cl,W.heap[bm]? =some (.map en cl)∧gQ en cl∧ag Y μ es (en.toList.map pU)):
  Calls Y.P 272 #[.agg #[.map (some bm)],v3 a b c] W fun e W'=>e= .returned (v3 u v z)∧W.grownBy W' (some bm)∧ ∃en cl,W'.heap[bm]? =some (.map en cl)∧gQ en cl∧ag Y μ es' (en.toList.map pU):=by
 obtain⟨ents,clock,hm,cC,hrel⟩:=hm
 refine hR.w W bm a b c u v z (fun en cl=>gQ en cl∧ag Y μ es' (en.toList.map pU)) hb fun w Bs Bc k1 k2 k3 k4 k5 k6=> ?_
 refine(EA hW hk n h rfl hs (ek.2 rfl) w Bs Bc bm clock ents k1 k2 k3 k4 k5 (k6.trans hm) cC hrel).mono ?_
 rintro e w' ⟨⟨rv,rfl,hrv⟩,g1,en,cl,g2,g3,g4⟩
 obtain rfl:=ek.1 hrv
 exact⟨rfl,g1,en,cl,g2,g3,g4⟩
theorem Uk {X:TrEnv} (hW:oM X.P) (hR:wE X.P) (hk:cN X 285=some [1,1,1]):xN X 272 C3:=by
 intro es xs v es' h
 unfold C3 at h
 split at h
 ·rename_i x
  split at h
  ·rename_i hc
   simp only[Bool.and_eq_true] at hc
   obtain⟨hx,hs⟩:=hc
   obtain⟨hr,jE⟩:=rI _ h hx hs
   refine⟨yP hr,fY jE,fun Y μ bm ents clock vals hY hm cC hrel yQ _=> ?_⟩
   obtain⟨a,b,c,rfl⟩:=gB hx
   obtain⟨p,q,r,rfl⟩:=gB hr
   obtain⟨xv,rfl⟩: ∃xv,vals=[xv]:=by
    match vals,yQ with
    | [xv],_=>exact⟨xv,rfl⟩
   simp only[ag,and_true] at yQ
   obtain rfl:=ek.1 yQ
   subst hY
   rw[hR.enter]
   simp only[ub]
   refine Calls.mono (Ci (Y:=Y) (μ:=μ) hW hR hk h hs μ.w bm (aiV.1 hm).1 ⟨ents,clock,hm,cC,hrel⟩) ?_
   rintro e w' ⟨rfl,g1,en,cl,g2,g3,g4⟩
   exact⟨ek.2 rfl,g1,en,cl,g2,g3,bT rfl (fY jE) g4⟩
  ·simp at h
 ·simp at h
theorem Ui {X:TrEnv} (hW:oM X.P) (hR:wE X.P) (hJ:Jg X.P) (hk:cN X 285=some [1,1,1]):xN X 271 C4:=by
 intro es xs v es' h
 unfold C4 at h
 split at h
 ·rename_i x y
  split at h
  ·rename_i hc
   simp only[Bool.and_eq_true] at hc
   obtain⟨⟨hx,hy⟩,hs⟩:=hc
   split at h
   ·rename_i ra Uv h1
    split at h
    ·rename_i rb Ct h2
     simp only[aiU,aiX] at h
     obtain⟨es3,fE,rfl,rfl⟩:=h
     obtain⟨YA,iv⟩:=rI _ h1 hx hs
     obtain⟨hrb,mn⟩:=rI _ h2 hy iv
     have Cn:=wD YA hrb mn fE
     refine⟨rfl,fY Cn,fun Y μ bm ents clock vals hY hm cC hrel yQ _=> ?_⟩
     obtain⟨a,b,c,rfl⟩:=gB hx
     obtain⟨p,q,r,rfl⟩:=gB hy
     obtain⟨u,w,z,rfl⟩:=gB YA
     obtain⟨u',w',z',rfl⟩:=gB hrb
     obtain⟨xv,yv,rfl⟩: ∃xv yv,vals=[xv,yv]:=by
      match vals,yQ with
      | [xv,yv],_=>exact⟨xv,yv,rfl⟩
     simp only[ag,and_true] at yQ
     obtain rfl:=ek.1 yQ.1
     obtain rfl:=ek.1 yQ.2
     subst hY
     rw[hJ.enter]
     simp only[ub]
     refine Calls.mono (hJ.w μ.w bm a b c p q r u w z u' w' z' (fun k en cl=>gQ en cl∧ag Y μ (match k with| 0=>es| 1=>Uv| 2=>Ct| _=>es3) (en.toList.map pU)) (aiV.1 hm).1 ⟨ents,clock,hm,cC,hrel⟩ ?_ ?_ ?_) ?_
     ·intro W hb Gp
      exact Ci (Y:=Y) (μ:=μ) hW hR hk h1 hs W bm hb Gp
     ·intro W hb Gp
      exact Ci (Y:=Y) (μ:=μ) hW hR hk h2 iv W bm hb Gp
     ·rintro W en cl k1 ⟨k2,k3⟩
      obtain⟨w3,Ge,Gf,q1,q2,q3,q4,q5⟩:=Ch (X:=Y) (μ:=⟨W,μ.φ,μ.O⟩) hW.map hk (M6 YA YA) (ek.2 rfl) (ek.2 (rfl:v3 u' w' z'=_)) k1 k2 (bT rfl (fY mn) k3) fE
      exact⟨w3,Ge,Gf,q1,q2,q3,q4,bT rfl (fY Cn) q5⟩
     ·rintro e w4 ⟨rfl,g1,en,cl,g2,g3,g4⟩
      exact⟨by simp[aj,ag],g1,en,cl,g2,g3,bT rfl (fY Cn) g4⟩
    ·simp at h
   ·simp at h
  ·simp at h
 ·simp at h
end Go.AM
