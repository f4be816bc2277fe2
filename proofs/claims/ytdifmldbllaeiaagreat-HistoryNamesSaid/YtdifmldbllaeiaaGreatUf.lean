/- Texts of the proof. -/
import Derived.Test.YtdifmldbllaeiaaGreatOpsC
import Derived.Test.YtdifmldbllaeiaaGreatRows
import Derived.WalkKit
import Derived.RangeFuncRecord
import Derived.Tactics
import Derived.Tactics2
import Derived.Orders
import Derived.StillTail
set_option maxHeartbeats 4000000
set_option linter.unusedSimpArgs false
set_option linter.unusedVariables false
namespace Go.Proofs
open Go.RowKit Go.AM Go.Proofs.YtdifmldbllaeiaaGreat
theorem ltk {a b k:Nat} (h:a<b): (a<b+k)=True:=eq_true ajk
attribute [local go_sem] ltk
@[local go_sem] theorem nu {w:World} {o:Obj} {a:Addr} (h:a.block<w.heap.size): (w.alloc o).cell? a=w.cell? a:=by simp only[World.cell?,Below.heap_alloc w o a.block h]
@[local go_sem] theorem kC {w:World} {o1 o2 o3:Obj} {a:Addr} (h:a.block<w.heap.size): (((w.alloc o1).alloc o2).alloc o3).cell? a=w.cell? a:=by rw[nu (by simp only[World.size_alloc];omega),nu (by simp only[World.size_alloc];omega),nu h]
@[local go_sem] theorem du {w:World} {o:Obj} {r:Nat} (h:r<w.heap.size): (w.alloc o).heap[r]? =w.heap[r]? :=Below.heap_alloc w o r h
theorem kV {fn:Func} {p:Tmp} {ty:TypeId} (h:fn.results= #[.cell p ty]) (tmps:Array Value) (P:Program) (w:World):
  (results fn tmps).run P w=((asAddr (tmps.getD p undef)).run P w).andThen fun a w₁=> (loadVar ty a).run P w₁:=by
 simp only[results,h];simp[Sem.run_bind,Result.andThen]
theorem UP (W:World) (a b:Obj): ((W.alloc a).alloc b).heap[W.heap.size+1]? =some b:=by have:=World.alloc_heap_new (W.alloc a) b;rwa [World.size_alloc] at this
def Hid (p:Prop):Prop:=p
theorem YK {p:Prop} (h:Hid p):p:=h
theorem iJ {A B C:World} {row:Option Nat} (h:A.grownBy B row) (k:B.grownBy C row):A.grownBy C row:=
 ⟨k.os.trans h.os,k.tape.trans h.tape,k.output.trans h.output,ajQ h.size k.size,fun i hi hr=> (k.block i (ajB hi h.size) hr).trans (h.block i hi hr)⟩
theorem pV {A B:World} {row:Option Nat} (h:A.grownBy B row) {a:Addr} (ha:A.heap.size<=a.block) (v:Value):A.grownBy (B.setCell a v) row:=
 ⟨h.os,h.tape,h.output,by simpa using h.size,fun i hi hr=> (Below.heap_setCell _ _ _ _ ajk).trans (h.block i hi hr)⟩
theorem xC {A B:World} (h:A.grownBy B none) (row:Option Nat):A.grownBy B row:=⟨h.os,h.tape,h.output,h.size,fun i hi _=>h.block i hi ajl⟩
theorem JG (W:World) (a b c:Obj):W.grownBy (((W.alloc a).alloc b).alloc c) none:=iJ (iJ (World.grownBy_alloc W a none) (World.grownBy_alloc _ b none)) (World.grownBy_alloc _ c none)
set_option maxRecDepth 100000 in
theorem Me (W:World) (Bs Bc bm clock:Nat) (ents:Array MapEntry) (a b c p q r:Int) (ok:Bool) (Ap:Bs<W.heap.size) (f:Bc<W.heap.size) (JP:bm<W.heap.size)
  (hs:W.cell? ⟨Bs,0,none⟩=some (.map (some bm))) (hc:W.cell? ⟨Bc,0,none⟩=some (.func (.func 75) #[] #[.pointer (some ⟨Bs,0,none⟩),.pointer (some ⟨Bc,0,none⟩)]))
  (hm:W.heap[bm]? =some (.map ents clock)) (d:ok=true->p=a/\q=b/\r=c)
  (UQ: ∀w:World,w.heap[bm]? =some (.map ents clock)->(Instr.lookup 72 (.map (some bm)) (.agg #[.int .i64 a,.int .i64 b,.int .i64 c]) true).run Tryz.prog w= .ok (.tuple #[.agg #[.int .i64 p,.int .i64 q,.int .i64 r],.bool ok]) w):
  Calls Tryz.prog 75 #[.agg #[.int .i64 a,.int .i64 b,.int .i64 c],.pointer (some ⟨Bs,0,none⟩),.pointer (some ⟨Bc,0,none⟩)] W fun e W'=>e= .returned (.agg #[.int .i64 a,.int .i64 b,.int .i64 c])/\W.grownBy W' none:=by
 go_enter Tryz.func75,Tryz.ntmps75
 go_wp2
 rw[UQ _ (by rw[du (by rw[World.size_alloc];omega),du JP];exact hm)];cases ok
 .go_wp2
  refine bodyPost_ret (by rw[kV rfl];go_simp;rfl) rfl ?_;exact⟨rfl,JG _ _ _ _⟩
 .obtain⟨rfl,rfl,rfl⟩:=d rfl
  go_wp2
  refine bodyPost_ret (by rw[kV rfl];go_simp;rfl) rfl ?_;exact⟨rfl,JG _ _ _ _⟩
set_option maxRecDepth 100000 in
theorem PX (W:World) (Bs Bc bm clock:Nat) (ents:Array MapEntry) (a b c p q r u v z:Int) (Z:Array MapEntry->Nat->Prop) (Z':Array MapEntry->Nat->Prop) (Ap:Bs<W.heap.size) (o:Bc<W.heap.size) (JP:bm<W.heap.size)
  (hs:W.cell? ⟨Bs,0,none⟩=some (.map (some bm))) (hc:W.cell? ⟨Bc,0,none⟩=some (.func (.func 75) #[] #[.pointer (some ⟨Bs,0,none⟩),.pointer (some ⟨Bc,0,none⟩)]))
  (hm:W.heap[bm]? =some (.map ents clock)) (h: (p==a && (q==b &&r==c))=false)
  (UQ: ∀w:World,w.heap[bm]? =some (.map ents clock)->(Instr.lookup 72 (.map (some bm)) (.agg #[.int .i64 a,.int .i64 b,.int .i64 c]) true).run Tryz.prog w= .ok (.tuple #[.agg #[.int .i64 p,.int .i64 q,.int .i64 r],.bool true]) w)
  (TB: ∀w:World,Bs<w.heap.size->Bc<w.heap.size->bm<w.heap.size->w.cell? ⟨Bs,0,none⟩=some (.map (some bm))->w.cell? ⟨Bc,0,none⟩=some (.func (.func 75) #[] #[.pointer (some ⟨Bs,0,none⟩),.pointer (some ⟨Bc,0,none⟩)])->w.heap[bm]? =some (.map ents clock)->
    Calls Tryz.prog 75 #[.agg #[.int .i64 p,.int .i64 q,.int .i64 r],.pointer (some ⟨Bs,0,none⟩),.pointer (some ⟨Bc,0,none⟩)] w fun e W'=>e= .returned (.agg #[.int .i64 u,.int .i64 v,.int .i64 z])/\w.grownBy W' (some bm)/\ ∃en cl,W'.heap[bm]? =some (.map en cl)/\Z en cl)
  (i: ∀ (w:World) en cl,w.heap[bm]? =some (.map en cl)->Z en cl-> ∃w3 GW GX,(Instr.mapUpdate 72 (.map (some bm)) (.agg #[.int .i64 a,.int .i64 b,.int .i64 c]) (.agg #[.int .i64 u,.int .i64 v,.int .i64 z])).run Tryz.prog w= .ok () w3/\w.grownBy w3 (some bm)/\w3.heap[bm]? =some (.map GW GX)/\Z' GW GX):
  Calls Tryz.prog 75 #[.agg #[.int .i64 a,.int .i64 b,.int .i64 c],.pointer (some ⟨Bs,0,none⟩),.pointer (some ⟨Bc,0,none⟩)] W fun e W'=>e= .returned (.agg #[.int .i64 u,.int .i64 v,.int .i64 z])/\W.grownBy W' (some bm)/\ ∃en cl,W'.heap[bm]? =some (.map en cl)/\Z' en cl:=by
 go_enter Tryz.func75,Tryz.ntmps75
 go_wp2
 rw[UQ _ (by rw[du (by rw[World.size_alloc];omega),du JP];exact hm)]
 go_wp2_with (go_at_call 75;refine YK ?_)
 all_goals subst_vars
 all_goals (try (exfalso;simp at h;done))
 all_goals unfold Hid
 all_goals refine Calls.mono (TB _ (by simp only[World.size_alloc];omega) (by simp only[World.size_alloc];omega) (by simp only[World.size_alloc];omega) (by rw[kC Ap];exact hs) (by rw[kC o];exact hc) (by rw[du (by simp only[World.size_alloc];omega),du (by simp only[World.size_alloc];omega),du JP];exact hm)) ?_
 all_goals rintro e d ⟨rfl,hg,en,cl,ME,s⟩
 all_goals have bM:W.heap.size+3<=d.heap.size:=by have:=hg.size;simp only[World.size_alloc] at this;omega
 all_goals have t:Bs≠bm:=by rintro rfl;simp[World.cell?,hm] at hs
 all_goals have j:W.heap.size≠bm:=ajk
 all_goals have g:W.heap.size+1≠bm:=ajk
 all_goals have x:Bs<d.heap.size:=ajk
 all_goals have y:W.heap.size<d.heap.size:=ajk
 all_goals have g3:W.heap.size+1 <d.heap.size:=ajk
 all_goals have g4:bm<d.heap.size:=ajk
 all_goals have f1:d.cell? ⟨Bs,0,none⟩=some (.map (some bm)):=hg.cell (by rw[kC Ap];exact hs) (by simpa using t)
 all_goals have f2:=hg.cell (a:=⟨W.heap.size,0,none⟩) (by go_simp;rfl) (by simpa using j)
 all_goals have A:=hg.cell (a:=⟨W.heap.size,1,none⟩) (by go_simp;rfl) (by simpa using j)
 all_goals have B:=hg.cell (a:=⟨W.heap.size,2,none⟩) (by go_simp;rfl) (by simpa using j)
 all_goals simp only[]
 all_goals go_wp2
 all_goals obtain⟨w3,GW,GX,k,Xl,l,m⟩:=i (d.alloc (.cells #[.int .i64 u,.int .i64 v,.int .i64 z] 80)) en cl (by rw[du g4];exact ME) s
 all_goals rw[k]
 all_goals have n:d.heap.size≠bm:=ajk
 all_goals have C:=Xl.cell (a:=⟨d.heap.size,0,none⟩) (by go_simp;rfl) (by simpa using n)
 all_goals have D:=Xl.cell (a:=⟨d.heap.size,1,none⟩) (by go_simp;rfl) (by simpa using n)
 all_goals have E:=Xl.cell (a:=⟨d.heap.size,2,none⟩) (by go_simp;rfl) (by simpa using n)
 all_goals have f:w3.heap[W.heap.size+1]? =some (.cells #[.int .i64 0,.int .i64 0,.int .i64 0] 80):=(by rw[Xl.block _ (by rw[World.size_alloc];omega) (by simpa using g),du g3,hg.block _ (by simp only[World.size_alloc];omega) (by simpa using g),du (by simp only[World.size_alloc];omega)];exact UP _ _ _)
 all_goals have d0:w3.cell? ⟨W.heap.size+1,0,none⟩=some (.int .i64 0):=by simp[World.cell?,f]
 all_goals have F:w3.frozen? ⟨W.heap.size+1,0,none⟩=false:=by simp[World.frozen?,f]
 all_goals have d1:w3.cell? ⟨W.heap.size+1,1,none⟩=some (.int .i64 0):=by simp[World.cell?,f]
 all_goals have G:w3.frozen? ⟨W.heap.size+1,1,none⟩=false:=by simp[World.frozen?,f]
 all_goals have H:w3.cell? ⟨W.heap.size+1,2,none⟩=some (.int .i64 0):=by simp[World.cell?,f]
 all_goals have I:w3.frozen? ⟨W.heap.size+1,2,none⟩=false:=by simp[World.frozen?,f]
 all_goals clear f
 all_goals go_wp2
 all_goals refine bodyPost_ret (by rw[kV rfl];go_simp;rfl) rfl ?_
 all_goals refine⟨rfl,?_,GW,GX,?_,m⟩
 all_goals first
  | exact pV (pV (pV (iJ (iJ (xC (JG W _ _ _) _) hg) (iJ (World.grownBy_alloc d _ _) Xl)) (Nat.le_succ _) _) (Nat.le_succ _) _) (Nat.le_succ _) _
  | (rw[Below.heap_setCell _ _ _ _ g.symm,Below.heap_setCell _ _ _ _ g.symm,Below.heap_setCell _ _ _ _ g.symm];exact l)
end Go.Proofs
namespace Go.AM
open Go.RowKit Go.Proofs Go.Proofs.YtdifmldbllaeiaaGreat
def aaZ (z:Value):Option (Nat×Value)->Value
 | some p=>p.2
 | none=>z
section
variable {X:Ctx} {μ:Mu}
theorem CT {t a c:TypeId} {ks:List Nat} {kv zv:Value} {k:V} {b clock:Nat} {ents:Array MapEntry} {r:Option (Nat×Value)} (ht:X.P.underlying t=some (.map a c)) (d:cU X a=some ks) (e: (dj ks k k).isSome=true)
  (h1:aj X μ k kv) (hb:μ.w.heap[b]? =some (.map ents clock)) (hf:xn X μ a kv ents.toList r) (f: (zeroValue c).run X.P μ.w= .ok zv μ.w):
  (Instr.lookup t (.map (some b)) kv true).run X.P μ.w= .ok (.tuple #[aaZ zv r,.bool r.isSome]) μ.w:=by
 obtain⟨⟨fs,hd⟩,_⟩:=fp d;have GF:=jD hd hf;have BS:=fun em=>sr d e h1 em μ.w;cases r with
 | none=>simp[Instr.lookup,Sem.run_bind,run_underlying ht,Result.andThen,Go.MapKept.run_getObj_map hb,BS,GF,f,aaZ]
 | some p=>simp[Instr.lookup,Sem.run_bind,run_underlying ht,Result.andThen,Go.MapKept.run_getObj_map hb,BS,GF,aaZ]
theorem CU {t g m:TypeId} {ks:List Nat} {kv a:Value} {k u:V} {b clock:Nat} {ents:Array MapEntry} {es es':List V} (ht:X.P.underlying t=some (.map g m)) (d:cU X g=some ks) (f: (dj ks k k).isSome=true)
  (h1:aj X μ k kv) (h2:aj X μ u a) (hb:μ.w.heap[b]? =some (.map ents clock)) (h:iB ents clock) (hrel:ag X μ es (ents.toList.map qX)) (o:ef ks k u es=some es'):
  ∃w3 en cl,(Instr.mapUpdate t (.map (some b)) kv a).run X.P μ.w= .ok () w3/\μ.w.grownBy w3 (some b)/\w3.heap[b]? =some (.map en cl)/\iB en cl/\ag X μ es' (en.toList.map qX):=by
 obtain⟨⟨fs,hd⟩,_⟩:=fp d;have BS:=sr d f h1 false μ.w;have c:b<μ.w.heap.size:=(ajs.1 hb).1;have grow: ∀l:Go.Obj,μ.w.grownBy {μ.w with heap:=μ.w.heap.setIfInBounds b l} (some b):=fun l=>
  ⟨rfl,rfl,rfl,ajl,fun i hi hr=>by simp[akC,show b≠i from fun e=>hr (by rw[e])]⟩
 rcases sx d h1 h2 hrel o with⟨g1,g2⟩ | ⟨j,e,g1,g2,g3,g4⟩
 .have GF:=jD hd g1;refine⟨_,ents.push {key:=kv,val:=a,born:=clock},clock+1,?_,grow (.map (ents.push {key:=kv,val:=a,born:=clock}) (clock+1)),by simp[c],tG h _ rfl,by simpa using g2 clock⟩;simp[Instr.mapUpdate,run_underlying ht,Go.MapKept.run_getObj_map hb,BS,GF,Go.MapKept.run_setObj_map _ hb,Result.andThen,Sem.run_bind]
 .have GF:=jD hd g1;have p:e.key=kv:=LJ f g3 h1;have Vb:ents[j]? =some e:=by simpa using g2
  have q:=Ct f h1 μ.w;have hl: (ents.modify j fun e=> {e with key:=kv,val:=a}).toList=ents.toList.set j {e with key:=kv,val:=a}:=by
   apply akp;intro n;rw[akX,aj1,akz];by_cases hn:j=n
   .subst hn;have c:=(ajp.1 g2).1;simp only[if_true,c,g2,ajE,and_self];rfl
   simp[hn]
  refine⟨_,ents.modify j fun e=> {e with key:=kv,val:=a},clock,?_,grow (.map (ents.modify j fun e=> {e with key:=kv,val:=a}) clock),by simp[c],oE h j fun _=>rfl,by rw[hl];exact g4⟩;simp[Instr.mapUpdate,run_underlying ht,Go.MapKept.run_getObj_map hb,BS,GF,Vb,p,q,Go.MapKept.run_setObj_map _ hb,Result.andThen,Sem.run_bind]
end
theorem il {x:V} (h:bQ x=true): ∃a b c,x= .agg [.int .i64 a,.int .i64 b,.int .i64 c]:=by
 unfold bQ at h;split at h
 .exact⟨_,_,_,rfl⟩
 simp at h
theorem NC {x y:V} (hx:bQ x=true) (hy:bQ y=true): (dj [1,1,1] x y).isSome=true:=by obtain⟨a,b,c,rfl⟩:=il hx;obtain⟨p,q,r,rfl⟩:=il hy;simp[dj,df,JK]
theorem eM {X:Ctx} {μ:Mu} {a b c:Int} {v:Value}:aj X μ (.agg [.int .i64 a,.int .i64 b,.int .i64 c]) v↔v= .agg #[.int .i64 a,.int .i64 b,.int .i64 c]:=by
 simp only[aj];constructor
 .rintro⟨_,vs,rfl,h⟩;obtain⟨l,hl⟩: ∃l,vs.toList=l:=⟨_,rfl⟩;rw[hl] at h
  match l,h with
  | [u,v,w],h=>
    simp only[ag,aj,and_true] at h;obtain⟨rfl,rfl,rfl⟩:=h;rw[akI.1 (show vs.toList=(#[Value.int .i64 a,.int .i64 b,.int .i64 c]:Array Value).toList from hl)]
 rintro rfl;exact⟨rfl,_,rfl,by simp[ag,aj]⟩
theorem yS {x y:V}: ∀ {es:List V},es.all jG=true->cP [1,1,1] x es=some (some y)->bQ y=true
 | [],_,h=>by simp[cP] at h
 | e::es,ha,h=>by
   simp only[ajM,ajt] at ha;obtain⟨h1,h2⟩:=ha;unfold jG at h1;split at h1
   .rename_i k v;simp only[ajt] at h1;simp only[cP] at h;split at h
    .simp only[ajq] at h;subst h;exact h1.2
    .exact yS h2 h
    simp at h
   simp at h1
theorem xD {x y:V} (hx:bQ x=true) (hy:bQ y=true): ∀ {es es':List V},es.all jG=true->ef [1,1,1] x y es=some es'->es'.all jG=true
 | [],es',_,h=>by simp[ef] at h;subst h;simp[jG,hx,hy]
 | e::es,es',ha,h=>by
   simp only[ajM,ajt] at ha;obtain⟨h1,h2⟩:=ha;unfold jG at h1;split at h1
   .rename_i k v;simp only[ef] at h;split at h
    .simp only[ajq] at h;subst h;rw[ajM,h2];simp[jG,hx,hy]
    .simp only[ajr] at h;obtain⟨l,h3,rfl⟩:=h;have:=xD hx hy h2 h3;simp only[ajM,this,aj9];exact h1
    simp at h
   simp at h1
theorem sO: ∀ (n:Nat) {es es':List V} {x r:V},ko n es x=some (r,es')->bQ x=true->es.all jG=true->bQ r=true/\es'.all jG=true
 | 0,_,_,_,_,h,_,_=>by simp[ko] at h
 | n+1,es,es',x,r,h,hx,hs=>by
   unfold ko at h;split at h
   .simp only[ajq,ajv] at h;obtain⟨rfl,rfl⟩:=h;exact⟨hx,hs⟩
   .rename_i y hy;have a:=yS hs hy;split at h
    .simp only[ajq,ajv] at h;obtain⟨rfl,rfl⟩:=h;exact⟨hx,hs⟩
    .split at h
     .rename_i r1 UZ h1;simp only[ajr,ajv] at h;obtain⟨l,h2,rfl,rfl⟩:=h;obtain⟨a1,b⟩:=sO n h1 a hs;exact⟨a1,xD hx a1 b h2⟩
     simp at h
    simp at h
   simp at h
theorem zI {x:V} (hh:bQ x=true):V.isScalar x=true:=by obtain⟨a,b,c,rfl⟩:=il hh;rfl
theorem gT: ∀ {es:List V},es.all jG=true->V.bz es=true
 | [],_=>rfl
 | e::es,hh=>by
   simp only[ajM,ajt] at hh;obtain⟨h1,h2⟩:=hh;unfold jG at h1;split at h1
   .simp only[ajt] at h1;obtain⟨a,b,c,rfl⟩:=il h1.1;obtain⟨p,q,r,rfl⟩:=il h1.2;simp[V.bz,V.isScalar,gT h2]
   simp at h1
abbrev v3 (a b c:Int):Value:= .agg #[.int .i64 a,.int .i64 b,.int .i64 c]
abbrev E6 (Bs Bc:Nat):Value:= .func (.func 75) #[] #[.pointer (some ⟨Bs,0,none⟩),.pointer (some ⟨Bc,0,none⟩)]
structure pW (P:Program):Prop where
 same: ∀ (W:World) (Bs Bc bm clock:Nat) (ents:Array MapEntry) (a b c p q r:Int) (ok:Bool),Bs<W.heap.size->Bc<W.heap.size->bm<W.heap.size->
  W.cell? ⟨Bs,0,none⟩=some (.map (some bm))->W.cell? ⟨Bc,0,none⟩=some (E6 Bs Bc)->W.heap[bm]? =some (.map ents clock)->(ok=true->p=a/\q=b/\r=c)->
  (∀w:World,w.heap[bm]? =some (.map ents clock)->(Instr.lookup 72 (.map (some bm)) (v3 a b c) true).run P w= .ok (.tuple #[v3 p q r,.bool ok]) w)->
  Calls P 75 #[v3 a b c,.pointer (some ⟨Bs,0,none⟩),.pointer (some ⟨Bc,0,none⟩)] W fun e W'=>e= .returned (v3 a b c)/\W.grownBy W' none
 aeZ: ∀ (W:World) (Bs Bc bm clock:Nat) (ents:Array MapEntry) (a b c p q r u v z:Int) (Z Z':Array MapEntry->Nat->Prop),Bs<W.heap.size->Bc<W.heap.size->bm<W.heap.size->
  W.cell? ⟨Bs,0,none⟩=some (.map (some bm))->W.cell? ⟨Bc,0,none⟩=some (E6 Bs Bc)->W.heap[bm]? =some (.map ents clock)->(p==a && (q==b &&r==c))=false->
  (∀w:World,w.heap[bm]? =some (.map ents clock)->(Instr.lookup 72 (.map (some bm)) (v3 a b c) true).run P w= .ok (.tuple #[v3 p q r,.bool true]) w)->
  (∀w:World,Bs<w.heap.size->Bc<w.heap.size->bm<w.heap.size->w.cell? ⟨Bs,0,none⟩=some (.map (some bm))->w.cell? ⟨Bc,0,none⟩=some (E6 Bs Bc)->w.heap[bm]? =some (.map ents clock)->
    Calls P 75 #[v3 p q r,.pointer (some ⟨Bs,0,none⟩),.pointer (some ⟨Bc,0,none⟩)] w fun e W'=>e= .returned (v3 u v z)/\w.grownBy W' (some bm)/\ ∃en cl,W'.heap[bm]? =some (.map en cl)/\Z en cl)->
  (∀ (w:World) en cl,w.heap[bm]? =some (.map en cl)->Z en cl-> ∃w3 GW GX,(Instr.mapUpdate 72 (.map (some bm)) (v3 a b c) (v3 u v z)).run P w= .ok () w3/\w.grownBy w3 (some bm)/\w3.heap[bm]? =some (.map GW GX)/\Z' GW GX)->
  Calls P 75 #[v3 a b c,.pointer (some ⟨Bs,0,none⟩),.pointer (some ⟨Bc,0,none⟩)] W fun e W'=>e= .returned (v3 u v z)/\W.grownBy W' (some bm)/\ ∃en cl,W'.heap[bm]? =some (.map en cl)/\Z' en cl
 map:P.underlying 72=some (.map 80 80)
 zero: ∀w:World,(zeroValue 80).run P w= .ok (v3 0 0 0) w
theorem E5:pW Tryz.prog where
 same:=Me
 aeZ:=PX
 map:=ajn
 zero:=fun w=>by have z:fW (⟨Tryz.prog,fun _=>none,fun _=>none⟩:TrEnv) 80=some (.agg [.int .i64 0,.int .i64 0,.int .i64 0]):=ajn;obtain⟨d,a,b⟩:=jk (X:=⟨⟨Tryz.prog,fun _=>none,fun _=>none⟩,fun _=>False,(0,0)⟩) z w;obtain⟨c,_⟩:=fk (X:=⟨⟨Tryz.prog,fun _=>none,fun _=>none⟩,fun _=>False,(0,0)⟩) (μ:=⟨w,fun _=> ⟨0,0,0⟩,fun _=>bJ⟩) b;rw[eM.1 c] at a;exact a
theorem E7 {Y:Ctx} {μ:Mu} (f:pW Y.P) (s:cU Y.toTrEnv 80=some [1,1,1]): ∀ (n:Nat) {es es':List V} {x r:V} {xv:Value},ko n es x=some (r,es')->bQ x=true->es.all jG=true->aj Y μ x xv->
   ∀ (W:World) (Bs Bc bm clock:Nat) (ents:Array MapEntry),Bs<W.heap.size->Bc<W.heap.size->bm<W.heap.size->W.cell? ⟨Bs,0,none⟩=some (.map (some bm))->
    W.cell? ⟨Bc,0,none⟩=some (E6 Bs Bc)->W.heap[bm]? =some (.map ents clock)->iB ents clock->ag Y μ es (ents.toList.map qX)->
    Calls Y.P 75 #[xv,.pointer (some ⟨Bs,0,none⟩),.pointer (some ⟨Bc,0,none⟩)] W fun e W'=> (∃F,e= .returned F/\aj Y μ r F)/\W.grownBy W' (some bm)/\ ∃en cl,W'.heap[bm]? =some (.map en cl)/\iB en cl/\ag Y μ es' (en.toList.map qX)
 | 0,_,_,_,_,_,h,_,_,_=>by simp[ko] at h
 | n+1,es,es',x,r,xv,h,hx,hs,D=>by
   intro W Bs Bc bm clock ents Ap G JP o Wg hm H hrel;have Jk:=NC hx hx;have t: ∀ (w:World),ag Y ⟨w,μ.φ,μ.O⟩ es (ents.toList.map qX):=fun w=>bX rfl (gT hs) hrel;have d: ∀ (w:World),aj Y ⟨w,μ.φ,μ.O⟩ x xv:=fun w=>jq rfl (zI hx) D;obtain⟨a,b,c,rfl⟩:=il hx;obtain rfl:=eM.1 D;unfold ko at h;split at h
   .rename_i E;simp only[ajq,ajv] at h;obtain⟨rfl,rfl⟩:=h;refine(f.same W Bs Bc bm clock ents a b c 0 0 0 false Ap G JP o Wg hm ajl fun w hw=> ?_).mono ?_
    .rcases j7 s (d w) (t w) E with⟨_,g⟩ | ⟨v,j,e,k,_⟩
     .exact CT (X:=Y) (μ:=⟨w,μ.φ,μ.O⟩) f.map s Jk (d w) hw g (f.zero w)
     cases k
    rintro e w' ⟨rfl,hg⟩;exact⟨⟨_,rfl,D⟩,xC hg _,ents,clock,by rw[hg.block bm JP ajl];exact hm,H,hrel⟩
   .rename_i y E;have hy:=yS hs E;obtain⟨p,q,r0,rfl⟩:=il hy;have m: ∀w:World,w.heap[bm]? =some (.map ents clock)->(Instr.lookup 72 (.map (some bm)) (v3 a b c) true).run Y.P w= .ok (.tuple #[v3 p q r0,.bool true]) w:=fun w hw=>by
     rcases j7 s (d w) (t w) E with⟨k,_⟩ | ⟨v,j,e,k,I,g3⟩
     .cases k
     simp only[ajq] at k;subst k;obtain rfl:=eM.1 g3;exact CT (X:=Y) (μ:=⟨w,μ.φ,μ.O⟩) f.map s Jk (d w) hw I (f.zero w)
    split at h
    .rename_i i;simp only[ajq,ajv] at h;obtain⟨rfl,rfl⟩:=h;have J:p=a/\q=b/\r0=c:=by obtain⟨cs,ds,K,L,T⟩:=jx i;injection K with K;injection L with L;subst K;subst L;have:=tH T;simpa using this
     refine(f.same W Bs Bc bm clock ents a b c p q r0 true Ap G JP o Wg hm (fun _=>J) m).mono ?_;rintro e w' ⟨rfl,hg⟩;exact⟨⟨_,rfl,D⟩,xC hg _,ents,clock,by rw[hg.block bm JP ajl];exact hm,H,hrel⟩
    .rename_i i;split at h
     .rename_i r1 UZ h1;simp only[ajr,ajv] at h;obtain⟨l,Q,rfl,rfl⟩:=h;obtain⟨R,S⟩:=sO n h1 hy hs;obtain⟨u,v,z,rfl⟩:=il R;have bW: (p==a && (q==b &&r0==c))=false:=by simp only[dj,df,JK,if_true,ajq,aj9] at i;simpa [Bool.and_assoc] using i
      refine(f.aeZ W Bs Bc bm clock ents a b c p q r0 u v z (fun en cl=>iB en cl/\ag Y μ UZ (en.toList.map qX)) (fun en cl=>iB en cl/\ag Y μ l (en.toList.map qX)) Ap G JP o Wg hm bW m ?_ ?_).mono ?_
      .intro w k I g3 g4 g5 g6;refine(E7 f s n h1 hy hs (eM.2 rfl) w Bs Bc bm clock ents k I g3 g4 g5 g6 H hrel).mono ?_;rintro e w' ⟨⟨F,rfl,M⟩,A,en,cl,B,C,N⟩;obtain rfl:=eM.1 M;exact⟨rfl,A,en,cl,B,C,N⟩
      .rintro w en cl A ⟨B,C⟩;obtain⟨w3,GW,GX,U,Z,q3,q4,q5⟩:=CU (X:=Y) (μ:=⟨w,μ.φ,μ.O⟩) f.map s Jk (d w) (eM.2 (rfl:v3 u v z=_)) A B (bX rfl (gT S) C) Q;exact⟨w3,GW,GX,U,Z,q3,q4,bX rfl (gT (xD hx R S Q)) q5⟩
      rintro e w' ⟨rfl,A,en,cl,B,C,N⟩;exact⟨⟨_,rfl,eM.2 rfl⟩,A,en,cl,B,C,N⟩
     simp at h
    simp at h
   simp at h
end Go.AM
namespace Go.Proofs
open Go.RowKit Go.AM Go.Proofs.YtdifmldbllaeiaaGreat
attribute [local go_sem] ltk nu kC du
@[local go_sem] theorem UR {P:Program} {w:World} {ad:Addr} {m:Mode} (f:Fn) (x y:Array Value): (store ad (.func f x y) m).run P w=stored P w ad (.func f x y) m:=run_store P w ad _ m rfl
set_option maxRecDepth 100000 in
theorem PY (W:World) (bm:Nat) (a b c u v z:Int) (Z:Array MapEntry->Nat->Prop) (Gp:bm<W.heap.size)
  (h: ∀ (w:World) (Bs Bc:Nat),Bs<w.heap.size->Bc<w.heap.size->bm<w.heap.size->w.cell? ⟨Bs,0,none⟩=some (.map (some bm))->w.cell? ⟨Bc,0,none⟩=some (E6 Bs Bc)->w.heap[bm]? =W.heap[bm]? ->
    Calls Tryz.prog 75 #[v3 a b c,.pointer (some ⟨Bs,0,none⟩),.pointer (some ⟨Bc,0,none⟩)] w fun e W'=>e= .returned (v3 u v z)/\w.grownBy W' (some bm)/\ ∃en cl,W'.heap[bm]? =some (.map en cl)/\Z en cl):
  Calls Tryz.prog 29 #[.agg #[.map (some bm)],v3 a b c] W fun e W'=>e= .returned (v3 u v z)/\W.grownBy W' (some bm)/\ ∃en cl,W'.heap[bm]? =some (.map en cl)/\Z en cl:=by
 go_enter Tryz.func29,Tryz.ntmps29
 go_wp2_with (go_at_call 75;refine YK ?_)
 unfold Hid;refine Calls.mono (h _ _ _ (by simp only[World.size_alloc];omega) (by simp only[World.size_alloc];omega) (by simp only[World.size_alloc];omega) (by go_simp) (by go_simp) (by rw[du (by simp only[World.size_alloc];omega),du (by simp only[World.size_alloc];omega),du (by simp only[World.size_alloc];omega),du Gp])) ?_;rintro e d ⟨rfl,hg,en,cl,ME,i⟩;have g:W.heap.size+1+1≠bm:=ajk;have bM:W.heap.size+4<=d.heap.size:=by have:=hg.size;simp only[World.size_alloc] at this;omega
 have f:d.heap[W.heap.size+1+1]? =some (.cells #[.int .i64 0,.int .i64 0,.int .i64 0] 80):=by rw[hg.block _ (by simp only[World.size_alloc];omega) (by simpa using g),du (by simp only[World.size_alloc];omega)];have:=World.alloc_heap_new ((W.alloc (.cells #[.map (some bm)] 74)).alloc (.cells #[.int .i64 a,.int .i64 b,.int .i64 c] 80)) (.cells #[.int .i64 0,.int .i64 0,.int .i64 0] 80);simpa only[World.size_alloc] using this
 have g3:W.heap.size+1+1 <d.heap.size:=ajk;have d0:d.cell? ⟨W.heap.size+1+1,0,none⟩=some (.int .i64 0):=by simp[World.cell?,f]
 have j:d.frozen? ⟨W.heap.size+1+1,0,none⟩=false:=by simp[World.frozen?,f]
 have d1:d.cell? ⟨W.heap.size+1+1,1,none⟩=some (.int .i64 0):=by simp[World.cell?,f]
 have k:d.frozen? ⟨W.heap.size+1+1,1,none⟩=false:=by simp[World.frozen?,f]
 have l:d.cell? ⟨W.heap.size+1+1,2,none⟩=some (.int .i64 0):=by simp[World.cell?,f]
 have m:d.frozen? ⟨W.heap.size+1+1,2,none⟩=false:=by simp[World.frozen?,f]
 clear f;simp only[]
 go_wp2
 refine bodyPost_ret (by rw[kV rfl];go_simp;rfl) rfl ?_;refine⟨rfl,?_,en,cl,?_,i⟩
 .exact pV (pV (pV (iJ (xC (iJ (JG W _ _ _) (World.grownBy_alloc _ _ none)) _) hg) (by show W.heap.size<=_;dsimp only;omega) _) (by show W.heap.size<=_;dsimp only;omega) _) (by show W.heap.size<=_;dsimp only;omega) _
 .rw[Below.heap_setCell _ _ _ _ g.symm,Below.heap_setCell _ _ _ _ g.symm,Below.heap_setCell _ _ _ _ g.symm];exact ME
end Go.Proofs
namespace Go
section
variable {P:Program} {md:Region.Mode} {ops:Array Oper} {Q:Exit->Act->World->Prop}
theorem Xa {l:List Bool} {i:Nat} (h:l[i]? =some false): (l.set i true).countP (fun b=> !b)+1=l.countP (fun b=> !b):=by
 induction l generalizing i with
 | nil=>simp at h
 | cons b l a=>
   cases i with
   | zero=>simp at h;subst h;simp
   | succ i=>
     simp only[List.getElem?_cons_succ] at h;have:=a h;simp only[List.set_cons_succ,List.countP_cons];omega
theorem aaf {av:Array Bool} {i:Nat} (h:av.getD i true=false):av.toList[i]? =some false:=by
 rcases Nat.lt_or_ge i av.size with a| b
 .simp only[Array.getD,a,dite_true] at h;simp[a];simpa using h
 simp[Array.getD,Nat.not_lt.2 b] at h
theorem aa1 (I:Array Bool->Act->World->Prop) (bM: ∀av a w,I av a w->av.size=ops.size)
   (d: ∀av a w i,I av a w->i ∈ Region.ready md ops av->wpOp P ops Q i (I (av.setIfInBounds i true)) a w)
   (c: ∀av a w,I av a w->Region.ready md ops av=[]->Q .normal a w):
   ∀ (fuel:Nat) (av:Array Bool) (a:Act) (w:World),I av a w->av.toList.countP (fun b=> !b)<=fuel->wpAny P md ops Q fuel av a w
 | 0,av,a,w,h,hf=>by
   have hr:Region.ready md ops av=[]:=by apply List.eq_nil_iff_forall_not_mem.2;intro i hi;have hl:=aaf (mem_ready.1 hi).1;have:=Xa hl;omega
   exact⟨hr,c _ _ _ h hr⟩
 | fuel+1,av,a,w,h,hf=>by refine⟨fun hr=>c _ _ _ h hr,fun i hi=>wpOp_mono (fun a' w' e=>aa1 I bM d c fuel _ a' w' e ?_) (d _ _ _ i h hi)⟩;have hl:=aaf (mem_ready.1 hi).1;have:=Xa hl;simp only[Array.toList_setIfInBounds];omega
end
theorem iQ {md:Region.Mode} {ops:Array Oper} {av:Array Bool} {n:Nat} (bM:av.size=n) (hr:Region.ready md ops av=[]) {j:Nat} {o:Oper} (a:ops[j]? =some o) (Ln: ∀e ∈ o.after,av.getD e.on false=true) (b:j<n:=by decide):av.getD j false=true:=by
 cases h:av.getD j true with
 | false=>
   have:j ∈ Region.ready md ops av:=mem_ready.2 ⟨h,o,a,fun e he _=>Ln e he⟩;rw[hr] at this;cases this
 | true=>
   have hl:j<av.size:=by omega
   simp only[Array.getD,hl,dite_true] at h ⊢;exact h
end Go
namespace Go.Proofs
open Go.RowKit Go.AM Go.Proofs.YtdifmldbllaeiaaGreat
attribute [local go_sem] ltk nu kC du
structure ND (W:World) (bm:Nat) (a b c p q r:Int) (Z:Nat->Array MapEntry->Nat->Prop) (k:Nat) (w:World):Prop where
 grow:W.grownBy w (some bm)
 sz:W.heap.size+3<=w.heap.size
 f0:w.cell? ⟨W.heap.size,0,none⟩=some (.map (some bm))
 f1:w.cell? ⟨W.heap.size+1,0,none⟩=some (.int .i64 a)/\w.cell? ⟨W.heap.size+1,1,none⟩=some (.int .i64 b)/\w.cell? ⟨W.heap.size+1,2,none⟩=some (.int .i64 c)
 f2:w.cell? ⟨W.heap.size+1+1,0,none⟩=some (.int .i64 p)/\w.cell? ⟨W.heap.size+1+1,1,none⟩=some (.int .i64 q)/\w.cell? ⟨W.heap.size+1+1,2,none⟩=some (.int .i64 r)
 m: ∃en cl,w.heap[bm]? =some (.map en cl)/\Z k en cl
theorem ND.go {W:World} {bm:Nat} {a b c p q r:Int} {Z:Nat->Array MapEntry->Nat->Prop} {k k':Nat} {w w':World} (h:ND W bm a b c p q r Z k w) (Gp:bm<W.heap.size) (hg:w.grownBy w' (some bm)) (hm: ∃en cl,w'.heap[bm]? =some (.map en cl)/\Z k' en cl):ND W bm a b c p q r Z k' w':=by have f:W.heap.size≠bm:=ajk;have d:W.heap.size+1≠bm:=ajk;have e:W.heap.size+1+1≠bm:=ajk;refine⟨iJ h.grow hg,ajQ h.sz hg.size,hg.cell h.f0 (by simpa using f),⟨hg.cell h.f1.1 (by simpa using d),hg.cell h.f1.2.1 (by simpa using d),hg.cell h.f1.2.2 (by simpa using d)⟩,⟨hg.cell h.f2.1 (by simpa using e),hg.cell h.f2.2.1 (by simpa using e),hg.cell h.f2.2.2 (by simpa using e)⟩,hm⟩
def tT (av:Array Bool):Nat:=if av.getD 8 false=true then 3 else if av.getD 7 false=true then 2 else if av.getD 4 false=true then 1 else 0
structure ae1 (W:World) (bm:Nat) (a b c p q r u v z u' v' z':Int) (Z:Nat->Array MapEntry->Nat->Prop) (av:Array Bool) (act:Go.Act) (w:World):Prop where
 sz:av.size=9
 Vi:av.getD 7 false=true->av.getD 4 false=true
 US:av.getD 8 false=true->av.getD 7 false=true
 st:ND W bm a b c p q r Z (tT av) w
 ac: ∃x6 x7 x8 x9 NX NY NZ N3,act={tmps:= #[.agg #[.map (some bm)],v3 a b c,v3 p q r,.pointer (some ⟨W.heap.size,0,none⟩),.pointer (some ⟨W.heap.size+1,0,none⟩),.pointer (some ⟨W.heap.size+1+1,0,none⟩),x6,x7,x8,x9,NX,NY,NZ,N3],defers:=[]}/\
  (av.getD 0 false=true->x6= .pointer (some ⟨W.heap.size,0,none⟩))/\(av.getD 1 false=true->x7= .map (some bm))/\(av.getD 2 false=true->x8= .agg #[.map (some bm)])/\(av.getD 3 false=true->x9=v3 a b c)/\
  (av.getD 4 false=true->NX=v3 u v z)/\(av.getD 5 false=true->NY= .agg #[.map (some bm)])/\(av.getD 6 false=true->NZ=v3 p q r)/\(av.getD 7 false=true->N3=v3 u' v' z')
theorem mB {P:Program} {ops:Array Oper} {Q:Exit->Go.Act->World->Prop} {i:Nat} {o:Oper} {K:Go.Act->World->Prop} {a:Go.Act} {w:World} (b:ops[i]? =some o) (hg:o.guard=none) (h:o.wp P a w K Q):wpOp P ops Q i K a w:=by unfold wpOp;rw[b];simp only[Region.wanted,hg,if_true];exact Or.inl h
set_option maxRecDepth 100000 in
theorem PZ (W:World) (bm:Nat) (a b c p q r u v z u' v' z':Int) (Z:Nat->Array MapEntry->Nat->Prop) (Gp:bm<W.heap.size)
  (h0: ∃en cl,W.heap[bm]? =some (.map en cl)/\Z 0 en cl)
  (wX: ∀w:World,bm<w.heap.size->(∃en cl,w.heap[bm]? =some (.map en cl)/\Z 0 en cl)->Calls Tryz.prog 29 #[.agg #[.map (some bm)],v3 a b c] w fun e W'=>e= .returned (v3 u v z)/\w.grownBy W' (some bm)/\ ∃en cl,W'.heap[bm]? =some (.map en cl)/\Z 1 en cl)
  (te: ∀w:World,bm<w.heap.size->(∃en cl,w.heap[bm]? =some (.map en cl)/\Z 1 en cl)->Calls Tryz.prog 29 #[.agg #[.map (some bm)],v3 p q r] w fun e W'=>e= .returned (v3 u' v' z')/\w.grownBy W' (some bm)/\ ∃en cl,W'.heap[bm]? =some (.map en cl)/\Z 2 en cl)
  (N: ∀ (w:World) en cl,w.heap[bm]? =some (.map en cl)->Z 2 en cl-> ∃w3 GW GX,(Instr.mapUpdate 72 (.map (some bm)) (v3 u v z) (v3 u' v' z')).run Tryz.prog w= .ok () w3/\w.grownBy w3 (some bm)/\w3.heap[bm]? =some (.map GW GX)/\Z 3 GW GX):
  Calls Tryz.prog 28 #[.agg #[.map (some bm)],v3 a b c,v3 p q r] W fun e W'=>e= .returned (.tuple #[])/\W.grownBy W' (some bm)/\ ∃en cl,W'.heap[bm]? =some (.map en cl)/\Z 3 en cl:=by
 go_enter Tryz.func28,Tryz.ntmps28
 go_wp2
 refine wp_region_any ajn ?_;refine aa1 (ae1 W bm a b c p q r u v z u' v' z' Z) (fun av act w h=>h.sz.trans rfl) ?_ ?_ _ _ _ _ ?_ ajm
 .rintro av act w i ⟨bM,Vi,US,d,x6,x7,x8,x9,NX,NY,NZ,N3,rfl,t,y,A,B,n,C,D,E⟩ hi;obtain⟨s,o,f,Ln⟩:=mem_ready.1 hi;have bl:i< 9:=by
   rcases ak1 i 9 with h| h
   .exact h
   rw[akx (by simpa using h)] at f;cases f
  rcases(by omega:i=0\/i=1\/i=2\/i=3\/i=4\/i=5\/i=6\/i=7\/i=8) with rfl| rfl| rfl| rfl| rfl| rfl| rfl| rfl| rfl
  .have up: ∀j,j≠0->(av.setIfInBounds 0 true).getD j false=av.getD j false:=fun j h=>getD_set_ne _ (akN h);have se: (av.setIfInBounds 0 true).getD 0 false=true:=by simp[Array.getD,bM]
   have GY:tT (av.setIfInBounds 0 true)=tT av:=by unfold tT;rw[up 8 ajm,up 7 ajm,up 4 ajm]
   have g:=d;obtain⟨_,Jz,f0,⟨f1,l,f12⟩,⟨f2,f21,f22⟩,_⟩:=d;have I:W.heap.size<w.heap.size:=ajk;have J:W.heap.size+1 <w.heap.size:=ajk;have K:W.heap.size+1+1 <w.heap.size:=ajk;refine mB rfl rfl ?_
   go_simp
   refine⟨by simpa using bM,by rw[up 7 ajm,up 4 ajm];exact Vi,by rw[up 8 ajm,up 7 ajm];exact US,by rw[GY];exact g,_,_,_,_,_,_,_,_,rfl,fun _=>rfl,fun h=>y (by rwa [up 1 ajm] at h),fun h=>A (by rwa [up 2 ajm] at h),fun h=>B (by rwa [up 3 ajm] at h),fun h=>n (by rwa [up 4 ajm] at h),fun h=>C (by rwa [up 5 ajm] at h),fun h=>D (by rwa [up 6 ajm] at h),fun h=>E (by rwa [up 7 ajm] at h)⟩
  .have up: ∀j,j≠1->(av.setIfInBounds 1 true).getD j false=av.getD j false:=fun j h=>getD_set_ne _ (akN h);have se: (av.setIfInBounds 1 true).getD 1 false=true:=by simp[Array.getD,bM]
   have q0:av.getD 0 false=true:=(by simp at f;subst f;exact Ln ⟨0,.data⟩ ajl rfl);have O:=t q0;subst O;have GY:tT (av.setIfInBounds 1 true)=tT av:=by unfold tT;rw[up 8 ajm,up 7 ajm,up 4 ajm]
   have g:=d;obtain⟨_,Jz,f0,⟨f1,l,f12⟩,⟨f2,f21,f22⟩,_⟩:=d;have I:W.heap.size<w.heap.size:=ajk;have J:W.heap.size+1 <w.heap.size:=ajk;have K:W.heap.size+1+1 <w.heap.size:=ajk;refine mB rfl rfl ?_
   go_simp
   refine⟨by simpa using bM,by rw[up 7 ajm,up 4 ajm];exact Vi,by rw[up 8 ajm,up 7 ajm];exact US,by rw[GY];exact g,_,_,_,_,_,_,_,_,rfl,fun h=>t (by rwa [up 0 ajm] at h),fun _=>rfl,fun h=>A (by rwa [up 2 ajm] at h),fun h=>B (by rwa [up 3 ajm] at h),fun h=>n (by rwa [up 4 ajm] at h),fun h=>C (by rwa [up 5 ajm] at h),fun h=>D (by rwa [up 6 ajm] at h),fun h=>E (by rwa [up 7 ajm] at h)⟩
  .have up: ∀j,j≠2->(av.setIfInBounds 2 true).getD j false=av.getD j false:=fun j h=>getD_set_ne _ (akN h);have se: (av.setIfInBounds 2 true).getD 2 false=true:=by simp[Array.getD,bM]
   have GY:tT (av.setIfInBounds 2 true)=tT av:=by unfold tT;rw[up 8 ajm,up 7 ajm,up 4 ajm]
   have g:=d;obtain⟨_,Jz,f0,⟨f1,l,f12⟩,⟨f2,f21,f22⟩,_⟩:=d;have I:W.heap.size<w.heap.size:=ajk;have J:W.heap.size+1 <w.heap.size:=ajk;have K:W.heap.size+1+1 <w.heap.size:=ajk;refine mB rfl rfl ?_
   go_simp
   refine⟨by simpa using bM,by rw[up 7 ajm,up 4 ajm];exact Vi,by rw[up 8 ajm,up 7 ajm];exact US,by rw[GY];exact g,_,_,_,_,_,_,_,_,rfl,fun h=>t (by rwa [up 0 ajm] at h),fun h=>y (by rwa [up 1 ajm] at h),fun _=>rfl,fun h=>B (by rwa [up 3 ajm] at h),fun h=>n (by rwa [up 4 ajm] at h),fun h=>C (by rwa [up 5 ajm] at h),fun h=>D (by rwa [up 6 ajm] at h),fun h=>E (by rwa [up 7 ajm] at h)⟩
  .have up: ∀j,j≠3->(av.setIfInBounds 3 true).getD j false=av.getD j false:=fun j h=>getD_set_ne _ (akN h);have se: (av.setIfInBounds 3 true).getD 3 false=true:=by simp[Array.getD,bM]
   have GY:tT (av.setIfInBounds 3 true)=tT av:=by unfold tT;rw[up 8 ajm,up 7 ajm,up 4 ajm]
   have g:=d;obtain⟨_,Jz,f0,⟨f1,l,f12⟩,⟨f2,f21,f22⟩,_⟩:=d;have I:W.heap.size<w.heap.size:=ajk;have J:W.heap.size+1 <w.heap.size:=ajk;have K:W.heap.size+1+1 <w.heap.size:=ajk;refine mB rfl rfl ?_
   go_simp
   refine⟨by simpa using bM,by rw[up 7 ajm,up 4 ajm];exact Vi,by rw[up 8 ajm,up 7 ajm];exact US,by rw[GY];exact g,_,_,_,_,_,_,_,_,rfl,fun h=>t (by rwa [up 0 ajm] at h),fun h=>y (by rwa [up 1 ajm] at h),fun h=>A (by rwa [up 2 ajm] at h),fun _=>rfl,fun h=>n (by rwa [up 4 ajm] at h),fun h=>C (by rwa [up 5 ajm] at h),fun h=>D (by rwa [up 6 ajm] at h),fun h=>E (by rwa [up 7 ajm] at h)⟩
  .have up: ∀j,j≠4->(av.setIfInBounds 4 true).getD j false=av.getD j false:=fun j h=>getD_set_ne _ (akN h);have se: (av.setIfInBounds 4 true).getD 4 false=true:=by simp[Array.getD,bM]
   have q2:av.getD 2 false=true:=(by simp at f;subst f;exact Ln ⟨2,.data⟩ ajl rfl);have P:=A q2;have q3:av.getD 3 false=true:=(by simp at f;subst f;exact Ln ⟨3,.data⟩ ajl rfl);have Q:=B q3;subst P;subst Q;have F:av.getD 7 false=false:=by
    cases h:av.getD 7 false with
    | false=>rfl
    | true=>have:=Vi h;rw[Go.getD_both s] at this;cases this
   have L:av.getD 8 false=false:=by
    cases h:av.getD 8 false with
    | false=>rfl
    | true=>have:=US h;rw[F] at this;cases this
   have GY:tT av=0:=by unfold tT;rw[L,F,Go.getD_both s];rfl
   have UT:tT (av.setIfInBounds 4 true)=1:=by unfold tT;rw[up 8 ajm,up 7 ajm,se,L,F];rfl
   rw[GY] at d;refine mB rfl rfl ?_
   go_simp
   refine Calls.mono (wX w (by have:=d.sz;omega) d.m) ?_;rintro e w2 ⟨rfl,hg,hm⟩;have g:=d.go Gp hg hm;simp only[]
   go_simp
   refine⟨by simpa using bM,by rw[up 7 ajm];intro h;rw[se],by rw[up 8 ajm,up 7 ajm];exact US,by rw[UT];exact g,_,_,_,_,_,_,_,_,rfl,fun h=>t (by rwa [up 0 ajm] at h),fun h=>y (by rwa [up 1 ajm] at h),fun h=>A (by rwa [up 2 ajm] at h),fun h=>B (by rwa [up 3 ajm] at h),fun _=>rfl,fun h=>C (by rwa [up 5 ajm] at h),fun h=>D (by rwa [up 6 ajm] at h),fun h=>E (by rwa [up 7 ajm] at h)⟩
  .have up: ∀j,j≠5->(av.setIfInBounds 5 true).getD j false=av.getD j false:=fun j h=>getD_set_ne _ (akN h);have se: (av.setIfInBounds 5 true).getD 5 false=true:=by simp[Array.getD,bM]
   have GY:tT (av.setIfInBounds 5 true)=tT av:=by unfold tT;rw[up 8 ajm,up 7 ajm,up 4 ajm]
   have g:=d;obtain⟨_,Jz,f0,⟨f1,l,f12⟩,⟨f2,f21,f22⟩,_⟩:=d;have I:W.heap.size<w.heap.size:=ajk;have J:W.heap.size+1 <w.heap.size:=ajk;have K:W.heap.size+1+1 <w.heap.size:=ajk;refine mB rfl rfl ?_
   go_simp
   refine⟨by simpa using bM,by rw[up 7 ajm,up 4 ajm];exact Vi,by rw[up 8 ajm,up 7 ajm];exact US,by rw[GY];exact g,_,_,_,_,_,_,_,_,rfl,fun h=>t (by rwa [up 0 ajm] at h),fun h=>y (by rwa [up 1 ajm] at h),fun h=>A (by rwa [up 2 ajm] at h),fun h=>B (by rwa [up 3 ajm] at h),fun h=>n (by rwa [up 4 ajm] at h),fun _=>rfl,fun h=>D (by rwa [up 6 ajm] at h),fun h=>E (by rwa [up 7 ajm] at h)⟩
  .have up: ∀j,j≠6->(av.setIfInBounds 6 true).getD j false=av.getD j false:=fun j h=>getD_set_ne _ (akN h);have se: (av.setIfInBounds 6 true).getD 6 false=true:=by simp[Array.getD,bM]
   have GY:tT (av.setIfInBounds 6 true)=tT av:=by unfold tT;rw[up 8 ajm,up 7 ajm,up 4 ajm]
   have g:=d;obtain⟨_,Jz,f0,⟨f1,l,f12⟩,⟨f2,f21,f22⟩,_⟩:=d;have I:W.heap.size<w.heap.size:=ajk;have J:W.heap.size+1 <w.heap.size:=ajk;have K:W.heap.size+1+1 <w.heap.size:=ajk;refine mB rfl rfl ?_
   go_simp
   refine⟨by simpa using bM,by rw[up 7 ajm,up 4 ajm];exact Vi,by rw[up 8 ajm,up 7 ajm];exact US,by rw[GY];exact g,_,_,_,_,_,_,_,_,rfl,fun h=>t (by rwa [up 0 ajm] at h),fun h=>y (by rwa [up 1 ajm] at h),fun h=>A (by rwa [up 2 ajm] at h),fun h=>B (by rwa [up 3 ajm] at h),fun h=>n (by rwa [up 4 ajm] at h),fun h=>C (by rwa [up 5 ajm] at h),fun _=>rfl,fun h=>E (by rwa [up 7 ajm] at h)⟩
  .have up: ∀j,j≠7->(av.setIfInBounds 7 true).getD j false=av.getD j false:=fun j h=>getD_set_ne _ (akN h);have se: (av.setIfInBounds 7 true).getD 7 false=true:=by simp[Array.getD,bM]
   have q5:av.getD 5 false=true:=(by simp at f;subst f;exact Ln ⟨5,.data⟩ ajl rfl);have R:=C q5;have q6:av.getD 6 false=true:=(by simp at f;subst f;exact Ln ⟨6,.data⟩ ajl rfl);have S:=D q6;have M:av.getD 4 false=true:=(by simp at f;subst f;exact Ln ⟨4,.chain⟩ ajl rfl);have G:=n M;subst R;subst S;subst G;have L:av.getD 8 false=false:=by
    cases h:av.getD 8 false with
    | false=>rfl
    | true=>have:=US h;rw[Go.getD_both s] at this;cases this
   have GY:tT av=1:=by unfold tT;rw[L,Go.getD_both s,M];rfl
   have UT:tT (av.setIfInBounds 7 true)=2:=by unfold tT;rw[up 8 ajm,se,L];rfl
   rw[GY] at d;refine mB rfl rfl ?_
   go_simp
   refine Calls.mono (te w (by have:=d.sz;omega) d.m) ?_;rintro e w2 ⟨rfl,hg,hm⟩;have g:=d.go Gp hg hm;simp only[]
   go_simp
   refine⟨by simpa using bM,by rw[up 4 ajm];exact fun _=>M,by rw[se];exact fun _=>rfl,by rw[UT];exact g,_,_,_,_,_,_,_,_,rfl,fun h=>t (by rwa [up 0 ajm] at h),fun h=>y (by rwa [up 1 ajm] at h),fun h=>A (by rwa [up 2 ajm] at h),fun h=>B (by rwa [up 3 ajm] at h),fun h=>n (by rwa [up 4 ajm] at h),fun h=>C (by rwa [up 5 ajm] at h),fun h=>D (by rwa [up 6 ajm] at h),fun _=>rfl⟩
  have up: ∀j,j≠8->(av.setIfInBounds 8 true).getD j false=av.getD j false:=fun j h=>getD_set_ne _ (akN h);have se: (av.setIfInBounds 8 true).getD 8 false=true:=by simp[Array.getD,bM]
  have q1:av.getD 1 false=true:=(by simp at f;subst f;exact Ln ⟨1,.data⟩ ajl rfl);have T:=y q1;have M:av.getD 4 false=true:=(by simp at f;subst f;exact Ln ⟨4,.data⟩ ajl rfl);have G:=n M;have F:av.getD 7 false=true:=(by simp at f;subst f;exact Ln ⟨7,.data⟩ ajl rfl);have U:=E F;subst T;subst G;subst U;have GY:tT av=2:=by unfold tT;rw[Go.getD_both s,F];rfl
  have UT:tT (av.setIfInBounds 8 true)=3:=by unfold tT;rw[se];rfl
  rw[GY] at d;obtain⟨en,cl,hm,V⟩:=d.m;obtain⟨w3,GW,GX,hup,Xl,X,Y⟩:=N w en cl hm V;have g:=d.go Gp Xl ⟨GW,GX,X,Y⟩;refine mB rfl rfl ?_
  go_simp
  refine⟨by simpa using bM,by rw[up 7 ajm,up 4 ajm];exact Vi,by rw[up 7 ajm];exact fun _=>F,by rw[UT];exact g,_,_,_,_,_,_,_,_,rfl,fun h=>t (by rwa [up 0 ajm] at h),fun h=>y (by rwa [up 1 ajm] at h),fun h=>A (by rwa [up 2 ajm] at h),fun h=>B (by rwa [up 3 ajm] at h),fun h=>n (by rwa [up 4 ajm] at h),fun h=>C (by rwa [up 5 ajm] at h),fun h=>D (by rwa [up 6 ajm] at h),fun h=>E (by rwa [up 7 ajm] at h)⟩
 .rintro av act w ⟨bM,Vi,US,d,x6,x7,x8,x9,NX,NY,NZ,N3,rfl,t,y,A,B,n,C,D,E⟩ hr;have b0:=iQ bM hr (j:=0) rfl ajl;have b1:=iQ bM hr (j:=1) rfl (by simpa using b0);have b2:=iQ bM hr (j:=2) rfl ajl;have b3:=iQ bM hr (j:=3) rfl ajl;have b4:=iQ bM hr (j:=4) rfl (by simpa using And.intro b2 b3);have b5:=iQ bM hr (j:=5) rfl ajl;have b6:=iQ bM hr (j:=6) rfl ajl;have b7:=iQ bM hr (j:=7) rfl (by simpa using And.intro b5 (And.intro b6 b4));have b8:=iQ bM hr (j:=8) rfl (by intro e he;simp at he;rcases he with h| h| h| h| h| h| h| h| h| h| h| h<;>subst h<;>assumption);have GY:tT av=3:=by unfold tT;rw[b8];rfl
  rw[GY] at d;have key:=d.grow;have Vl:=d.m;refine bodyPost_end (v:= .tuple #[]) (by simp[results]) rfl ⟨rfl,key,Vl⟩
 .obtain⟨en,cl,hm,V⟩:=h0;have H:=JG W (.cells #[.map (some bm)] 74) (.cells #[.int .i64 a,.int .i64 b,.int .i64 c] 80) (.cells #[.int .i64 p,.int .i64 q,.int .i64 r] 80);obtain⟨W3,UU⟩: ∃x,x=((W.alloc (.cells #[.map (some bm)] 74)).alloc (.cells #[.int .i64 a,.int .i64 b,.int .i64 c] 80)).alloc (.cells #[.int .i64 p,.int .i64 q,.int .i64 r] 80):=⟨_,rfl⟩;have f0:W3.cell? ⟨W.heap.size,0,none⟩=some (.map (some bm)):=by rw[UU];go_simp
  have f1:W3.cell? ⟨W.heap.size+1,0,none⟩=some (.int .i64 a):=by rw[UU];go_simp
  have l:W3.cell? ⟨W.heap.size+1,1,none⟩=some (.int .i64 b):=by rw[UU];go_simp
  have f12:W3.cell? ⟨W.heap.size+1,2,none⟩=some (.int .i64 c):=by rw[UU];go_simp
  have f2:W3.cell? ⟨W.heap.size+1+1,0,none⟩=some (.int .i64 p):=by rw[UU];go_simp
  have f21:W3.cell? ⟨W.heap.size+1+1,1,none⟩=some (.int .i64 q):=by rw[UU];go_simp
  have f22:W3.cell? ⟨W.heap.size+1+1,2,none⟩=some (.int .i64 r):=by rw[UU];go_simp
  have hs:W3.heap.size=W.heap.size+3:=by rw[UU];simp only[World.size_alloc]
  have hmm:W3.heap[bm]? =some (.map en cl):=by rw[UU,H.block bm Gp ajl];exact hm
  rw[<-UU] at H ⊢;clear UU;exact⟨ajl,ajl,ajl,⟨⟨H.os,H.tape,H.output,H.size,fun k hk hr=>H.block k hk ajl⟩,by show W.heap.size+3<=W3.heap.size;omega,f0,⟨f1,l,f12⟩,⟨f2,f21,f22⟩,en,cl,hmm,V⟩,_,_,_,_,_,_,_,_,rfl,ajl,ajl,ajl,ajl,ajl,ajl,ajl,ajl⟩
end Go.Proofs
namespace Go.AM
open Go.RowKit Go.Proofs Go.Proofs.YtdifmldbllaeiaaGreat
structure xE (P:Program):Prop where
 w: ∀ (W:World) (bm:Nat) (a b c u v z:Int) (Z:Array MapEntry->Nat->Prop),bm<W.heap.size->
  (∀ (w:World) (Bs Bc:Nat),Bs<w.heap.size->Bc<w.heap.size->bm<w.heap.size->w.cell? ⟨Bs,0,none⟩=some (.map (some bm))->w.cell? ⟨Bc,0,none⟩=some (E6 Bs Bc)->w.heap[bm]? =W.heap[bm]? ->
    Calls P 75 #[v3 a b c,.pointer (some ⟨Bs,0,none⟩),.pointer (some ⟨Bc,0,none⟩)] w fun e W'=>e= .returned (v3 u v z)/\w.grownBy W' (some bm)/\ ∃en cl,W'.heap[bm]? =some (.map en cl)/\Z en cl)->
  Calls P 29 #[.agg #[.map (some bm)],v3 a b c] W fun e W'=>e= .returned (v3 u v z)/\W.grownBy W' (some bm)/\ ∃en cl,W'.heap[bm]? =some (.map en cl)/\Z en cl
 enter: ∀args w,(callFunc 29 args).run P w= .ok (.enter 29 args) w
structure JH (P:Program):Prop where
 w: ∀ (W:World) (bm:Nat) (a b c p q r u v z u' v' z':Int) (Z:Nat->Array MapEntry->Nat->Prop),bm<W.heap.size->
  (∃en cl,W.heap[bm]? =some (.map en cl)/\Z 0 en cl)->
  (∀w:World,bm<w.heap.size->(∃en cl,w.heap[bm]? =some (.map en cl)/\Z 0 en cl)->Calls P 29 #[.agg #[.map (some bm)],v3 a b c] w fun e W'=>e= .returned (v3 u v z)/\w.grownBy W' (some bm)/\ ∃en cl,W'.heap[bm]? =some (.map en cl)/\Z 1 en cl)->
  (∀w:World,bm<w.heap.size->(∃en cl,w.heap[bm]? =some (.map en cl)/\Z 1 en cl)->Calls P 29 #[.agg #[.map (some bm)],v3 p q r] w fun e W'=>e= .returned (v3 u' v' z')/\w.grownBy W' (some bm)/\ ∃en cl,W'.heap[bm]? =some (.map en cl)/\Z 2 en cl)->
  (∀ (w:World) en cl,w.heap[bm]? =some (.map en cl)->Z 2 en cl-> ∃w3 GW GX,(Instr.mapUpdate 72 (.map (some bm)) (v3 u v z) (v3 u' v' z')).run P w= .ok () w3/\w.grownBy w3 (some bm)/\w3.heap[bm]? =some (.map GW GX)/\Z 3 GW GX)->
  Calls P 28 #[.agg #[.map (some bm)],v3 a b c,v3 p q r] W fun e W'=>e= .returned (.tuple #[])/\W.grownBy W' (some bm)/\ ∃en cl,W'.heap[bm]? =some (.map en cl)/\Z 3 en cl
 enter: ∀args w,(callFunc 28 args).run P w= .ok (.enter 28 args) w
theorem JI {P:Program} {F:FuncId} {fn:Func} {a:Code} (b:P.funcs[F]? =some fn) (c: (fn.name== "runtime.NumGoroutine")=false) (d:fn.body=some a) (args:Array Value) (w:World): (callFunc F args).run P w= .ok (.enter F args) w:=by simp[callFunc,Sem.run_bind,program,Sem.run,b,d];simpa using c
theorem JE:xE Tryz.prog:=⟨PY,JI Tryz.func29 rfl rfl⟩
theorem UL:JH Tryz.prog:=⟨PZ,JI Tryz.func28 rfl rfl⟩
theorem CV {Y:Ctx} {μ:Mu} (f:pW Y.P) (g:xE Y.P) (i:cU Y.toTrEnv 80=some [1,1,1]) {n:Nat} {es es':List V} {a b c u v z:Int} (h:ko n es (.agg [.int .i64 a,.int .i64 b,.int .i64 c])=some (.agg [.int .i64 u,.int .i64 v,.int .i64 z],es')) (hs:es.all jG=true) (W:World) (bm:Nat) (hb:bm<W.heap.size)
  (hm: ∃en cl,W.heap[bm]? =some (.map en cl)/\iB en cl/\ag Y μ es (en.toList.map qX)):
  Calls Y.P 29 #[.agg #[.map (some bm)],v3 a b c] W fun e W'=>e= .returned (v3 u v z)/\W.grownBy W' (some bm)/\ ∃en cl,W'.heap[bm]? =some (.map en cl)/\iB en cl/\ag Y μ es' (en.toList.map qX):=by
 obtain⟨ents,clock,hm,j,hrel⟩:=hm;refine g.w W bm a b c u v z (fun en cl=>iB en cl/\ag Y μ es' (en.toList.map qX)) hb fun w Bs Bc k l m o p q=> ?_;refine(E7 f i n h rfl hs (eM.2 rfl) w Bs Bc bm clock ents k l m o p (q.trans hm) j hrel).mono ?_;rintro e w' ⟨⟨t,rfl,d⟩,r,en,cl,s,g3,g4⟩;obtain rfl:=eM.1 d;exact⟨rfl,r,en,cl,s,g3,g4⟩
theorem UM {X:TrEnv} (j:pW X.P) (g:xE X.P) (k:cU X 80=some [1,1,1]):yP X 29 DG:=by
 intro es xs v es' h;unfold DG at h;split at h
 .rename_i x;split at h
  .rename_i hc;simp only[ajt] at hc;obtain⟨hx,hs⟩:=hc;obtain⟨hr,i⟩:=sO _ h hx hs;refine⟨zI hr,gT i,fun Y μ bm ents clock vals hY hm l hrel f _=> ?_⟩;obtain⟨a,b,c,rfl⟩:=il hx;obtain⟨p,q,r,rfl⟩:=il hr;obtain⟨d,rfl⟩: ∃d,vals=[d]:=by
    match vals,f with
    | [d],_=>exact⟨d,rfl⟩
   simp only[ag,and_true] at f;obtain rfl:=eM.1 f;subst hY;rw[g.enter];simp only[vl];refine Calls.mono (CV (Y:=Y) (μ:=μ) j g k h hs μ.w bm (ajs.1 hm).1 ⟨ents,clock,hm,l,hrel⟩) ?_;rintro e w' ⟨rfl,m,en,cl,n,g3,g4⟩;exact⟨eM.2 rfl,m,en,cl,n,g3,bX rfl (gT i) g4⟩
  simp at h
 simp at h
theorem UK {X:TrEnv} (j:pW X.P) (n:xE X.P) (o:JH X.P) (l:cU X 80=some [1,1,1]):yP X 28 DH:=by
 intro es xs v es' h;unfold DH at h;split at h
 .rename_i x y;split at h
  .rename_i hc;simp only[ajt] at hc;obtain⟨⟨hx,hy⟩,hs⟩:=hc;split at h
   .rename_i M UZ h1;split at h
    .rename_i N C1 h2;simp only[ajr,ajv] at h;obtain⟨m,s,rfl,rfl⟩:=h;obtain⟨YY,t⟩:=sO _ h1 hx hs;obtain⟨d,A⟩:=sO _ h2 hy t;have Er:=xD YY d A s;refine⟨rfl,gT Er,fun Y μ bm ents clock vals hY hm B hrel f _=> ?_⟩;obtain⟨a,b,c,rfl⟩:=il hx;obtain⟨p,q,r,rfl⟩:=il hy;obtain⟨u,w,z,rfl⟩:=il YY;obtain⟨u',w',z',rfl⟩:=il d;obtain⟨g,i,rfl⟩: ∃g i,vals=[g,i]:=by
      match vals,f with
      | [g,i],_=>exact⟨g,i,rfl⟩
     simp only[ag,and_true] at f;obtain rfl:=eM.1 f.1;obtain rfl:=eM.1 f.2;subst hY;rw[o.enter];simp only[vl];refine Calls.mono (o.w μ.w bm a b c p q r u w z u' w' z' (fun k en cl=>iB en cl/\ag Y μ (match k with| 0=>es| 1=>UZ| 2=>C1| _=>m) (en.toList.map qX)) (ajs.1 hm).1 ⟨ents,clock,hm,B,hrel⟩ ?_ ?_ ?_) ?_
     .intro W hb G9;exact CV (Y:=Y) (μ:=μ) j n l h1 hs W bm hb G9
     .intro W hb G9;exact CV (Y:=Y) (μ:=μ) j n l h2 t W bm hb G9
     .rintro W en cl C ⟨D,E⟩;obtain⟨w3,GW,GX,F,G,H,I,J⟩:=CU (X:=Y) (μ:=⟨W,μ.φ,μ.O⟩) j.map l (NC YY YY) (eM.2 rfl) (eM.2 (rfl:v3 u' w' z'=_)) C D (bX rfl (gT A) E) s;exact⟨w3,GW,GX,F,G,H,I,bX rfl (gT Er) J⟩
     rintro e Q ⟨rfl,K,en,cl,L,g3,g4⟩;exact⟨by simp[aj,ag],K,en,cl,L,g3,bX rfl (gT Er) g4⟩
    simp at h
   simp at h
  simp at h
 simp at h
end Go.AM
