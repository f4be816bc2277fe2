/-
  Texts of the proof, joined by program: AmCall2, AmCall3, AmCall4, AmCall5, AmCall6, AmCall7, AmCall8, AmCall9, AmTag, AmSound, AmExt, AmGlue, AmTrod, AmSeat, AmSqrt. Own work.
-/
import Derived.Test.YtkdfnbahehdhmaaGreatOpsB
import Derived.Test.YtkdfnbahehdhmaaGreatBase
import Derived.Laws.Externs
import Derived.Laws.Cover3
import GoSem.Extern.MathSqrt
import Derived.ProofKit
import Derived.ChangeSame
import Derived.ChangeArms
import Derived.OpenShut
import Derived.Deep.Slices
import Derived.Carry
set_option linter.unusedSimpArgs false
set_option linter.unusedVariables false
namespace Go.AM
open Go Go.RowKit
def vz (P:Program) (r:Result Next) (R:Value→World→Prop):Prop:=
 match r with
 | .ok (.value v) w'=>R v w'
 | .ok (.enter f args) w'=>Calls P f args w' fun| .returned v,Aj=>R v Aj| _,_=>False
 | _=>False
theorem vz.upon {P:Program} {r:Result Next} {R:Value→World→Prop} (h:vz P r R) {o:Oper} {a:Go.Act} {next:Go.Act→World→Prop} {Q:Go.Exit→Go.Act→World→Prop}
   (hn: ∀v w,R v w→next (a.put o.dst v) w):o.upon P a next Q r:=by
 unfold vz at h
 split at h
 · exact hn _ _ h
 · rw[Oper.upon_enter]
   refine Calls.mono h fun e w' he=> ?_
   cases e with
   | returned v=>exact hn _ _ he
   | panicked c=>exact he.elim
   | outgrown=>exact he.elim
 · exact h.elim
def V.fW:V→Bool
 | .own .. =>true
 | c=>c.aC
theorem oB {c:V} (h:c.aC=true):c.fW=true:=by cases c<;>simp_all[V.aC,V.fW]
inductive cM (n:Nat) (σ:St):V→V→List Nat→Prop
 | one {v0 v:V} {rs:List Nat} (h:cf n σ v0=some (v,rs)):cM n σ v0 v rs
 | many {vs vs':List V} {rs:List Nat} (h:bO n σ vs=some (vs',rs)):cM n σ (.tuple vs) (.tuple vs') rs
def cu (X:TrEnv) (F:FuncId) (args:List V) (res:eS):Prop:=
 ∀ (B:Nat→Prop) (K:Nat×Nat) (w:World) (φ0:Nat→Row) (vals:List Value),vals.length=args.length→
  (∀t v,vals[t]? =some v→aj ⟨X,B,K⟩ ⟨w,φ0,(enter args).O⟩ ((enter args).T t) v)→aS ⟨X,B,K⟩ ⟨w,φ0,(enter args).O⟩→
  vz X.P ((callFunc F vals.toArray).run X.P w) fun val w'=> ∃φ' T' O' v0 refs,Le ⟨w,φ0,(enter args).O⟩ ⟨w',φ',O'⟩∧aS ⟨X,B,K⟩ ⟨w',φ',O'⟩∧
     aj ⟨X,B,K⟩ ⟨w',φ',O'⟩ v0 val∧cM args.length ⟨T',O'⟩ v0 res.val refs∧distinct refs=true∧bC O' 0 args=some res.outs
inductive LA (Y:Ctx) (μ:Mu) (n:Nat):V→List Nat→Value→Prop
 | pure {c:V} {val:Value} (hp:c.aw=true) (h:aj Y μ c val):LA Y μ n c [] val
 | sl {r g off len:Nat} {es:List V} {val:Value} (hr:r<n) (bp: (μ.O r).es=some es) (hg: (μ.O r).gen=g) (hl:off+len≤es.length) (h:aj Y μ (.sl r g off len) val):LA Y μ n (.sl r g off len) [r] val
 | own {r g off len:Nat} {es:List V} {val:Value} (hr:n≤r) (bp: (μ.O r).es=some es) (fm: (μ.O r).fz=false) (hg: (μ.O r).gen=g) (hl:off+len≤es.length) (hp:V.al (aF es off len)=true)
    (h:aj Y μ (.sl r g off len) val):LA Y μ n (.own (μ.O r).sz (aF es off len)) [r] val
inductive tk (Y:Ctx) (μ:Mu) (n:Nat):List V→List Nat→List Value→Prop
 | nil:tk Y μ n [] [] []
 | cons {c:V} {rs rs':List Nat} {val:Value} {cs:List V} {vals:List Value} (h:LA Y μ n c rs val) (hs:tk Y μ n cs rs' vals):tk Y μ n (c::cs) (rs++rs') (val::vals)
section
variable {Y:Ctx} {μ:Mu} {n:Nat}
theorem tk.length {cs:List V} {rs:List Nat} {vals:List Value} (h:tk Y μ n cs rs vals):cs.length=vals.length:=by
 induction h with
 | nil=>rfl
 | cons _ _ ih=>simp[ih]
theorem zm (ho:aS Y μ) {r g off len:Nat} {es:List V} {val:Value} (bp: (μ.O r).es=some es) (fm: (μ.O r).fz=true) (hg: (μ.O r).gen=g) (hl:off+len≤es.length)
   (hp:V.al (aF es off len)=true) (h:aj Y μ (.sl r g off len) val):aj Y μ (.lit (μ.O r).sz (aF es off len)) val:=by
 simp only[aj] at h ⊢
 obtain⟨a,cap,rfl,hle,qd,b9⟩:=h
 obtain⟨a0,a1,a2⟩:=b9 hg
 obtain⟨q1,q2,q3,q4⟩:=ho.row r es bp a0
 have mj: (aF es off len).length=len:=by simp[aF];omega
 have jr: (aF es off len).all V.cw=true:=by
   simp only[List.all_eq_true] at q3 ⊢
   exact fun x hx=> (bK (q3 x (List.mem_of_mem_drop (List.mem_of_mem_take hx)))).1
 by_cases yi:len=0
 · exact⟨hp,jr,a,cap,[],by rw[mj],by omega,by simp[aF,yi,ah],.inl (by simpa using mj.trans yi)⟩
 · rcases q4 with q4| ⟨cc,TT,vs,p1,p2,p3,p4⟩
   · omega
   · refine⟨hp,jr,a,cap,(vs.drop off).take len,by rw[mj],by omega,ah.take _ (ah.drop _ p3),.inr ⟨_,_,a2.resolve_left (by omega),?_,(Array.getElem?_eq_some_iff.1 p1).1,(p4.drop off).take len⟩⟩
     rintro(⟨r',k1,k2,k3,k4⟩ | hb)
     · by_cases e:r'=r
       · subst e;rw[fm] at k2;simp at k2
       · exact ho.inj r' r e k1 (by simp[bp]) k3 (by omega) k4
     · exact ho.p8 r (by simp[bp]) (by omega) hb
theorem jz (ho:aS Y μ) {T:Nat→V} {c c':V} {rs:List Nat} {val:Value} (h:aj Y μ c val) (he:bn n ⟨T,μ.O⟩ c=some (c',rs)):LA Y μ n c' rs val:=by
 unfold bn at he
 split at he
 · rename_i r g off len
   simp only at he
   split at he
   · rename_i es bp
     split at he
     · rename_i hc
       obtain⟨c1,c2,c3,c4⟩:=hc
       split at he
       · rename_i hr
         simp only[Option.some.injEq,Prod.mk.injEq] at he
         obtain⟨rfl,rfl⟩:=he
         exact .sl hr bp c1 c2 h
       · rename_i hr
         split at he
         · rename_i fm
           simp only[Option.some.injEq,Prod.mk.injEq] at he
           obtain⟨rfl,rfl⟩:=he
           exact .pure rfl (zm ho bp fm c1 c2 c4 h)
         · rename_i fm
           simp only[Option.some.injEq,Prod.mk.injEq] at he
           obtain⟨rfl,rfl⟩:=he
           exact .own (by omega) bp (by simpa using fm) c1 c2 c4 h
     · simp at he
   · simp at he
 · split at he
   · rename_i hp
     simp only[Option.some.injEq,Prod.mk.injEq] at he
     obtain⟨rfl,rfl⟩:=he
     exact .pure hp h
   · simp at he
theorem fg (ho:aS Y μ) {T:Nat→V}: ∀ {cs cj:List V} {rs:List Nat} {vals:List Value},ah Y μ cs vals→a8 n ⟨T,μ.O⟩ cs=some (cj,rs)→tk Y μ n cj rs vals
 | [],cj,rs,[],_,he=>by simp[a8] at he;obtain⟨rfl,rfl⟩:=he;exact .nil
 | [],_,_,_::_,h,_=>by simp[ah] at h
 | _::_,_,_,[],h,_=>by simp[ah] at h
 | c::cs,cj,rs,v::vs,h,he=>by
   simp only[ah] at h
   simp only[a8] at he
   split at he
   · rename_i c1 r1 ML LB h1 h2
     simp only[Option.some.injEq,Prod.mk.injEq] at he
     obtain⟨rfl,rfl⟩:=he
     exact .cons (jz ho h.1 h1) (fg ho h.2 h2)
   · simp at he
inductive BC (Y:Ctx) (μ:Mu) (n:Nat):V→List Nat→Value→Prop
 | cell {c:V} {rs:List Nat} {val:Value} (h:LA Y μ n c rs val):BC Y μ n c rs val
 | agg {cs:List V} {rs:List Nat} {vals:Array Value} (hc:cs.all V.fW=true) (h:tk Y μ n cs rs vals.toList):BC Y μ n (.agg cs) rs (.agg vals)
inductive oC (Y:Ctx) (μ:Mu) (n:Nat):List V→List Nat→List Value→Prop
 | nil:oC Y μ n [] [] []
 | cons {c:V} {rs rs':List Nat} {val:Value} {cs:List V} {vals:List Value} (h:BC Y μ n c rs val) (hs:oC Y μ n cs rs' vals):oC Y μ n (c::cs) (rs++rs') (val::vals)
theorem oD {T:Nat→V} {O:Nat→Obj} {c c':V} {rs:List Nat} (he:bn n ⟨T,O⟩ c=some (c',rs)) (hc:c.aC=true):V.fW c'=true:=by
 unfold bn at he
 split at he
 · simp only at he
   split at he
   · split at he
     · split at he
       · simp only[Option.some.injEq,Prod.mk.injEq] at he
         obtain⟨rfl,rfl⟩:=he;rfl
       · split at he
         · simp only[Option.some.injEq,Prod.mk.injEq] at he
           obtain⟨rfl,rfl⟩:=he;rfl
         · simp only[Option.some.injEq,Prod.mk.injEq] at he
           obtain⟨rfl,rfl⟩:=he;rfl
     · simp at he
   · simp at he
 · split at he
   · simp only[Option.some.injEq,Prod.mk.injEq] at he
     obtain⟨rfl,rfl⟩:=he
     exact oB hc
   · simp at he
theorem iy {T:Nat→V} {O:Nat→Obj}: ∀ {cs cj:List V} {rs:List Nat},a8 n ⟨T,O⟩ cs=some (cj,rs)→cs.all V.aC=true→
   cj.all V.fW=true
 | [],cj,rs,he,_=>by simp[a8] at he;obtain⟨rfl,rfl⟩:=he;rfl
 | c::cs,cj,rs,he,hc=>by
   simp only[List.all_cons,Bool.and_eq_true] at hc
   simp only[a8] at he
   split at he
   · rename_i c1 r1 ML LB h1 h2
     simp only[Option.some.injEq,Prod.mk.injEq] at he
     obtain⟨rfl,rfl⟩:=he
     have i1:=oD h1 hc.1
     have i2:=iy h2 hc.2
     rw[List.all_cons,i2,Bool.and_true]
     exact i1
   · simp at he
theorem tk.bP {cs:List V} {rs:List Nat} {vals:List Value} (h:tk Y μ n cs rs vals) (hp:V.al cs=true):ah Y μ cs vals∧rs=[]:=by
 induction h with
 | nil=>simp[ah]
 | cons h hs ih=>
   simp only[V.al,Bool.and_eq_true] at hp
   obtain⟨i1,i2⟩:=ih hp.2
   cases h with
   | pure yk hv=>simp only[ah];exact⟨⟨hv,i1⟩,by simpa using i2⟩
   | sl=>simp[V.aw] at hp
   | own=>simp[V.aw] at hp
theorem mD (ho:aS Y μ) {T:Nat→V} {v v':V} {rs:List Nat} {val:Value} (h:aj Y μ v val) (he:cf n ⟨T,μ.O⟩ v=some (v',rs)):BC Y μ n v' rs val:=by
 unfold cf at he
 split at he
 · rename_i hp
   simp only[Option.some.injEq,Prod.mk.injEq] at he
   obtain⟨rfl,rfl⟩:=he
   exact .cell (.pure hp h)
 · split at he
   · simp only[aj] at h
     obtain⟨h1,vs,rfl,h2⟩:=h
     split at he
     · rename_i cj rs' jc
       simp only[Option.some.injEq,Prod.mk.injEq] at he
       obtain⟨rfl,rfl⟩:=he
       exact .agg (iy jc h1) (fg ho h2 jc)
     · simp at he
   · simp only[aj] at h
     obtain⟨F,cv,rfl,h1,h2⟩:=h
     split at he
     · rename_i cj rs' jc
       split at he
       · rename_i hp
         simp only[Option.some.injEq,Prod.mk.injEq] at he
         obtain⟨rfl,rfl⟩:=he
         obtain⟨k1,k2⟩:=(fg ho h2 jc).bP hp
         subst k2
         refine .cell (.pure (by simpa [V.aw] using hp) ?_)
         simp only[aj]
         exact⟨F,cv,rfl,h1,k1⟩
       · simp at he
     · simp at he
   · exact .cell (jz ho h he)
theorem lq (ho:aS Y μ) {T:Nat→V}: ∀ {cs cj:List V} {rs:List Nat} {vals:List Value},ah Y μ cs vals→bO n ⟨T,μ.O⟩ cs=some (cj,rs)→oC Y μ n cj rs vals
 | [],cj,rs,[],_,he=>by simp[bO] at he;obtain⟨rfl,rfl⟩:=he;exact .nil
 | [],_,_,_::_,h,_=>by simp[ah] at h
 | _::_,_,_,[],h,_=>by simp[ah] at h
 | c::cs,cj,rs,v::vs,h,he=>by
   simp only[ah] at h
   simp only[bO] at he
   split at he
   · rename_i c1 r1 ML LB h1 h2
     simp only[Option.some.injEq,Prod.mk.injEq] at he
     obtain⟨rfl,rfl⟩:=he
     exact .cons (mD ho h.1 h1) (lq ho h.2 h2)
   · simp at he
end
end Go.AM
namespace Go.AM
open Go Go.RowKit
def dZ (φ:Nat→Row) (ws:List db) (i:Nat):Row:=
 match ws with
 | []=> ⟨0,0,0⟩
 | w::ws=>if w.i=i then(match w.fresh with| none=>φ w.r| some _=> ⟨0,0,0⟩) else dZ φ ws i
inductive qp (X:Ctx) (μ:Mu) (r0 i:Nat) (rs:List Nat) (ws:List db):V→Value→Prop
 | plain {a:V} {v:Value} (hp:V.aw a=true) (hs:gu X μ rs a v):qp X μ r0 i rs ws a v
 | sl {r g off len:Nat} {es:List V} {v:Value} (hw: (⟨i,r,none⟩:db) ∈ ws) (bp: (μ.O r).es=some es) (fm: (μ.O r).fz=false) (bU: (μ.O r).gen=g) (jS:V.al es=true)
    (fk:off+len≤es.length) (hv:aj X μ (.sl r g off len) v):qp X μ r0 i rs ws (.msl (μ.O r).sz es off len) v
 | ptr {r g idx off:Nat} {es:List V} {v:Value} (hw: (⟨i,r,none⟩:db) ∈ ws) (bp: (μ.O r).es=some es) (fm: (μ.O r).fz=false) (bU: (μ.O r).gen=g) (jS:V.al es=true)
    (hv:aj X μ (.ptr r g idx off) v):qp X μ r0 i rs ws (.mptr (μ.O r).sz es idx off) v
 | fresh {sz:Nat} {v:Value} (hw: (⟨i,r0+i,some sz⟩:db) ∈ ws) (b5:0 <sz) (hv: ∃a,v= .slice a 0 0):qp X μ r0 i rs ws (.msl sz [] 0 0) v
section
variable {X:Ctx} {μ:Mu} {r0:Nat}
theorem qp.more {i:Nat} {rs rs':List Nat} {ws vP:List db} {a:V} {v:Value} (h:qp X μ r0 i rs ws a v) (h1: ∀r ∈ rs,r ∈ rs') (h2: ∀w ∈ ws,w ∈ vP):qp X μ r0 i rs' vP a v:=by
 cases h with
 | plain hp hs=>exact .plain hp (hs.more h1)
 | sl hw a b c d e f=>exact .sl (h2 _ hw) a b c d e f
 | ptr hw a b c d f=>exact .ptr (h2 _ hw) a b c d f
 | fresh hw a b=>exact .fresh (h2 _ hw) a b
theorem iH.at {i:Nat} {as:List V} {vs:List Value} {rs:List Nat} {ws:List db} (h:iH X μ r0 i as vs rs ws):
   as.length=vs.length∧(∀w ∈ ws,i≤w.i)∧(∀t a,as[t]? =some a→ ∃v,vs[t]? =some v∧qp X μ r0 (i+t) rs ws a v):=by
 induction h with
 | nil i=>simp
 | @plain i a v rs rs' as vs ws hp hs h ih=>
   obtain⟨i1,i2,i3⟩:=ih
   refine⟨by simp[i1],fun w hw=>by have:=i2 w hw;omega,fun t b hb=> ?_⟩
   cases t with
   | zero=>simp at hb;subst hb;exact⟨v,by simp,.plain hp (hs.more (by simp+contextual))⟩
   | succ t=>
     obtain⟨v',k1,k2⟩:=i3 t b (by simpa using hb)
     refine⟨v',by simpa using k1,?_⟩
     have e:i+(t+1)=i+1+t:=by omega
     rw[e];exact k2.more (by simp+contextual) (fun w hw=>hw)
 | @sl i r g off len es v rs as vs ws bp fm bU jS fk hv h ih=>
   obtain⟨i1,i2,i3⟩:=ih
   refine⟨by simp[i1],fun w hw=> ?_,fun t b hb=> ?_⟩
   · rcases List.mem_cons.1 hw with rfl| hw
     · exact Nat.le_refl _
     · have:=i2 w hw;omega
   · cases t with
     | zero=>simp at hb;subst hb;exact⟨v,by simp,.sl (by simp) bp fm bU jS fk hv⟩
     | succ t=>
       obtain⟨v',k1,k2⟩:=i3 t b (by simpa using hb)
       refine⟨v',by simpa using k1,?_⟩
       have e:i+(t+1)=i+1+t:=by omega
       rw[e];exact k2.more (fun r hr=>hr) (fun w hw=>by simp[hw])
 | @ptr i r g idx off es v rs as vs ws bp fm bU jS hv h ih=>
   obtain⟨i1,i2,i3⟩:=ih
   refine⟨by simp[i1],fun w hw=> ?_,fun t b hb=> ?_⟩
   · rcases List.mem_cons.1 hw with rfl| hw
     · exact Nat.le_refl _
     · have:=i2 w hw;omega
   · cases t with
     | zero=>simp at hb;subst hb;exact⟨v,by simp,.ptr (by simp) bp fm bU jS hv⟩
     | succ t=>
       obtain⟨v',k1,k2⟩:=i3 t b (by simpa using hb)
       refine⟨v',by simpa using k1,?_⟩
       have e:i+(t+1)=i+1+t:=by omega
       rw[e];exact k2.more (fun r hr=>hr) (fun w hw=>by simp[hw])
 | @fresh i sz v rs as vs ws b5 hv h ih=>
   obtain⟨i1,i2,i3⟩:=ih
   refine⟨by simp[i1],fun w hw=> ?_,fun t b hb=> ?_⟩
   · rcases List.mem_cons.1 hw with rfl| hw
     · exact Nat.le_refl _
     · have:=i2 w hw;omega
   · cases t with
     | zero=>simp at hb;subst hb;exact⟨v,by simp,.fresh (by simp) b5 hv⟩
     | succ t=>
       obtain⟨v',k1,k2⟩:=i3 t b (by simpa using hb)
       refine⟨v',by simpa using k1,?_⟩
       have e:i+(t+1)=i+1+t:=by omega
       rw[e];exact k2.more (fun r hr=>hr) (fun w hw=>by simp[hw])
inductive Cj:Nat→List db→Prop
 | nil (i:Nat):Cj i []
 | cons {i:Nat} {w:db} {ws:List db} (h:i≤w.i) (hs:Cj (w.i+1) ws):Cj i (w::ws)
theorem Cj.le {i j:Nat} {ws:List db} (h:Cj j ws) (hij:i≤j):Cj i ws:=by
 cases h with
 | nil=>exact .nil _
 | cons h hs=>exact .cons (by omega) hs
theorem Cj.mem {i:Nat} {ws:List db} (h:Cj i ws): ∀w ∈ ws,i≤w.i:=by
 induction h with
 | nil=>simp
 | cons h hs ih=>
   intro w hw
   rcases List.mem_cons.1 hw with rfl| hw
   · exact h
   · have:=ih w hw;omega
theorem iH.inc {i:Nat} {as:List V} {vs:List Value} {rs:List Nat} {ws:List db} (h:iH X μ r0 i as vs rs ws):Cj i ws:=by
 induction h with
 | nil i=>exact .nil i
 | plain hp hs h ih=>exact ih.le (by omega)
 | sl _ _ _ _ _ _ h ih=>exact .cons (by simp) ih
 | ptr _ _ _ _ _ h ih=>exact .cons (by simp) ih
 | fresh _ _ h ih=>exact .cons (by simp) ih
theorem fG {φ:Nat→Row} {i:Nat} {ws:List db} (h:Cj i ws): ∀w ∈ ws,dZ φ ws w.i=(match w.fresh with| none=>φ w.r| some _=> ⟨0,0,0⟩):=by
 induction h with
 | nil=>simp
 | @cons i w ws h hs ih=>
   intro w' hw
   rcases List.mem_cons.1 hw with rfl| hw
   · simp[dZ]
   · have:=hs.mem w' hw
     rw[dZ,if_neg (by omega)]
     exact ih w' hw
theorem Cj.uniq {i:Nat} {ws:List db} (h:Cj i ws): ∀w ∈ ws,∀w' ∈ ws,w.i=w'.i→w=w':=by
 induction h with
 | nil=>simp
 | @cons i w ws h hs ih=>
   intro a ha b hb e
   rcases List.mem_cons.1 ha with ha| ha<;>rcases List.mem_cons.1 hb with hb| hb
   · rw[ha,hb]
   · have:=hs.mem b hb;subst ha;omega
   · have:=hs.mem a ha;subst hb;omega
   · exact ih a ha b hb e
theorem mE: ∀ {ws:List db},distinct (ws.map (·.r))=true→ ∀w ∈ ws,∀w' ∈ ws,w.r=w'.r→w=w'
 | [],_,_,h,_,_,_=>by simp at h
 | w::ws,hd,a,ha,b,hb,e=>by
   simp only[List.map_cons,distinct,Bool.and_eq_true,Bool.not_eq_true',List.contains_eq_mem,decide_eq_false_iff_not] at hd
   rcases List.mem_cons.1 ha with ha| ha<;>rcases List.mem_cons.1 hb with hb| hb
   · rw[ha,hb]
   · exact absurd (List.mem_map.2 ⟨b,hb,by rw[←e,ha]⟩) hd.1
   · exact absurd (List.mem_map.2 ⟨a,ha,by rw[e,hb]⟩) hd.1
   · exact mE hd.2 a ha b hb e
def dd (X:Ctx) (μ:Mu) (rs:List Nat) (ws:List db) (b:Nat):Prop:=
 X.Hh b∨ ∃r,r ∉ rs∧r ∉ ws.map (·.r)∧(μ.O r).es.isSome=true∧(μ.O r).fz=false∧(μ.φ r).cap≠0∧(μ.φ r).cD=b
theorem gR {as:List V} {vals:List Value} {rs:List Nat} {ws:List db} (hp:iH X μ r0 0 as vals rs ws) (j:Nat):
   (enter as).O j=bj∨
   (∃r es,(⟨j,r,none⟩:db) ∈ ws∧(μ.O r).es=some es∧(μ.O r).fz=false∧V.al es=true∧((enter as).O j).gen=0∧((enter as).O j).sz=(μ.O r).sz∧((enter as).O j).fz=false∧((enter as).O j).es=some es∧dZ μ.φ ws j=μ.φ r)∨
   (∃sz,(⟨j,r0+j,some sz⟩:db) ∈ ws∧0 <sz∧((enter as).O j).gen=0∧((enter as).O j).sz=sz∧((enter as).O j).fz=false∧((enter as).O j).es=some []∧dZ μ.φ ws j=⟨0,0,0⟩):=by
 obtain⟨hl,-,pz⟩:=hp.at
 have hi:=hp.inc
 cases ha:as[j]? with
 | none=>left;simp[enter,ha]
 | some a=>
   obtain⟨v,hv,hA⟩:=pz j a ha
   simp only[Nat.zero_add] at hA
   cases hA with
   | plain jS hs=>
     left
     cases a<;>simp[V.aw] at jS<;>simp[enter,ha]
   | @sl r g off len es v hw bp fm bU jS fk ym=>
     right;left
     exact⟨r,es,hw,bp,fm,jS,by simp[enter,ha],by simp[enter,ha],by simp[enter,ha],by simp[enter,ha],by have:=fG (φ:=μ.φ) hi _ hw;simpa using this⟩
   | @ptr r g idx off es v hw bp fm bU jS ym=>
     right;left
     exact⟨r,es,hw,bp,fm,jS,by simp[enter,ha],by simp[enter,ha],by simp[enter,ha],by simp[enter,ha],by have:=fG (φ:=μ.φ) hi _ hw;simpa using this⟩
   | @fresh sz v hw b5 ym=>
     right;right
     exact⟨sz,hw,b5,by simp[enter,ha],by simp[enter,ha],by simp[enter,ha],by simp[enter,ha],by have:=fG (φ:=μ.φ) hi _ hw;simpa using this⟩
theorem ur {as:List V} {vals:List Value} {rs:List Nat} {ws:List db} (hp:iH X μ r0 0 as vals rs ws) {b:Nat} (h: (⟨μ.w,dZ μ.φ ws,(enter as).O⟩:Mu).own b):
   ∃i r,(⟨i,r,none⟩:db) ∈ ws∧(μ.O r).es.isSome=true∧(μ.O r).fz=false∧(μ.φ r).cap≠0∧(μ.φ r).cD=b:=by
 obtain⟨j,h1,h2,h3,h4⟩:=h
 simp only at h1 h2 h3 h4
 rcases gR hp j with h| ⟨r,es,k1,k2,k3,k4,k5,k6,k7,k8,k9⟩ | ⟨sz,k1,k2,k3,k4,k5,k6,k7⟩
 · rw[h] at h1;simp[bj] at h1
 · rw[k9] at h3 h4
   exact⟨j,r,k1,by simp[k2],k3,h3,h4⟩
 · rw[k7] at h3;simp at h3
theorem BD {as:List V} {vals:List Value} {rs:List Nat} {ws:List db} (ho:aS X μ) (hp:iH X μ r0 0 as vals rs ws) (BE:apart rs (ws.map (·.r))=true) {b:Nat}
   (h:Own ⟨X.toTrEnv,dd X μ rs ws,X.tok⟩ ⟨μ.w,dZ μ.φ ws,(enter as).O⟩ b):
   Own X μ b∧ ∀r ∈ rs,(μ.O r).es.isSome=true→(μ.φ r).cap≠0→b≠(μ.φ r).cD:=by
 rcases h with h| h
 · obtain⟨i,r,h1,h2,h3,h4,h5⟩:=ur hp h
   refine⟨.inl ⟨r,h2,h3,h4,h5⟩,fun r' qk k1 k2 e=> ?_⟩
   have cB:r≠r':=by
     rintro rfl
     have:=List.all_eq_true.1 BE r (List.mem_map.2 ⟨_,h1,rfl⟩)
     simp[qk] at this
   exact ho.inj r r' cB h2 k1 h4 k2 (h5.trans e)
 · rcases h with h| ⟨r,h0,h1,h2,h3,h4,h5⟩
   · refine⟨.inr h,fun r' qk k1 k2 e=>ho.p8 r' k1 k2 (e ▸ h)⟩
   · refine⟨.inl ⟨r,h2,h3,h4,h5⟩,fun r' qk k1 k2 e=> ?_⟩
     have cB:r≠r':=fun e=>h0 (e ▸ qk)
     exact ho.inj r r' cB h2 k1 h4 k2 (h5.trans e)
theorem xf {as:List V} {vals:List Value} {rs:List Nat} {ws:List db} (ho:aS X μ) (hp:iH X μ r0 0 as vals rs ws) (BE:apart rs (ws.map (·.r))=true) (hd:distinct (ws.map (·.r))=true):
   vals.length=as.length∧(∀t v,vals[t]? =some v→aj ⟨X.toTrEnv,dd X μ rs ws,X.tok⟩ ⟨μ.w,dZ μ.φ ws,(enter as).O⟩ ((enter as).T t) v)∧
     aS ⟨X.toTrEnv,dd X μ rs ws,X.tok⟩ ⟨μ.w,dZ μ.φ ws,(enter as).O⟩:=by
 have fD:=fun b=>BD (b:=b) ho hp BE
 obtain⟨hl,-,pz⟩:=hp.at
 have hi:=hp.inc
 refine⟨hl.symm,fun t v hv=> ?_,?_⟩
 · have ha:t<as.length:=by rw[hl];exact(List.getElem?_eq_some_iff.1 hv).1
   obtain⟨v',yj,hA⟩:=pz t as[t] (List.getElem?_eq_getElem ha)
   rw[hv] at yj;injection yj with yj;subst yj
   have xg:as[t]? =some as[t]:=List.getElem?_eq_getElem ha
   simp only[Nat.zero_add] at hA
   generalize XT:as[t]=a at hA xg
   cases hA with
   | plain jS hs=>
     have: (enter as).T t=a:=by cases a<;>simp[V.aw] at jS<;>simp[enter,xg]
     rw[this]
     exact hs _ _ rfl fD
   | @sl r g off len es v hw bp fm bU jS fk ym=>
     have e1: (enter as).T t= .sl t 0 off len:=by simp[enter,xg]
     have e2: ((enter as).O t).gen=0∧((enter as).O t).sz=(μ.O r).sz:=by simp[enter,xg]
     have e3:dZ μ.φ ws t=μ.φ r:=by have:=fG (φ:=μ.φ) hi _ hw;simpa using this
     rw[e1]
     simp only[aj] at ym ⊢
     obtain⟨a,cap,rfl,q1,q2,q3⟩:=ym
     refine⟨a,cap,rfl,q1,Nat.zero_le _,fun _=> ?_⟩
     rw[e2.2,e3];exact q3 bU
   | @ptr r g idx off es v hw bp fm bU jS ym=>
     have e1: (enter as).T t= .ptr t 0 idx off:=by simp[enter,xg]
     have e2: ((enter as).O t).gen=0∧((enter as).O t).sz=(μ.O r).sz:=by simp[enter,xg]
     have e3:dZ μ.φ ws t=μ.φ r:=by have:=fG (φ:=μ.φ) hi _ hw;simpa using this
     rw[e1]
     simp only[aj] at ym ⊢
     obtain⟨a,rfl,q2,q3⟩:=ym
     refine⟨a,rfl,Nat.zero_le _,fun _=> ?_⟩
     rw[e2.2,e3];exact q3 bU
   | @fresh sz v hw b5 ym=>
     have e1: (enter as).T t= .sl t 0 0 0:=by simp[enter,xg]
     have e3:dZ μ.φ ws t=⟨0,0,0⟩:=by have:=fG (φ:=μ.φ) hi _ hw;simpa using this
     rw[e1]
     obtain⟨a,rfl⟩:=ym
     simp only[aj]
     exact⟨a,0,rfl,Nat.le_refl _,Nat.zero_le _,fun _=> ⟨by simp[enter,xg,b5],by rw[e3],.inl rfl⟩⟩
 · refine⟨ fun j es bp=> ?_,fun j1 j2 cB h1 h2 h3 h4=> ?_,fun j h1 h2 hb=> ?_,fun b hb=> ?_⟩
   · rcases gR hp j with h| ⟨r,es',k1,k2,k3,k4,k5,k6,k7,k8,k9⟩ | ⟨sz,k1,k2,k3,k4,k5,k6,k7⟩
     · simp only[h,bj] at bp;simp at bp
     · simp only at bp
       rw[k8] at bp;injection bp with bp;subst bp
       rcases ho.ok r es' k2 with⟨q1,q2,q3,q4⟩ | ⟨m1,m2,ob,m3,m4⟩
       · refine .inl ?_
         unfold iN
         simp only[k6,k9]
         refine⟨q1,q2,q3,q4.imp id ?_⟩
         rintro⟨c,T,vs,p1,p2,p3,p4⟩
         exact⟨c,T,vs,p1,p2,bq (X:=X) (μ:=μ) (μ':=⟨μ.w,dZ μ.φ ws,(enter as).O⟩) rfl (fun b hb=> (fD b hb).1) k4 p3,p4⟩
       · refine .inr ?_
         unfold oa
         simp only[k6,k9]
         refine⟨m1,m2,ob,m3,?_⟩
         rcases m4 with⟨ents,clock,e1,e2,e3⟩ | m4| ⟨mo,since,kG,e1,e2,e3⟩
         · exact .inl ⟨ents,clock,e1,bq (X:=X) (μ:=μ) (μ':=⟨μ.w,dZ μ.φ ws,(enter as).O⟩) rfl (fun b hb=> (fD b hb).1) k4 e2,e3⟩
         · exact .inr (.inl m4)
         · subst e2
           refine .inr (.inr ⟨mo,since,kG,e1,rfl,e3.imp id ?_⟩)
           rintro⟨m,ents,l1,l2,l3,l4,l5,l6⟩
           exact⟨m,ents,l1,fun h=>l2 (fD m h).1,l3,l4,l5,bq (X:=X) (μ:=μ) (μ':=⟨μ.w,dZ μ.φ ws,(enter as).O⟩) rfl (fun b hb=> (fD b hb).1) (by simpa [V.al,V.aw] using k4) l6⟩
     · simp only at bp
       rw[k6] at bp;injection bp with bp;subst bp
       refine .inl ?_
       unfold iN
       simp only[k4,k7]
       exact⟨k2,by simp,rfl,by simp⟩
   · simp only at h1 h2 h3 h4 ⊢
     rcases gR hp j1 with h| ⟨r,es',k1,k2,k3,k4,k5,k6,k7,k8,k9⟩ | ⟨sz,k1,k2,k3,k4,k5,k6,k7⟩
     · rw[h] at h1;simp[bj] at h1
     · rcases gR hp j2 with h| ⟨r',Q1,l1,l2,l3,l4,l5,l6,l7,l8,l9⟩ | ⟨sz,l1,l2,l3,l4,l5,l6,l7⟩
       · rw[h] at h2;simp[bj] at h2
       · rw[k9] at h3 ⊢
         rw[l9] at h4 ⊢
         refine ho.inj r r' (fun e=> ?_) (by simp[k2]) (by simp[l2]) h3 h4
         have:=mE hd _ k1 _ l1 e
         injection this with e1;exact cB e1
       · rw[l7] at h4;simp at h4
     · rw[k7] at h3;simp at h3
   · simp only at h1 h2 hb
     rcases gR hp j with h| ⟨r,es',k1,k2,k3,k4,k5,k6,k7,k8,k9⟩ | ⟨sz,k1,k2,k3,k4,k5,k6,k7⟩
     · rw[h] at h1;simp[bj] at h1
     · rw[k9] at h2 hb
       rcases hb with hb| ⟨r',g0,g1,g2,g3,g4,g5⟩
       · exact ho.p8 r (by simp[k2]) h2 hb
       · have cB:r'≠r:=fun e=>g1 (List.mem_map.2 ⟨_,k1,e.symm⟩)
         exact ho.inj r' r cB g2 (by simp[k2]) g4 h2 g5
     · rw[k7] at h2;simp at h2
   · rcases hb with hb| ⟨r',g0,g1,g2,g3,g4,g5⟩
     · exact ho.blt b hb
     · obtain⟨es',he⟩:=Option.isSome_iff_exists.1 g2
       rw[←g5];exact ej.cD (ho.ok r' es' he) g4
end
end Go.AM
namespace Go.AM
open Go Go.RowKit
section
variable {X X':Ctx} {μ μ':Mu}
mutual
theorem weaken (hX:X'.toTrEnv=X.toTrEnv) (hk:X'.tok=X.tok) (hw:μ'.w=μ.w) (hφ:μ'.φ=μ.φ) (hO: ∀r,(μ'.O r).gen=(μ.O r).gen∧(μ'.O r).sz=(μ.O r).sz) (ho: ∀b,Own X' μ' b→Own X μ b): ∀ {x:V} {v:Value},aj X μ x v→aj X' μ' x v
 | .bool _,_,h| .int ..,_,h| .float _,_,h| .str _,_,h| .nilp,_,h| .nilfn,_,h| .nili,_,h| .nils,_,h=>by simpa [aj] using h
 | .any,_,_=>by simp[aj]
 | .own ..,_,h| .msl ..,_,h| .mptr ..,_,h=>by simp[aj] at h
 | .agg cs,_,h=>by
   simp only[aj] at h ⊢
   obtain⟨h1,vs,rfl,h2⟩:=h
   exact⟨h1,vs,rfl,jV hX hk hw hφ hO ho h2⟩
 | .tuple cs,_,h=>by
   simp only[aj] at h ⊢
   obtain⟨vs,rfl,h2⟩:=h
   exact⟨vs,rfl,jV hX hk hw hφ hO ho h2⟩
 | .fn f cs,_,h=>by
   simp only[aj] at h ⊢
   obtain⟨F,cv,rfl,h1,h2⟩:=h
   exact⟨F,cv,rfl,by rw[hX];exact h1,jV hX hk hw hφ hO ho h2⟩
 | .iface t x,_,h=>by
   simp only[aj] at h ⊢
   obtain⟨F,y,rfl,h1,h2⟩:=h
   exact⟨F,y,rfl,by rw[hX];exact h1,weaken hX hk hw hφ hO ho h2⟩
 | .lit sz xs,_,h=>by
   simp only[aj] at h ⊢
   obtain⟨h0,iG,a,cap,vs,rfl,h1,h2,h3⟩:=h
   refine⟨h0,iG,a,cap,vs,rfl,h1,jV hX hk hw hφ hO ho h2,h3.imp id ?_⟩
   rintro⟨b,o,rfl,hb,hs,hr⟩
   exact⟨b,o,rfl,fun hh=>hb (ho b hh),by rw[hw];exact hs,by rw[hw];exact hr⟩
 | .sl r g off len,_,h=>by
   simp only[aj] at h ⊢
   rw[hφ,(hO r).1,(hO r).2];exact h
 | .ptr r g idx off,_,h=>by
   simp only[aj] at h ⊢
   rw[hφ,(hO r).1,(hO r).2];exact h
 | .litk sz xs,_,h=>by
   simp only[aj] at h ⊢
   obtain⟨h0,iG,a,cap,vs,rfl,h1,h2,h3⟩:=h
   refine⟨h0,iG,a,cap,vs,rfl,h1,jV hX hk hw hφ hO ho h2,h3.imp id ?_⟩
   rintro⟨rfl,hb,hs,hr⟩
   rw[hk]
   exact⟨rfl,fun hh=>hb (ho _ hh),by rw[hw];exact hs,by rw[hw];exact hr⟩
 | .epk i sz e off,_,h=>by
   simp only[aj] at h ⊢
   obtain⟨h0,iG,x,rfl,hb,hs,h1,hr⟩:=h
   rw[hk]
   exact⟨h0,iG,x,rfl,fun hh=>hb (ho _ hh),by rw[hw];exact hs,weaken hX hk hw hφ hO ho h1,by rw[hw];exact hr⟩
 | .eptr e off,_,h=>by
   simp only[aj] at h ⊢
   obtain⟨h0,iG,b,o,sz,x,rfl,hb,hs,h1,hr⟩:=h
   exact⟨h0,iG,b,o,sz,x,rfl,fun hh=>hb (ho b hh),by rw[hw];exact hs,weaken hX hk hw hφ hO ho h1,by rw[hw];exact hr⟩
 | .mp r g,_,h| .it r g,_,h=>by
   simp only[aj] at h ⊢
   rw[hφ,(hO r).1,(hO r).2];exact h
 | .mlit es,_,h=>by
   simp only[aj] at h ⊢
   obtain⟨h0,h⟩:=h
   refine⟨h0,h.imp id ?_⟩
   rintro⟨a,ents,clock,rfl,hb,hs,h1,h2⟩
   exact⟨a,ents,clock,rfl,fun hh=>hb (ho a hh),by rw[hw];exact hs,by rw[hw];exact h1,jV hX hk hw hφ hO ho h2⟩
theorem jV (hX:X'.toTrEnv=X.toTrEnv) (hk:X'.tok=X.tok) (hw:μ'.w=μ.w) (hφ:μ'.φ=μ.φ) (hO: ∀r,(μ'.O r).gen=(μ.O r).gen∧(μ'.O r).sz=(μ.O r).sz) (ho: ∀b,Own X' μ' b→Own X μ b): ∀ {xs:List V} {vs:List Value},ah X μ xs vs→ah X' μ' xs vs
 | [],[],_=>by simp[ah]
 | [],_::_,h=>by simp[ah] at h
 | _::_,[],h=>by simp[ah] at h
 | x::xs,v::vs,h=>by
   simp only[ah] at h ⊢
   exact⟨weaken hX hk hw hφ hO ho h.1,jV hX hk hw hφ hO ho h.2⟩
end
mutual
theorem ka (hX:X'.toTrEnv=X.toTrEnv): ∀ {x:V} {v:Value},V.isScalar x=true→aj X μ x v→aj X' μ' x v
 | .bool _,_,_,h| .int ..,_,_,h| .float _,_,_,h| .str _,_,_,h| .nilp,_,_,h| .nilfn,_,_,h| .nili,_,_,h| .nils,_,_,h=>by simpa [aj] using h
 | .any,_,hp,_| .own ..,_,hp,_| .msl ..,_,hp,_| .mptr ..,_,hp,_| .sl ..,_,hp,_| .ptr ..,_,hp,_| .lit ..,_,hp,_| .eptr ..,_,hp,_| .litk ..,_,hp,_| .epk ..,_,hp,_| .mp ..,_,hp,_| .it ..,_,hp,_| .mlit ..,_,hp,_| .fn ..,_,hp,_| .iface ..,_,hp,_=>by simp[V.isScalar] at hp
 | .agg cs,_,hp,h=>by
   simp only[aj] at h ⊢
   obtain⟨h1,vs,rfl,h2⟩:=h
   exact⟨h1,vs,rfl,ei hX (by simpa [V.isScalar] using hp) h2⟩
 | .tuple cs,_,hp,h=>by
   simp only[aj] at h ⊢
   obtain⟨vs,rfl,h2⟩:=h
   exact⟨vs,rfl,ei hX (by simpa [V.isScalar] using hp) h2⟩
theorem ei (hX:X'.toTrEnv=X.toTrEnv): ∀ {xs:List V} {vs:List Value},V.aU xs=true→ah X μ xs vs→ah X' μ' xs vs
 | [],[],_,_=>by simp[ah]
 | [],_::_,_,h=>by simp[ah] at h
 | _::_,[],_,h=>by simp[ah] at h
 | x::xs,v::vs,hp,h=>by
   simp only[ah] at h ⊢
   simp only[V.aU,Bool.and_eq_true] at hp
   exact⟨ka hX hp.1 h.1,ei hX hp.2 h.2⟩
end
end
structure zn (Y:Ctx) (μf μ1:Mu) (r j:Nat) (row:Row) (o:Obj):Prop where
 es: ∃es,o.es=some es∧V.al es=true∧0 <o.sz∧es.length≤row.cap∧es.all (aH · o.sz)=true∧
  (row.cap=0∨ ∃c T vs,μ1.w.heap[row.cD]? =some (.cells c T (0,0))∧row.base+row.cap*o.sz≤c.size∧ah Y μ1 es vs∧cH μ1.w row.cD row.base o.sz vs)
 live: (μ1.O j).es.isSome=true∧(μ1.O j).fz=false
 cD:row.cap≠0→(μ1.φ j).cap≠0∧row.cD=(μ1.φ j).cD
 gen: (μf.O r).gen<o.gen∨(o.gen=(μf.O r).gen∧row=μf.φ r∧o.sz=(μf.O r).sz)
 sc: (∀es,(μ1.O j).es=some es→V.aU es=true)→ ∀es,o.es=some es→V.aU es=true
structure eb (Y:Ctx) (μf μ1:Mu) (U:Nat→Prop) (A:Nat→Option Nat) (φ:Nat→Row) (O:Nat→Obj):Prop where
 yn: ∀r,A r=none→O r=μf.O r∧φ r=μf.φ r
 vA: ∀r j,A r=some j→zn Y μf μ1 r j (φ r) (O r)∧U j
 inj: ∀r1 r2 j,A r1=some j→A r2=some j→r1=r2
def cY (φ:Nat→Row) (O:Nat→Obj) (φ':Nat→Row) (O':Nat→Obj):Prop:=
 ∀r,(O r).gen≤(O' r).gen∧((O' r).gen=(O r).gen→φ' r=φ r∧(O' r).sz=(O r).sz)
theorem cY.refl (φ:Nat→Row) (O:Nat→Obj):cY φ O φ O:=fun _=> ⟨Nat.le_refl _,fun _=> ⟨rfl,rfl⟩⟩
theorem cY.trans {φ φ' φ'':Nat→Row} {O O' X4:Nat→Obj} (h:cY φ O φ' O') (k:cY φ' O' φ'' X4):cY φ O φ'' X4:=fun r=>by
 obtain⟨h1,h2⟩:=h r
 obtain⟨k1,k2⟩:=k r
 refine⟨Nat.le_trans h1 k1,fun e=> ?_⟩
 obtain⟨a1,a2⟩:=h2 (by omega)
 obtain⟨b1,b2⟩:=k2 (by omega)
 exact⟨b1.trans a1,b2.trans a2⟩
def kb (μ1:Mu) (φ:Nat→Row) (O:Nat→Obj) (i r g:Nat):Prop:=g≤(O r).gen∧((O r).gen=g→φ r=μ1.φ i∧(O r).sz=(μ1.O i).sz)
theorem kb.mono {μ1:Mu} {φ φ':Nat→Row} {O O':Nat→Obj} {i r g:Nat} (h:kb μ1 φ O i r g) (m:cY φ O φ' O'):kb μ1 φ' O' i r g:=by
 obtain⟨m1,m2⟩:=m r
 refine⟨Nat.le_trans h.1 m1,fun e=> ?_⟩
 have:=h.1
 obtain⟨a1,a2⟩:=m2 (by omega)
 obtain⟨b1,b2⟩:=h.2 (by omega)
 exact⟨a1.trans b1,a2.trans b2⟩
theorem eb.take {Y:Ctx} {μf μ1:Mu} {U U':Nat→Prop} {A:Nat→Option Nat} {φ:Nat→Row} {O:Nat→Obj} (h:eb Y μf μ1 U A φ O) {r j:Nat} {row:Row} {o:Obj} (hj: ¬U j) (hU: ∀i,U i→U' i) (ZO:U' j)
  (ht:zn Y μf μ1 r j row o):eb Y μf μ1 U' (cW A r (some j)) (cW φ r row) (cW O r o) where
 yn:=fun r' e=>by
  by_cases e':r'=r
  · subst e';simp[av] at e
  · rw[aL _ _ e'] at e ⊢;rw[aL _ _ e'];exact h.yn r' e
 vA:=fun r' j' e=>by
  by_cases e':r'=r
  · subst e';simp only[av] at e ⊢;injection e with e;subst e;exact⟨ht,ZO⟩
  · rw[aL _ _ e'] at e ⊢;rw[aL _ _ e']
    obtain⟨k1,k2⟩:=h.vA r' j' e
    exact⟨k1,hU _ k2⟩
 inj:=fun r1 r2 j' e1 e2=>by
  by_cases q1:r1=r<;>by_cases q2:r2=r
  · rw[q1,q2]
  · subst q1
    simp only[av] at e1;injection e1 with e1;subst e1
    rw[aL _ _ q2] at e2
    exact absurd (h.vA r2 _ e2).2 hj
  · subst q2
    simp only[av] at e2;injection e2 with e2;subst e2
    rw[aL _ _ q1] at e1
    exact absurd (h.vA r1 _ e1).2 hj
  · rw[aL _ _ q1] at e1
    rw[aL _ _ q2] at e2
    exact h.inj r1 r2 j' e1 e2
theorem cY.cW {φ:Nat→Row} {O:Nat→Obj} {r:Nat} {row:Row} {o:Obj} (h: (O r).gen<o.gen∨(o.gen=(O r).gen∧row=φ r∧o.sz=(O r).sz)):cY φ O (cW φ r row) (cW O r o):=fun r'=>by
 by_cases e:r'=r
 · subst e
   simp only[av]
   rcases h with h| ⟨h1,h2,h3⟩
   · exact⟨by omega,fun e=>by omega⟩
   · exact⟨by omega,fun _=> ⟨h2,h3⟩⟩
 · simp[aL _ _ e]
end Go.AM
namespace Go.AM
open Go Go.RowKit
section
variable {X Y:Ctx} {μ μf μ1:Mu} {r0:Nat} {C:aO} {T:Nat→V}
theorem m8 (h1:aS Y μ1) {r i:Nat} {es:List V} {o:Obj} (h0:0 < (μ1.O i).sz) (bp: (μ1.O i).es=some es) (fm: (μ1.O i).fz=false) (hp:V.al es=true) (ho:o.es=some es) (b5:o.sz=(μ1.O i).sz)
  (hg: (μf.O r).gen<o.gen∨(o.gen=(μf.O r).gen∧μ1.φ i=μf.φ r∧o.sz=(μf.O r).sz)):zn Y μf μ1 r i (μ1.φ i) o:=by
 obtain⟨q1,q2,q3,q4⟩:=h1.row i es bp h0
 refine⟨⟨es,ho,hp,by rw[b5];exact q1,q2,by rw[b5];exact q3,?_⟩,⟨by simp[bp],fm⟩,fun hc=> ⟨hc,rfl⟩,hg,fun hs es' he=> ?_⟩
 · rw[b5];exact q4
 · rw[ho] at he;injection he with he;subst he;exact hs _ bp
theorem gN {O:Nat→Obj} {i sz off len:Nat} {kG:List V} {as:List V} {outs:List (Nat×List V)} (h:bC O i (.msl sz kG off len::as)=some outs):
   ∃es iz,(O i).es=some es∧bC O (i+1) as=some iz∧(O i).fz=false∧(O i).sz=sz∧V.al es=true∧outs=((O i).gen,es)::iz:=by
 simp only[bC] at h
 split at h
 · rename_i es iz h1 h2
   split at h
   · rename_i hc
     injection h with h
     exact⟨es,iz,h1,h2,hc.1,hc.2.1,hc.2.2,h.symm⟩
   · simp at h
 · simp at h
theorem mF {O:Nat→Obj} {i sz off len:Nat} {kG:List V} {as:List V} {outs:List (Nat×List V)} (h:bC O i (.mptr sz kG off len::as)=some outs):
   ∃es iz,(O i).es=some es∧bC O (i+1) as=some iz∧(O i).fz=false∧(O i).sz=sz∧V.al es=true∧outs=((O i).gen,es)::iz:=by
 simp only[bC] at h
 split at h
 · rename_i es iz h1 h2
   split at h
   · rename_i hc
     injection h with h
     exact⟨es,iz,h1,h2,hc.1,hc.2.1,hc.2.2,h.symm⟩
   · simp at h
 · simp at h
theorem lr {O:Nat→Obj} {i:Nat} {a:V} {as:List V} (h:V.aw a=true):bC O i (a::as)=bC O (i+1) as:=by
 cases a<;>simp[V.aw] at h<;>rfl
theorem mG (h1:aS Y μ1) {w0:List db} (dn: ∀w ∈ w0,w.fresh=none→(μ1.O w.i).gen=0→μ1.φ w.i=μ.φ w.r) (hφ:μf.φ=μ.φ) (HC: ∀w ∈ w0,μf.O w.r=μ.O w.r) {S:Nat→Prop} (hS: ∀w ∈ w0,S w.i):
   ∀ {i:Nat} {as:List V} {vs:List Value} {rs:List Nat} {ws:List db},iH X μ r0 i as vs rs ws→ ∀ {outs:List (Nat×List V)} {A:Nat→Option Nat} {φ:Nat→Row} {O:Nat→Obj} {k:List (Nat×Nat×Nat)→Act} {p:V×St},
     bC μ1.O i as=some outs→eb Y μf μ1 (fun j=>j<i∧S j) A φ O→(∀w ∈ ws,w ∈ w0)→(∀w ∈ ws,A w.r=none)→distinct (ws.map (·.r))=true→(cg ws outs k).run C ⟨T,O⟩=some p→
     ∃A' φ' O' gs,(k gs).run C ⟨T,O'⟩=some p∧eb Y μf μ1 (fun j=>j<i+as.length∧S j) A' φ' O'∧cY φ O φ' O'∧(∀w ∈ ws,A' w.r≠none)∧(∀r,A r≠none→A' r≠none)∧
       ∀x ∈ gs,kb μ1 φ' O' x.1 x.2.1 x.2.2:=by
 intro i as vs rs ws hp
 induction hp with
 | nil i=>
   intro outs A φ O k p ho ht _ _ _ ag
   simp[bC] at ho;subst ho
   exact⟨A,φ,O,[],ag,by simpa using ht,cY.refl _ _,by simp,fun _ h=>h,by simp⟩
 | @plain i a v rs rs' as vs ws jS hs h ih=>
   intro outs A φ O k p ho ht hw hA hd ag
   rw[lr jS] at ho
   have sY:eb Y μf μ1 (fun j=>j<i+1∧S j) A φ O:=⟨ht.yn,fun r j e=> ⟨(ht.vA r j e).1,⟨by have:=(ht.vA r j e).2.1;omega,(ht.vA r j e).2.2⟩⟩,ht.inj⟩
   obtain⟨A',φ',O',gs,k1,k2,k3,k4,k5,k6⟩:=ih ho sY hw hA hd ag
   refine⟨A',φ',O',gs,k1,?_,k3,k4,k5,k6⟩
   have e:i+(a::as).length=i+1+as.length:=by simp;omega
   rw[e];exact k2
 | @sl i r g off len kG v rs as vs ws bp fm bU jS fk hv h ih=>
   intro outs A φ O k p ho ht hw hA hd ag
   obtain⟨es,iz,o1,o2,o3,o4,o5,rfl⟩:=gN ho
   simp only[cg,Act.run] at ag
   have HD:=hA ⟨i,r,none⟩ (by simp)
   simp only at HD
   obtain⟨n1,n2⟩:=ht.yn r HD
   have hOr:μf.O r=μ.O r:=HC ⟨i,r,none⟩ (hw _ (by simp))
   have sh: (μf.O r).gen< (O r).gen+(μ1.O i).gen∨((O r).gen+(μ1.O i).gen=(μf.O r).gen∧μ1.φ i=μf.φ r∧(O r).sz=(μf.O r).sz):=by
     rw[n1]
     by_cases hz: (μ1.O i).gen=0
     · right;refine⟨by omega,?_,rfl⟩
       rw[hφ];exact dn ⟨i,r,none⟩ (hw _ (by simp)) rfl hz
     · left;omega
   have Gn:zn Y μf μ1 r i (μ1.φ i) {O r with gen:=(O r).gen+(μ1.O i).gen,es:=some es}:=
     m8 h1 (by rw[o4];simp only[aj] at hv;obtain⟨_,_,_,_,_,hh⟩:=hv;exact(hh bU).1) o1 o3 o5 rfl (by simp only[n1,hOr];exact o4.symm) sh
   have sY:=ht.take (U':=fun j=>j<i+1∧S j) (by simp) (fun j hj=> ⟨by omega,hj.2⟩) ⟨by simp,hS ⟨i,r,none⟩ (hw _ (by simp))⟩ Gn
   have hm:cY φ O (cW φ r (μ1.φ i)) (cW O r {O r with gen:=(O r).gen+(μ1.O i).gen,es:=some es}):=by
     refine cY.cW ?_
     rw[n2]
     have:=sh
     rw[←n1] at this
     exact this.imp id fun hh=> ⟨hh.1,hh.2.1,hh.2.2⟩
   simp only[List.map_cons,distinct,Bool.and_eq_true,Bool.not_eq_true',List.contains_eq_mem,decide_eq_false_iff_not] at hd
   obtain⟨A',φ',O',gs,k1,k2,k3,k4,k5,k6⟩:=ih o2 sY (fun w gJ=>hw w (by simp[gJ])) (fun w gJ=>by
     have:w.r≠r:=fun e=>hd.1 (List.mem_map.2 ⟨w,gJ,e⟩)
     rw[aL _ _ this];exact hA w (by simp[gJ])) hd.2 ag
   refine⟨A',φ',O',_,k1,?_,hm.trans k3,fun w gJ=> ?_,fun r' qk=>k5 r' ?_,fun x hx=> ?_⟩
   · have e:i+(V.msl (μ.O r).sz kG off len::as).length=i+1+as.length:=by simp;omega
     rw[e];exact k2
   · rcases List.mem_cons.1 gJ with rfl| gJ
     · exact k5 r (by simp[av])
     · exact k4 w gJ
   · by_cases e:r'=r
     · subst e;simp[av]
     · rw[aL _ _ e];exact qk
   · rcases List.mem_cons.1 hx with rfl| hx
     · refine kb.mono ⟨?_,fun _=> ?_⟩ k3
       · simp[av]
       · simp only[av];exact⟨trivial,by rw[n1,hOr];exact o4.symm⟩
     · exact k6 x hx
 | @ptr i r g idx off kG v rs as vs ws bp fm bU jS hv h ih=>
   intro outs A φ O k p ho ht hw hA hd ag
   obtain⟨es,iz,o1,o2,o3,o4,o5,rfl⟩:=mF ho
   simp only[cg,Act.run] at ag
   have HD:=hA ⟨i,r,none⟩ (by simp)
   simp only at HD
   obtain⟨n1,n2⟩:=ht.yn r HD
   have hOr:μf.O r=μ.O r:=HC ⟨i,r,none⟩ (hw _ (by simp))
   have sh: (μf.O r).gen< (O r).gen+(μ1.O i).gen∨((O r).gen+(μ1.O i).gen=(μf.O r).gen∧μ1.φ i=μf.φ r∧(O r).sz=(μf.O r).sz):=by
     rw[n1]
     by_cases hz: (μ1.O i).gen=0
     · right;refine⟨by omega,?_,rfl⟩
       rw[hφ];exact dn ⟨i,r,none⟩ (hw _ (by simp)) rfl hz
     · left;omega
   have Gn:zn Y μf μ1 r i (μ1.φ i) {O r with gen:=(O r).gen+(μ1.O i).gen,es:=some es}:=
     m8 h1 (by rw[o4];simp only[aj] at hv;obtain⟨_,_,_,hh⟩:=hv;exact(hh bU).1) o1 o3 o5 rfl (by simp only[n1,hOr];exact o4.symm) sh
   have sY:=ht.take (U':=fun j=>j<i+1∧S j) (by simp) (fun j hj=> ⟨by omega,hj.2⟩) ⟨by simp,hS ⟨i,r,none⟩ (hw _ (by simp))⟩ Gn
   have hm:cY φ O (cW φ r (μ1.φ i)) (cW O r {O r with gen:=(O r).gen+(μ1.O i).gen,es:=some es}):=by
     refine cY.cW ?_
     rw[n2]
     have:=sh
     rw[←n1] at this
     exact this.imp id fun hh=> ⟨hh.1,hh.2.1,hh.2.2⟩
   simp only[List.map_cons,distinct,Bool.and_eq_true,Bool.not_eq_true',List.contains_eq_mem,decide_eq_false_iff_not] at hd
   obtain⟨A',φ',O',gs,k1,k2,k3,k4,k5,k6⟩:=ih o2 sY (fun w gJ=>hw w (by simp[gJ])) (fun w gJ=>by
     have:w.r≠r:=fun e=>hd.1 (List.mem_map.2 ⟨w,gJ,e⟩)
     rw[aL _ _ this];exact hA w (by simp[gJ])) hd.2 ag
   refine⟨A',φ',O',_,k1,?_,hm.trans k3,fun w gJ=> ?_,fun r' qk=>k5 r' ?_,fun x hx=> ?_⟩
   · have e:i+(V.mptr (μ.O r).sz kG idx off::as).length=i+1+as.length:=by simp;omega
     rw[e];exact k2
   · rcases List.mem_cons.1 gJ with rfl| gJ
     · exact k5 r (by simp[av])
     · exact k4 w gJ
   · by_cases e:r'=r
     · subst e;simp[av]
     · rw[aL _ _ e];exact qk
   · rcases List.mem_cons.1 hx with rfl| hx
     · refine kb.mono ⟨?_,fun _=> ?_⟩ k3
       · simp[av]
       · simp only[av];exact⟨trivial,by rw[n1,hOr];exact o4.symm⟩
     · exact k6 x hx
 | @fresh i sz v rs as vs ws b5 hv h ih=>
   intro outs A φ O k p ho ht hw hA hd ag
   obtain⟨es,iz,o1,o2,o3,o4,o5,rfl⟩:=gN ho
   simp only[cg,Act.run] at ag
   have HD:=hA ⟨i,r0+i,some sz⟩ (by simp)
   simp only at HD
   obtain⟨n1,n2⟩:=ht.yn (r0+i) HD
   have Gn:zn Y μf μ1 (r0+i) i (μ1.φ i) {gen:=(O (r0+i)).gen+1,sz,arr:=true,fz:=false,es:=some es}:=
     m8 h1 (by rw[o4];exact b5) o1 o3 o5 rfl o4.symm (.inl (by simp only[n1];omega))
   have sY:=ht.take (U':=fun j=>j<i+1∧S j) (by simp) (fun j hj=> ⟨by omega,hj.2⟩) ⟨by simp,hS ⟨i,r0+i,some sz⟩ (hw _ (by simp))⟩ Gn
   have hm:cY φ O (cW φ (r0+i) (μ1.φ i)) (cW O (r0+i) {gen:=(O (r0+i)).gen+1,sz,arr:=true,fz:=false,es:=some es}):=
     cY.cW (.inl (by simp))
   simp only[List.map_cons,distinct,Bool.and_eq_true,Bool.not_eq_true',List.contains_eq_mem,decide_eq_false_iff_not] at hd
   obtain⟨A',φ',O',gs,k1,k2,k3,k4,k5,k6⟩:=ih o2 sY (fun w gJ=>hw w (by simp[gJ])) (fun w gJ=>by
     have:w.r≠r0+i:=fun e=>hd.1 (List.mem_map.2 ⟨w,gJ,e⟩)
     rw[aL _ _ this];exact hA w (by simp[gJ])) hd.2 ag
   refine⟨A',φ',O',_,k1,?_,hm.trans k3,fun w gJ=> ?_,fun r' qk=>k5 r' ?_,fun x hx=> ?_⟩
   · have e:i+(V.msl sz [] 0 0::as).length=i+1+as.length:=by simp;omega
     rw[e];exact k2
   · rcases List.mem_cons.1 gJ with rfl| gJ
     · exact k5 (r0+i) (by simp[av])
     · exact k4 w gJ
   · by_cases e:r'=r0+i
     · subst e;simp[av]
     · rw[aL _ _ e];exact qk
   · rcases List.mem_cons.1 hx with rfl| hx
     · refine kb.mono ⟨?_,fun _=> ?_⟩ k3
       · simp[av]
       · simp only[av];exact⟨trivial,o4.symm⟩
     · exact k6 x hx
theorem DI {O:Nat→Obj} {i:Nat} {as:List V} {vs:List Value} {rs:List Nat} {ws:List db} (hp:iH X μ r0 i as vs rs ws): ∀ {outs:List (Nat×List V)},bC O i as=some outs→
   ∀w ∈ ws,∃g es,(O w.i).es=some es∧(g,es) ∈ outs:=by
 induction hp with
 | nil i=>intro outs _ w hw;simp at hw
 | plain jS hs h ih=>intro outs ho;rw[lr jS] at ho;exact ih ho
 | @sl i r g off len kG v rs as vs ws bp fm bU jS fk hv h ih=>
   intro outs ho w hw
   obtain⟨es,iz,o1,o2,o3,o4,o5,rfl⟩:=gN ho
   rcases List.mem_cons.1 hw with rfl| hw
   · exact⟨_,es,o1,List.mem_cons_self⟩
   · obtain⟨g,es',k1,k2⟩:=ih o2 w hw;exact⟨g,es',k1,by simp[k2]⟩
 | @ptr i r g idx off kG v rs as vs ws bp fm bU jS hv h ih=>
   intro outs ho w hw
   obtain⟨es,iz,o1,o2,o3,o4,o5,rfl⟩:=mF ho
   rcases List.mem_cons.1 hw with rfl| hw
   · exact⟨_,es,o1,List.mem_cons_self⟩
   · obtain⟨g,es',k1,k2⟩:=ih o2 w hw;exact⟨g,es',k1,by simp[k2]⟩
 | @fresh i sz v rs as vs ws b5 hv h ih=>
   intro outs ho w hw
   obtain⟨es,iz,o1,o2,o3,o4,o5,rfl⟩:=gN ho
   rcases List.mem_cons.1 hw with rfl| hw
   · exact⟨_,es,o1,List.mem_cons_self⟩
   · obtain⟨g,es',k1,k2⟩:=ih o2 w hw;exact⟨g,es',k1,by simp[k2]⟩
end
end Go.AM
namespace Go.AM
open Go Go.RowKit
def after (Y:Ctx) (μ1:Mu) (n:Nat) (bk:Bool) (b:Nat):Prop:=
 Y.Hh b∨ ∃j,(bk=true∨j<n)∧(μ1.O j).es.isSome=true∧(μ1.O j).fz=false∧(μ1.φ j).cap≠0∧(μ1.φ j).cD=b
def quiet (μ1:Mu) (φ:Nat→Row) (O:Nat→Obj):Mu:=⟨μ1.w,φ,fun r=> {O r with fz:=true}⟩
theorem pJ {μ1:Mu} {φ:Nat→Row} {O:Nat→Obj} {b:Nat}: ¬ (quiet μ1 φ O).own b:=by
 rintro⟨r,_,h,_⟩;simp[quiet] at h
theorem xh {μ1:Mu} {φ φ':Nat→Row} {O O':Nat→Obj} (h:cY φ O φ' O'):Le (quiet μ1 φ O) (quiet μ1 φ' O'):=
 ⟨Nat.le_refl _,fun _ _ _=> ⟨rfl,pJ⟩,fun r=> (h r).1,fun r e=> (h r).2 e,rfl,rfl,rfl,fun _ _=>rfl⟩
theorem gA: ∀ {as bs:List Nat},distinct (as++bs)=true→distinct as=true∧distinct bs=true∧ ∀b ∈ bs,b ∉ as
 | [],bs,h=> ⟨rfl,h,fun _ _=>by simp⟩
 | a::as,bs,h=>by
   simp only[List.cons_append,distinct,Bool.and_eq_true,Bool.not_eq_true',List.contains_eq_mem,decide_eq_false_iff_not,List.mem_append,not_or] at h ⊢
   obtain⟨h1,h2⟩:=h
   obtain⟨k1,k2,k3⟩:=gA h2
   refine⟨⟨h1.1,k1⟩,k2,fun b hb=> ?_⟩
   simp only[List.mem_cons,not_or]
   exact⟨fun e=>h1.2 (e ▸ hb),k3 b hb⟩
theorem qq {i r g:Nat}: ∀ {gs:List (Nat×Nat×Nat)},ed i gs=some (r,g)→(i,r,g) ∈ gs
 | [],h=>by simp[ed] at h
 | (j,r',g')::gs,h=>by
   simp only[ed] at h
   split at h
   · rename_i e
     subst e
     simp only[Option.some.injEq,Prod.mk.injEq] at h
     simp[h.1,h.2]
   · exact List.mem_cons_of_mem _ (qq h)
theorem lu: ∀ {es:List V} (n:Nat),V.aU es=true→V.aU (es.take n)=true
 | _,0,_=>by simp[V.aU]
 | [],_+1,_=>by simp[V.aU]
 | x::xs,n+1,h=>by
   simp only[V.aU,Bool.and_eq_true] at h
   simp only[List.take_succ_cons,V.aU,Bool.and_eq_true]
   exact⟨h.1,lu n h.2⟩
theorem lz: ∀ {es:List V} (n:Nat),V.aU es=true→V.aU (es.drop n)=true
 | _,0,h=>by simpa using h
 | [],_+1,_=>by simp[V.aU]
 | x::xs,n+1,h=>by
   simp only[V.aU,Bool.and_eq_true] at h
   simpa using lz n h.2
theorem pK {es:List V} {off len:Nat} (h:V.aU es=true):V.aU (aF es off len)=true:=lu _ (lz _ h)
section
variable {Y:Ctx} {μf μ1:Mu} {n:Nat} {bk:Bool} {C:aO} {T:Nat→V}
theorem gS {φ:Nat→Row} {O:Nat→Obj} {b:Nat} (h:Own ⟨Y.toTrEnv,after Y μ1 n bk,Y.tok⟩ (quiet μ1 φ O) b):Own Y μ1 b:=by
 rcases h with h| h| ⟨j,_,h1,h2,h3,h4⟩
 · exact absurd h pJ
 · exact .inr h
 · exact .inl ⟨j,h1,h2,h3,h4⟩
theorem fH (h1:aS Y μ1) {U:Nat→Prop} {A:Nat→Option Nat} {φ:Nat→Row} {O:Nat→Obj} {gs:List (Nat×Nat×Nat)} {c:V} {rs:List Nat} {val:Value} {r:Nat} {k:V→Act} {p:V×St}
   (ht:eb Y μf μ1 U A φ O) (ZP: ∀r,(μf.O r).gen≤(O r).gen) (wO: ∀x ∈ gs,kb μ1 φ O x.1 x.2.1 x.2.2) (he:LA Y μ1 n c rs val) (hU: ∀j ∈ rs,n≤j→ ¬U j) (ag: (bD bk r gs c k).run C ⟨T,O⟩=some p):
   ∃A' φ' O' c',(k c').run C ⟨T,O'⟩=some p∧eb Y μf μ1 (fun j=>U j∨(bk=true∧j ∈ rs)) A' φ' O'∧cY φ O φ' O'∧(∀r,A r≠none→A' r≠none)∧
     aj ⟨Y.toTrEnv,after Y μ1 n bk,Y.tok⟩ (quiet μ1 φ' O') c' val∧(c.fW=true→c'.aC=true):=by
 have Gn:eb Y μf μ1 (fun j=>U j∨(bk=true∧j ∈ rs)) A φ O:=⟨ht.yn,fun r j e=> ⟨(ht.vA r j e).1,.inl (ht.vA r j e).2⟩,ht.inj⟩
 cases he with
 | pure hp hv=>
   refine⟨A,φ,O,c,?_,Gn,cY.refl _ _,fun _ h=>h,cS (X:=Y) (μ:=μ1) (μ':=quiet μ1 φ O) rfl (fun b=>gS) hp hv,fun hc=> ?_⟩
   · cases c<;>simp[V.aw] at hp<;>simpa [bD,V.aw,hp] using ag
   · cases c<;>simp_all[V.aw,V.fW]
 | @sl j g off len es val hr bp hg hl hv=>
   simp only[bD] at ag
   split at ag
   · rename_i r' g' Rz
     obtain⟨g1,g2⟩:=wO _ (qq Rz)
     refine⟨A,φ,O,_,ag,Gn,cY.refl _ _,fun _ h=>h,?_,fun _=>rfl⟩
     simp only[aj] at hv ⊢
     obtain⟨a,cap,rfl,q1,q2,q3⟩:=hv
     refine⟨a,cap,rfl,q1,g1,fun e=> ?_⟩
     obtain⟨e1,e2⟩:=g2 e
     simp only[quiet] at e1 e2 ⊢
     rw[e1,e2];exact q3 hg
   · exact absurd ag aq
 | @own j g off len es val hr bp fm hg hl hp hv=>
   simp only[bD] at ag
   have a0:0 < (μ1.O j).sz:=by simp only[aj] at hv;obtain⟨_,_,_,_,_,hh⟩:=hv;exact(hh hg).1
   obtain⟨q1,q2,q3,q4⟩:=h1.row j es bp a0
   have mj: (aF es off len).length=len:=by simp[aF];omega
   have LC: (aF es off len).all (aH · (μ1.O j).sz)=true:=by
     simp only[List.all_eq_true] at q3 ⊢
     exact fun x hx=>q3 x (List.mem_of_mem_drop (List.mem_of_mem_take hx))
   have jr: (aF es off len).all V.cw=true:=by
     simp only[List.all_eq_true] at LC ⊢
     exact fun x hx=> (bK (LC x hx)).1
   simp only[aj] at hv
   obtain⟨a,cap,rfl,s1,s2,s3⟩:=hv
   obtain⟨-,a1,a2⟩:=s3 hg
   cases X5:bk with
   | true=>
     subst X5
     rw[if_pos rfl] at ag
     simp only[Act.run] at ag
     have dn: (⟨(μ1.φ j).cD,(μ1.φ j).base+off*(μ1.O j).sz,cap⟩:Row).cap=cap:=rfl
     have RA:zn Y μf μ1 r j ⟨(μ1.φ j).cD,(μ1.φ j).base+off*(μ1.O j).sz,cap⟩ {gen:=(O r).gen+1,sz:=(μ1.O j).sz,arr:=true,fz:=false,es:=some (aF es off len)}:=by
       refine⟨⟨_,rfl,hp,q1,by simp only[mj];exact s1,LC,?_⟩,⟨by simp[bp],fm⟩,fun hc=> ⟨?_,rfl⟩,.inl ?_,fun hs es' he=> ?_⟩
       · rcases q4 with q4| ⟨cc,TT,vs,p1,p2,p3,p4⟩
         · left;simp only;omega
         · right
           refine⟨cc,TT,(vs.drop off).take len,p1,?_,ah.take _ (ah.drop _ p3),(p4.drop off).take len⟩
           simp only
           rw[←a1,Nat.add_mul] at p2
           omega
       · simp only at hc;omega
       · have:=ZP r;simp only;omega
       · simp only at he;injection he with he;subst he
         exact pK (hs es bp)
     have hm:cY φ O (cW φ r ⟨(μ1.φ j).cD,(μ1.φ j).base+off*(μ1.O j).sz,cap⟩) (cW O r {gen:=(O r).gen+1,sz:=(μ1.O j).sz,arr:=true,fz:=false,es:=some (aF es off len)}):=
       cY.cW (.inl (by simp))
     refine⟨_,_,_,_,ag,ht.take (U':=fun i=>U i∨(True∧i ∈ [j])) (hU j (by simp) hr) (fun i hi=> .inl hi) (by simp) RA |> fun t=>by simpa using t,hm,fun r' qk=> ?_,?_,fun _=>rfl⟩
     · by_cases e:r'=r
       · subst e;simp[av]
       · rw[aL _ _ e];exact qk
     · simp only[aj,quiet,av]
       refine⟨a,cap,by rw[mj],by rw[mj];exact s1,Nat.le_refl _,fun _=> ⟨a0,by omega,a2.imp id fun e=> ?_⟩⟩
       rw[e];simp
   | false=>
     subst X5
     rw[if_neg (by simp)] at ag
     refine⟨A,φ,O,_,ag,Gn,cY.refl _ _,fun _ h=>h,?_,fun _=>rfl⟩
     simp only[aj]
     by_cases yi:len=0
     · exact⟨hp,jr,a,cap,[],by rw[mj],by omega,by simp[aF,yi,ah],.inl (by simpa using mj.trans yi)⟩
     · rcases q4 with q4| ⟨cc,TT,vs,p1,p2,p3,p4⟩
       · omega
       · refine⟨hp,jr,a,cap,(vs.drop off).take len,by rw[mj],by omega,bq (X:=Y) (μ:=μ1) (μ':=quiet μ1 φ O) rfl (fun b=>gS) hp (ah.take _ (ah.drop _ p3)),
           .inr ⟨_,_,a2.resolve_left (by omega),?_,(Array.getElem?_eq_some_iff.1 p1).1,(p4.drop off).take len⟩⟩
         rintro(h| h| ⟨j',k0,k1,k2,k3,k4⟩)
         · exact pJ h
         · exact h1.p8 j (by simp[bp]) (by omega) h
         · have MM:j'<n:=by simpa using k0
           exact h1.inj j' j (by omega) k1 (by simp[bp]) k3 (by omega) k4
theorem eb.lo {U:Nat→Prop} {A:Nat→Option Nat} {φ:Nat→Row} {O:Nat→Obj} (h:eb Y μf μ1 U A φ O) (r:Nat): (μf.O r).gen≤(O r).gen:=by
 cases e:A r with
 | none=>rw[(h.yn r e).1];exact Nat.le_refl _
 | some j=>
   rcases(h.vA r j e).1.gen with h| ⟨h,_⟩ <;>omega
def vB (Y:Ctx) (μf μ1:Mu) (C:aO) (T:Nat→V) (U:Nat→Prop) (A:Nat→Option Nat) (φ:Nat→Row) (O:Nat→Obj) {α:Type} (k:α→Act) (p:V×St) (G: (Nat→Row)→(Nat→Obj)→α→Prop):Prop:=
 ∃A' φ' O' c',(k c').run C ⟨T,O'⟩=some p∧eb Y μf μ1 U A' φ' O'∧cY φ O φ' O'∧(∀r,A r≠none→A' r≠none)∧G φ' O' c'
theorem eb.more {U U':Nat→Prop} {A:Nat→Option Nat} {φ:Nat→Row} {O:Nat→Obj} (h:eb Y μf μ1 U A φ O) (hU: ∀j,U j→U' j):eb Y μf μ1 U' A φ O:=
 ⟨h.yn,fun r j e=> ⟨(h.vA r j e).1,hU _ (h.vA r j e).2⟩,h.inj⟩
theorem oE (h1:aS Y μ1): ∀ {U:Nat→Prop} {A:Nat→Option Nat} {φ:Nat→Row} {O:Nat→Obj} {gs:List (Nat×Nat×Nat)} {cs:List V} {rs:List Nat} {vals:List Value} {r:Nat} {k:List V→Act} {p:V×St},
   eb Y μf μ1 U A φ O→(∀x ∈ gs,kb μ1 φ O x.1 x.2.1 x.2.2)→tk Y μ1 n cs rs vals→(∀j ∈ rs,n≤j→ ¬U j)→distinct rs=true→(bW bk r gs cs k).run C ⟨T,O⟩=some p→
   vB Y μf μ1 C T (fun j=>U j∨(bk=true∧j ∈ rs)) A φ O k p fun φ' O' cj=>ah ⟨Y.toTrEnv,after Y μ1 n bk,Y.tok⟩ (quiet μ1 φ' O') cj vals∧(cs.all V.fW=true→cj.all V.aC=true):=by
 intro U A φ O gs cs rs vals r k p ht wO he hU hd ag
 induction he generalizing U A φ O r k with
 | nil=>exact⟨A,φ,O,[],ag,ht.more fun j h=> .inl h,cY.refl _ _,fun _ h=>h,by simp[ah],fun _=>rfl⟩
 | @cons c rs rs' val cs vals h hs ih=>
   obtain⟨d1,d2,d3⟩:=gA hd
   simp only[bW] at ag
   obtain⟨A1,φ1,O1,c1,k1,k2,k3,k4,k5,k6⟩:=fH h1 ht ht.lo wO h (fun j hj=>hU j (by simp[hj])) ag
   obtain⟨A2,φ2,O2,Wj,m1,m2,m3,m4,m5,m6⟩:=ih k2 (fun x hx=> (wO x hx).mono k3) (fun j hj hn hu=>by
     rcases hu with hu| ⟨_,hu⟩
     · exact hU j (by simp[hj]) hn hu
     · exact d3 j hj hu) d2 k1
   refine⟨A2,φ2,O2,c1::Wj,m1,m2.more fun j hj=> ?_,k3.trans m3,fun r' h=>m4 r' (k4 r' h),?_,?_⟩
   · rcases hj with(hj| ⟨e,hj⟩) | ⟨e,hj⟩
     · exact .inl hj
     · exact .inr ⟨e,by simp[hj]⟩
     · exact .inr ⟨e,by simp[hj]⟩
   · simp only[ah];exact⟨aj.mono (xh m3) k5,m5⟩
   · simp only[List.all_cons,Bool.and_eq_true]
     exact fun hc=> ⟨k6 hc.1,m6 hc.2⟩
theorem fI: ∀ {cs:List V},V.al cs=true→cs.all V.fW=true→cs.all V.aC=true
 | [],_,_=>rfl
 | a::as,hp,hc=>by
   simp only[V.al,Bool.and_eq_true] at hp
   simp only[List.all_cons,Bool.and_eq_true] at hc ⊢
   refine⟨?_,fI hp.2 hc.2⟩
   have h1:=hp.1
   have h2:=hc.1
   cases a<;>simp_all[V.aw,V.fW]
theorem mH (h1:aS Y μ1) {U:Nat→Prop} {A:Nat→Option Nat} {φ:Nat→Row} {O:Nat→Obj} {gs:List (Nat×Nat×Nat)} {c:V} {rs:List Nat} {val:Value} {r:Nat} {k:V→Act} {p:V×St}
   (ht:eb Y μf μ1 U A φ O) (wO: ∀x ∈ gs,kb μ1 φ O x.1 x.2.1 x.2.2) (he:BC Y μ1 n c rs val) (hU: ∀j ∈ rs,n≤j→ ¬U j) (hd:distinct rs=true) (ag: (du bk r gs c k).run C ⟨T,O⟩=some p):
   vB Y μf μ1 C T (fun j=>U j∨(bk=true∧j ∈ rs)) A φ O k p fun φ' O' c'=>aj ⟨Y.toTrEnv,after Y μ1 n bk,Y.tok⟩ (quiet μ1 φ' O') c' val:=by
 unfold du at ag
 split at ag
 · rename_i hp
   refine⟨A,φ,O,c,ag,ht.more fun j h=> .inl h,cY.refl _ _,fun _ h=>h,?_⟩
   cases he with
   | cell h=>
     cases h with
     | pure yk hv=>exact cS (X:=Y) (μ:=μ1) (μ':=quiet μ1 φ O) rfl (fun b=>gS) hp hv
     | sl=>simp[V.aw] at hp
     | own=>simp[V.aw] at hp
   | @agg cs _ vals hc h=>
     have yk:V.al cs=true:=by simpa [V.aw] using hp
     obtain⟨hv,_⟩:=h.bP yk
     simp only[aj]
     exact⟨fI yk hc,_,rfl,bq (X:=Y) (μ:=μ1) (μ':=quiet μ1 φ O) rfl (fun b=>gS) yk hv⟩
 · cases he with
   | cell h=>
     cases h with
     | pure hp hv=>rename_i Up;exact absurd hp Up
     | sl hr bp hg hl hv=>
       obtain⟨A1,φ1,O1,c1,k1,k2,k3,k4,k5,k6⟩:=fH h1 ht ht.lo wO (.sl hr bp hg hl hv) hU ag
       exact⟨A1,φ1,O1,c1,k1,k2,k3,k4,k5⟩
     | own hr bp fm hg hl hp hv=>
       obtain⟨A1,φ1,O1,c1,k1,k2,k3,k4,k5,k6⟩:=fH h1 ht ht.lo wO (.own hr bp fm hg hl hp hv) hU ag
       exact⟨A1,φ1,O1,c1,k1,k2,k3,k4,k5⟩
   | agg hc h=>
     obtain⟨A1,φ1,O1,c1,k1,k2,k3,k4,k5,k6⟩:=oE h1 ht wO h hU hd ag
     refine⟨A1,φ1,O1,_,k1,k2,k3,k4,?_⟩
     simp only[aj]
     exact⟨k6 hc,_,rfl,k5⟩
theorem sn (h1:aS Y μ1): ∀ {U:Nat→Prop} {A:Nat→Option Nat} {φ:Nat→Row} {O:Nat→Obj} {gs:List (Nat×Nat×Nat)} {cs:List V} {rs:List Nat} {vals:List Value} {r:Nat} {k:List V→Act} {p:V×St},
   eb Y μf μ1 U A φ O→(∀x ∈ gs,kb μ1 φ O x.1 x.2.1 x.2.2)→oC Y μ1 n cs rs vals→(∀j ∈ rs,n≤j→ ¬U j)→distinct rs=true→(c7 bk r gs cs k).run C ⟨T,O⟩=some p→
   vB Y μf μ1 C T (fun j=>U j∨(bk=true∧j ∈ rs)) A φ O k p fun φ' O' cj=>ah ⟨Y.toTrEnv,after Y μ1 n bk,Y.tok⟩ (quiet μ1 φ' O') cj vals:=by
 intro U A φ O gs cs rs vals r k p ht wO he hU hd ag
 induction he generalizing U A φ O r k with
 | nil=>exact⟨A,φ,O,[],ag,ht.more fun j h=> .inl h,cY.refl _ _,fun _ h=>h,by simp[ah]⟩
 | @cons c rs rs' val cs vals h hs ih=>
   obtain⟨d1,d2,d3⟩:=gA hd
   simp only[c7] at ag
   obtain⟨A1,φ1,O1,c1,k1,k2,k3,k4,k5⟩:=mH h1 ht wO h (fun j hj=>hU j (by simp[hj])) d1 ag
   obtain⟨A2,φ2,O2,Wj,m1,m2,m3,m4,m5⟩:=ih k2 (fun x hx=> (wO x hx).mono k3) (fun j hj hn hu=>by
     rcases hu with hu| ⟨_,hu⟩
     · exact hU j (by simp[hj]) hn hu
     · exact d3 j hj hu) d2 k1
   refine⟨A2,φ2,O2,c1::Wj,m1,m2.more fun j hj=> ?_,k3.trans m3,fun r' h=>m4 r' (k4 r' h),?_⟩
   · rcases hj with(hj| ⟨e,hj⟩) | ⟨e,hj⟩
     · exact .inl hj
     · exact .inr ⟨e,by simp[hj]⟩
     · exact .inr ⟨e,by simp[hj]⟩
   · simp only[ah];exact⟨aj.mono (xh m3) k5,m5⟩
theorem oC.bP {cs:List V} {rs:List Nat} {vals:List Value} (h:oC Y μ1 n cs rs vals) (hp:V.al cs=true):ah Y μ1 cs vals∧rs=[]:=by
 induction h with
 | nil=>simp[ah]
 | cons h hs ih=>
   simp only[V.al,Bool.and_eq_true] at hp
   obtain⟨i1,i2⟩:=ih hp.2
   cases h with
   | cell h=>
     cases h with
     | pure yk hv=>simp only[ah];exact⟨⟨hv,i1⟩,by simpa using i2⟩
     | sl=>simp[V.aw] at hp
     | own=>simp[V.aw] at hp
   | @agg cs _ vals hc h=>
     have yk:V.al cs=true:=by simpa [V.aw] using hp.1
     obtain⟨hv,e⟩:=h.bP yk
     subst e
     simp only[ah,aj]
     exact⟨⟨⟨fI yk hc,_,rfl,hv⟩,i1⟩,by simpa using i2⟩
end
end Go.AM
namespace Go.AM
open Go Go.RowKit
mutual
theorem iA: ∀ {x:V},V.isScalar x=true→V.aw x=true
 | .bool _,_| .int ..,_| .float _,_| .str _,_| .nilp,_| .nilfn,_| .nili,_| .nils,_=>rfl
 | .any,hp| .own ..,hp| .msl ..,hp| .mptr ..,hp| .sl ..,hp| .ptr ..,hp| .lit ..,hp| .eptr ..,hp| .litk ..,hp| .epk ..,hp| .mp ..,hp| .it ..,hp| .mlit ..,hp| .fn ..,hp| .iface ..,hp=>by simp[V.isScalar] at hp
 | .agg cs,hp=>by simpa [V.aw] using ec (by simpa [V.isScalar] using hp)
 | .tuple cs,hp=>by simpa [V.aw] using ec (by simpa [V.isScalar] using hp)
theorem ec: ∀ {xs:List V},V.aU xs=true→V.al xs=true
 | [],_=>rfl
 | x::xs,hp=>by
   simp only[V.aU,Bool.and_eq_true] at hp
   simp only[V.al,Bool.and_eq_true]
   exact⟨iA hp.1,ec hp.2⟩
end
section
variable {Y:Ctx} {μf μ1:Mu} {n:Nat} {bk:Bool} {C:aO} {T:Nat→V}
def Gp (Y:Ctx) (μ:Mu) (n:Nat) (v:V) (rs:List Nat) (val:Value):Prop:=
 BC Y μ n v rs val∨ ∃vs us,v= .tuple vs∧val= .tuple us∧oC Y μ n vs rs us.toList
theorem cM.RB (h1:aS Y μ1) {T':Nat→V} {v0 v:V} {rs:List Nat} {val:Value} (hv:aj Y μ1 v0 val) (h:cM n ⟨T',μ1.O⟩ v0 v rs):Gp Y μ1 n v rs val:=by
 cases h with
 | one h=>exact .inl (mD h1 hv h)
 | many h=>
   simp only[aj] at hv
   obtain⟨us,rfl,hv⟩:=hv
   exact .inr ⟨_,us,rfl,rfl,lq h1 hv h⟩
theorem Gp.pure {v:V} {rs:List Nat} {val:Value} (h:Gp Y μ1 n v rs val) (hp:V.aw v=true):aj Y μ1 v val:=by
 rcases h with h| ⟨vs,us,rfl,rfl,h⟩
 · have hs:oC Y μ1 n [v] (rs++[]) [val]:= .cons h .nil
   have:=(hs.bP (by simp[V.al,hp])).1
   simp only[ah] at this
   exact this.1
 · simp only[aj]
   exact⟨us,rfl,(h.bP (by simpa [V.aw] using hp)).1⟩
theorem qH (h1:aS Y μ1) {U:Nat→Prop} {A:Nat→Option Nat} {φ:Nat→Row} {O:Nat→Obj} {gs:List (Nat×Nat×Nat)} {c v:V} {rs:List Nat} {val:Value} {r:Nat} {σ':St}
   (ht:eb Y μf μ1 U A φ O) (wO: ∀x ∈ gs,kb μ1 φ O x.1 x.2.1 x.2.2) (he:Gp Y μ1 n c rs val) (hU: ∀j ∈ rs,n≤j→ ¬U j) (hd:distinct rs=true) (ag: (bQ bk r gs c .done).run C ⟨T,O⟩=some (v,σ')):
   σ'.T=T∧((V.aw c=true∧v=c∧σ'.O=O∧aj Y μ1 c val)∨ ∃A' φ',eb Y μf μ1 (fun j=>U j∨(bk=true∧j ∈ rs)) A' φ' σ'.O∧cY φ O φ' σ'.O∧(∀r,A r≠none→A' r≠none)∧aj ⟨Y.toTrEnv,after Y μ1 n bk,Y.tok⟩ (quiet μ1 φ' σ'.O) v val):=by
 unfold bQ at ag
 split at ag
 · rename_i hp
   obtain⟨rfl,rfl⟩:=aK ag
   exact⟨rfl,.inl ⟨hp,rfl,rfl,he.pure hp⟩⟩
 · rename_i Up
   split at ag
   · rename_i vs
     rcases he with he| ⟨vs',us,e,rfl,he⟩
     · cases he with
       | cell h=>
         cases h with
         | pure hp hv=>exact absurd hp Up
     · injection e with e;subst e
       obtain⟨A1,φ1,O1,c1,k1,k2,k3,k4,k5⟩:=sn h1 ht wO he hU hd ag
       obtain⟨rfl,rfl⟩:=aK k1
       refine⟨rfl,.inr ⟨A1,φ1,k2,k3,k4,?_⟩⟩
       simp only[aj]
       exact⟨us,rfl,k5⟩
   · rename_i ZQ
     rcases he with he| ⟨vs',us,e,rfl,he⟩
     · obtain⟨A1,φ1,O1,c1,k1,k2,k3,k4,k5⟩:=mH h1 ht wO he hU hd ag
       obtain⟨rfl,rfl⟩:=aK k1
       exact⟨rfl,.inr ⟨A1,φ1,k2,k3,k4,k5⟩⟩
     · exact absurd e (ZQ vs')
end
section
variable {X:Ctx} {μ μ1:Mu} {r0:Nat}
theorem pL {as:List V} {vals:List Value} {rs:List Nat} {ws:List db} (ho:aS X μ) (hp:iH X μ r0 0 as vals rs ws)
   (le:Le ⟨μ.w,dZ μ.φ ws,(enter as).O⟩ μ1) (h1:aS ⟨X.toTrEnv,dd X μ rs ws,X.tok⟩ μ1) {Of:Nat→Obj} (hf:aS X ⟨μ.w,μ.φ,Of⟩) (HC: ∀w ∈ ws,Of w.r=μ.O w.r)
   {U:Nat→Prop} {A:Nat→Option Nat} {φ:Nat→Row} {O:Nat→Obj} (ht:eb ⟨X.toTrEnv,dd X μ rs ws,X.tok⟩ ⟨μ.w,μ.φ,Of⟩ μ1 U A φ O) (hm:cY μ.φ Of φ O) (hA: ∀w ∈ ws,A w.r≠none)
   (hT: ∀j,U j→((∀es,(μ1.O j).es=some es→V.aU es=true))∨ ∀b,Own X ⟨μ1.w,φ,O⟩ b→Own ⟨X.toTrEnv,dd X μ rs ws,X.tok⟩ μ1 b):
   Le ⟨μ.w,μ.φ,Of⟩ ⟨μ1.w,φ,O⟩∧aS X ⟨μ1.w,φ,O⟩:=by
 have HE: ∀b,(⟨μ.w,dZ μ.φ ws,(enter as).O⟩:Mu).own b→ ∃w ∈ ws,(Of w.r).es.isSome=true∧(Of w.r).fz=false∧(μ.φ w.r).cap≠0∧(μ.φ w.r).cD=b:=fun b hb=>by
   obtain⟨i,r,k1,k2,k3,k4,k5⟩:=ur hp hb
   have e:=HC _ k1
   simp only at e
   exact⟨_,k1,by rw[e];exact k2,by rw[e];exact k3,k4,k5⟩
 have RC: ∀j,(μ1.O j).es.isSome=true∧(μ1.O j).fz=false→(μ1.φ j).cap≠0→μ1.own (μ1.φ j).cD:=fun j hl hc=> ⟨j,hl.1,hl.2,hc,rfl⟩
 have kept: ∀r,A r=none→(Of r).es.isSome=true→(μ.φ r).cap≠0→(μ.φ r).cD<μ.w.heap.size∧μ1.w.heap[(μ.φ r).cD]? =μ.w.heap[(μ.φ r).cD]? ∧ ¬μ1.own (μ.φ r).cD:=fun r hr hs hc=>by
   obtain⟨es,he⟩:=Option.isSome_iff_exists.1 hs
   have bJ: (μ.φ r).cD<μ.w.heap.size:=ej.cD (μ:=⟨μ.w,μ.φ,Of⟩) (hf.ok r es he) hc
   have ef: ¬ (⟨μ.w,dZ μ.φ ws,(enter as).O⟩:Mu).own (μ.φ r).cD:=fun hb=>by
     obtain⟨w,k1,k2,k3,k4,k5⟩:=HE _ hb
     have cB:w.r≠r:=fun e=>hA w k1 (e ▸ hr)
     exact hf.inj w.r r cB k2 hs k4 hc k5
   obtain⟨l1,l2⟩:=le.bZ _ bJ ef
   exact⟨bJ,l1,l2⟩
 have Wk: ∀b,(⟨μ1.w,φ,O⟩:Mu).own b→(⟨μ.w,μ.φ,Of⟩:Mu).own b∨μ1.own b:=fun b hb=>by
   obtain⟨r,k1,k2,k3,k4⟩:=hb
   simp only at k1 k2 k3 k4
   cases e:A r with
   | none=>
     obtain⟨n1,n2⟩:=ht.yn r e
     rw[n1] at k1 k2
     rw[n2] at k3 k4
     exact .inl ⟨r,k1,k2,k3,k4⟩
   | some j=>
     obtain⟨t,_⟩:=ht.vA r j e
     obtain⟨b1,b2⟩:=t.cD k3
     exact .inr ⟨j,t.live.1,t.live.2,b1,by rw[←b2];exact k4⟩
 have LE:Le ⟨μ.w,μ.φ,Of⟩ ⟨μ1.w,φ,O⟩:=by
   refine⟨le.size,fun b hb ef=> ?_,fun r=> (hm r).1,fun r e=> (hm r).2 e,le.os,le.output,le.tape,le.frozen⟩
   have Wl: ¬ (⟨μ.w,dZ μ.φ ws,(enter as).O⟩:Mu).own b:=fun p9=>by
     obtain⟨w,k1,k2,k3,k4,k5⟩:=HE _ p9
     exact ef ⟨w.r,k2,k3,k4,k5⟩
   obtain⟨l1,l2⟩:=le.bZ b hb Wl
   exact⟨l1,fun h3=> (Wk b h3).elim ef l2⟩
 refine⟨LE,fun r es bp=> ?_,fun r1 r2 cB e1 e2 e3 e4 e5=> ?_,fun r k1 k2 hb=> ?_,fun b hb=>Nat.lt_of_lt_of_le (ho.blt b hb) le.size⟩
 · simp only at bp
   cases e:A r with
   | none=>
     obtain⟨n1,n2⟩:=ht.yn r e
     simp only at n1 n2
     rw[n1] at bp
     exact ej.bZ (r:=r) (r':=r) LE (hf.ok r es bp) (by simp[n1]) (by simp[n2]) (fun hc=> (kept r e (by simp[bp]) hc).2.1)
   | some j=>
     obtain⟨t,hu⟩:=ht.vA r j e
     obtain⟨es',s0,s1,s2,s3,s4,s5⟩:=t.es
     rw[bp] at s0;injection s0 with s0;subst s0
     left
     unfold iN
     simp only
     refine⟨s2,s3,s4,s5.imp id ?_⟩
     rintro⟨c,TT,vs,p1,p2,p3,p4⟩
     refine⟨c,TT,vs,p1,p2,?_,p4⟩
     rcases hT j hu with hs| hs
     · exact ei (X:=⟨X.toTrEnv,dd X μ rs ws,X.tok⟩) (μ:=μ1) (X':=X) (μ':=⟨μ1.w,φ,O⟩) rfl (t.sc hs _ bp) p3
     · exact bq (X:=⟨X.toTrEnv,dd X μ rs ws,X.tok⟩) (μ:=μ1) (B:=X.Hh) (μ':=⟨μ1.w,φ,O⟩) rfl hs s1 p3
 · simp only at e1 e2 e3 e4 e5
   cases a1:A r1 with
   | none=>
     obtain⟨n1,n2⟩:=ht.yn r1 a1
     simp only at n1 n2
     rw[n1] at e1;rw[n2] at e3 e5
     cases a2:A r2 with
     | none=>
       obtain⟨m1,m2⟩:=ht.yn r2 a2
       simp only at m1 m2
       rw[m1] at e2;rw[m2] at e4 e5
       exact hf.inj r1 r2 cB e1 e2 e3 e4 e5
     | some j=>
       obtain⟨t,_⟩:=ht.vA r2 j a2
       obtain⟨b1,b2⟩:=t.cD e4
       exact(kept r1 a1 e1 e3).2.2 (by rw[e5,b2];exact RC j t.live b1)
   | some j=>
     obtain⟨t,_⟩:=ht.vA r1 j a1
     obtain⟨b1,b2⟩:=t.cD e3
     cases a2:A r2 with
     | none=>
       obtain⟨m1,m2⟩:=ht.yn r2 a2
       simp only at m1 m2
       rw[m1] at e2;rw[m2] at e4 e5
       exact(kept r2 a2 e2 e4).2.2 (by rw[←e5,b2];exact RC j t.live b1)
     | some j2=>
       obtain⟨t2,_⟩:=ht.vA r2 j2 a2
       obtain⟨c1,c2⟩:=t2.cD e4
       refine h1.inj j j2 (fun e=>cB (ht.inj r1 r2 j a1 (e ▸ a2))) t.live.1 t2.live.1 b1 c1 ?_
       rw[←b2,←c2];exact e5
 · simp only at k1 k2 hb
   cases a1:A r with
   | none=>
     obtain⟨n1,n2⟩:=ht.yn r a1
     simp only at n1 n2
     rw[n1] at k1;rw[n2] at k2 hb
     exact hf.p8 r k1 k2 hb
   | some j=>
     obtain⟨t,_⟩:=ht.vA r j a1
     obtain⟨b1,b2⟩:=t.cD k2
     exact h1.p8 j t.live.1 b1 (.inl (b2 ▸ hb))
end
end Go.AM
namespace Go.AM
open Go Go.RowKit
section
variable {X:Ctx} {μ μ1:Mu} {r0:Nat} {C:aO} {T:Nat→V}
theorem BF {as:List V} {vals:List Value} {rs:List Nat} {ws:List db} (ho:aS X μ) (hp:iH X μ r0 0 as vals rs ws) (BE:apart rs (ws.map (·.r))=true) (hd:distinct (ws.map (·.r))=true)
   (le:Le ⟨μ.w,dZ μ.φ ws,(enter as).O⟩ μ1) (h1:aS ⟨X.toTrEnv,dd X μ rs ws,X.tok⟩ μ1) {res:eS} {refs:List Nat} {v0:V} {val:Value} {T':Nat→V} (hv:aj ⟨X.toTrEnv,dd X μ rs ws,X.tok⟩ μ1 v0 val)
   (Wm:cM as.length ⟨T',μ1.O⟩ v0 res.val refs) (ZR:distinct refs=true) (DJ:bC μ1.O 0 as=some res.outs) {bk:Bool} {r:Nat} {v:V} {σ':St}
   (ag: (if res.val.isScalar &&res.outs.all (fun o=>V.aU o.2) then cg ws res.outs fun gs=>bQ bk r gs res.val .done else bR rs (cg ws res.outs fun gs=>bQ bk r gs res.val .done)).run C ⟨T,μ.O⟩=some (v,σ')):
   σ'.T=T∧ ∃φ',aj X ⟨μ1.w,φ',σ'.O⟩ v val∧Le μ ⟨μ1.w,φ',σ'.O⟩∧aS X ⟨μ1.w,φ',σ'.O⟩:=by
 have hR:=Wm.RB h1 hv
 have hi:=hp.inc
 have dn: ∀w ∈ ws,w.fresh=none→(μ1.O w.i).gen=0→μ1.φ w.i=μ.φ w.r:=fun w hw RD hg=>by
   have Gc: ((enter as).O w.i).gen=0:=by
     rcases gR hp w.i with h| ⟨_,_,_,_,_,_,h,_⟩ | ⟨_,_,_,h,_⟩
     · rw[h];rfl
     · exact h
     · exact h
   obtain⟨e1,_⟩:=le.row w.i (by rw[hg];exact Gc.symm)
   rw[e1]
   have:=fG (φ:=μ.φ) hi w hw
   rw[RD] at this
   exact this
 have start: ∀ (Of:Nat→Obj) (S:Nat→Prop),eb ⟨X.toTrEnv,dd X μ rs ws,X.tok⟩ ⟨μ.w,μ.φ,Of⟩ μ1 (fun j=>j< 0∧S j) (fun _=>none) μ.φ Of:=fun Of S=>
   ⟨fun _ _=> ⟨rfl,rfl⟩,fun _ _ e=>by simp at e,fun _ _ _ e=>by simp at e⟩
 split at ag
 · rename_i X6
   simp only[Bool.and_eq_true] at X6
   obtain⟨qE,vS⟩:=X6
   have hS: ∀w ∈ ws,∀es,(μ1.O w.i).es=some es→V.aU es=true:=fun w hw es he=>by
     obtain⟨g,es',k1,k2⟩:=DI hp DJ w hw
     rw[he] at k1;injection k1 with k1;subst k1
     exact(List.all_eq_true.1 vS) _ k2
   obtain⟨A,φ,O,gs,k1,k2,k3,k4,k5,k6⟩:=mG (μf:=⟨μ.w,μ.φ,μ.O⟩) h1 dn rfl (fun _ _=>rfl) (S:=fun j=> ∀es,(μ1.O j).es=some es→V.aU es=true) hS hp DJ (start μ.O _) (fun w hw=>hw) (fun _ _=>rfl) hd ag
   have jS:=iA qE
   unfold bQ at k1
   rw[if_pos jS] at k1
   obtain⟨rfl,rfl⟩:=aK k1
   obtain⟨b1,b2⟩:=pL ho hp le h1 (Of:=μ.O) ho (fun _ _=>rfl) k2 k3 k4 (fun j hj=> .inl hj.2)
   exact⟨rfl,φ,ka (X:=⟨X.toTrEnv,dd X μ rs ws,X.tok⟩) (μ:=μ1) (X':=X) (μ':=⟨μ1.w,φ,O⟩) rfl qE (hR.pure jS),b1,b2⟩
 · obtain⟨Of,f1,f2,f3,f4,f5⟩:=gv (X:=X) (w:=μ.w) (φ:=μ.φ) rs ho ag
   have HC: ∀w ∈ ws,Of w.r=μ.O w.r:=fun w hw=>f4 _ fun hr=>by
     have:=List.all_eq_true.1 BE w.r (List.mem_map.2 ⟨w,hw,rfl⟩)
     simp[hr] at this
   obtain⟨A,φ,O,gs,k1,k2,k3,k4,k5,k6⟩:=mG (μf:=⟨μ.w,μ.φ,Of⟩) h1 dn rfl HC (S:=fun _=>True) (fun _ _=>trivial) hp DJ (start Of _) (fun w hw=>hw) (fun _ _=>rfl) hd f1
   obtain⟨hT,kn⟩:=qH h1 k2 k6 hR (fun j _ hn hu=>by have:=hu.1;omega) ZR k1
   have RE: ∀ {U:Nat→Prop} {A:Nat→Option Nat} {φ:Nat→Row} {O:Nat→Obj},eb ⟨X.toTrEnv,dd X μ rs ws,X.tok⟩ ⟨μ.w,μ.φ,Of⟩ μ1 U A φ O→(∀w ∈ ws,A w.r≠none)→(∀j,U j→bk=true∨j<as.length)→
       ∀b,Own X ⟨μ1.w,φ,O⟩ b→after ⟨X.toTrEnv,dd X μ rs ws,X.tok⟩ μ1 as.length bk b:=by
     intro U A φ O ht hA hU b hb
     rcases hb with⟨r',q1,q2,q3,q4⟩ | hb
     · simp only at q1 q2 q3 q4
       cases e:A r' with
       | none=>
         obtain⟨n1,n2⟩:=ht.yn r' e
         simp only at n1 n2
         rw[n1] at q1 q2;rw[n2] at q3 q4
         have Gj:r' ∉ rs:=fun h=>by rw[f5 r' h] at q2;simp at q2
         have mC:r' ∉ ws.map (·.r):=fun h=>by
          obtain⟨w,hw,e'⟩:=List.mem_map.1 h
          exact hA w hw (by rw[e'];exact e)
         rw[f4 r' Gj] at q1 q2
         exact .inl (.inr ⟨r',Gj,mC,q1,q2,q3,q4⟩)
       | some j=>
         obtain⟨t,hu⟩:=ht.vA r' j e
         obtain⟨b1,b2⟩:=t.cD q3
         exact .inr ⟨j,hU j hu,t.live.1,t.live.2,b1,by rw[←b2];exact q4⟩
     · exact .inl (.inl hb)
   refine⟨hT,?_⟩
   rcases kn with⟨jS,rfl,hO,ZS⟩ | ⟨A',φ',m1,m2,m3,m4⟩
   · have fD:=RE k2 k4 (fun j hj=> .inr (by have:=hj.1;omega))
     have Al: ∀b,Own X ⟨μ1.w,φ,O⟩ b→Own ⟨X.toTrEnv,dd X μ rs ws,X.tok⟩ μ1 b:=fun b hb=>gS (φ:=φ) (O:=O) (.inr (fD b hb))
     obtain⟨b1,b2⟩:=pL ho hp le h1 (Of:=Of) f3 HC k2 k3 k4 (fun j hj=> .inr Al)
     rw[hO]
     exact⟨φ,cS (X:=⟨X.toTrEnv,dd X μ rs ws,X.tok⟩) (μ:=μ1) (B:=X.Hh) (μ':=⟨μ1.w,φ,O⟩) rfl Al jS ZS,f2.trans b1,b2⟩
   · have X7: ∀w ∈ ws,A' w.r≠none:=fun w hw=>m3 _ (k4 w hw)
     have fD:=RE m1 X7 (fun j hj=>hj.elim (fun h=> .inr (by have:=h.1;omega)) fun h=> .inl h.1)
     have Al: ∀b,Own X ⟨μ1.w,φ',σ'.O⟩ b→Own ⟨X.toTrEnv,dd X μ rs ws,X.tok⟩ μ1 b:=fun b hb=>gS (φ:=φ') (O:=σ'.O) (.inr (fD b hb))
     obtain⟨b1,b2⟩:=pL ho hp le h1 (Of:=Of) f3 HC m1 (k3.trans m2) X7 (fun j hj=> .inr Al)
     refine⟨φ',weaken (X:=⟨X.toTrEnv,after ⟨X.toTrEnv,dd X μ rs ws,X.tok⟩ μ1 as.length bk,X.tok⟩) (μ:=quiet μ1 φ' σ'.O) (X':=X) (μ':=⟨μ1.w,φ',σ'.O⟩) rfl rfl rfl rfl (fun _=> ⟨rfl,rfl⟩) (fun b hb=> .inr (fD b hb)) m4,f2.trans b1,b2⟩
end
end Go.AM
namespace Go.AM
open Go Go.RowKit
section
variable {X:Ctx} {E:Env} {C:aO} {o:Oper} {a:Go.Act} {T:Nat→V} {μ:Mu} {v:V} {σ':St}
theorem RF {C:aO} {act:Act}: ∀ {σ σ':St} {v:V},act.run C σ=some (v,σ')→σ'.T=σ.T:=by
 induction act with
 | done u=>intro σ σ' v h;obtain⟨_,rfl⟩:=aK h;rfl
 | fail=>intro σ σ' v h;exact absurd h aq
 | ke t k ih=>intro σ σ' v h;exact ih _ h
 | bB r k ih=>intro σ σ' v h;exact ih _ h
 | bg r o k ih=>intro σ σ' v h;have:=ih h;simpa using this
 | call f as k ih=>
   intro σ σ' v h
   simp only[Act.run] at h
   split at h
   · exact ih _ h
   · simp at h
theorem uu {h:Rel X T a μ} (O:Nat→Obj): ∀ {xs:List Operand} {ys:List aI},nZ X xs=some ys→ah X μ (ys.map (aQ ⟨T,O⟩)) (xs.map a.eval)
 | [],ys,e=>by simp[nZ] at e;subst e;simp[ah]
 | x::xs,ys,e=>by
   simp only[nZ] at e
   split at e
   · rename_i y Xu h1 h2
     injection e with e;subst e
     simp only[List.map_cons,ah]
     exact⟨aG h h1 O,uu (h:=h) O h2⟩
   · simp at e
theorem DK (  hC: ∀f F as res,X.ig F=some f→C f as=some res→cu X.toTrEnv F as res) {h:Hints} {dst:Nat} {c:Call} {lY:oS} (hr:Rel X T a μ) (ho:o.op= .call c) (aE:rN X h dst c=some lY) (y8:lY.fF=true)
   (ag: (au E lY).run C ⟨T,μ.O⟩=some (v,σ')):σ'.T=T∧ ∀ (next:Go.Act→World→Prop) (Q:Go.Exit→Go.Act→World→Prop),
   (∀val w' φ',aj X ⟨w',φ',σ'.O⟩ v val→Le μ ⟨w',φ',σ'.O⟩→aS X ⟨w',φ',σ'.O⟩→next (a.put o.dst val) w')→o.wp X.P a μ.w next Q:=by
 unfold rN at aE
 split at aE
 · rename_i f Wn
   split at aE
   · rename_i f' Un hf has
     injection aE with aE;subst aE
     simp only[au,aV] at ag
     split at ag
     · rename_i f0 caps HW
       rw[oh] at ag
       have RD:=aG hr hf μ.O
       rw[HW] at RD
       simp only[aj] at RD
       obtain⟨F,cv,hF,Ly,HB⟩:=RD
       have iv:=(uu (h:=hr) μ.O has).append HB
       simp only[o9] at ag
       obtain⟨as,rs,ws,h1,hp⟩:=dG hr.aN iv ag
       split at h1
       · rename_i ua
         simp only[Bool.and_eq_true] at ua
         obtain⟨BE,hd⟩:=ua
         simp only[Act.run] at h1
         split at h1
         · rename_i res kn
           have hS:=hC f0 F as res Ly kn
           obtain⟨e1,e2,e3⟩:=xf hr.aN hp BE hd
           have hU:=hS (dd X μ rs ws) X.tok μ.w (dZ μ.φ ws) _ e1 e2 e3
           have iO: (execOp a.eval o).run X.P μ.w=(callFunc F (List.map a.eval c.args.toList++cv.toList).toArray).run X.P μ.w:=by
            have ZT: (c.args.map a.eval)++cv=(List.map a.eval c.args.toList++cv.toList).toArray:=by
             apply Array.toList_inj.1;simp
            simp only[execOp,ho,resolve,Wn,hF,Deferred.ofValue,Sem.run_bind]
            rw[←ZT]
            simp[invoke,Sem.run]
           have key: ∀val w',(∃φ' T' O' v0 refs,Le ⟨μ.w,dZ μ.φ ws,(enter as).O⟩ ⟨w',φ',O'⟩∧aS ⟨X.toTrEnv,dd X μ rs ws,X.tok⟩ ⟨w',φ',O'⟩∧
             aj ⟨X.toTrEnv,dd X μ rs ws,X.tok⟩ ⟨w',φ',O'⟩ v0 val∧cM as.length ⟨T',O'⟩ v0 res.val refs∧distinct refs=true∧bC O' 0 as=some res.outs)→
             σ'.T=T∧ ∃φ',aj X ⟨w',φ',σ'.O⟩ v val∧Le μ ⟨w',φ',σ'.O⟩∧aS X ⟨w',φ',σ'.O⟩:=by
            rintro val w' ⟨φ',T',O',v0,refs,k1,k2,k3,k4,k5,k6⟩
            exact BF hr.aN hp BE hd k1 k2 k3 k4 k5 k6 h1
           have ZU:σ'.T=T:=RF h1
           refine⟨ZU,fun next Q hn=> ?_⟩
           unfold Oper.wp
           rw[iO]
           exact hU.upon fun val w' hv=>by
            obtain⟨_,φ',q1,q2,q3⟩:=key val w' hv
            exact hn val w' φ' q1 q2 q3
         · simp at h1
       · exact absurd h1 aq
     · exact absurd ag aq
   · simp at aE
 · simp at aE
 · rename_i b hc
   exfalso
   revert aE
   split<;> (try split) <;> (try split) <;> (try split) <;>simp<;> (try (intro e;subst e;simp[oS.fF] at y8)) <;> (try (intros;subst_vars;simp[oS.fF] at y8)) <;> (try (rintro rfl;simp[oS.fF] at y8))
   all_goals (split at y8<;>first| (simp at y8;done) | (split at y8<;>simp at y8) | (rename_i h9;split at h9<;>simp at h9))
theorem vC {op:BinOp} {t:TypeId} {x y:aI} {lY:oS} (h:z7 X op t x y=some lY):lY.fF=false:=by
 unfold z7 at h
 repeat' split at h
 all_goals first
  | (injection h with h;subst h;rfl)
  | (simp only[Option.map_eq_some_iff] at h;obtain⟨_,_,rfl⟩:=h;rfl)
  | (simp at h;done)
theorem m9 {α:Type} {x:Option α} {f:α→oS} {lY:oS} (h:x.map f=some lY) (hf: ∀a,(f a).fF=false):lY.fF=false:=by
 cases x with
 | none=>simp at h
 | some a=>simp at h;subst h;exact hf a
theorem tq {h:Hints} {dst:Nat} {x:Operand} {lY:oS} (ht:rM X h dst x=some lY):lY.fF=false:=by
 unfold rM at ht
 split at ht
 · injection ht with ht;subst ht;rfl
 · split at ht
   · exact m9 ht fun _=>rfl
   · exact m9 ht fun _=>rfl
theorem xi {h:Hints} {dst:Nat} {op:Op} {lY:oS} (hn: ∀c,op≠ .call c) (aE:td X h dst op=some lY):lY.fF=false:=by
 unfold td at aE
 split at aE
 all_goals try exact absurd rfl (hn _)
 all_goals
  repeat' split at aE
  all_goals first
   | (injection aE with aE;subst aE;rfl)
   | (injection aE with aE;subst aE;split<;>rfl)
   | exact m9 aE fun _=>rfl
   | exact vC aE
   | exact tq aE
   | (exfalso;simp at aE;done)
theorem zo (kl: ∀t1 t2 k,X.gq t1=some k→X.gq t2=some k→t1=t2) (hC: ∀f F as res,X.ig F=some f→C f as=some res→cu X.toTrEnv F as res):kZ X E C:=by
 intro h dst o lY a T μ v σ' hr aE ag
 cases hc:lY.fF with
 | true=>
   cases cZ:o.op with
   | call c=>
     rw[cZ] at aE
     simp only[td] at aE
     exact DK hC hr cZ aE hc ag
   | _=>
     have:=xi (by rw[cZ];simp) aE
     rw[this] at hc;simp at hc
 | false=>
   obtain⟨hT,val,w',φ',xj,h1,h2,h3⟩:=Dp kl hr aE hc ag
   refine⟨hT,fun next Q hn=> ?_⟩
   unfold Oper.wp
   rcases xj with xj| ⟨xj,rfl⟩
   · rw[xj];exact hn _ _ _ h1 h2 h3
   · rw[xj];exact hn _ _ _ h1 h2 h3
end
end Go.AM
namespace Go.AM
open Go Go.RowKit
theorem jW: ∀l:List V,V.erases l=l.map V.erase
 | []=>rfl
 | v::vs=>by simp only[V.erases,List.map_cons,jW vs]
theorem cT (l:List V): (V.erases l).length=l.length:=by rw[jW];simp
theorem oF (v:V):v.erase.aC=v.aC:=by cases v<;>rfl
theorem xk (v:V):v.erase.isAgg=v.isAgg:=by cases v<;>rfl
theorem iB (v:V):v.erase.cw=v.cw:=by unfold V.cw;rw[xk,oF]
theorem xl (v:V):v.erase.cells=V.erases v.cells:=by cases v<;>rfl
theorem tu (v:V) (sz:Nat):aH v.erase sz=aH v sz:=by unfold aH;rw[xl,cT,iB]
theorem iC {p:V→Bool} (hp: ∀v,p v.erase=p v): ∀l:List V,(V.erases l).all p=l.all p
 | []=>rfl
 | v::vs=>by simp only[V.erases,List.all_cons,hp,iC hp vs]
mutual
theorem dA: ∀v:V,v.erase.aw=v.aw
 | .agg cs=>by simp only[V.erase,V.aw];exact b0 cs
 | .tuple cs=>by simp only[V.erase,V.aw];exact b0 cs
 | .mlit es=>by simp only[V.erase,V.aw];exact b0 es
 | .fn f cs=>by simp only[V.erase,V.aw];exact b0 cs
 | .iface t v=>by simp only[V.erase,V.aw];exact dA v
 | .litk .. | .epk .. | .lit .. | .own .. | .eptr .. | .msl .. | .mptr .. | .bool _| .int .. | .float _| .str _| .nilp| .nilfn| .nili| .nils| .sl .. | .ptr .. | .mp .. | .it .. | .any=>rfl
theorem b0: ∀l:List V,V.al (V.erases l)=V.al l
 | []=>rfl
 | v::vs=>by simp only[V.erases,V.al,dA v,b0 vs]
end
theorem jg (es:List V) (off len:Nat):aF (V.erases es) off len=V.erases (aF es off len):=by
 simp only[aF,jW,List.map_take,List.map_drop]
section
variable {X X':Ctx} {μ μ':Mu}
mutual
theorem aj.erase (hX:X'.toTrEnv=X.toTrEnv) (hw:μ'.w=μ.w) (hφ:μ'.φ=μ.φ) (hO: ∀r,(μ'.O r).gen=(μ.O r).gen∧(μ'.O r).sz=(μ.O r).sz) (ho: ∀b,Own X' μ' b→Own X μ b): ∀ {x:V} {v:Value},aj X μ x v→aj X' μ' x.erase v
 | .bool _,_,h| .int ..,_,h| .float _,_,h| .str _,_,h| .nilp,_,h| .nilfn,_,h| .nili,_,h| .nils,_,h=>by simpa [V.erase,aj] using h
 | .any,_,_=>by simp[V.erase,aj]
 | .own ..,_,h| .msl ..,_,h| .mptr ..,_,h=>by simp[aj] at h
 | .agg cs,_,h=>by
   simp only[V.erase,aj] at h ⊢
   obtain⟨h1,vs,rfl,h2⟩:=h
   exact⟨by rw[iC oF];exact h1,vs,rfl,ah.erase hX hw hφ hO ho h2⟩
 | .tuple cs,_,h=>by
   simp only[V.erase,aj] at h ⊢
   obtain⟨vs,rfl,h2⟩:=h
   exact⟨vs,rfl,ah.erase hX hw hφ hO ho h2⟩
 | .fn f cs,_,h=>by
   simp only[V.erase,aj] at h ⊢
   obtain⟨F,cv,rfl,h1,h2⟩:=h
   exact⟨F,cv,rfl,by rw[hX];exact h1,ah.erase hX hw hφ hO ho h2⟩
 | .iface t x,_,h=>by
   simp only[V.erase,aj] at h ⊢
   obtain⟨F,y,rfl,h1,h2⟩:=h
   exact⟨F,y,rfl,by rw[hX];exact h1,aj.erase hX hw hφ hO ho h2⟩
 | .lit sz xs,_,h=>by
   simp only[V.erase,aj] at h ⊢
   obtain⟨h0,iG,a,cap,vs,rfl,h1,h2,h3⟩:=h
   refine⟨by rw[b0];exact h0,by rw[iC iB];exact iG,a,cap,vs,by rw[cT],by rw[cT];exact h1,ah.erase hX hw hφ hO ho h2,h3.imp (fun h=>by rw[h];rfl) ?_⟩
   rintro⟨b,o,rfl,hb,hs,hr⟩
   exact⟨b,o,rfl,fun hh=>hb (ho b hh),by rw[hw];exact hs,by rw[hw];exact hr⟩
 | .litk sz xs,_,h=>by
   simp only[V.erase,aj] at h ⊢
   obtain⟨h0,iG,a,cap,vs,rfl,h1,h2,h3⟩:=h
   refine⟨by rw[b0];exact h0,by rw[iC iB];exact iG,a,cap,vs,by rw[cT],by rw[cT];exact h1,ah.erase hX hw hφ hO ho h2,h3.imp (fun h=>by rw[h];rfl) ?_⟩
   rintro⟨rfl,hb,hs,hr⟩
   exact⟨_,_,rfl,fun hh=>hb (ho _ hh),by rw[hw];exact hs,by rw[hw];exact hr⟩
 | .sl r g off len,_,h=>by
   simp only[V.erase,aj] at h ⊢
   rw[hφ,(hO r).1,(hO r).2];exact h
 | .ptr r g idx off,_,h=>by
   simp only[V.erase,aj] at h ⊢
   rw[hφ,(hO r).1,(hO r).2];exact h
 | .eptr e off,_,h=>by
   simp only[V.erase,aj] at h ⊢
   obtain⟨h0,iG,b,o,sz,x,rfl,hb,hs,h1,hr⟩:=h
   exact⟨by rw[dA];exact h0,by rw[iB];exact iG,b,o,sz,x,rfl,fun hh=>hb (ho b hh),by rw[hw];exact hs,aj.erase hX hw hφ hO ho h1,by rw[hw];exact hr⟩
 | .epk i sz e off,_,h=>by
   simp only[V.erase,aj] at h ⊢
   obtain⟨h0,iG,x,rfl,hb,hs,h1,hr⟩:=h
   exact⟨by rw[dA];exact h0,by rw[iB];exact iG,_,X.tok.2+i*sz,sz,x,rfl,fun hh=>hb (ho _ hh),by rw[hw];exact hs,aj.erase hX hw hφ hO ho h1,by rw[hw];exact hr⟩
 | .mp r g,_,h| .it r g,_,h=>by
   simp only[V.erase,aj] at h ⊢
   rw[hφ,(hO r).1,(hO r).2];exact h
 | .mlit es,_,h=>by
   simp only[V.erase,aj] at h ⊢
   obtain⟨h0,h⟩:=h
   refine⟨by rw[b0];exact h0,h.imp (fun h=> ⟨by rw[h.1];rfl,h.2⟩) ?_⟩
   rintro⟨a,ents,clock,rfl,hb,hs,h1,h2⟩
   exact⟨a,ents,clock,rfl,fun hh=>hb (ho a hh),by rw[hw];exact hs,by rw[hw];exact h1,ah.erase hX hw hφ hO ho h2⟩
theorem ah.erase (hX:X'.toTrEnv=X.toTrEnv) (hw:μ'.w=μ.w) (hφ:μ'.φ=μ.φ) (hO: ∀r,(μ'.O r).gen=(μ.O r).gen∧(μ'.O r).sz=(μ.O r).sz) (ho: ∀b,Own X' μ' b→Own X μ b): ∀ {xs:List V} {vs:List Value},ah X μ xs vs→ah X' μ' (V.erases xs) vs
 | [],[],_=>by simp[V.erases,ah]
 | [],_::_,h=>by simp[ah] at h
 | _::_,[],h=>by simp[ah] at h
 | x::xs,v::vs,h=>by
   simp only[V.erases,ah] at h ⊢
   exact⟨aj.erase hX hw hφ hO ho h.1,ah.erase hX hw hφ hO ho h.2⟩
end
end
def cR (O:Nat→Obj):Nat→Obj:=fun r=> {O r with es:=(O r).es.map V.erases}
section
variable {X:TrEnv} {B:Nat→Prop} {K K':Nat×Nat} {w:World} {φ:Nat→Row} {O:Nat→Obj}
theorem jX {b:Nat}: (Mu.mk w φ (cR O)).own b↔(Mu.mk w φ O).own b:=by
 simp only[Mu.own,cR,Option.isSome_map]
theorem uv {x:V} {v:Value} (h:aj ⟨X,B,K⟩ ⟨w,φ,O⟩ x v):aj ⟨X,B,K'⟩ ⟨w,φ,cR O⟩ x.erase v:=
 aj.erase (X:=⟨X,B,K⟩) (X':=⟨X,B,K'⟩) (μ:=⟨w,φ,O⟩) (μ':=⟨w,φ,cR O⟩) rfl rfl rfl (fun _=> ⟨rfl,rfl⟩) (fun b hb=>hb.imp jX.1 id) h
theorem na {xs:List V} {vs:List Value} (h:ah ⟨X,B,K⟩ ⟨w,φ,O⟩ xs vs):ah ⟨X,B,K'⟩ ⟨w,φ,cR O⟩ (V.erases xs) vs:=
 ah.erase (X:=⟨X,B,K⟩) (X':=⟨X,B,K'⟩) (μ:=⟨w,φ,O⟩) (μ':=⟨w,φ,cR O⟩) rfl rfl rfl (fun _=> ⟨rfl,rfl⟩) (fun b hb=>hb.imp jX.1 id) h
theorem qt (h:aS ⟨X,B,K⟩ ⟨w,φ,O⟩):aS ⟨X,B,K'⟩ ⟨w,φ,cR O⟩ where
 ok:=fun r es bp=>by
  simp only[cR,Option.map_eq_some_iff] at bp
  obtain⟨kG,Wo,rfl⟩:=bp
  rcases h.ok r kG Wo with⟨h1,h2,h3,h4⟩ | ⟨h1,h2,ob,h3,h4⟩
  · refine .inl ⟨h1,by rw[cT];exact h2,by rw[iC (fun v=>tu v _)];exact h3,h4.imp id ?_⟩
    rintro⟨c,T,vs,k1,k2,k3,k4⟩
    exact⟨c,T,vs,k1,k2,na k3,k4⟩
  · refine .inr ⟨h1,h2,ob,h3,?_⟩
    rcases h4 with⟨ents,clock,k1,k2,k3⟩ | ⟨s,pos,k1,k2⟩ | ⟨mo,since,ZV,k1,k2,k3⟩
    · exact .inl ⟨ents,clock,k1,na k2,k3⟩
    · exact .inr (.inl ⟨s,pos,k1,by rw[k2];rfl⟩)
    · refine .inr (.inr ⟨mo,since,V.erases ZV,k1,by rw[k2];rfl,k3.imp (fun h=> ⟨h.1,by rw[h.2];rfl⟩) ?_⟩)
      rintro⟨m,ents,l1,l2,l3,l4,l5,l6⟩
      exact⟨m,ents,l1,fun hh=>l2 (hh.imp jX.1 id),l3,l4,l5,na l6⟩
 inj:=fun r r' cB h1 h2 h3 h4=>h.inj r r' cB (by simpa [cR] using h1) (by simpa [cR] using h2) h3 h4
 p8:=fun r h1 h2=>h.p8 r (by simpa [cR] using h1) h2
 blt:=h.blt
theorem jA {n:Nat} {T T':Nat→V} {c c':V} {rs:List Nat} (h:bn n ⟨T,O⟩ c=some (c',rs)):bn n ⟨T',cR O⟩ c.erase=some (c'.erase,rs):=by
 have other: (∀r g off len,c≠ .sl r g off len)→c.aw=true→c'=c∧rs=[]→bn n ⟨T',cR O⟩ c.erase=some (c'.erase,rs):=by
   rintro RG hp ⟨rfl,rfl⟩
   have yk:c'.erase.aw=true:=by rw[dA];exact hp
   cases c'<;>first| exact absurd rfl (RG _ _ _ _) | (simp only[V.erase] at yk ⊢;simp only[bn,yk,if_true])
 unfold bn at h
 split at h
 · rename_i r g off len
   simp only[V.erase,bn]
   split at h
   · rename_i es bp
     have en: (cR O r).es=some (V.erases es):=by
       have: (O r).es=some es:=bp
       simp only[cR,this,Option.map_some]
     simp only[en]
     split at h
     · rename_i hc
       have ye: (cR O r).gen=g∧off+len≤(V.erases es).length∧(cR O r).arr=true∧V.al (aF (V.erases es) off len)=true:=
         ⟨hc.1,by rw[cT];exact hc.2.1,hc.2.2.1,by rw[jg,b0];exact hc.2.2.2⟩
       rw[if_pos ye]
       split at h
       · rename_i hr
         rw[if_pos hr]
         simp only[Option.some.injEq,Prod.mk.injEq] at h
         obtain⟨rfl,rfl⟩:=h;rfl
       · rename_i hr
         rw[if_neg hr]
         split at h
         · rename_i hf
           rw[if_pos (show (cR O r).fz=true from hf)]
           simp only[Option.some.injEq,Prod.mk.injEq] at h
           obtain⟨rfl,rfl⟩:=h
           simp only[V.erase,jg]
           rfl
         · rename_i hf
           rw[if_neg (show ¬ (cR O r).fz=true from hf)]
           simp only[Option.some.injEq,Prod.mk.injEq] at h
           obtain⟨rfl,rfl⟩:=h
           simp only[V.erase,jg]
           rfl
     · simp at h
   · simp at h
 · rename_i RG
   split at h
   · rename_i hp
     simp only[Option.some.injEq,Prod.mk.injEq] at h
     obtain⟨rfl,rfl⟩:=h
     exact other (fun r g off len e=>RG r g off len e) hp ⟨rfl,rfl⟩
   · simp at h
theorem fh {n:Nat} {T T':Nat→V}: ∀ {cs cj:List V} {rs:List Nat},a8 n ⟨T,O⟩ cs=some (cj,rs)→a8 n ⟨T',cR O⟩ (V.erases cs)=some (V.erases cj,rs)
 | [],cj,rs,h=>by
   simp only[a8,Option.some.injEq,Prod.mk.injEq] at h
   obtain⟨rfl,rfl⟩:=h;rfl
 | c::cs,cj,rs,h=>by
   simp only[a8] at h
   split at h
   · rename_i c1 r1 ML LB h1 h2
     simp only[Option.some.injEq,Prod.mk.injEq] at h
     obtain⟨rfl,rfl⟩:=h
     simp only[V.erases,a8,jA (T':=T') h1,fh h2]
   · simp at h
theorem mI {n:Nat} {T T':Nat→V} {v v':V} {rs:List Nat} (h:cf n ⟨T,O⟩ v=some (v',rs)):cf n ⟨T',cR O⟩ v.erase=some (v'.erase,rs):=by
 unfold cf at h
 split at h
 · rename_i hp
   simp only[Option.some.injEq,Prod.mk.injEq] at h
   obtain⟨rfl,rfl⟩:=h
   simp only[cf,dA,hp,if_true]
 · rename_i hp
   have yk: ¬v.erase.aw=true:=by rw[dA];exact hp
   unfold cf
   rw[if_neg yk]
   split at h
   · rename_i cs
     split at h
     · rename_i ML LB h1
       simp only[Option.some.injEq,Prod.mk.injEq] at h
       obtain⟨rfl,rfl⟩:=h
       simp only[V.erase,fh (T':=T') h1]
     · simp at h
   · rename_i f cs
     split at h
     · rename_i ML LB h1
       split at h
       · rename_i hc
         simp only[Option.some.injEq,Prod.mk.injEq] at h
         obtain⟨rfl,rfl⟩:=h
         simp only[V.erase,fh (T':=T') h1,b0,hc,if_true]
       · simp at h
     · simp at h
   · rename_i h1 h2
     have:=jA (T':=T') h
     cases v<;>first| exact absurd rfl (h1 _) | exact absurd rfl (h2 _ _) | exact this
theorem lA {n:Nat} {T T':Nat→V}: ∀ {cs cj:List V} {rs:List Nat},bO n ⟨T,O⟩ cs=some (cj,rs)→bO n ⟨T',cR O⟩ (V.erases cs)=some (V.erases cj,rs)
 | [],cj,rs,h=>by
   simp only[bO,Option.some.injEq,Prod.mk.injEq] at h
   obtain⟨rfl,rfl⟩:=h;rfl
 | c::cs,cj,rs,h=>by
   simp only[bO] at h
   split at h
   · rename_i c1 r1 ML LB h1 h2
     simp only[Option.some.injEq,Prod.mk.injEq] at h
     obtain⟨rfl,rfl⟩:=h
     simp only[V.erases,bO,mI (T':=T') h1,lA h2]
   · simp at h
theorem cM.erase {n:Nat} {T T':Nat→V} {v0 v:V} {rs:List Nat} (h:cM n ⟨T,O⟩ v0 v rs):cM n ⟨T',cR O⟩ v0.erase v.erase rs:=by
 cases h with
 | one h=>exact .one (mI h)
 | many h=>simp only[V.erase];exact .many (lA h)
end
theorem zp {v:V} (h:v.aw=true): (rG v).aw=true:=by
 unfold rG;split
 · rfl
 · exact h
theorem oG (v:V): (rG v).aC=v.aC:=by
 unfold rG;split<;>rfl
section
variable {X:TrEnv} {B:Nat→Prop} {K:Nat×Nat} {μ:Mu}
theorem BG (c:Nat) {x:V} {v:Value} (hx: ∀K,aj ⟨X,B,K⟩ μ x v): ∃K,aj ⟨X,B,K⟩ μ (wg c x) v:=by
 unfold wg
 split
 · rename_i cs
   by_cases hc: ∃sz xs,cs[c]? =some (.lit sz xs)∧xs≠[]
   · obtain⟨sz,xs,jc,cB⟩:=hc
     obtain⟨h1,vs,rfl,h2⟩:cs.all V.aC=true∧ ∃vs,v= .agg vs∧ah ⟨X,B,(0,0)⟩ μ cs vs.toList:=by have:=hx (0,0);simpa only[aj] using this
     obtain⟨u,hu,bz⟩:=h2.get jc
     simp only[aj] at bz
     obtain⟨k0,MM,a,cap,us,rfl,k1,k2,k3⟩:=bz
     obtain⟨b,o,rfl,k4,k5,k6⟩:=k3.resolve_left cB
     refine⟨(b,o),?_⟩
     have CY:ah ⟨X,B,(b,o)⟩ μ cs vs.toList:=by
       have:=hx (b,o)
       simp only[aj] at this
       obtain⟨_,vs',e,h⟩:=this
       injection e with e;subst e;exact h
     simp only[aj]
     refine⟨?_,vs,rfl,?_⟩
     · rw[List.all_eq_true] at h1 ⊢
       intro y hy
       obtain⟨i,hi⟩:=List.mem_iff_getElem?.1 hy
       rw[List.getElem?_modify,Option.map_eq_map,Option.map_eq_some_iff] at hi
       obtain⟨z,hz,rfl⟩:=hi
       have ES:=h1 z (List.mem_of_getElem? hz)
       split
       · rw[oG];exact ES
       · exact ES
     · refine ah.rQ (by rw[List.length_modify];exact CY.length) fun i y u' hy yP=> ?_
       rw[List.getElem?_modify,Option.map_eq_map,Option.map_eq_some_iff] at hy
       obtain⟨z,hz,rfl⟩:=hy
       obtain⟨u2,Gq,mC⟩:=CY.get hz
       rw[yP] at Gq;injection Gq with Gq;subst Gq
       by_cases Hm:c=i
       · subst Hm
         rw[if_pos rfl]
         rw[jc] at hz;injection hz with hz;subst hz
         rw[hu] at yP;injection yP with yP;subst yP
         simp only[rG,aj]
         simp only[aj] at mC
         obtain⟨_,_,a',A3,EL,e,_,m2,m3⟩:=mC
         injection e with e1 e2 e3
         subst e1;subst e3
         refine⟨k0,MM,_,cap,EL,rfl,k1,m2,.inr ⟨rfl,k4,k5,?_⟩⟩
         rcases m3 with m3| ⟨b',o',e,_,_,m⟩
         · exact absurd m3 cB
         · simp only[Option.some.injEq,Addr.mk.injEq,and_true] at e
           obtain⟨rfl,rfl⟩:=e
           exact m
       · rw[if_neg Hm];exact mC
   · refine⟨(0,0),?_⟩
     have h0:=hx (0,0)
     simp only[aj] at h0 ⊢
     obtain⟨h1,vs,rfl,h2⟩:=h0
     refine⟨?_,vs,rfl,?_⟩
     · rw[List.all_eq_true] at h1 ⊢
       intro y hy
       obtain⟨i,hi⟩:=List.mem_iff_getElem?.1 hy
       rw[List.getElem?_modify,Option.map_eq_map,Option.map_eq_some_iff] at hi
       obtain⟨z,hz,rfl⟩:=hi
       have ES:=h1 z (List.mem_of_getElem? hz)
       split
       · rw[oG];exact ES
       · exact ES
     · refine ah.rQ (by rw[List.length_modify];exact h2.length) fun i y u' hy yP=> ?_
       rw[List.getElem?_modify,Option.map_eq_map,Option.map_eq_some_iff] at hy
       obtain⟨z,hz,rfl⟩:=hy
       obtain⟨u2,Gq,mC⟩:=h2.get hz
       rw[yP] at Gq;injection Gq with Gq;subst Gq
       by_cases Hm:c=i
       · subst Hm
         rw[if_pos rfl]
         unfold rG
         split
         · rename_i sz xs
           have zO:xs=[]:=Classical.byContradiction fun cB=>hc ⟨sz,xs,hz,cB⟩
           subst zO
           simp only[aj] at mC ⊢
           obtain⟨k0,MM,a,cap,us,rfl,k1,k2,_⟩:=mC
           exact⟨k0,MM,a,cap,us,rfl,k1,k2,.inl trivial⟩
         · exact mC
       · rw[if_neg Hm];exact mC
 · exact⟨(0,0),hx (0,0)⟩
theorem eD (p:Nat×Nat) (args:List V): (cL p args).length=args.length:=by simp[cL,cT]
theorem tw {p:Nat×Nat} {args:List V} (h:V.al args=true):V.al (cL p args)=true:=by
 refine mL fun x hx=> ?_
 obtain⟨i,hi⟩:=List.mem_iff_getElem?.1 hx
 have he:V.al (V.erases args)=true:=by rw[b0];exact h
 rw[cL,List.getElem?_modify,Option.map_eq_map,Option.map_eq_some_iff] at hi
 obtain⟨z,hz,rfl⟩:=hi
 have ES:=fN he (List.mem_of_getElem? hz)
 split
 · unfold wg
   split
   · rename_i cs
     simp only[V.aw] at ES ⊢
     refine mL fun y hy=> ?_
     obtain⟨j,hj⟩:=List.mem_iff_getElem?.1 hy
     rw[List.getElem?_modify,Option.map_eq_map,Option.map_eq_some_iff] at hj
     obtain⟨u,hu,rfl⟩:=hj
     have yP:=fN ES (List.mem_of_getElem? hu)
     split
     · exact zp yP
     · exact yP
   · exact ES
 · exact ES
theorem uw {F:FuncId} {p:Nat×Nat} {args:List V} {res:eS} (hp:V.al args=true) (h:cu X F (cL p args) res):cu X F args ⟨res.val.erase,[]⟩:=by
 intro B K w φ0 vals y9 hv ho
 have X8:=tw (p:=p) hp
 have hO: (enter args).O=fun _=>bj:=by rw[eE hp]
 have Wp: (enter (cL p args)).O=fun _=>bj:=by rw[eE X8]
 have hT: ∀t a,args[t]? =some a→(enter args).T t=a:=fun t a ha=>by rw[eE hp];simp[List.getD,ha]
 have V5: ∀t a,(cL p args)[t]? =some a→(enter (cL p args)).T t=a:=fun t a ha=>by rw[eE X8];simp[List.getD,ha]
 have each: ∀K' t (x:V) v,(V.erases args)[t]? =some x→vals[t]? =some v→aj ⟨X,B,K'⟩ ⟨w,φ0,fun _=>bj⟩ x v:=fun K' t x v hx yj=>by
   rw[jW,List.getElem?_map,Option.map_eq_some_iff] at hx
   obtain⟨y,hy,rfl⟩:=hx
   have:=hv t v yj
   rw[hT t y hy,hO] at this
   have:=uv (K':=K') this
   exact this
 obtain⟨K',hK⟩: ∃K',∀x v,(V.erases args)[p.1]? =some x→vals[p.1]? =some v→aj ⟨X,B,K'⟩ ⟨w,φ0,fun _=>bj⟩ (wg p.2 x) v:=by
   cases hx: (V.erases args)[p.1]? with
   | none=>exact⟨(0,0),fun x v h1=>by simp at h1⟩
   | some x=>
     cases hu:vals[p.1]? with
     | none=>exact⟨(0,0),fun x v _ h1=>by simp at h1⟩
     | some u=>
       obtain⟨K',hK⟩:=BG (X:=X) (B:=B) (μ:=⟨w,φ0,fun _=>bj⟩) p.2 (fun K'=>each K' p.1 x u hx hu)
       exact⟨K',fun y v h1 h2=>by injection h1 with h1;injection h2 with h2;subst h1;subst h2;exact hK⟩
 have hU:=h B K' w φ0 vals (by rw[eD];exact y9) (fun t v yj=>by
   rw[Wp]
   have bJ:t< (cL p args).length:=by rw[eD,←y9];exact(List.getElem?_eq_some_iff.1 yj).1
   obtain⟨y,kY⟩: ∃y,(cL p args)[t]? =some y:=⟨_,List.getElem?_eq_getElem bJ⟩
   rw[V5 t _ kY]
   have BH:=kY
   simp only[cL] at BH
   rw[List.getElem?_modify,Option.map_eq_map,Option.map_eq_some_iff] at BH
   obtain⟨z,hz,tX⟩:=BH
   rw[←tX]
   split
   · rename_i e
     subst e
     exact hK z v hz yj
   · exact each K' t z v hz yj) (by
   rw[Wp]
   rw[hO] at ho
   have:=qt (K':=K') ho
   exact this)
 rw[Wp] at hU
 rw[hO]
 have post: ∀val w',(∃φ' T' O' v0 refs,Le ⟨w,φ0,fun _=>bj⟩ ⟨w',φ',O'⟩∧aS ⟨X,B,K'⟩ ⟨w',φ',O'⟩∧
     aj ⟨X,B,K'⟩ ⟨w',φ',O'⟩ v0 val∧cM (cL p args).length ⟨T',O'⟩ v0 res.val refs∧distinct refs=true∧bC O' 0 (cL p args)=some res.outs)→
     ∃φ' T' O' v0 refs,Le ⟨w,φ0,fun _=>bj⟩ ⟨w',φ',O'⟩∧aS ⟨X,B,K⟩ ⟨w',φ',O'⟩∧
     aj ⟨X,B,K⟩ ⟨w',φ',O'⟩ v0 val∧cM args.length ⟨T',O'⟩ v0 (eS.mk res.val.erase []).val refs∧distinct refs=true∧bC O' 0 args=some (eS.mk res.val.erase []).outs:=by
   rintro val w' ⟨φ',T',O',v0,refs,k1,k2,k3,k4,k5,k6⟩
   rw[eD] at k4
   refine⟨φ',T',cR O',v0.erase,refs,?_,qt k2,uv k3,k4.erase,k5,eJ hp⟩
   exact⟨k1.size,fun b hb hn=> ⟨(k1.bZ b hb hn).1,fun h'=> (k1.bZ b hb hn).2 (jX.1 h')⟩,k1.gen,k1.row,k1.os,k1.output,k1.tape,k1.frozen⟩
 unfold vz at hU ⊢
 split at hU
 · exact post _ _ hU
 · refine Calls.mono hU fun e w' he=> ?_
   cases e with
   | returned v=>exact post _ _ he
   | panicked c=>exact he.elim
   | outgrown=>exact he.elim
 · exact hU.elim
end
end Go.AM
namespace Go.AM
open Go Go.RowKit
structure so (X:TrEnv) (E:Env):Prop where
 inj: ∀t1 t2 k,X.gq t1=some k→X.gq t2=some k→t1=t2
 mixed:X.P.follows .mixedOrders=true
 fn: ∀f af F,E.fn f=some af→X.ig F=some f→ ∃fn h c,X.P.funcs[F]? =some fn∧(fn.name== "runtime.NumGoroutine")=false∧fn.body=some c∧az X h fn=some af∧af.nparams≤fn.ntmps
 ext: ∀f as res F,E.ext f as=some res→X.ig F=some f→cu X F as res
 iter: ∀g F caps xs,E.iter g caps=some xs→X.ig F=some g→ ∀ (B:Nat→Prop) (K:Nat×Nat) (μ:Mu) (lb:Array Value),ah ⟨X,B,K⟩ μ caps lb.toList→aS ⟨X,B,K⟩ μ→qZ ⟨X,B,K⟩ μ F lb xs
 hyb: ∀f h F,E.hyb f=some h→X.ig F=some f→ ∀C:aO,(∀f F as res,X.ig F=some f→C f as=some res→cu X F as res)→ ∀as res,h C as=some res→cu X F as res
section
variable {X:Ctx} {T:Nat→V} {a:Go.Act} {μ:Mu}
theorem vD (  hr:Rel X T a μ) {r:ResultVar} {r':nB} (aE:n9 X r=some r') {v:V} (h:dC ⟨T,μ.O⟩ r'=some v):
   ∃val,((match r with| .tmp t=>pure (a.tmps.getD t undef) | .cell c t=>do loadVar t (←asAddr (a.tmps.getD c undef)):Sem Value)).run X.P μ.w= .ok val μ.w∧aj X μ v val:=by
 cases r with
 | tmp t=>
   simp[n9] at aE;subst aE
   simp only[dC,Option.some.injEq] at h;subst h
   exact⟨_,rfl,hr.tmps t⟩
 | cell c t=>
   simp only[n9] at aE
   split at aE
   · rename_i g sz hg hn
     injection aE with aE;subst aE
     simp only[dC] at h
     split at h
     · rename_i r gn idx off e
       split at h
       · rename_i es bp
         split at h
         · rename_i bU
           split at h
           · rename_i el oV
             have hx:=hr.tmps c
             rw[e] at hx
             simp only[aj] at hx
             obtain⟨p,Hk,_,b9⟩:=hx
             obtain⟨xe,b9⟩:=b9 bU
             obtain⟨xv,qe,_,il⟩:=wI hr.aN bp oV xe
             obtain⟨val,hl,bz⟩:=lS qe h hg hn il
             refine⟨val,?_,bz⟩
             rw[b9] at Hk
             show (do loadVar t (←asAddr (a.tmps.getD c undef)):Sem Value).run X.P μ.w=_
             rw[Hk]
             simpa [Sem.run_bind,asAddr,Sem.run] using hl
           · simp at h
         · simp at h
       · simp at h
     · simp at h
   · simp at aE
theorem oH (hr:Rel X T a μ): ∀ {rs:List ResultVar} {rs':List nB} {vs:List V},gP X rs=some rs'→cr ⟨T,μ.O⟩ rs'=some vs→
   ∃vals,(rs.mapM (fun r=> (match r with| .tmp t=>pure (a.tmps.getD t undef) | .cell c t=>do loadVar t (←asAddr (a.tmps.getD c undef)):Sem Value))).run X.P μ.w= .ok vals μ.w∧ah X μ vs vals
 | [],rs',vs,h1,h2=>by
   simp[gP] at h1;subst h1
   simp[cr] at h2;subst h2
   exact⟨[],by simp[Sem.run],by simp[ah]⟩
 | r::rs,rs',vs,h1,h2=>by
   simp only[gP] at h1
   split at h1
   · rename_i r1 LB k1 k2
     injection h1 with h1;subst h1
     simp only[cr] at h2
     split at h2
     · rename_i v ZW m1 m2
       injection h2 with h2;subst h2
       obtain⟨val,n1,n2⟩:=vD hr k1 m1
       obtain⟨vals,p1,p2⟩:=oH hr k2 m2
       refine⟨val::vals,?_,by simp only[ah];exact⟨n2,p2⟩⟩
       simp only[List.mapM_cons,Sem.run_bind,n1,Result.andThen,p1]
       rfl
     · simp at h2
   · simp at h1
theorem tx (hr:Rel X T a μ) {fn:Func} {rs':List nB} {vs:List V} (h1:gP X fn.results.toList=some rs') (h2:cr ⟨T,μ.O⟩ rs'=some vs):
  ∃vals,(results fn a.tmps).run X.P μ.w= .ok (match vals with| [v]=>v| vs=> .tuple vs.toArray) μ.w∧ah X μ vs vals:=by
 obtain⟨vals,k1,k2⟩:=oH hr h1 h2
 refine⟨vals,?_,k2⟩
 have hm: (fn.results.mapM (fun r=> (match r with| .tmp t=>pure (a.tmps.getD t undef) | .cell c t=>do loadVar t (←asAddr (a.tmps.getD c undef)):Sem Value))).run X.P μ.w= .ok vals.toArray μ.w:=by
  rw[Array.mapM_eq_mapM_toList]
  show Sem.run X.P (_ >>=fun l=>pure (List.toArray l)) _=_
  rw[Sem.run_bind,k1]
  rfl
 unfold results
 rw[Sem.run_bind]
 refine(congrArg (fun r=>Result.andThen r (fun vs w'=>Sem.run X.P (pure (if h:vs.size=1 then vs[0] else Value.tuple vs)) w')) hm).trans ?_
 match vals with
 | []=>rfl
 | [v]=>rfl
 | _::_::_=>rfl
end
section
variable {X:TrEnv} {E:Env}
theorem BI {  af:aD} {args:List V} {σ:St} {res:eS} (h:leave af args σ=some res):
   ∃vs,cr σ af.results=some vs∧bC σ.O 0 args=some res.outs∧ ∃refs,distinct refs=true∧
     ∀v0,v0=(match vs with| [v]=>v| vs=> .tuple vs)→cM args.length σ v0 res.val refs:=by
 unfold leave at h
 split at h
 · rename_i vs outs h1 h2
   refine⟨vs,h1,?_⟩
   split at h
   · rename_i v rs hx
     split at h
     · rename_i hd
       injection h with h;subst h
       refine⟨h2,rs,hd,?_⟩
       rintro v0 rfl
       match vs,hx with
       | [u],hx=>
         simp only[bO] at hx
         split at hx
         · rename_i c' r cj rs' k1 k2
           simp only[Option.some.injEq,Prod.mk.injEq,List.cons.injEq] at hx k2
           obtain⟨⟨rfl,rfl⟩,rfl⟩:=hx
           obtain⟨_,rfl⟩:=k2
           simpa using cM.one k1
         · simp at hx
       | [],hx=>simp[bO] at hx
       | _::_::_,hx=>
         simp only[bO] at hx
         split at hx
         · rename_i k1 k2
           split at k2
           · simp only[Option.some.injEq,Prod.mk.injEq] at hx k2
             obtain⟨e1,_⟩:=k2
             subst e1
             simp at hx
           · simp at k2
         · simp at hx
     · simp at h
   · rename_i vs' rs RG hx
     split at h
     · rename_i hd
       injection h with h;subst h
       refine⟨h2,rs,hd,?_⟩
       rintro v0 rfl
       match vs,hx with
       | [u],hx=>
         exfalso
         simp only[bO] at hx
         split at hx
         · rename_i c' r cj rs' k1 k2
           simp only[Option.some.injEq,Prod.mk.injEq] at hx k2
           obtain⟨rfl,rfl⟩:=hx
           obtain⟨rfl,_⟩:=k2
           exact RG _ rfl
         · simp at hx
       | [],hx=>exact .many hx
       | _::_::_,hx=>exact .many hx
     · simp at h
   · simp at h
 · simp at h
theorem qu {P:Program} {fn:Func} {tmps:Array Value} {R:Ending→World→Prop} {n:Fp} (Pw:World→Prop) (ub: ∀w D,n.fl≤D→w.heap[D]? =some (.deferred (some []))→Pw w→Pw (w.putObj D (.deferred none)))
   (hR: ∀w,Pw w→ ∃v,(results fn tmps).run P w= .ok v w∧R (.returned v) w) {ds:List Deferred} {w:World} (hm:Marks n w ds) (hw:Pw w):LeavesInM (Fr none) 0 P fn tmps R ds .returning w:=by
 obtain⟨_,Ds,rfl,ER,hDs⟩:=hm
 revert w
 induction Ds with
 | nil=>intro w hw _ _;exact hR w hw
 | cons D Ds ih=>
   intro w hw hf hm
   obtain⟨h1,h2⟩:=hm D (by simp)
   rw[List.nodup_cons] at ER
   refine⟨by simp,.inl ⟨D,w.putObj D (.deferred none),rfl,run_takeDeferred h2,?_⟩⟩
   refine ih ER.2 (ub w D h1 h2 hw) ⟨by simpa [World.putObj] using hf.1,fun l hl=> ?_⟩ fun D' Wq=> ⟨(hm D' (by simp[Wq])).1,?_⟩
   · obtain⟨L,k⟩:=hf.2 l hl
     exact⟨L,(World.putObj_heap_other (fun e=>by rw[e,h2] at k;simp at k)).trans k⟩
   · rw[World.putObj_heap_other (fun e=>ER.1 (by rw[←e];exact Wq))]
     exact(hm D' (by simp[Wq])).2
theorem jY (hE:so X E) {n:Nat} (hH: ∀m,m<n→ ∀ (B:Nat→Prop) (K:Nat×Nat),kZ ⟨X,B,K⟩ E (cK E (exec E m))) {f:Nat} {af:aD} {F:FuncId} (hf:E.fn f=some af) (hF:X.ig F=some f)
   {args:List V} {res:eS} {e:aP} {σ:St} (hlen:args.length=af.nparams) (hx:exec E n af.body (enter args)=some (e,σ)) (he:e= .normal∨e= .ret) (hl:leave af args σ=some res):cu X F args res:=by
 obtain⟨fn,h,c,qV,qv,jw,aE,hle⟩:=hE.fn f af F hf hF
 intro B K w φ0 vals y9 hv ho
 have RH: (callFunc F vals.toArray).run X.P w= .ok (.enter F vals.toArray) w:=by
   have LD: (fn.name== "runtime.NumGoroutine")=false:=qv
   simp[callFunc,Sem.run_bind,program,Sem.run,qV,LD,jw]
   simpa using qv
 rw[RH]
 unfold az at aE
 rw[jw] at aE
 simp only at aE
 split at aE
 · rename_i ac rs hc VW
   injection aE with aE
   subst aE
   simp only[vz]
   refine(callsIn_wide (n:=0)).1 (callsIn_of_wp_marks (F:=Fr none) qV jw trivial ?_ rfl)
   have b5:vals.toArray.size≤fn.ntmps:=by simp[y9,hlen];exact hle
   have jx:gC ⟨X,B,K⟩ ⟨w,φ0,(enter args).O⟩ ⟨fn.ntmps,w.heap.size,none⟩ (enter args) {tmps:=vals.toArray++Array.replicate (fn.ntmps - vals.toArray.size) undef,defers:=[]} w:=by
    refine⟨Marks.nil (Nat.le_refl _) (by simp),by simp at b5 ⊢;omega,φ0,⟨fun t=> ?_,ho⟩,Le.refl _⟩
    by_cases ht:t<vals.length
    · have e1: (vals.toArray++Array.replicate (fn.ntmps - vals.toArray.size) undef).getD t undef=vals[t]:=by
       simp[Array.getElem?_append,ht]
      rw[e1]
      exact hv t _ (List.getElem?_eq_getElem ht)
    · have e1: (vals.toArray++Array.replicate (fn.ntmps - vals.toArray.size) undef).getD t undef=undef:=by
       simp[Array.getElem?_append,ht,Array.getElem?_replicate]
       split<;>rfl
      have e2: (enter args).T t=da:=by
       have:args[t]? =none:=List.getElem?_eq_none (by omega)
       simp[enter,this]
      rw[e1,e2]
      exact pH
   refine wpIn_mono (zk (X:=⟨X,B,K⟩) hE.mixed (fun g F caps xs h1 h2 μ lb h3 h4=>hE.iter g F caps xs h1 h2 B K μ lb h3 h4) (h:={h with n:=fn.ntmps}) n (fun m hm=>hH m hm B K) rfl c ac _ _ e _ w hc hx jx) fun ex a' w' hq=> ?_
   obtain⟨rfl,gM,_,φ',hr,oA⟩:=hq
   obtain⟨vs,l1,l2,refs,l3,l4⟩:=BI hl
   have fin:LeavesInM (Fr none) 0 X.P fn a'.tmps (fun
      | .returned val,w'=> ∃φ' T' O' v0 refs,Le ⟨w,φ0,(enter args).O⟩ ⟨w',φ',O'⟩∧aS ⟨X,B,K⟩ ⟨w',φ',O'⟩∧aj ⟨X,B,K⟩ ⟨w',φ',O'⟩ v0 val∧cM args.length ⟨T',O'⟩ v0 res.val refs∧distinct refs=true∧bC O' 0 args=some res.outs
      | _,_=>False) a'.defers .returning w':=by
    refine qu (fun w'=>Rel ⟨X,B,K⟩ σ.T a' ⟨w',φ',σ.O⟩∧Le ⟨w,φ0,(enter args).O⟩ ⟨w',φ',σ.O⟩) (fun w1 D h1 h2 ⟨hr,hle⟩=> ⟨⟨fun t=>aj.bV (iw (μ:=⟨w1,φ',σ.O⟩) h2 rfl rfl) (hr.tmps t),uk hr.aN h2⟩,zh hle h1⟩) (fun w' ⟨hr,oA⟩=> ?_) gM ⟨hr,oA⟩
    obtain⟨RI,r1,r2⟩:=tx hr VW l1
    refine⟨_,r1,φ',σ.T,σ.O,_,refs,oA,hr.aN,?_,l4 _ rfl,l3,l2⟩
    match vs,RI,r2 with
    | [],[],r2=>simp only[aj];exact⟨_,rfl,by simpa using r2⟩
    | [v],[u],r2=>simp only[ah] at r2;exact r2.1
    | _::_::_,_::_::_,r2=>simp only[aj];exact⟨_,rfl,by simpa using r2⟩
    | [],_::_,r2=>simp[ah] at r2
    | _::_,[],r2=>simp[ah] at r2
    | [_],_::_::_,r2=>simp[ah] at r2
    | _::_::_,[_],r2=>simp[ah] at r2
   rcases he with rfl| rfl
   · exact fin
   · exact fin
 · simp at aE
theorem sq (    hE:so X E): ∀ (n:Nat) (f:Nat) (F:FuncId) (args:List V) (res:eS),X.ig F=some f→call E n f args=some res→cu X F args res:=by
 intro n
 induction n using Nat.strongRecOn with
 | _ n ih=>
   have low: ∀ (f:Nat) (F:FuncId) (args:List V) (res:eS),X.ig F=some f→iX E (exec E n) f args=some res→cu X F args res:= ?low
   · intro f F args res hF h
     unfold call cK at h
     split at h
     · rename_i g hg
       exact hE.hyb f g F hg hF _ low args res h
     · exact low f F args res hF h
   intro f F args res hF h
   unfold iX at h
   split at h
   · rename_i r he
     injection h with h;subst h
     exact hE.ext f args r F he hF
   · split at h
     · rename_i af hf
       split at h
       · rename_i hlen
         have hH: ∀m,m<n→ ∀ (B:Nat→Prop) (K:Nat×Nat),kZ ⟨X,B,K⟩ E (cK E (exec E m)):=fun m hm B K=>zo hE.inj fun f F as res h1 h2=>ih m hm f F as res h1 h2
         split at h
         · split at h
           · rename_i σ hx;exact jY hE hH hf hF hlen hx (.inl rfl) h
           · rename_i σ hx;exact jY hE hH hf hF hlen hx (.inr rfl) h
           · simp at h
         · rename_i p hp
           split at h
           · rename_i ux
             have qi: (cL p args).length=af.nparams:=by rw[eD];exact hlen
             split at h
             · rename_i σ hx
               rw[Option.map_eq_some_iff] at h
               obtain⟨r0,h,rfl⟩:=h
               exact uw ux (jY hE hH hf hF qi hx (.inl rfl) h)
             · rename_i σ hx
               rw[Option.map_eq_some_iff] at h
               obtain⟨r0,h,rfl⟩:=h
               exact uw ux (jY hE hH hf hF qi hx (.inr rfl) h)
             · simp at h
           · simp at h
       · simp at h
     · simp at h
end
end Go.AM
namespace Go.AM
open Go Go.RowKit
section
variable {X:TrEnv} {F:FuncId} {fn:Func}
theorem oI {args:List V} (h:V.al args=true): (enter args).O=fun _=>bj:=by rw[eE h]
theorem zr (qV:X.P.funcs[F]? =some fn) (qv: (fn.name== "runtime.NumGoroutine")=false) (hb:fn.body.isNone=true) (hn:Extern.findNext fn=none) (he:Extern.find fn=some Extern.MathSqrt.sqrt)
   {as:List V} {res:eS} (h:vU as=some res):cu X F as res:=by
 unfold vU at h
 split at h
 · rename_i b
   split at h
   · rename_i r hr
     injection h with h;subst h
     intro B K w φ0 vals hl hv ho
     match vals,hl with
     | [v],_=>
       have h0:=hv 0 v rfl
       have e0: (enter [V.float b]).T 0= .float b:=rfl
       rw[e0] at h0
       simp only[aj] at h0
       subst h0
       rw[run_callFunc_extern qV qv hb hn he]
       have ag: (Extern.MathSqrt.sqrt #[.float .f64 b]).run X.P w= .ok (.float .f64 r) w:=by
         have e:Extern.MathSqrt.sqrt #[.float .f64 b]=(match FloatKind.f64.format.sqrt b with
          | some r=>pure (.float .f64 r)
          | none=>do pure (.float .f64 (←choose (.nanBits .f64 b b)))):=rfl
         rw[e,hr];rfl
       have e1: ([Value.float .f64 b]:List Value).toArray= #[.float .f64 b]:=rfl
       rw[e1,ag]
       simp only[Result.andThen,vz]
       refine⟨φ0,fun _=>da,_,.float r,[],Le.refl _,ho,by simp[aj],.one (by simp[cf,V.aw]),rfl,rfl⟩
   · simp at h
 · simp at h
def LF:Env:={fn:=fun _=>none,ext:=fun _ _=>none}
def Uu:aO:=fun _ _=>none
def strip (o:aX):aX:={o with pre:=[]}
structure fJ (X:TrEnv) (fn:Func) (sz jj:Nat):Prop where
 body: ∃i0 i1 i2 i3 DL LG DM DN,fn.body=some (.seq (.region i0 DL false) (.seq (.seq (.region i1 LG false) (.cond (.tmp 4) (.seq (.region i2 DM false) .ret) .skip)) (.seq (.region i3 DN false) .ret)))∧
  (eB X ({n:=fn.ntmps}:Hints) DL DL.toList).map (List.map strip)=some [⟨some 2,.move (.const .nils),none,[]⟩]∧
  (eB X ({n:=fn.ntmps}:Hints) DM DM.toList).map (List.map strip)=some [⟨some 2,.move (.const .nils),none,[]⟩]∧
  (∃zero,aH zero sz=true∧0 <sz∧(eB X ({n:=fn.ntmps}:Hints) DN DN.toList).map (List.map strip)=some [⟨some 5,.buildSlice 96 sz zero 0 [],none,[]⟩,⟨some 6,.move (.tmp 0),none,[]⟩,⟨some 7,.append 128 sz jj (.tmp 5) (.tmp 6),none,[]⟩,⟨some 2,.move (.tmp 7),none,[]⟩])∧
  (∃o1 o2 t e,LG= #[o1,o2]∧(kJ X ({n:=fn.ntmps}:Hints) #[o1,o2] o1).map strip=some ⟨some 3,.move (.tmp 0),none,[]⟩∧o2.dst=some 4∧o2.guard=none∧o2.op= .binOp .eql t (.tmp 3) (.const (.slice none 0 0)) t∧X.P.underlying t=some (.slice e))
 res:fn.results= #[.tmp 2]
 tmps:8≤fn.ntmps
theorem Gr {Y:Ctx} (kl: ∀t1 t2 k,Y.gq t1=some k→Y.gq t2=some k→t1=t2):kZ Y LF Uu:=
 zo kl fun _ _ _ _ _ h=>by simp[Uu] at h
theorem LH {Y:Ctx} (kl: ∀t1 t2 k,Y.gq t1=some k→Y.gq t2=some k→t1=t2) (n:Nat):kZ Y LF (call LF n):=
 zo kl fun _ _ _ _ _ h=>by simp[call,cK,iX,LF] at h
theorem gk (kl: ∀t1 t2 k,X.gq t1=some k→X.gq t2=some k→t1=t2) (qV:X.P.funcs[F]? =some fn) (qv: (fn.name== "runtime.NumGoroutine")=false) {sz jj:Nat} (X9:fJ X fn sz jj)
   {as:List V} {res:eS} (h:dQ sz jj as=some res):cu X F as res:=by
 obtain⟨⟨i0,i1,i2,i3,DL,LG,DM,DN,jw,h0,h2,⟨zero,sW,tX,h3⟩,o1,o2,t,e,rfl,MF,s7,BH,RJ,ZX⟩,kn,Wf⟩:=X9
 rw[Option.map_eq_some_iff] at h0 h2 h3 MF
 obtain⟨ZY,h0,k0⟩:=h0
 obtain⟨ZZ,h2,k2⟩:=h2
 obtain⟨Z0,h3,k3⟩:=h3
 obtain⟨Ya,MF,k1⟩:=MF
 have MM:ZY.map (fun o=> {o with pre:=[]})=_:=k0
 have Z1:ZZ.map (fun o=> {o with pre:=[]})=_:=k2
 have Z2:Z0.map (fun o=> {o with pre:=[]})=_:=k3
 obtain⟨a0,xs,rfl,ox,wV,rfl⟩: ∃a0 xs,as=[a0]∧(a0= .lit sz xs∨a0= .nils∧xs=[])∧xs.length≤jj∧res=⟨.own sz xs,[]⟩:=by
   unfold dQ at h
   split at h
   · injection h with h;exact⟨_,[],rfl,.inr ⟨rfl,rfl⟩,by simp,h.symm⟩
   · rename_i sz' xs
     split at h
     · rename_i he;injection h with h;obtain⟨rfl,he⟩:=he;exact⟨_,xs,rfl,.inl rfl,he,h.symm⟩
     · simp at h
   · simp at h
 have ux:V.al [a0]=true:=by rcases ox with rfl| ⟨rfl,rfl⟩ <;>rfl
 intro B K w φ0 vals y9 hv ho
 have hO: (enter [a0]).O=fun _=>bj:=oI ux
 have Yb: (enter [a0]).T 0=a0:=by rw[eE ux];rfl
 have RH: (callFunc F vals.toArray).run X.P w= .ok (.enter F vals.toArray) w:=by
   simp[callFunc,Sem.run_bind,program,Sem.run,qV,jw]
   simpa using qv
 rw[RH]
 simp only[vz]
 refine(callsIn_wide (n:=0)).1 (callsIn_of_wp_marks (F:=Fr none) qV jw trivial ?_ rfl)
 have b5:vals.toArray.size≤fn.ntmps:=by simp[y9];omega
 have jx:gC ⟨X,B,K⟩ ⟨w,φ0,(enter [a0]).O⟩ ⟨fn.ntmps,w.heap.size,none⟩ (enter [a0]) {tmps:=vals.toArray++Array.replicate (fn.ntmps - vals.toArray.size) undef,defers:=[]} w:=by
   refine⟨Marks.nil (Nat.le_refl _) (by simp),by simp at b5 ⊢;omega,φ0,⟨fun t=> ?_,ho⟩,Le.refl _⟩
   by_cases ht:t<vals.length
   · have e1: (vals.toArray++Array.replicate (fn.ntmps - vals.toArray.size) undef).getD t undef=vals[t]:=by
       simp[Array.getElem?_append,ht]
     rw[e1]
     exact hv t _ (List.getElem?_eq_getElem ht)
   · have e1: (vals.toArray++Array.replicate (fn.ntmps - vals.toArray.size) undef).getD t undef=undef:=by
       simp[Array.getElem?_append,ht,Array.getElem?_replicate]
       split<;>rfl
     have e2: (enter [a0]).T t=da:=by
       have: [a0][t]? =none:=List.getElem?_eq_none (by omega)
       simp[enter,this]
     rw[e1,e2]
     exact pH
 have H:=Gr (Y:=⟨X,B,K⟩) kl
 refine wpIn_seq (wpIn_mono (wpIn_region (Q:=fun ex a w'=>ex= .normal∧gC ⟨X,B,K⟩ ⟨w,φ0,(enter [a0]).O⟩ ⟨fn.ntmps,w.heap.size,none⟩ ((enter [a0]).put (some 2) .nils) a w') ?_) ?_)
 · rw[List.range_eq_range']
   refine dz H (h:=({n:=fn.ntmps}:Hints)) rfl h0 DL.size 0 (by omega) jx (by rw[List.drop_zero,MM];rfl) fun a' w' ji=> ⟨rfl,ji⟩
 rintro ex a1 w1 ⟨rfl,qE⟩
 refine wpIn_seq (wpIn_seq (wpIn_region ?_))
 have Wr:List.range (#[o1,o2]:Array Oper).size=[0,1]:=rfl
 rw[Wr,wpOpsIn_cons]
 have Z3: ((enter [a0]).put (some 2) .nils).T 0=a0:=Yb
 have RK:dB LF Uu Ya ((enter [a0]).put (some 2) .nils)=some (((enter [a0]).put (some 2) .nils).put (some 3) a0):=by
   have hs:dB LF Uu (strip Ya) ((enter [a0]).put (some 2) .nils)=some (((enter [a0]).put (some 2) .nils).put (some 3) a0):=by
     rw[k1]
     show some (((enter [a0]).put (some 2) .nils).put (some 3) (((enter [a0]).put (some 2) .nils).T 0))=_
     rw[Z3]
   exact hs
 refine mZ H (h:=({n:=fn.ntmps}:Hints)) (o:=o1) rfl MF rfl qE RK fun a2 w2 vS=> ?_
 generalize Ws: ((enter [a0]).put (some 2) .nils).put (some 3) a0=σ2 at vS
 have Z4:σ2.T 3=a0:=by rw[←Ws];rfl
 have Yc:σ2.T 0=a0:=by rw[←Ws];exact Yb
 have Yd:σ2.O=fun _=>bj:=by rw[←Ws];exact hO
 rw[wpOpsIn_cons]
 obtain⟨DA,RL,φ2,mC,Ls⟩:=vS
 have vb:=mC.tmps 3
 rw[Z4] at vb
 obtain⟨ad,n,cap,xn⟩: ∃ad n cap,a2.tmps.getD 3 undef= .slice ad n cap:=by
   rcases ox with rfl| ⟨rfl,_⟩
   · simp only[aj] at vb
     obtain⟨_,_,a,c,_,h,_⟩:=vb
     exact⟨_,_,_,h⟩
   · simp only[aj] at vb
     obtain⟨a,h⟩:=vb
     exact⟨_,_,_,h⟩
 have r7:ad.isNone=true→xs=[]:=by
   intro hn
   rcases ox with rfl| ⟨rfl,h9⟩
   · simp only[aj] at vb
     obtain⟨_,_,a,c,_,h,_,_,h'⟩:=vb
     rw[xn] at h
     injection h with h _ _
     rcases h' with h'| ⟨b,o,h',_⟩
     · exact h'
     · rw[h,h'] at hn;simp at hn
   · exact h9
 have heq: (Op.equal t (.slice ad n cap) (.slice none 0 0)).run X.P w2= .ok ad.isNone w2:=run_equal_slice_nil w2 t e ad n cap ZX
 have iO: (execOp a2.eval o2).run X.P w2= .ok (.value (.bool ad.isNone)) w2:=by
   simp only[execOp,RJ]
   refine bM ?_
   have ev:a2.eval (.tmp 3)= .slice ad n cap:=by simpa [Go.Act.eval] using xn
   have dO:a2.eval (.const (.slice none 0 0))= .slice none 0 0:=rfl
   simp[eqGuard,ev,dO,Go.binOp,Sem.run_bind,heq]
 have pt: (#[o1,o2]:Array Oper)[1]? =some o2:=rfl
 simp only[wpOpIn,pt]
 rw[if_pos (by simp[Region.wanted,BH])]
 refine qY (by rw[RJ];simp) ?_
 unfold Oper.wp
 rw[iO,Oper.upon_value]
 simp only[wpOpsIn]
 have z6:gC ⟨X,B,K⟩ ⟨w,φ0,(enter [a0]).O⟩ ⟨fn.ntmps,w.heap.size,none⟩ (σ2.put (some 4) (.bool ad.isNone)) (a2.put o2.dst (.bool ad.isNone)) w2:=by
   rw[s7]
   refine⟨by rw[put_defers];exact DA,by rw[jt];exact RL,φ2,?_,?_⟩
   · exact lU mC (Le.refl _) mC.aN (by simp[aj]) (by simp;rw[RL];simp;omega) σ2.O
   · exact Ls
 generalize a2.put o2.dst (.bool ad.isNone)=a3 at z6 ⊢
 have Cf:a3.eval (.tmp 4)= .bool ad.isNone:=sj (c':= .tmp 4) z6 rfl rfl
 have zO:V.al xs=true∧xs.all (aH · sz)=true:=by
   rcases ox with rfl| ⟨rfl,h9⟩
   · simp only[aj] at vb
     obtain⟨k1,k2,a,c,vs,_,_,k3,k4⟩:=vb
     refine⟨k1,?_⟩
     rcases k4 with rfl| ⟨b,o,_,_,_,k5⟩
     · rfl
     · rw[List.all_eq_true] at k2 ⊢
       intro x hx
       obtain⟨i,hi⟩:=List.mem_iff_getElem?.1 hx
       obtain⟨v,VU,Ad⟩:=ah.get k3 hi
       have:=(k5 i v VU).1
       rw[Ad.dc (k2 x hx)] at this
       simp[aH,this,k2 x hx]
   · subst h9;exact⟨rfl,rfl⟩
 have RM: ∀ (a':Go.Act) (w':World) (O':Nat→Obj),Marks ⟨fn.ntmps,w.heap.size,none⟩ w' a'.defers→(∃φ',Le ⟨w,φ0,(enter [a0]).O⟩ ⟨w',φ',O'⟩∧aS ⟨X,B,K⟩ ⟨w',φ',O'⟩∧ ∃r g,1≤r∧aj ⟨X,B,K⟩ ⟨w',φ',O'⟩ (.sl r g 0 xs.length) (a'.tmps.getD 2 undef)∧O' r=⟨g,sz,true,false,some xs⟩)→
     bodyPostM (Fr none) 0 X.P fn (fun| .returned val,w'=> ∃φ' T' O' v0 refs,Le ⟨w,φ0,(enter [a0]).O⟩ ⟨w',φ',O'⟩∧aS ⟨X,B,K⟩ ⟨w',φ',O'⟩∧aj ⟨X,B,K⟩ ⟨w',φ',O'⟩ v0 val∧cM [a0].length ⟨T',O'⟩ v0 (eS.mk (.own sz xs) []).val refs∧distinct refs=true∧bC O' 0 [a0]=some (eS.mk (.own sz xs) []).outs| _,_=>False) .ret a' w':=by
   rintro a' w' O' hd ⟨φ',k1,k2,r,g,k3,k4,k5⟩
   refine qu (fun w'=> (Le ⟨w,φ0,(enter [a0]).O⟩ ⟨w',φ',O'⟩∧aS ⟨X,B,K⟩ ⟨w',φ',O'⟩)∧aj ⟨X,B,K⟩ ⟨w',φ',O'⟩ (.sl r g 0 xs.length) (a'.tmps.getD 2 undef)) (fun w1 D h1 h2 ⟨⟨hle,EG⟩,hv⟩=> ⟨⟨zh hle h1,uk EG h2⟩,aj.bV (iw (μ:=⟨w1,φ',O'⟩) h2 rfl rfl) hv⟩) ?_ hd ⟨⟨k1,k2⟩,k4⟩
   rintro w' ⟨⟨k1,k2⟩,k4⟩
   refine⟨a'.tmps.getD 2 undef,by simp[results,kn],φ',fun _=>da,O',_,[r],k1,k2,k4,.one ?_,rfl,eJ ux⟩
   have LI:aF xs 0 xs.length=xs:=jH rfl
   have Z5: ¬r< [a0].length:=by simp;omega
   simp only[cf,V.aw,bn,k5,LI,zO.1,Z5]
   simp
 cases hb:ad.isNone with
 | true=>
   rw[hb] at Cf
   obtain rfl:=r7 hb
   refine wpIn_cond_true Cf (wpIn_seq (wpIn_region ?_))
   rw[List.range_eq_range']
   refine dz H (h:=({n:=fn.ntmps}:Hints)) rfl h2 DM.size 0 (by omega) z6 (σ':=(σ2.put (some 4) (.bool ad.isNone)).put (some 2) .nils) (by rw[List.drop_zero,Z1];rfl) fun a' w' ji=> ?_
   refine wpIn_ret ?_
   obtain⟨lZ,_,φ,qk,oA⟩:=ji
   have eO: ((σ2.put (some 4) (.bool ad.isNone)).put (some 2) .nils).O=fun _=>bj:=Yd
   have Ad:=qk.tmps 2
   have e2: ((σ2.put (some 4) (.bool ad.isNone)).put (some 2) .nils).T 2= .nils:=rfl
   rw[e2] at Ad
   have ew:=qk.aN
   rw[eO] at oA ew
   simp only[aj] at Ad
   obtain⟨aa,Z6⟩:=Ad
   refine RM a' w' (cW (fun _=>bj) 1 ⟨1,sz,true,false,some []⟩) lZ ⟨cW φ 1 ⟨0,0,0⟩,oA.trans ⟨Nat.le_refl _,fun b hb hn=> ⟨rfl,?_⟩,fun r=> ?_,fun r hr=> ?_,rfl,rfl,rfl,fun _ _=>rfl⟩,⟨fun r es bp=> ?_,fun r r' _ h1 h2 h3 h4=> ?_,fun r h1 h2=> ?_,ew.blt⟩,1,1,Nat.le_refl _,?_,rfl⟩
   · rintro⟨r,h1,h2,h3,h4⟩
     by_cases e:r=1
     · subst e;simp[cW] at h3
     · simp[cW,e,bj] at h1
   · simp only[bj];omega
   · by_cases e:r=1
     · subst e;simp[cW,bj] at hr
     · simp[cW,e]
   · by_cases e:r=1
     · subst e
       simp only[cW,if_true,Option.some.injEq] at bp ⊢
       subst bp
       left
       unfold iN
       simp only[cW,if_true]
       exact⟨tX,by simp,rfl,by simp⟩
     · simp[cW,e,bj] at bp
   · by_cases e:r=1
     · subst e;simp[cW] at h3
     · simp[cW,e,bj] at h1
   · by_cases e:r=1
     · subst e;simp[cW] at h2
     · simp[cW,e,bj] at h1
   · simp only[aj]
     exact⟨aa,0,Z6,by simp,by simp[cW],fun _=> ⟨by simpa [cW] using tX,by simp[cW],by simp⟩⟩
 | false=>
   rw[hb] at Cf
   refine wpIn_cond_false Cf (wpIn_skip ?_)
   refine wpIn_seq (wpIn_region ?_)
   have Z7:ET LF [⟨some 5,.buildSlice 96 sz zero 0 [],none,[]⟩,⟨some 6,.move (.tmp 0),none,[]⟩,⟨some 7,.append 128 sz jj (.tmp 5) (.tmp 6),none,[]⟩,⟨some 2,.move (.tmp 7),none,[]⟩] (σ2.put (some 4) (.bool ad.isNone))
       (fun σ'=> ∃g,σ'.T 2= .sl 96 g 0 xs.length∧σ'.O 96=⟨g,sz,true,false,some xs⟩):=by
     have RN:σ2.O 96=bj:=by rw[Yd]
     have Mt:0*sz≤16777216:=by simp
     have Wt:=sW
     simp only[aH,V.cw] at Wt
     have Am: ∀ (k:List V→Act),content sz a0 k=k xs:=by
       intro k
       rcases ox with rfl| ⟨rfl,rfl⟩ <;>simp[content]
     by_cases hx:xs=[]
     · subst hx
       simp only[qN,jE,ny,nz,qM,lH,lI,nA,nr,qL,nC,qO,cX,fP,lJ,jG,au.iJ,q8,q9,ra,np,nq,re,uN,nu,kq,nv,kp,ns,rf,uO,aH,V.cw,V.aw,V.al,V.isScalar,V.aU,rp,eJ,jF,gT,oZ,Cp,Cq,yq,yr,rk,oY,bj,andThen,rj,iI,fM,Cs,da,eS.mk.injEq,V.int.injEq,V.tuple.injEq,List.cons.injEq,V.bool.injEq,V.str.injEq,V.agg.injEq,List.getD_cons_zero,List.getD_cons_succ,List.getD_nil,List.length_cons,List.length_nil,List.getElem?_cons_zero,List.getElem?_cons_succ,List.set_cons_zero,List.set_cons_succ,List.take_succ_cons,List.take_zero,List.drop_succ_cons,List.drop_zero,List.take_nil,List.drop_nil,List.cons_append,List.nil_append,List.append_nil,Nat.zero_add,Nat.add_zero,Nat.reduceAdd,Nat.reduceSub,Nat.reduceMul,Nat.reduceEqDiff,Nat.reduceLT,Nat.reduceLeDiff,Nat.reduceBEq,BEq.rfl,Bool.true_or,Bool.or_true,Bool.false_or,Bool.or_false,Bool.and_true,Bool.true_and,Bool.and_false,Bool.false_and,Bool.and_self,Bool.or_self,Bool.false_eq_true,Bool.true_eq_false,Bool.not_true,Bool.not_false,Nat.lt_add_one,Nat.le_refl,decide_true,decide_false,decide_eq_true_eq,if_true,if_false,↓reduceIte,true_and,and_true,and_self,false_and,and_false,reduceCtorEq,Nat.sub_zero,Option.some.injEq,Nat.zero_lt_one,Nat.lt_irrefl,ne_eq,not_true_eq_false,not_false_eq_true,V.cells.eq_1,V.cells.eq_2,V.isAgg.eq_1,V.isAgg.eq_2,V.aC.eq_1,V.aC.eq_2,V.aC.eq_3,V.aC.eq_4,V.aC.eq_5,V.aC.eq_6,V.aC.eq_7,V.isTuple.eq_1,V.isTuple.eq_2,AM.part.eq_1,AM.part.eq_2,AM.part.eq_3,AM.part.eq_4,AM.cC.eq_1,AM.cC.eq_2,AM.cC.eq_3,AM.cC.eq_4,lX.eq_1,lX.eq_2,lX.eq_3,lX.eq_4,bl.eq_1,bl.eq_2,bl.eq_3,dE.eq_1,dE.eq_2,content.eq_1,content.eq_2,content.eq_3,content.eq_4,content.eq_5,cU.eq_1,cU.eq_2,bL.eq_1,bL.eq_2,rq.eq_1,rq.eq_2,bN.eq_1,bN.eq_2,bN.eq_3,bN.eq_4,bN.eq_5,bN.eq_6,dj.eq_1,dj.eq_2,gF.eq_1,gF.go.eq_1,gF.go.eq_2,bQ.eq_1,bQ.eq_2,du.eq_1,du.eq_2,c7.eq_1,c7.eq_2,bD.eq_1,bD.eq_2,bD.eq_3,bW.eq_1,bW.eq_2,bn.eq_1,bn.eq_2,a8.eq_1,a8.eq_2,cf.eq_1,cf.eq_2,cf.eq_3,bO.eq_1,bO.eq_2,dC.eq_1,dC.eq_2,cr.eq_1,cr.eq_2,bC.eq_1,bC.eq_2,bC.eq_3,bC.eq_4,bH.eq_1,bH.eq_2,bH.eq_3,bH.eq_4,bH.eq_5,bH.eq_6,bH.eq_7,bH.eq_8,bH.eq_9,bH.eq_10,bH.eq_11,bH.eq_12,bH.eq_13,bH.eq_14,bH.eq_15,bH.eq_16,bH.eq_17,bH.eq_18,bH.eq_19,bH.eq_20,bH.eq_21,cN.eq_1,cN.eq_2,cN.eq_3,cN.eq_4,cN.eq_5,cN.eq_6,cN.eq_7,yt.eq_1,yt.eq_2,yt.eq_3,yt.eq_4,min2.eq_1,min2.eq_2,max2.eq_1,max2.eq_2,fo.eq_1,fo.eq_2,eT.eq_1,eT.eq_2,s6.eq_1,s6.eq_2,s6.eq_3,s6.eq_4,dH.eq_1,dH.eq_2,dH.eq_3,dJ.eq_1,dJ.eq_2,dg.eq_1,dg.eq_2,ev.eq_1,ev.eq_2,tG.eq_1,tG.eq_2,sS.eq_1,sS.eq_2,fv.eq_1,fv.eq_2,fv.eq_3,cp.eq_1,cp.eq_2,leave.eq_1,distinct.eq_1,distinct.eq_2,fin.eq_1,fin.eq_2,fin.eq_3,au.eq_1,au.eq_2,au.eq_3,au.eq_4,au.eq_5,au.eq_6,au.eq_7,au.eq_8,au.eq_9,au.eq_10,au.eq_11,au.eq_12,au.eq_13,au.eq_14,au.eq_15,au.eq_16,au.eq_17,au.eq_18,au.eq_19,au.eq_20,au.eq_21,au.eq_23,au.eq_24,au.eq_26,au.eq_27,au.eq_28,au.eq_29,au.eq_30,au.eq_31,au.eq_32,au.eq_34,au.eq_35,au.eq_36,au.eq_37,au.eq_38,mM.eq_1,apart,bR.eq_1,bR.eq_2,cg.eq_1,cg.eq_2,cg.eq_3,ed.eq_1,ed.eq_2,List.map_nil,List.map_cons,List.all_nil,List.all_cons,List.contains_nil,List.contains_cons,gU.eq_1,gU.eq_2,Option.isSome_some,Option.isSome_none,Option.isNone_none,Option.isNone_some,nE,uQ,bne_self_eq_false,Bool.bne_true,Bool.bne_false,Bool.true_bne,Bool.false_bne,jH,List.isEmpty_cons,List.isEmpty_nil,eq_self,List.replicate_succ,List.replicate_zero,o6,Int.cast_ofNat_Int,Int.reduceToNat,Int.toNat_zero,Int.toNat_one,Int.reduceAdd,Int.reduceSub,Int.reduceMul,Int.reduceNeg,Int.reduceLE,Int.reduceLT,Int.reduceEq,Int.neg_ofNat_le_ofNat,Int.natCast_nonneg,Int.toNat_natCast,Int.toNat_natCast_add_one,Int.ofNat_lt,wrap64,Int.le_refl,Yc,RN,Am,Wt,Mt,tX,Cr (show ([]:List V).all (aH · sz)=true from rfl),Nat.zero_le,overwrite]
       exact⟨1,rfl,rfl⟩
     · have xe: ¬xs.length≤0:=by
        intro h;exact hx (List.eq_nil_of_length_eq_zero (by omega))
       simp only[qN,jE,ny,nz,qM,lH,lI,nA,nr,qL,nC,qO,cX,fP,lJ,jG,au.iJ,q8,q9,ra,np,nq,re,uN,nu,kq,nv,kp,ns,rf,uO,aH,V.cw,V.aw,V.al,V.isScalar,V.aU,rp,eJ,jF,gT,oZ,Cp,Cq,yq,yr,rk,oY,bj,andThen,rj,iI,fM,Cs,da,eS.mk.injEq,V.int.injEq,V.tuple.injEq,List.cons.injEq,V.bool.injEq,V.str.injEq,V.agg.injEq,List.getD_cons_zero,List.getD_cons_succ,List.getD_nil,List.length_cons,List.length_nil,List.getElem?_cons_zero,List.getElem?_cons_succ,List.set_cons_zero,List.set_cons_succ,List.take_succ_cons,List.take_zero,List.drop_succ_cons,List.drop_zero,List.take_nil,List.drop_nil,List.cons_append,List.nil_append,List.append_nil,Nat.zero_add,Nat.add_zero,Nat.reduceAdd,Nat.reduceSub,Nat.reduceMul,Nat.reduceEqDiff,Nat.reduceLT,Nat.reduceLeDiff,Nat.reduceBEq,BEq.rfl,Bool.true_or,Bool.or_true,Bool.false_or,Bool.or_false,Bool.and_true,Bool.true_and,Bool.and_false,Bool.false_and,Bool.and_self,Bool.or_self,Bool.false_eq_true,Bool.true_eq_false,Bool.not_true,Bool.not_false,Nat.lt_add_one,Nat.le_refl,decide_true,decide_false,decide_eq_true_eq,if_true,if_false,↓reduceIte,true_and,and_true,and_self,false_and,and_false,reduceCtorEq,Nat.sub_zero,Option.some.injEq,Nat.zero_lt_one,Nat.lt_irrefl,ne_eq,not_true_eq_false,not_false_eq_true,V.cells.eq_1,V.cells.eq_2,V.isAgg.eq_1,V.isAgg.eq_2,V.aC.eq_1,V.aC.eq_2,V.aC.eq_3,V.aC.eq_4,V.aC.eq_5,V.aC.eq_6,V.aC.eq_7,V.isTuple.eq_1,V.isTuple.eq_2,AM.part.eq_1,AM.part.eq_2,AM.part.eq_3,AM.part.eq_4,AM.cC.eq_1,AM.cC.eq_2,AM.cC.eq_3,AM.cC.eq_4,lX.eq_1,lX.eq_2,lX.eq_3,lX.eq_4,bl.eq_1,bl.eq_2,bl.eq_3,dE.eq_1,dE.eq_2,content.eq_1,content.eq_2,content.eq_3,content.eq_4,content.eq_5,cU.eq_1,cU.eq_2,bL.eq_1,bL.eq_2,rq.eq_1,rq.eq_2,bN.eq_1,bN.eq_2,bN.eq_3,bN.eq_4,bN.eq_5,bN.eq_6,dj.eq_1,dj.eq_2,gF.eq_1,gF.go.eq_1,gF.go.eq_2,bQ.eq_1,bQ.eq_2,du.eq_1,du.eq_2,c7.eq_1,c7.eq_2,bD.eq_1,bD.eq_2,bD.eq_3,bW.eq_1,bW.eq_2,bn.eq_1,bn.eq_2,a8.eq_1,a8.eq_2,cf.eq_1,cf.eq_2,cf.eq_3,bO.eq_1,bO.eq_2,dC.eq_1,dC.eq_2,cr.eq_1,cr.eq_2,bC.eq_1,bC.eq_2,bC.eq_3,bC.eq_4,bH.eq_1,bH.eq_2,bH.eq_3,bH.eq_4,bH.eq_5,bH.eq_6,bH.eq_7,bH.eq_8,bH.eq_9,bH.eq_10,bH.eq_11,bH.eq_12,bH.eq_13,bH.eq_14,bH.eq_15,bH.eq_16,bH.eq_17,bH.eq_18,bH.eq_19,bH.eq_20,bH.eq_21,cN.eq_1,cN.eq_2,cN.eq_3,cN.eq_4,cN.eq_5,cN.eq_6,cN.eq_7,yt.eq_1,yt.eq_2,yt.eq_3,yt.eq_4,min2.eq_1,min2.eq_2,max2.eq_1,max2.eq_2,fo.eq_1,fo.eq_2,eT.eq_1,eT.eq_2,s6.eq_1,s6.eq_2,s6.eq_3,s6.eq_4,dH.eq_1,dH.eq_2,dH.eq_3,dJ.eq_1,dJ.eq_2,dg.eq_1,dg.eq_2,ev.eq_1,ev.eq_2,tG.eq_1,tG.eq_2,sS.eq_1,sS.eq_2,fv.eq_1,fv.eq_2,fv.eq_3,cp.eq_1,cp.eq_2,leave.eq_1,distinct.eq_1,distinct.eq_2,fin.eq_1,fin.eq_2,fin.eq_3,au.eq_1,au.eq_2,au.eq_3,au.eq_4,au.eq_5,au.eq_6,au.eq_7,au.eq_8,au.eq_9,au.eq_10,au.eq_11,au.eq_12,au.eq_13,au.eq_14,au.eq_15,au.eq_16,au.eq_17,au.eq_18,au.eq_19,au.eq_20,au.eq_21,au.eq_23,au.eq_24,au.eq_26,au.eq_27,au.eq_28,au.eq_29,au.eq_30,au.eq_31,au.eq_32,au.eq_34,au.eq_35,au.eq_36,au.eq_37,au.eq_38,mM.eq_1,apart,bR.eq_1,bR.eq_2,cg.eq_1,cg.eq_2,cg.eq_3,ed.eq_1,ed.eq_2,List.map_nil,List.map_cons,List.all_nil,List.all_cons,List.contains_nil,List.contains_cons,gU.eq_1,gU.eq_2,Option.isSome_some,Option.isSome_none,Option.isNone_none,Option.isNone_some,nE,uQ,bne_self_eq_false,Bool.bne_true,Bool.bne_false,Bool.true_bne,Bool.false_bne,jH,List.isEmpty_cons,List.isEmpty_nil,eq_self,List.replicate_succ,List.replicate_zero,o6,Int.cast_ofNat_Int,Int.reduceToNat,Int.toNat_zero,Int.toNat_one,Int.reduceAdd,Int.reduceSub,Int.reduceMul,Int.reduceNeg,Int.reduceLE,Int.reduceLT,Int.reduceEq,Int.neg_ofNat_le_ofNat,Int.natCast_nonneg,Int.toNat_natCast,Int.toNat_natCast_add_one,Int.ofNat_lt,wrap64,Int.le_refl,Yc,RN,Am,Wt,Mt,tX,Cr zO.2,zO.1,wV,Nat.zero_le,xe]
       exact⟨2,rfl,rfl⟩
   obtain⟨n,σ4,RO,g,De,BH⟩:=Z7
   rw[List.range_eq_range']
   refine dz (LH (Y:=⟨X,B,K⟩) kl n) (h:=({n:=fn.ntmps}:Hints)) rfl h3 DN.size 0 (by omega) z6 (by rw[List.drop_zero,Z2];exact RO) fun a' w' ji=> ?_
   refine wpIn_ret ?_
   obtain⟨lZ,_,φ,qk,oA⟩:=ji
   have Ad:=qk.tmps 2
   rw[De] at Ad
   exact RM a' w' σ4.O lZ ⟨φ,oA,qk.aN,96,g,by omega,Ad,BH⟩
end
end Go.AM
namespace Go.AM
open Go Go.RowKit Go.ChangeShapes Go.WideShapes
theorem BJ {H:Type} {enc:TypeId×Value→H} {P:Program} {f:Func} {s:ChangeSpec} {apart fresh handsOn again:Bool} {W W':World} {args:Array Value} {v:Value} {ds gs:List (DataW H)} {before pa pv:List MemPlace}
   (hW:DataW.Whole enc P f.params.toList s.vars apart W args.toList ds gs before)
   (kn: ∀ (b:Nat) (sp:Nat→Bool) (hd:Bool),DataW.TrodAll enc P W' b sp hd f.resultTypes.toList (v.resultList f.resultTypes.size) (s.fn H (ds++gs)).results [])
   (iv: ∀sp:Nat→Bool,(∀p ∈ before,sp p.block=true)→DataW.TrodAll enc P W' 0 sp true f.params.toList args.toList (s.fn H (ds++gs)).args pa)
   (HF: ∀sp:Nat→Bool,(∀p ∈ before,sp p.block=true)→DataW.TrodVars enc P W' sp s.vars (s.fn H (ds++gs)).vars pv)
   (wh:before=pa++pv) (hk:W.keptBut W' (· ∈ before)) (fm: ∀a,a.block<W.heap.size→W'.frozen? a=W.frozen? a)
   (KV: ∀ (j:Nat) (t:TypeId) (r:Value),f.resultTypes[j]? =some t→(v.resultList f.resultTypes.size)[j]? =some r→Value.okWide P W' .any 0 t r):
   s.post enc P f apart fresh handsOn again W args v W':=by
 have hold: ∀p ∈ before,(fun b=>decide (b<W.heap.size)) p.block=true:=fun p hp=>by simpa using hW.lt p hp
 have bJ:=hW.lt
 refine⟨ds,gs,before,[],pa,pv,hW,kn _ _ _,iv _ hold,HF _ hold,World.keptBut_mono (fun p hp=> ⟨hp,?_⟩) hk,fun _=> ?_⟩
 · rw[wh,List.mem_append] at hp
   exact Or.inr hp
 · obtain⟨_,_,_,_,_,hz,hn⟩:=hW
   refine⟨KV,_,_,([]++pa)++pv,⟨[]++pa,pv,trodAll_append (iv _ (fun _ _=>rfl)) (kn _ _ _),HF _ (fun _ _=>rfl),rfl,?_,?_⟩,?_⟩
   · intro b off hp
     have hb:MemPlace.cell b off ∈ before:=by rw[wh];simpa using hp
     rw[fm _ (bJ _ hb)]
     exact hz b off hb
   · intro ha
     have:=hn ha
     rw[wh] at this
     simpa using this
   · intro p hp _
     rw[wh]
     simpa using hp
end Go.AM
namespace Go.AM
open Go Go.RowKit
section
variable (P:Program)
def qI (e:TypeId) (ws:List V):V:=match P.underlying e with
 | some (.struct _) | some (.array ..)=> .agg ws
 | _=>ws.headD da
def Wu (tv:TypeId→List V→Prop):List Field→List V→Prop
 | [],vs=>vs=[]
 | f::fs,vs=> ∃a b,vs=a++b∧a.length=P.cellsOf f.type∧tv f.type a∧Wu tv fs b
def Wv (tv:List V→Prop) (s:Nat):Nat→List V→Prop
 | 0,vs=>vs=[]
 | k+1,vs=> ∃a b,vs=a++b∧a.length=s∧tv a∧Wv tv s k b
def TV:Nat→TypeId→List V→Prop
 | 0,_,_=>False
 | n+1,t,vs=>match P.underlying t with
   | some .bool=> ∃b,vs=[.bool b]
   | some (.int k)=> ∃x,vs=[.int k x]∧(Lit.int k x).wf=true
   | some .string=> ∃s,vs=[.str s]∧s.length≤maxLen
   | some (.slice e)=>vs=[.nils]∨ ∃xs,vs=[.lit (P.cellsOf e) xs]∧xs.length≤maxLen∧ ∀x ∈ xs,∃ws,TV n e ws∧x=qI P e ws
   | some (.struct fs)=>Wu P (TV n) fs.toList vs
   | some (.array k e)=>Wv (TV n e) (P.cellsOf e) k vs
   | _=>False
def lB:List Field→Nat→Option Nat
 | [],off=>some off
 | f::fs,off=>if f.offset=off then lB fs (off+P.cellsOf f.type) else none
def vE (S:List TypeId) (t:TypeId):Bool:=match P.underlying t with
 | some .bool| some (.int _) | some .string=>P.cellsOf t==1
 | some (.slice e)=>P.cellsOf t==1 &&decide (0 <P.cellsOf e) &&S.contains e
 | some (.struct fs)=> (lB P fs.toList 0==some (P.cellsOf t)) &&fs.toList.all fun f=>S.contains f.type
 | some (.array k e)=>S.contains e &&P.cellsOf t==k*P.cellsOf e
 | _=>false
end
section
variable {X:TrEnv} {H:Type} {enc:TypeId×Value→H} {w:World} {S:List TypeId} {base:Nat} {spare:Nat→Bool} {held:Bool}
abbrev still (w:World) (φ:Nat→Row):Mu:=⟨w,φ,fun _=>bj⟩
abbrev free (X:TrEnv):Ctx:=⟨X,fun _=>False,(0,0)⟩
def Good (X:TrEnv) (w:World) (n:Nat) (t:TypeId) (vs:List V) (cs:List Value):Prop:=
 TV X.P n t vs∧vs.all V.aC=true∧V.al vs=true∧ ∀φ,ah (free X) (still w φ) vs cs
theorem jZ: ∀ {a b:List V},V.al (a++b)=(V.al a &&V.al b)
 | [],b=>by simp[V.al]
 | x::a,b=>by simp[V.al,jZ (a:=a),Bool.and_assoc]
theorem qw {n:Nat}: ∀ {fs:List Field} {cs:List Value} {off total:Nat},lB X.P fs off=some total→cs.length=total→
   (∀f ∈ fs,∃vs,Good X w n f.type vs ((cs.drop f.offset).take (X.P.cellsOf f.type)))→
   ∃vs,Wu X.P (TV X.P n) fs vs∧vs.all V.aC=true∧V.al vs=true∧ ∀φ,ah (free X) (still w φ) vs (cs.drop off)
 | [],cs,off,total,hc,hl,_=>by
   simp only[lB,Option.some.injEq] at hc
   subst hc
   refine⟨[],rfl,rfl,rfl,fun φ=> ?_⟩
   rw[List.drop_eq_nil_of_le (by omega)];simp[ah]
 | f::fs,cs,off,total,hc,hl,hf=>by
   simp only[lB] at hc
   split at hc
   · rename_i ho
     subst ho
     obtain⟨a,EN,Uv,Uw,MN⟩:=hf f (by simp)
     obtain⟨b,EH,Gi,Ux,Uy⟩:=qw hc hl (fun g hg=>hf g (by simp[hg]))
     have hle:f.offset+X.P.cellsOf f.type≤total:=by
      clear EN Uv Uw MN EH Gi Ux Uy hf
      have: ∀ (fs:List Field) (o tt:Nat),lB X.P fs o=some tt→o≤tt:=by
       intro fs
       induction fs with
       | nil=>intro o tt h;simp[lB] at h;omega
       | cons g gs ih=>
         intro o tt h
         simp only[lB] at h
         split at h
         · have:=ih _ _ h;omega
         · simp at h
      exact this _ _ _ hc
     have Ww:a.length=X.P.cellsOf f.type:=by
      have:=(MN (fun _=> ⟨0,0,0⟩)).length
      rw[this];simp;omega
     refine⟨a++b,⟨a,b,rfl,Ww,EN,EH⟩,by simp[Uv,Gi],by rw[jZ,Uw,Ux];rfl,fun φ=> ?_⟩
     have e:cs.drop f.offset=(cs.drop f.offset).take (X.P.cellsOf f.type)++cs.drop (f.offset+X.P.cellsOf f.type):=by
      rw[←List.drop_drop,List.take_append_drop]
     rw[e]
     exact ah.append (MN φ) (Uy φ)
   · simp at hc
theorem su {n:Nat} {e:TypeId}: ∀ (k:Nat) {cs:List Value} (j:Nat),cs.length=(j+k)*X.P.cellsOf e→
   (∀i,i<j+k→ ∃vs,Good X w n e vs ((cs.drop (i*X.P.cellsOf e)).take (X.P.cellsOf e)))→
   ∃vs,Wv (TV X.P n e) (X.P.cellsOf e) k vs∧vs.all V.aC=true∧V.al vs=true∧ ∀φ,ah (free X) (still w φ) vs (cs.drop (j*X.P.cellsOf e))
 | 0,cs,j,hl,_=>by
   refine⟨[],rfl,rfl,rfl,fun φ=> ?_⟩
   rw[List.drop_eq_nil_of_le (by rw[hl];simp)];simp[ah]
 | k+1,cs,j,hl,hf=>by
   obtain⟨a,EN,Uv,Uw,MN⟩:=hf j (by omega)
   have e1:j+1+k=j+(k+1):=by omega
   obtain⟨b,EH,Gi,Ux,Uy⟩:=su k (cs:=cs) (j+1) (by rw[e1];exact hl) (fun i hi=>hf i (by omega))
   have Ww:a.length=X.P.cellsOf e:=by
    have:=(MN (fun _=> ⟨0,0,0⟩)).length
    rw[this];simp
    rw[hl,←Nat.sub_mul]
    have:1≤j+(k+1) - j:=by omega
    exact Nat.min_eq_left (Nat.le_mul_of_pos_left _ this)
   refine⟨a++b,⟨a,b,rfl,Ww,EN,EH⟩,by simp[Uv,Gi],by rw[jZ,Uw,Ux];rfl,fun φ=> ?_⟩
   have e:cs.drop (j*X.P.cellsOf e)=(cs.drop (j*X.P.cellsOf e)).take (X.P.cellsOf e)++cs.drop ((j+1)*X.P.cellsOf e):=by
    rw[Nat.add_mul,Nat.one_mul,←List.drop_drop,List.take_append_drop]
   rw[e]
   exact ah.append (MN φ) (Uy φ)
theorem An {α:Type} {p:Nat→α→Prop}: ∀ (n:Nat),(∀i,i<n→ ∃x,p i x)→ ∃xs:List α,xs.length=n∧ ∀i x,xs[i]? =some x→p i x
 | 0,_=> ⟨[],rfl,by simp⟩
 | n+1,h=>by
   obtain⟨xs,h1,h2⟩:=An n (fun i hi=>h i (by omega))
   obtain⟨x,hx⟩:=h n (by omega)
   refine⟨xs++[x],by simp[h1],fun i y hy=> ?_⟩
   by_cases hi:i<xs.length
   · rw[List.getElem?_append_left hi] at hy;exact h2 i y hy
   · rw[List.getElem?_append_right (by omega)] at hy
     have:i - xs.length=0:=by
      have:=(List.getElem?_eq_some_iff.1 hy).1
      simp at this;omega
     rw[this] at hy
     simp at hy;subst hy
     have:i=n:=by omega
     subst this;exact hx
theorem trod_good (hS:S.all (vE X.P S)=true): ∀ (n:Nat) (t:TypeId) (cs:List Value) (x:DataW H×List MemPlace),t ∈ S→DataW.trod enc X.P w base spare held n t cs=some x→ ∃vs,Good X w n t vs cs:=by
 intro n
 induction n with
 | zero=>intro t cs x _ h;simp[DataW.trod] at h
 | succ n ih=>
   intro t cs x ht h
   have hp:=List.all_eq_true.1 hS t ht
   unfold vE at hp
   cases hu:X.P.underlying t with
   | none=>rw[hu] at hp;simp at hp
   | some desc=>
     rw[hu] at hp
     cases desc with
     | bool=>
       obtain⟨b,rfl,_⟩:=DataW.trod_bool hu h
       exact⟨[.bool b],by simp[TV,hu],rfl,rfl,fun φ=>by simp[ah,aj]⟩
     | int k=>
       obtain⟨m,rfl,_,hw⟩:=DataW.trod_int hu h
       exact⟨[.int k m],by simp[TV,hu,hw],rfl,rfl,fun φ=>by simp[ah,aj]⟩
     | string=>
       obtain⟨s,rfl,_,hm⟩:=DataW.trod_string hu h
       exact⟨[.str s.data.toList],by simp only[TV,hu];exact⟨_,rfl,by simpa using hm⟩,rfl,rfl,fun φ=>by simp only[ah,aj];exact⟨⟨s,rfl,rfl⟩,trivial⟩⟩
     | slice e=>
       simp only[Bool.and_eq_true,decide_eq_true_eq] at hp
       obtain⟨⟨_,xe⟩,he⟩:=hp
       have tL:e ∈ S:=by simpa using he
       rcases DataW.trod_slice hu h with⟨rfl,_⟩ | ⟨a,len,cap,elems,rest,m,hn,rfl,_,hb,hl,hm,hlen,oV,_,_⟩
       · exact⟨[.nils],by simp[TV,hu],rfl,rfl,fun φ=>by simp only[ah,aj];exact⟨⟨none,rfl⟩,trivial⟩⟩
       · obtain rfl:n=m:=by omega
         have each: ∀i,i<len→ ∃q:V×Value,(∃ws,TV X.P n e ws∧q.1=qI X.P e ws)∧q.1.aw=true∧q.1.cw=true∧(∀φ,aj (free X) (still w φ) q.1 q.2)∧
             q.2.cells.size=X.P.cellsOf e∧ ∀j c,q.2.cells[j]? =some c→w.cell? ((a.add (i*X.P.cellsOf e)).add j)=some c:=by
           intro i hi
           have h1:=oV i hi
           rw[List.getElem?_eq_getElem (by omega)] at h1
           rw[Option.bind_eq_some_iff] at h1
           obtain⟨cj,hc,sY⟩:=h1
           obtain⟨_,sV,pz⟩:=World.cells?_some hc
           obtain⟨ws,g1,g2,g3,g4⟩:=ih e cj _ tL sY
           have mj:ws.length=cj.length:=(g4 (fun _=> ⟨0,0,0⟩)).length
           have vF: ∀ (v:Value),v.cells.toList=cj→v.cells.size=X.P.cellsOf e∧ ∀j c,v.cells[j]? =some c→w.cell? ((a.add (i*X.P.cellsOf e)).add j)=some c:=by
             intro v hv
             have hs:v.cells.size=cj.length:=by rw[←hv];simp
             refine⟨by rw[hs,sV],fun j c hj=> ?_⟩
             have Ho:cj[j]? =some c:=by rw[←hv];simpa using hj
             rw[pz j (by have:=(List.getElem?_eq_some_iff.1 Ho).1;omega)];exact Ho
           have A5: (∃fs,X.P.underlying e=some (.struct fs))∨(∃k e',X.P.underlying e=some (.array k e'))∨qI X.P e ws=ws.headD da∧ws.length=1:=by
             have tW:=List.all_eq_true.1 hS e tL
             unfold vE at tW
             cases Wx:X.P.underlying e with
             | none=>rw[Wx] at tW;simp at tW
             | some d=>
               rw[Wx] at tW
               cases d<;>simp at tW
               case struct fs=>exact .inl ⟨fs,rfl⟩
               case array k e'=>exact .inr (.inl ⟨k,e',rfl⟩)
               all_goals exact .inr (.inr ⟨by simp[qI,Wx],by simp_all⟩)
           have asAgg:qI X.P e ws= .agg ws→ ∃q:V×Value,(∃ws,TV X.P n e ws∧q.1=qI X.P e ws)∧q.1.aw=true∧q.1.cw=true∧(∀φ,aj (free X) (still w φ) q.1 q.2)∧
               q.2.cells.size=X.P.cellsOf e∧ ∀j c,q.2.cells[j]? =some c→w.cell? ((a.add (i*X.P.cellsOf e)).add j)=some c:=by
             intro RP
             refine⟨(qI X.P e ws,.agg cj.toArray),⟨ws,g1,rfl⟩,?_,?_,fun φ=> ?_,vF _ (by simp[Value.cells])⟩
             · simp only[RP,V.aw,g3]
             · simp[RP,V.cw,V.isAgg]
             · simp only[RP,aj];exact⟨g2,_,rfl,by simpa using g4 φ⟩
           rcases A5 with⟨fs,hs⟩ | ⟨k,e',hs⟩ | ⟨RP,h1⟩
           · exact asAgg (by simp[qI,hs])
           · exact asAgg (by simp[qI,hs])
           · match ws,h1,cj,mj,g1,g2,g3,g4,vF with
             | [x],_,[c],_,g1,g2,g3,g4,vF=>
               have Ye: ∀φ,aj (free X) (still w φ) x c:=fun φ=>by have:=g4 φ;simp only[ah] at this;exact this.1
               have Yf:x.aC=true:=by simpa using g2
               refine⟨(x,c),⟨[x],g1,by simp[RP]⟩,by simpa [V.al] using g3,by simp[V.cw,Yf],Ye,vF c ?_⟩
               rw[((Ye (fun _=> ⟨0,0,0⟩)).jP Yf).2]
         obtain⟨qs,q1,q2⟩:=An len each
         refine⟨[.lit (X.P.cellsOf e) (qs.map (·.1))],?_,rfl,rfl,fun φ=> ?_⟩
         · simp only[TV,hu]
           refine .inr ⟨_,rfl,by simp[q1];omega,fun x hx=> ?_⟩
           obtain⟨q,hq,rfl⟩:=List.mem_map.1 hx
           obtain⟨i,hi⟩:=List.mem_iff_getElem?.1 hq
           exact(q2 i q hi).1
         · simp only[  ah,aj,and_true]
           refine⟨xo fun x hx=> ?_,?_,some a,cap,qs.map (·.2),by simp[q1],by simp[q1];omega,?_,?_⟩
           · obtain⟨q,hq,rfl⟩:=List.mem_map.1 hx
             obtain⟨i,hi⟩:=List.mem_iff_getElem?.1 hq
             exact(q2 i q hi).2.1
           · rw[List.all_eq_true]
             intro x hx
             obtain⟨q,hq,rfl⟩:=List.mem_map.1 hx
             obtain⟨i,hi⟩:=List.mem_iff_getElem?.1 hq
             exact(q2 i q hi).2.2.1
           · refine ah.rQ (by simp) fun i y u hy hu=> ?_
             rw[List.getElem?_map] at hy hu
             cases hq:qs[i]? with
             | none=>simp[hq] at hy
             | some q=>
               simp[hq] at hy hu
               subst hy hu
               exact(q2 i q hq).2.2.2.1 φ
           · cases qs with
             | nil=>exact .inl rfl
             | cons q0 qs=>
               right
               have im: ∀ (i:Nat) (q:V×Value),(q0::qs)[i]? =some q→ ∀j c,q.2.cells[j]? =some c→w.cell? ((a.add (i*X.P.cellsOf e)).add j)=some c:=fun i q hi=> (q2 i q hi).2.2.2.2.2
               have b5: ∀ (i:Nat) (q:V×Value),(q0::qs)[i]? =some q→q.2.cells.size=X.P.cellsOf e:=fun i q hi=> (q2 i q hi).2.2.2.2.1
               have h0:=im 0 q0 rfl 0 (q0.2.cells[0]'(by rw[b5 0 q0 rfl];exact xe)) (Array.getElem?_eq_getElem _)
               obtain⟨ab,ao,Yg⟩:=a
               have sU:Yg=none∧ab<w.heap.size:=by
                 simp only[Nat.zero_mul,Addr.add,if_true,World.cell?] at h0
                 split at h0
                 ·  rename_i c T f hh
                    split at h0
                    · simp at h0
                    · rename_i hn
                      exact⟨by cases Yg<;>simp_all,(Array.getElem?_eq_some_iff.1 hh).1⟩
                 · simp at h0
               obtain⟨rfl,bJ⟩:=sU
               refine⟨ab,ao,rfl,?_,bJ,fun i v hv=> ?_⟩
               · rintro(⟨r,h1,_⟩ | h)
                 · simp[bj] at h1
                 · exact h
               · rw[  List.getElem?_map] at hv
                 cases hq: (q0::qs)[i]? with
                 | none=>simp[hq] at hv
                 |  some q=>
                    simp[hq] at hv
                    subst hv
                    refine⟨b5 i q hq,fun j c hc=> ?_⟩
                    have:=im i q hq j c hc
                    have nV: ∀o m,Addr.add ⟨ab,o,none⟩ m=⟨ab,o+m,none⟩:=by
                      intro o m
                      simp only[Addr.add]
                      split
                      · rename_i h0;subst h0;rfl
                      · rfl
                    rw[nV,nV] at this
                    exact this
     | struct fs=>
       simp only[Bool.and_eq_true,beq_iff_eq] at hp
       obtain⟨Am,nP⟩:=hp
       obtain⟨xs,m,hm,_,hlen,Lj,hf⟩:=DataW.trod_struct hu h
       obtain rfl:n=m:=by omega
       have key: ∀f ∈ fs.toList,∃vs,Good X w n f.type vs ((cs.drop f.offset).take (X.P.cellsOf f.type)):=by
         intro f Yh
         obtain⟨i,hi⟩:=List.mem_iff_getElem?.1 Yh
         have wN:fs[i]? =some f:=by simpa using hi
         have h1:=hf i f wN
         have Wy:i<xs.length:=by rw[Lj];exact(Array.getElem?_eq_some_iff.1 wN).1
         rw[List.getElem?_eq_getElem Wy] at h1
         exact ih f.type _ _ (by have:=List.all_eq_true.1 nP f Yh;simpa using this) h1
       obtain⟨vs,k1,k2,k3,k4⟩:=qw Am hlen key
       exact⟨vs,by simp only[TV,hu];exact k1,k2,k3,fun φ=>by simpa using k4 φ⟩
     | array k e=>
       simp only[Bool.and_eq_true,beq_iff_eq] at hp
       obtain⟨he,b5⟩:=hp
       obtain⟨xs,m,hm,_,hlen,Lj,hf⟩:=DataW.trod_array hu h
       obtain rfl:n=m:=by omega
       have key: ∀i,i< 0+k→ ∃vs,Good X w n e vs ((cs.drop (i*X.P.cellsOf e)).take (X.P.cellsOf e)):=by
         intro i hi
         have h1:=hf i (by omega)
         rw[List.getElem?_eq_getElem (by omega)] at h1
         exact ih e _ _ (by simpa using he) h1
       obtain⟨vs,k1,k2,k3,k4⟩:=su k 0 (by rw[hlen,b5];simp) key
       exact⟨vs,by simp only[TV,hu];exact k1,k2,k3,fun φ=>by simpa using k4 φ⟩
     | _=>simp at hp
where
 xo {cs:List V} (h: ∀x ∈ cs,V.aw x=true):V.al cs=true:=by
  induction cs with
  | nil=>rfl
  | cons c cs ih=>simp only[V.al,Bool.and_eq_true];exact⟨h c (by simp),ih fun x hx=>h x (by simp[hx])⟩
end
end Go.AM
namespace Go.AM
open Go Go.RowKit
def DO (X:TrEnv) (g:Nat) (af:aD):Prop:= ∃F fn h c,X.ig F=some g∧X.P.funcs[F]? =some fn∧(fn.name== "runtime.NumGoroutine")=false∧fn.body=some c∧az X h fn=some af∧af.nparams≤fn.ntmps
def iD (X:TrEnv):List (Nat×aD)→Prop
 | []=>True
 | p::ps=>DO X p.1 p.2∧iD X ps
def Ao (X:TrEnv) (g:Nat) (fn:List V→Option eS):Prop:= ∃F,X.ig F=some g∧ ∀as res,fn as=some res→cu X F as res
def nb (X:TrEnv):List (Nat× (List V→Option eS))→Prop
 | []=>True
 | p::ps=>Ao X p.1 p.2∧nb X ps
theorem iD.mem {X:TrEnv}: ∀ {tab:List (Nat×aD)},iD X tab→ ∀p ∈ tab,DO X p.1 p.2
 | [],_,p,hp=>by simp at hp
 | q::qs,h,p,hp=>by
   rcases List.mem_cons.1 hp with rfl| hp
   · exact h.1
   · exact iD.mem h.2 p hp
theorem nb.mem {X:TrEnv}: ∀ {tab:List (Nat× (List V→Option eS))},nb X tab→ ∀p ∈ tab,Ao X p.1 p.2
 | [],_,p,hp=>by simp at hp
 | q::qs,h,p,hp=>by
   rcases List.mem_cons.1 hp with rfl| hp
   · exact h.1
   · exact nb.mem h.2 p hp
def Ap (X:TrEnv) (g:Nat) (h:HN):Prop:= ∃F,X.ig F=some g∧ ∀C:aO,(∀f F as res,X.ig F=some f→C f as=some res→cu X F as res)→ ∀as res,h.h C as=some res→cu X F as res
def pM (X:TrEnv):List (Nat×HN)→Prop
 | []=>True
 | p::ps=>Ap X p.1 p.2∧pM X ps
theorem pM.mem {X:TrEnv}: ∀ {tab:List (Nat×HN)},pM X tab→ ∀p ∈ tab,Ap X p.1 p.2
 | [],_,p,hp=>by simp at hp
 | q::qs,h,p,hp=>by
   rcases List.mem_cons.1 hp with rfl| hp
   · exact h.1
   · exact pM.mem h.2 p hp
def oJ (X:TrEnv) (g:Nat) (it:List V→Option (List (List V))):Prop:= ∃F,X.ig F=some g∧ ∀caps xs,it caps=some xs→ ∀ (B:Nat→Prop) (K:Nat×Nat) (μ:Mu) (lb:Array Value),ah ⟨X,B,K⟩ μ caps lb.toList→aS ⟨X,B,K⟩ μ→qZ ⟨X,B,K⟩ μ F lb xs
def j0 (X:TrEnv):List (Nat× (List V→Option (List (List V))))→Prop
 | []=>True
 | p::ps=>oJ X p.1 p.2∧j0 X ps
theorem j0.mem {X:TrEnv}: ∀ {tab:List (Nat× (List V→Option (List (List V))))},j0 X tab→ ∀p ∈ tab,oJ X p.1 p.2
 | [],_,p,hp=>by simp at hp
 | q::qs,h,p,hp=>by
   rcases List.mem_cons.1 hp with rfl| hp
   · exact h.1
   · exact j0.mem h.2 p hp
def fK:List Nat→Bool
 | []=>true
 | x::xs=> !xs.contains x &&fK xs
theorem jh: ∀ {l:List Nat},fK l=true→ ∀ {i j x:Nat},l[i]? =some x→l[j]? =some x→i=j
 | [],_,i,j,x,h,_=>by simp at h
 | y::l,hd,i,j,x,hi,hj=>by
   simp only[fK,Bool.and_eq_true,Bool.not_eq_true'] at hd
   have ef: ∀k:Nat,l[k]? =some y→False:=fun k hk=>by
     have:l.contains y=true:=by simpa using List.mem_of_getElem? hk
     rw[hd.1] at this;simp at this
   cases i with
   | zero=>
     cases j with
     | zero=>rfl
     | succ j=>simp at hi hj;subst hi;exact(ef j hj).elim
   | succ i=>
     cases j with
     | zero=>simp at hi hj;subst hj;exact(ef i hi).elim
     | succ j=>simp at hi hj;rw[jh hd.2 hi hj]
theorem xp {P:Program} {fl:List Nat} {tl:List (Nat×Nat)} (hf:fK fl=true) (ht:fK (tl.map (·.2))=true) (hm:P.follows .mixedOrders=true) {tab:List (Nat×aD)} {ext:List (Nat× (List V→Option eS))} {hyb:List (Nat×HN)} {iter:List (Nat× (List V→Option (List (List V))))}:
   let X:TrEnv:=⟨P,fun F=>fl[F]?,fun t=> (tl.find? (·.1==t)).map (·.2)⟩
   iD X tab→nb X ext→pM X hyb→j0 X iter→so X (Mq tab ext hyb iter):=by
 intro X h1 h2 h3 h4
 have sx: ∀F F' g,X.ig F=some g→X.ig F'=some g→F=F':=fun F F' g h h'=>jh hf h h'
 refine⟨fun t1 t2 k h h'=> ?_,hm,fun f af F h hF=> ?_,fun f as res F h hF=> ?_,fun g F caps xs h hF=> ?_,fun f g F h hF C hC as res hr=> ?_⟩
 · simp only[X,Option.map_eq_some_iff] at h h'
   obtain⟨p,hp,rfl⟩:=h
   obtain⟨q,hq,Z8⟩:=h'
   have e1:=List.find?_some hp
   have e2:=List.find?_some hq
   obtain⟨i,hi⟩:=List.mem_iff_getElem?.1 (List.mem_of_find?_eq_some hp)
   obtain⟨j,hj⟩:=List.mem_iff_getElem?.1 (List.mem_of_find?_eq_some hq)
   have:i=j:=jh ht (i:=i) (j:=j) (x:=p.2) (by simp[hi]) (by simp[hj,Z8])
   subst this
   rw[hi] at hj;injection hj with hj;subst hj
   simp at e1 e2;exact e1.symm.trans e2
 · simp only[Mq,MU,Option.map_eq_some_iff] at h
   obtain⟨p,hp,rfl⟩:=h
   have e1:=List.find?_some hp
   simp at e1;subst e1
   obtain⟨F',fn,hh,c,k1,k2,k3,k4,k5,k6⟩:=iD.mem h1 p (List.mem_of_find?_eq_some hp)
   obtain rfl:=sx F F' _ hF k1
   exact⟨fn,hh,c,k2,k3,k4,k5,k6⟩
 · simp only[Mq,G0] at h
   split at h
   · rename_i p hp
     have e1:=List.find?_some hp
     simp at e1;subst e1
     obtain⟨F',k1,k2⟩:=nb.mem h2 p (List.mem_of_find?_eq_some hp)
     obtain rfl:=sx F F' _ hF k1
     exact k2 as res h
   · simp at h
 · simp only[Mq,Ct] at h
   split at h
   · rename_i p hp
     have e1:=List.find?_some hp
     simp at e1;subst e1
     obtain⟨F',k1,k2⟩:=j0.mem h4 p (List.mem_of_find?_eq_some hp)
     obtain rfl:=sx F F' _ hF k1
     exact k2 caps xs h
   · simp at h
 · simp only[Mq,zP,Option.map_eq_some_iff] at h
   obtain⟨p,hp,rfl⟩:=h
   have e1:=List.find?_some hp
   simp at e1;subst e1
   obtain⟨F',k1,k2⟩:=pM.mem h3 p (List.mem_of_find?_eq_some hp)
   obtain rfl:=sx F F' _ hF k1
   exact k2 C hC as res hr
theorem xq {μ μ':Mu} (h:Le μ μ') (ef: ∀b,¬μ.own b):Below μ.w.heap.size μ.w μ'.w:=
 ⟨h.os,h.tape,h.output,h.size,fun k hk=> (h.bZ k hk (ef k)).1⟩
theorem BK {X:TrEnv} {E:Env} (hE:so X E) {F g:Nat} (hF:X.ig F=some g) {fn:Func} (qV:X.P.funcs[F]? =some fn) (qv: (fn.name== "runtime.NumGoroutine")=false) {cd:Code} (jw:fn.body=some cd)
   {args:List V} {b:Bool} (MC:Ev E g args ⟨.bool b,[]⟩) (hp:V.al args=true) {w:World} {vals:List Value} (hv: ∀φ,ah (free X) (still w φ) args vals):
   Calls X.P F vals.toArray w fun e w'=>e= .returned (.bool b)∧Below w.heap.size w w'∧ ∀a,a.block<w.heap.size→w'.frozen? a=w.frozen? a:=by
 obtain⟨n,hn⟩:=MC
 have hs:cu X F args ⟨.bool b,[]⟩:=sq hE n g F args _ hF hn
 have hO: (enter args).O=fun _=>bj:=oI hp
 have hT: ∀ (t:Nat) (a:V),args[t]? =some a→(enter args).T t=a:=fun t a ha=>by rw[eE hp];simp[List.getD,ha]
 have ym:=hv (fun _=> ⟨0,0,0⟩)
 have hU:=hs (fun _=>False) (0,0) w (fun _=> ⟨0,0,0⟩) vals ym.length.symm (fun t v' yj=>by
   have hl:t<args.length:=by rw[ym.length];exact(List.getElem?_eq_some_iff.1 yj).1
   obtain⟨u,hu,bz⟩:=ym.get (List.getElem?_eq_getElem hl)
   rw[yj] at hu;injection hu with hu;subst hu
   rw[hT t _ (List.getElem?_eq_getElem hl),hO];exact bz) (by
   rw[hO]
   exact⟨fun r es h=>by simp[bj] at h,fun r1 r2 _ h=>by simp[bj] at h,fun r h=>by simp[bj] at h,fun b h=>h.elim⟩)
 have RH: (callFunc F vals.toArray).run X.P w= .ok (.enter F vals.toArray) w:=by
   simp[callFunc,Sem.run_bind,program,Sem.run,qV,jw]
   simpa using qv
 rw[RH] at hU
 simp only[vz] at hU
 refine Calls.mono hU fun e w' he=> ?_
 cases e with
 | panicked c=>exact he.elim
 | outgrown=>exact he.elim
 | returned val=>
   obtain⟨φ',T',O',v0,refs,k1,k2,k3,k4,k5,k6⟩:=he
   have ef: ∀b,¬ (Mu.mk w (fun _=> ⟨0,0,0⟩) (enter args).O).own b:=fun b=>by rw[hO];rintro⟨r,h,_⟩;simp[bj] at h
   refine⟨?_,xq k1 ef,k1.frozen⟩
   · have:=(k4.RB k2 k3).pure rfl
     simp only[aj] at this
     rw[this]
end Go.AM
namespace Go.AM
open Ieee
theorem nc {n k:Nat} (h:n< 2 ^ k) (h0:n≠0):n.log2<k:=(Nat.log2_lt h0).2 h
theorem zs {mag:Nat}:Toward.even.cut false (mag<<< (52 - mag.log2)) (mag.log2 - 52)≤9007199254740992:=by
 have h1:mag< 2 ^ (mag.log2+1):=Nat.lt_log2_self
 have key:mag<<< (52 - mag.log2) / (1 <<< min (mag.log2 - 52) ((mag<<< (52 - mag.log2)).log2+2)) < 9007199254740992:=by
  by_cases he:mag.log2≤52
  · have e2:mag.log2 - 52=0:=by omega
    rw[e2,Nat.zero_min]
    rw[Nat.shiftLeft_eq,Nat.shiftLeft_eq,Nat.pow_zero,Nat.mul_one,Nat.div_one]
    calc mag*2 ^ (52 - mag.log2) < 2 ^ (mag.log2+1)*2 ^ (52 - mag.log2):=Nat.mul_lt_mul_of_pos_right h1 (Nat.two_pow_pos _)
     _=2 ^ 53:=by rw[←Nat.pow_add];congr 1;omega
     _=9007199254740992:=by decide
  · have e1:52 - mag.log2=0:=by omega
    rw[e1]
    simp only[Nat.shiftLeft_zero]
    rw[Nat.min_eq_left (by omega)]
    simp only[Nat.shiftLeft_eq,Nat.one_mul]
    refine Nat.div_lt_of_lt_mul ?_
    calc mag< 2 ^ (mag.log2+1):=h1
     _=2 ^ (mag.log2 - 52)*2 ^ 53:=by rw[←Nat.pow_add];congr 1;omega
     _=2 ^ (mag.log2 - 52)*9007199254740992:=by congr 1
 unfold Toward.cut
 simp only
 generalize mag<<< (52 - mag.log2) / (1 <<< min (mag.log2 - 52) ((mag<<< (52 - mag.log2)).log2+2))=low at key ⊢
 have hb: ∀b:Bool,low+b.toNat≤9007199254740992:=fun b=>by have:=Bool.toNat_le b;omega
 exact hb _
theorem mJ {mag:Nat} {place:Int} (h0:mag≠0) (h1: -1000≤place+mag.log2) (h2:place+mag.log2≤200):
  ∃w:Nat,double.nearest false mag place=w∧w≤4503599627370496*((place+mag.log2+1022).toNat+2):=by
 refine⟨_,rfl,?_⟩
 unfold Format.nearest
 rw[if_neg h0]
 have e1:double.leastPlace= -1074:=by simp[Format.leastPlace,double]
 have e2:double.fractionBits=52:=rfl
 have e3:double.binade=4503599627370496:=by simp[Format.binade,double]
 have e4:max (place+(mag.log2:Int) - (double.fractionBits:Nat)) double.leastPlace=place+mag.log2 - 52:=by
  rw[e1,e2];omega
 rw[e4]
 simp only[Format.word,e1,e3]
 have a1: (place - (place+(mag.log2:Int) - 52)).toNat=52 - mag.log2:=by omega
 have a2: (place+(mag.log2:Int) - 52 - place).toNat=mag.log2 - 52:=by omega
 have a3: (place+(mag.log2:Int) - 52 - -1074).toNat=(place+mag.log2+1022).toNat:=by congr 1;omega
 rw[a1,a2,a3]
 have hk:=zs (mag:=mag)
 simp only[Bool.false_eq_true,if_false]
 refine Nat.le_trans (Nat.min_le_left _ _) ?_
 rw[Nat.mul_add,Nat.mul_comm]
 exact Nat.add_le_add_left hk _
theorem lp:double.leastPlace= -1074:=by simp[Format.leastPlace,double]
theorem bi:double.binade=4503599627370496:=by simp[Format.binade,double]
theorem sw:double.signWeight=9223372036854775808:=by simp[Format.signWeight,double]
theorem ir:double.infRung=9218868437227405312:=by simp[Format.infRung,Format.binade,double]
theorem sy {w T:Nat} (hT:w≤4503599627370496*(T+2)) (hT2:T≤1290): ∃m p,double.read w= .number false m p∧m< 9007199254740992∧ -1074≤p∧p≤ -1072+(T:Int):=by
 have hq:w / 4503599627370496≤T+2:=Nat.div_le_of_le_mul hT
 have h:w≤4503599627370496*1292:=Nat.le_trans hT (Nat.mul_le_mul_left _ (by omega))
 have bJ:w< 9223372036854775808:=Nat.lt_of_le_of_lt h (by decide)
 have jd:w< 9218868437227405312:=Nat.lt_of_le_of_lt h (by decide)
 have h1:w / 9223372036854775808=0:=Nat.div_eq_of_lt bJ
 have h2:w % 9223372036854775808=w:=Nat.mod_eq_of_lt bJ
 have DP: (w / 9223372036854775808 % 2==1)=false:=by rw[h1];rfl
 unfold Format.read
 simp only[lp,bi,sw,ir,h2,DP]
 by_cases hb:w< 4503599627370496
 · simp only[hb,if_true]
   exact⟨w,-1074,rfl,Nat.lt_trans hb (by decide),by decide,by clear h1 h2 DP hb h bJ jd hq hT;omega⟩
 · have hc:=jd
   simp only[hb,hc,if_true,if_false]
   refine⟨4503599627370496+w % 4503599627370496,-1074+((w / 4503599627370496 - 1:Nat):Int),rfl,?_,?_,?_⟩
   · have h9:=Nat.mod_lt w (show 0 < 4503599627370496 by decide)
     clear h1 h2 DP hc hb h bJ jd hT hq
     generalize w % 4503599627370496=r at h9 ⊢
     omega
   · clear h1 h2 DP hc hb h bJ jd hT hq
     generalize w / 4503599627370496 - 1=q
     omega
   · clear h1 h2 DP hc hb h bJ jd hT
     generalize w / 4503599627370496=q at hq ⊢
     omega
theorem lC (n:Nat): ∀ (todo root:Nat),root*root≤n→Datum.rootFrom n todo root*Datum.rootFrom n todo root≤n
 | 0,root,h=>h
 | todo+1,root,h=>by
   unfold Datum.rootFrom
   by_cases h': (root+1 <<< todo)*(root+1 <<< todo)≤n
   · simp only[h',if_true];exact lC n todo _ h'
   · simp only[h',if_false];exact lC n todo _ h
theorem DQ { n:Int} (h0:0 <n) (h1:n≤9223372036854775807):
   ∃r m,FloatKind.f64.format.sqrt (FloatKind.f64.nearest n)=some r∧(FloatKind.f64.decode r).toInt .zero=some m∧0≤m∧m≤9223372036854775807:=by
 have Lh:n.natAbs≠0:=by omega
 have Z9:n.natAbs.log2< 63:=nc (by
   have: (2:Nat) ^ 63=9223372036854775808:=by decide
   omega) Lh
 have eN:FloatKind.f64.nearest n=double.nearest false n.natAbs 0:=by
   have:decide (n< 0)=false:=by simp;omega
   simp only[FloatKind.nearest,FloatKind.encode,FloatKind.format,Format.write,this]
 obtain⟨w,hw,LC⟩:=mJ (mag:=n.natAbs) (place:=0) Lh (by omega) (by omega)
 obtain⟨m,p,hr,hm,XE,hp⟩:=sy LC (by clear LC;omega)
 clear LC
 rw[eN,hw]
 have hpb:p≤13:=by clear hm;omega
 have fin: ∀ (mag:Nat) (place:Int),mag≠0→ -1000≤place+mag.log2→place+mag.log2≤59→
    ∃r k,double.write (.number false mag place)=r∧(double.read r).toInt .zero=some k∧0≤k∧k≤9223372036854775807:=by
   intro mag place g0 g1 g2
   obtain⟨w2,yh,LJ⟩:=mJ (mag:=mag) (place:=place) g0 g1 (by omega)
   obtain⟨m3,p3,Rv,hm3,hp3,aaa⟩:=sy LJ (by clear LJ;omega)
   clear LJ
   have hp9:p3≤9:=by omega
   refine⟨w2,_,yh,by rw[Rv];rfl,?_⟩
   have aab:Toward.zero.cut false (m3<<< p3.toNat) (-p3).toNat≤m3<<< p3.toNat:=by
    unfold Toward.cut
    simp only[Bool.toNat_false,Nat.add_zero]
    exact Nat.div_le_self _ _
   have X9:m3<<< p3.toNat≤m3*512:=by
    rw[Nat.shiftLeft_eq]
    refine Nat.mul_le_mul_left _ ?_
    calc 2 ^ p3.toNat≤2 ^ 9:=Nat.pow_le_pow_right (by omega) (by omega)
      _=512:=by decide
   simp only[signed,Bool.false_eq_true,if_false,Nat.shiftLeft_zero]
   omega
 show ∃r k,(((double.read w).root (double.fractionBits+2)).map double.write)=some r∧(double.read r).toInt .zero=some k∧0≤k∧k≤9223372036854775807
 rw[hr]
 simp only[Datum.root]
 by_cases Bd:m=0
 · subst Bd
   rw[if_pos rfl]
   exact⟨0,0,by simp[Format.write,Format.nearest,Format.word],by decide,by decide,by decide⟩
 · rw[if_neg Bd]
   simp only[Bool.false_eq_true,if_false]
   have e2:double.fractionBits=52:=rfl
   rw[e2]
   have Li:m.log2< 53:=nc (by
    have: (2:Nat) ^ 53=9007199254740992:=by decide
    omega) Bd
   generalize Yi:2*(52+2) - m.log2+((p - (2*(52+2) - m.log2:Nat)) % 2).toNat=more
   have hmb:56≤more∧more≤109:=by omega
   generalize hwh:Datum.rootFrom (m<<< more) ((m<<< more).log2 / 2+1) 0=whole
   have hle:whole*whole≤m<<< more:=by rw[←hwh];exact lC _ _ _ (by simp)
   have hbound:whole< 2 ^ 81:=by
    rw[Nat.shiftLeft_eq] at hle
    have h2:m*2 ^ more< 2 ^ 162:=by
      calc m*2 ^ more< 2 ^ 53*2 ^ more:=Nat.mul_lt_mul_of_pos_right (by
            have: (2:Nat) ^ 53=9007199254740992:=by decide
            omega) (Nat.two_pow_pos _)
       _=2 ^ (53+more):=by rw[←Nat.pow_add]
       _≤2 ^ 162:=Nat.pow_le_pow_right (by omega) (by omega)
    rcases Nat.lt_or_ge whole (2 ^ 81) with h| h
    · exact h
    · have:2 ^ 81*2 ^ 81≤whole*whole:=Nat.mul_le_mul h h
      have e: (2:Nat) ^ 81*2 ^ 81=2 ^ 162:=by rw[←Nat.pow_add]
      omega
   have xe:m<<< more≠0:=by
    rw[Nat.shiftLeft_eq]
    exact Nat.mul_ne_zero Bd (by have:=Nat.two_pow_pos more;omega)
   generalize LK:2*whole+(whole*whole !=m<<< more).toNat=Gs
   have HG:Gs≠0:=by
    intro h
    rw[h] at LK
    have hw0:whole=0:=by omega
    subst hw0
    have: (0*0 !=m<<< more)=true:=by simp;exact fun h=>xe h.symm
    rw[this] at LK
    simp at LK
   have RQ:Gs< 2 ^ 83:=by
    have hb: (whole*whole !=m<<< more).toNat≤1:=Bool.toNat_le _
    have e: (2:Nat) ^ 83=4*2 ^ 81:=by decide
    omega
   have zZ:Gs.log2< 83:=nc RQ HG
   obtain⟨r,k,g1,g2,g3,g4⟩:=fin Gs ((p - more) / 2 - 1) HG (by omega) (by omega)
   refine⟨r,k,?_,g2,g3,g4⟩
   simp only[Option.map_some]
   exact congrArg some g1
end Go.AM
