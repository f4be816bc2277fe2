/-
  Texts of the proof: PTypA, PTypB, PTypC, PTypD.
-/
import Derived.Test.YtjmcpijpclfakaaGreatA
set_option maxRecDepth 20000
set_option linter.unusedSimpArgs false
set_option linter.unusedVariables false
namespace Go.AM
def cH (a b:Int):Int:=if b<a then b else a
def imax (a b:Int):Int:=if a<b then b else a
def dW (n:Int):Int:=imax (-1073741824) (cH n 1073741824)
theorem B5 (n:Int):Ev E 368 [vi n] ⟨vi (dW n),[]⟩:=by
 refine Ev.aG Zt (Zu _) rfl ?_
 (conv=>whnf);repeat' ((first| intro g| refine st ?_| (first| refine b1 ?_ ?_| refine b2 ?_ ?_| refine Br.mk ?_ ?_) <;>intro hc| exact rfl) <;>conv=>whnf)
theorem tP (n:Int):Ev E 418 [vi n] ⟨vi (dW n),[]⟩:=by
 refine Ev.aG Zv (Zw _) rfl ?_
 (conv=>whnf);repeat' ((first| intro g| refine st ?_| (first| refine b1 ?_ ?_| refine b2 ?_ ?_| refine Br.mk ?_ ?_) <;>intro hc| exact rfl) <;>conv=>whnf)
theorem B6 (n:Int):Ev E 428 [vi n] ⟨vi (dW n),[]⟩:=by
 refine Ev.aG Zx (Zy _) rfl ?_
 (conv=>whnf);repeat' ((first| intro g| refine st ?_| (first| refine b1 ?_ ?_| refine b2 ?_ ?_| refine Br.mk ?_ ?_) <;>intro hc| exact rfl) <;>conv=>whnf)
def cI (n:Int):Int:=if n=1 then 1 else if n=2 then 3 else if n=3 then 3 else if n=4 then 1 else if n=5 then 1 else if n=6 then 2 else if n=7 then 1 else if n=8 then 1 else if n=9 then 1 else 0
theorem nine {n:Int} (h: ¬ (n< 1∨9 <n)):n=1∨n=2∨n=3∨n=4∨n=5∨n=6∨n=7∨n=8∨n=9:=by omega
theorem yC {n:Int} (h:n< 1∨9 <n):cI n=0:=by
 unfold cI
 repeat' (rw[if_neg (by omega)])
theorem G1 (n:Int):Ev E 351 [vi n] ⟨vi (cI n),[]⟩:=by
 by_cases h:n< 1∨9 <n
 · have e:=yC h
   rw[e]
   refine Ev.aG Q1 (Q2 _) rfl ?_
   (conv=>whnf);repeat' ((first| intro g| refine st ?_| (first| refine b1 ?_ ?_| refine b2 ?_ ?_| refine Br.mk ?_ ?_) <;>intro hc| exact rfl) <;>conv=>whnf)
   all_goals (exfalso;omega)
 · rcases nine h with rfl| rfl| rfl| rfl| rfl| rfl| rfl| rfl| rfl
   all_goals
    refine Ev.aG Q1 (Q2 _) rfl ?_
    (conv=>whnf);repeat' ((first| intro g| refine bU.mk (by decide) ?_| refine bU.mk (⟨by decide,by decide,rfl,rfl⟩) ?_| refine bD.mk _ (rfl) ?_| refine st ?_| (first| refine b1 ?_ ?_| refine b2 ?_ ?_| refine Br.mk ?_ ?_) <;>intro hc| exact rfl) <;>conv=>whnf)
def many (op:Int):Int:=if op=1∨op=2 then 0 else if op=3 then 1 else if op=13 then 3 else if 4≤op∧op≤12 then 2 else -1
theorem qM (op:Int):Ev E 415 [vi op] ⟨vi (many op),[]⟩:=by
 refine Ev.aG Zz (ZA _) rfl ?_
 unfold many
 (conv=>whnf);repeat' ((first| intro g| refine st ?_| (first| refine b1 ?_ ?_| refine b2 ?_ ?_| refine Br.mk ?_ ?_) <;>intro hc| exact rfl) <;>conv=>whnf)
 all_goals simp[*] <;>omega
def ma (c:Int):Bool:=decide (c< 32) || decide (126 <c) || decide (c=34)
def FF (s:dE):Bool:=s.any fun b=>ma b.toNat
def aM:Va:=⟨0,0,false,[]⟩
def Va.right (v:Va):Bool:=
 if v.t=1 then decide (-1073741824≤v.n) &&decide (v.n≤1073741824) && !v.b &&decide (v.s=[])
 else if v.t=2 then decide (v.n=0) &&decide (v.s=[])
 else if v.t=3 then !FF v.s &&decide (v.n=0) && !v.b &&decide (v.s.length≤24)
 else false
theorem Dx (c:Int):Ev E 425 [.int .i32 c] ⟨.bool (ma c),[]⟩:=by
 refine Ev.aG ZB (ZC _) rfl ?_
 unfold ma
 (conv=>whnf);repeat' ((first| intro g| refine st ?_| (first| refine b1 ?_ ?_| refine b2 ?_ ?_| refine Br.mk ?_ ?_) <;>intro hc| exact rfl) <;>conv=>whnf)
 all_goals simp[*] <;>omega
theorem AK (v:Va) (hlen:v.s.length< 4611686018427387904):Ev E 389 [v.v] ⟨.bool v.right,[]⟩:=by
 obtain⟨t,n,b,s⟩:=v
 dsimp only at hlen
 refine Ev.aG ZD (ZE _) rfl ?_
 simp only[Va.v,Va.right]
 by_cases h1:t=1
 · subst h1
   (conv=>whnf);repeat' ((first| intro g| refine st ?_| (first| refine b1 ?_ ?_| refine b2 ?_ ?_| refine Br.mk ?_ ?_) <;>intro hc| exact rfl) <;>conv=>whnf)
   all_goals simp[*] <;>omega
 by_cases h2:t=2
 · subst h2
   (conv=>whnf);repeat' ((first| intro g| refine st ?_| (first| refine b1 ?_ ?_| refine b2 ?_ ?_| refine Br.mk ?_ ?_) <;>intro hc| exact rfl) <;>conv=>whnf)
   all_goals simp[*] <;>omega
 by_cases h3:t=3
 · subst h3
   (conv=>whnf);repeat' ((first| intro g| refine st ?_| (first| refine b1 ?_ ?_| refine b2 ?_ ?_| refine Br.mk ?_ ?_) <;>intro hc| exact rfl) <;>conv=>whnf)
   refine bj.by (fun i:Nat=> ⟨[(1,.ptr 32 g 0 0),(3,aO i)],[(32,⟨g,4,false,false,some [.agg [vi 3,vi n,.bool b,.str s]]⟩)]⟩) (fun i=>i≤s.length∧ ∀ (j:Nat) (y:UInt8),j<i→s[j]? =some y→ma y.toNat=false) (fun i=>s.length - i) 0 ?_ ?_ ?_
   · (refine⟨?_,?_⟩ <;>repeat' (first| exact True.intro| refine ai ?_| refine And.intro ?_ ?_))
   · simp
   rintro i ⟨hi,eP⟩
   by_cases bY:i<s.length
   · have hx:s[i]? =some s[i]:=bp bY
     generalize s[i]=x at hx
     have Ak:ma x.toNat=true→FF s=true:=fun h=>List.any_eq_true.2 ⟨x,List.mem_of_getElem? hx,h⟩
     have tQ:ma x.toNat=false→ ∀ (j:Nat) (y:UInt8),j<i+1→s[j]? =some y→ma y.toNat=false:=fun h j y hj hy=>by
      by_cases e:j=i
      · subst e
        rw[hx] at hy;injection hy with hy;subst hy;exact h
      · exact eP j y (by omega) hy
     (conv=>whnf);repeat' ((first| intro g| refine bD.mk _ (hx) ?_| refine st ?_| (first| refine b1 ?_ ?_| refine b2 ?_ ?_| refine Br.mk ?_ ?_) <;>intro hc| exact rfl) <;>conv=>whnf)
     · simp[Ak (by simp[ma, *])]
     · simp[Ak (by simp[ma, *])]
     · simp[Ak (by simp[ma, *])]
     · exact bk.mk (i+1) (by first| omega| (dsimp only;omega)) ⟨by omega,tQ (by simp[ma, *] <;>omega)⟩ (by(refine⟨?_,?_⟩ <;>repeat' (first| exact True.intro| refine ai ?_| refine And.intro ?_ ?_)))
   · have hb:FF s=false:=by
      rw[FF,List.any_eq_false]
      intro y hy
      obtain⟨j,hj⟩:=List.mem_iff_getElem?.1 hy
      simp[eP j y (by have:=(List.getElem?_eq_some_iff.1 hj).1;omega) hj]
     (conv=>whnf);repeat' ((first| intro g| refine st ?_| (first| refine b1 ?_ ?_| refine b2 ?_ ?_| refine Br.mk ?_ ?_) <;>intro hc| exact rfl) <;>conv=>whnf)
     · cases b<;>simp_all<;>omega
     · cases b<;>simp_all
     · simp[*]
 · (conv=>whnf);repeat' ((first| intro g| refine st ?_| (first| refine b1 ?_ ?_| refine b2 ?_ ?_| refine Br.mk ?_ ?_) <;>intro hc| exact rfl) <;>conv=>whnf)
   all_goals simp[*]
end Go.AM
namespace Go.AM
theorem Dy {s:dE} {i:Nat} {b:UInt8} (h:s[i]? =some b): (ByteArray.mk s.toArray).get! (i+0)=b:=by
 obtain⟨hl,rfl⟩:=List.getElem?_eq_some_iff.1 h
 simp[ByteArray.get!,hl]
theorem IM {s:dE} {i:Nat} {b:UInt8} (h:s[i]? =some b) (hb:b.toNat< 128):Utf8.decode ⟨s.toArray⟩ i=(b.toNat,1):=by
 unfold Utf8.decode
 simp only[Dy h]
 rw[if_pos hb]
theorem IN {s:dE} {i:Nat} {b:UInt8} (h:s[i]? =some b) (hb: ¬b.toNat< 128):128≤(Utf8.decode ⟨s.toArray⟩ i).1:=by
 unfold Utf8.decode
 simp only[Dy h]
 rw[if_neg hb]
 have hr:128≤Utf8.runeError:=by decide
 split
 · split<;>first| exact hr| omega
 split
 · split
   · rename_i hc
     simp only[Bool.and_eq_true,decide_eq_true_eq] at hc
     dsimp only;omega
   · exact hr
 split
 · split
   · rename_i hc
     simp only[Bool.and_eq_true,decide_eq_true_eq] at hc
     dsimp only;omega
   · exact hr
 exact hr
def FG (s:dE):Int:=firstIdx (fun b:UInt8=>ma b.toNat) s
theorem IP (s:dE) (hlen:s.length< 4611686018427387904):Ev E 437 [.str s,.fn 425 [],.bool true] ⟨vi (FG s),[]⟩:=by
 refine Ev.aG ZF (ZG _) rfl ?_
 (conv=>whnf);repeat' ((first| intro g| refine st ?_| (first| refine b1 ?_ ?_| refine b2 ?_ ?_| refine Br.mk ?_ ?_) <;>intro hc| exact rfl) <;>conv=>whnf)
 refine bj.by (fun i:Nat=> ⟨[(1,.fn 425 []),(2,.bool true),(10,.it 176 g)],[(176,⟨g,0,false,false,some [.str s,.int .i64 (i:Int)]⟩)]⟩) (fun i=>i≤s.length∧ ∀ (j:Nat) (y:UInt8),j<i→s[j]? =some y→ma y.toNat=false) (fun i=>s.length - i) 0 ?_ ?_ ?_
 · (refine⟨?_,?_⟩ <;>repeat' (first| exact True.intro| refine ai ?_| refine And.intro ?_ ?_))
 · simp
 rintro i ⟨hi,eP⟩
 by_cases bY:i<s.length
 · have hx:s[i]? =some s[i]:=bp bY
   generalize s[i]=x at hx
   by_cases hb:x.toNat< 128
   · have hd:=IM hx hb
     have sq: (Utf8.decode ⟨s.toArray⟩ i).1=x.toNat:=by rw[hd]
     have Da: (Utf8.decode ⟨s.toArray⟩ i).2=1:=by rw[hd]
     have ei:Ev E 425 [.int .i32 (((Utf8.decode ⟨s.toArray⟩ i).1:Nat):Int)] ⟨.bool (ma x.toNat),[]⟩:=by rw[sq];exact Dx _
     cases Ak:ma x.toNat with
     | true=>
       rw[Ak] at ei
       have hf:FG s=(i:Int):=ec eP hx Ak
       (conv=>whnf);repeat' ((first| intro g| refine av.mk _ (ei) ?_| refine st ?_| (first| refine b1 ?_ ?_| refine b2 ?_ ?_| refine Br.mk ?_ ?_) <;>intro hc| exact rfl) <;>conv=>whnf)
       simp[hf]
     | false=>
       rw[Ak] at ei
       have tQ: ∀ (j:Nat) (y:UInt8),j<i+1→s[j]? =some y→ma y.toNat=false:=fun j y hj hy=>by
        by_cases e:j=i
        · subst e
          rw[hx] at hy;injection hy with hy;subst hy;exact Ak
        · exact eP j y (by omega) hy
       (conv=>whnf);repeat' ((first| intro g| refine av.mk _ (ei) ?_| refine st ?_| (first| refine b1 ?_ ?_| refine b2 ?_ ?_| refine Br.mk ?_ ?_) <;>intro hc| exact rfl) <;>conv=>whnf)
       simp only[Int.toNat_natCast,Da]
       exact bk.mk (i+1) (by first| omega| (dsimp only;omega)) ⟨by omega,tQ⟩ (by(refine⟨?_,?_⟩ <;>repeat' (first| exact True.intro| refine ai ?_| refine And.intro ?_ ?_)))
   · have hd:=IN hx hb
     have Ak:ma x.toNat=true:=by simp[ma];omega
     have ei:Ev E 425 [.int .i32 (((Utf8.decode ⟨s.toArray⟩ i).1:Nat):Int)] ⟨.bool true,[]⟩:=by
       have:ma (((Utf8.decode ⟨s.toArray⟩ i).1:Nat):Int)=true:=by simp[ma];omega
       rw[←this];exact Dx _
     have hf:FG s=(i:Int):=ec eP hx Ak
     (conv=>whnf);repeat' ((first| intro g| refine av.mk _ (ei) ?_| refine st ?_| (first| refine b1 ?_ ?_| refine b2 ?_ ?_| refine Br.mk ?_ ?_) <;>intro hc| exact rfl) <;>conv=>whnf)
     simp[hf]
 · have hf:FG s= -1:=firstIdx_none fun j y hy=>eP j y (by have:=(List.getElem?_eq_some_iff.1 hy).1;omega) hy
   (conv=>whnf);repeat' ((first| intro g| refine st ?_| (first| refine b1 ?_ ?_| refine b2 ?_ ?_| refine Br.mk ?_ ?_) <;>intro hc| exact rfl) <;>conv=>whnf)
   simp[hf]
theorem KG (s:dE):decide (FG s< 0)= !FF s:=by
 have h:=fJ (fun b:UInt8=>ma b.toNat) s
 rw[FF,h,FG]
 by_cases h0:0≤firstIdx (fun b:UInt8=>ma b.toNat) s
 · rw[decide_eq_true h0,decide_eq_false (by omega)];rfl
 · rw[decide_eq_false h0,decide_eq_true (by omega)];rfl
theorem IQ (s:dE) (hlen:s.length< 4611686018427387904):Ev E 424 [.str s,.fn 425 []] ⟨vi (FG s),[]⟩:=by
 have h:=IP s hlen
 refine Ev.aG ZH (ZI _) rfl ?_
 (conv=>whnf);repeat' ((first| intro g| refine av.mk _ (h) ?_| refine st ?_| (first| refine b1 ?_ ?_| refine b2 ?_ ?_| refine Br.mk ?_ ?_) <;>intro hc| exact rfl) <;>conv=>whnf)
def Va.NW (v:Va):V:=if v.right then(if v.t=1 then .iface 3 (vi v.n) else if v.t=2 then .iface 4 (.bool v.b) else .iface 9 (.str v.s)) else .nili
theorem jb (n:Int):Ev E 391 [.iface 3 (vi n)] ⟨(Va.mk 1 n false []).v,[]⟩:=by
 refine Ev.aG G2 (G3 _) rfl ?_
 (conv=>whnf);repeat' ((first| intro g| refine st ?_| (first| refine b1 ?_ ?_| refine b2 ?_ ?_| refine Br.mk ?_ ?_) <;>intro hc| exact rfl) <;>conv=>whnf)
theorem tT (b:Bool):Ev E 391 [.iface 4 (.bool b)] ⟨(Va.mk 2 0 b []).v,[]⟩:=by
 refine Ev.aG G2 (G3 _) rfl ?_
 (conv=>whnf);repeat' ((first| intro g| refine st ?_| (first| refine b1 ?_ ?_| refine b2 ?_ ?_| refine Br.mk ?_ ?_) <;>intro hc| exact rfl) <;>conv=>whnf)
theorem pF (s:dE):Ev E 391 [.iface 9 (.str s)] ⟨(Va.mk 3 0 false s).v,[]⟩:=by
 refine Ev.aG G2 (G3 _) rfl ?_
 (conv=>whnf);repeat' ((first| intro g| refine st ?_| (first| refine b1 ?_ ?_| refine b2 ?_ ?_| refine Br.mk ?_ ?_) <;>intro hc| exact rfl) <;>conv=>whnf)
theorem pG:Ev E 391 [.nili] ⟨aM.v,[]⟩:=by
 refine Ev.aG G2 (G3 _) rfl ?_
 (conv=>whnf);repeat' ((first| intro g| refine st ?_| (first| refine b1 ?_ ?_| refine b2 ?_ ?_| refine Br.mk ?_ ?_) <;>intro hc| exact rfl) <;>conv=>whnf)
theorem Sq {n:Int}:n=dW n↔ -1073741824≤n∧n≤1073741824:=by
 unfold dW imax cH
 split<;>split<;>omega
theorem AL (v:Va) (hlen:v.s.length< 4611686018427387904):Ev E 404 [v.v] ⟨v.NW,[]⟩:=by
 obtain⟨t,n,b,s⟩:=v
 dsimp only at hlen
 have hl:=tP n
 have hs:=IQ s hlen
 have hsn:=KG s
 have KH:= @Sq n
 have e1: (0==n)=decide (n=0):=by rw[Bool.eq_iff_iff];simp;omega
 clear hlen
 refine Ev.aG ZJ (ZK _) rfl ?_
 simp only[Va.v,Va.NW,Va.right]
 by_cases h1:t=1
 · subst h1
   (conv=>whnf);repeat' ((first| intro g| refine av.mk _ (hl) ?_| refine av.mk _ (jb n) ?_| refine av.mk _ (pG) ?_| refine st ?_| (first| refine b1 ?_ ?_| refine b2 ?_ ?_| refine Br.mk ?_ ?_) <;>intro hc| exact rfl) <;>conv=>whnf)
   all_goals (clear e1 hsn hl hs;rw[KH] at*;cases b<;>cases s<;>simp_all<;>omega)
 by_cases h2:t=2
 · subst h2
   (conv=>whnf);repeat' ((first| intro g| refine av.mk _ (tT b) ?_| refine st ?_| (first| refine b1 ?_ ?_| refine b2 ?_ ?_| refine Br.mk ?_ ?_) <;>intro hc| exact rfl) <;>conv=>whnf)
   all_goals (clear hsn KH hl hs;rw[e1] at*;clear e1;by_cases vc:n=0 <;>cases s<;>simp_all)
 by_cases h3:t=3
 · subst h3
   (conv=>whnf);repeat' ((first| intro g| refine av.mk _ (hs) ?_| refine av.mk _ (pF s) ?_| refine av.mk _ (pG) ?_| refine st ?_| (first| refine b1 ?_ ?_| refine b2 ?_ ?_| refine Br.mk ?_ ?_) <;>intro hc| exact rfl) <;>conv=>whnf)
   all_goals (clear KH hl hs;simp only[e1] at*;clear e1;by_cases vc:n=0 <;>cases b<;>cases hb:FF s<;>simp_all<;>omega)
 · (conv=>whnf);repeat' ((first| intro g| refine av.mk _ (pG) ?_| refine st ?_| (first| refine b1 ?_ ?_| refine b2 ?_ ?_| refine Br.mk ?_ ?_) <;>intro hc| exact rfl) <;>conv=>whnf)
   all_goals simp[h1,h2,h3]
end Go.AM
namespace Go.AM
structure b5 where
 kind:Int
 cls:dE
 name:dE
 weight:Int
 level:Int
 cg:Bool
 scale:Int
 hour:Int
 reader:Int
def b5.v (x:b5):V:= .agg [vi x.kind,.str x.cls,.str x.name,vi x.weight,vi x.level,.bool x.cg,vi x.scale,vi x.hour,vi x.reader]
def b5.val (x:b5) (n:Int):Va:=
 if n=1 then⟨1,dW x.kind,false,[]⟩ else if n=2 then⟨3,0,false,x.cls⟩ else if n=3 then⟨3,0,false,x.name⟩
 else if n=4 then⟨1,dW x.weight,false,[]⟩ else if n=5 then⟨1,dW x.level,false,[]⟩ else if n=6 then⟨2,0,x.cg,[]⟩
 else if n=7 then⟨1,dW x.scale,false,[]⟩ else if n=8 then⟨1,dW x.hour,false,[]⟩ else if n=9 then⟨1,dW x.reader,false,[]⟩ else aM
def mc (v:Va):V:=if v.t=1 then .iface 3 (vi v.n) else if v.t=2 then .iface 4 (.bool v.b) else if v.t=3 then .iface 9 (.str v.s) else .nili
theorem G4 (x:b5) {n:Int} (h:n< 1∨9 <n):x.val n=aM:=by
 unfold b5.val
 repeat' (rw[if_neg (by omega)])
theorem ZL (x:b5) (n:Int): (x.val n).t=cI n:=by
 unfold b5.val cI
 repeat' split
 all_goals rfl
theorem pH (x:b5) (n:Int):Ev E 405 [x.v,vi n] ⟨mc (x.val n),[]⟩:=by
 by_cases h:n< 1∨9 <n
 · rw[G4 x h]
   refine Ev.aG Q3 (Q4 _) rfl ?_
   simp only[b5.v]
   (conv=>whnf);repeat' ((first| intro g| refine st ?_| (first| refine b1 ?_ ?_| refine b2 ?_ ?_| refine Br.mk ?_ ?_) <;>intro hc| exact rfl) <;>conv=>whnf)
   all_goals (exfalso;omega)
 · rcases nine h with rfl| rfl| rfl| rfl| rfl| rfl| rfl| rfl| rfl
   all_goals
    refine Ev.aG Q3 (Q4 _) rfl ?_
    simp only[b5.v]
    (conv=>whnf);repeat' ((first| intro g| refine av.mk _ (tP _) ?_| refine st ?_| (first| refine b1 ?_ ?_| refine b2 ?_ ?_| refine Br.mk ?_ ?_) <;>intro hc| exact rfl) <;>conv=>whnf)
theorem NX (x:b5) {n:Int} (h: ¬ (n< 1∨9 <n)):Ev E 337 [x.v,vi n] ⟨(x.val n).v,[]⟩:=by
 rcases nine h with rfl| rfl| rfl| rfl| rfl| rfl| rfl| rfl| rfl
 all_goals
  refine Ev.aG ZM (ZN _) rfl ?_
  simp only[b5.v]
  (conv=>whnf);repeat' ((first| intro g| refine av.mk _ (B5 _) ?_| refine av.mk _ (BP _) ?_| refine av.mk _ (GW _) ?_| refine av.mk _ (ya _) ?_| refine st ?_| (first| refine b1 ?_ ?_| refine b2 ?_ ?_| refine Br.mk ?_ ?_) <;>intro hc| exact rfl) <;>conv=>whnf)
theorem Dz (x:b5) (n:Int):Ev E 391 [mc (x.val n)] ⟨(x.val n).v,[]⟩:=by
 by_cases h:n< 1∨9 <n
 · rw[G4 x h];exact pG
 · rcases nine h with rfl| rfl| rfl| rfl| rfl| rfl| rfl| rfl| rfl
   · exact jb _
   · exact pF _
   · exact pF _
   · exact jb _
   · exact jb _
   · exact tT _
   · exact jb _
   · exact jb _
   · exact jb _
theorem KI (v:Va):Ev E 391 [v.NW] ⟨(if v.right then v else aM).v,[]⟩:=by
 unfold Va.NW
 by_cases h:v.right=true
 · simp only[h,if_true]
   obtain⟨t,n,b,s⟩:=v
   unfold Va.right at h
   dsimp only at h ⊢
   by_cases h1:t=1
   · subst h1
     simp only[if_true,Bool.and_eq_true,Bool.not_eq_true',decide_eq_true_eq] at h ⊢
     obtain⟨⟨_,rfl⟩,rfl⟩:=h
     exact jb _
   by_cases h2:t=2
   · subst h2
     simp only[if_true,reduceCtorEq,Int.reduceEq,if_false,Bool.and_eq_true,Bool.not_eq_true',decide_eq_true_eq] at h ⊢
     obtain⟨rfl,rfl⟩:=h
     exact tT _
   by_cases h3:t=3
   · subst h3
     simp only[if_true,reduceCtorEq,Int.reduceEq,if_false,Bool.and_eq_true,Bool.not_eq_true',decide_eq_true_eq] at h ⊢
     obtain⟨⟨⟨_,rfl⟩,rfl⟩,_⟩:=h
     exact pF _
   · simp[h1,h2,h3] at h
 · simp only[h]
   exact pG
def c3l:Nat→Int→Int→Int→List V
 | 0,_,_,_=> []
 | 1,x,_,_=> [vi x]
 | 2,x,y,_=> [vi x,vi y]
 | _+3,x,y,z=> [vi x,vi y,vi z]
def AN (op:Int):Int:=if op=1∨op=2 then 0 else if op=3 then 1 else if op=4∨op=5 then 1 else if op=6 then 2 else if op=7 then 3 else if 8≤op∧op≤12 then 4 else if op=13 then 5 else 0
theorem mY (op:Int):Ev E 401 [vi op] ⟨.tuple [vi (AN op),vi (many op)],[]⟩:=by
 refine Ev.aG ZO (ZP _) rfl ?_
 unfold AN many
 (conv=>whnf);repeat' ((first| intro g| refine st ?_| (first| refine b1 ?_ ?_| refine b2 ?_ ?_| refine Br.mk ?_ ?_) <;>intro hc| exact rfl) <;>conv=>whnf)
 all_goals simp[*] <;>omega
theorem Sr (u t:Int):Ev E 403 [vi u,.eptr (vi t) 0] ⟨.bool (decide (u≠t)),[]⟩:=by
 refine Ev.aG ZQ (ZR _) rfl ?_
 (conv=>whnf);repeat' ((first| intro g| refine st ?_| (first| refine b1 ?_ ?_| refine b2 ?_ ?_| refine Br.mk ?_ ?_) <;>intro hc| exact rfl) <;>conv=>whnf)
 all_goals simp
theorem B7 (t:Int) {l:List Int} {sv:V} (hs:td 1 (l.map vi) sv) (hlen:l.length< 4611686018427387904):Ev E 402 [vi t,.eptr sv 0] ⟨.bool (!l.any fun u=>decide (u≠t)),[]⟩:=by
 have h:=IA hs (g:=403) (caps:=[.eptr (vi t) 0]) rfl hlen (p:=fun u=>decide (u≠t)) (fun x _=>Sr x t) rfl
 refine Ev.aG ZS (ZT _) rfl ?_
 rcases hs with rfl| ⟨h0,rfl⟩
 all_goals (conv=>whnf);repeat' ((first| intro g| refine av.mk _ (h) ?_| refine st ?_| (first| refine b1 ?_ ?_| refine b2 ?_ ?_| refine Br.mk ?_ ?_) <;>intro hc| exact rfl) <;>conv=>whnf)
end Go.AM
namespace Go.AM
def tU (op:Int):List Int→Int
 | [a]=>if a=2 then 2 else 0
 | [a,b]=>if op=4∨op=5 then(if a=2∧b=2 then 2 else 0) else if op=6 then(if a=b then 2 else 0) else if op=7 then(if a=1∧b=1 then 2 else 0) else(if a=1∧b=1 then 1 else 0)
 | [a,b,c]=>if a=2∧b=c then b else 0
 | _=>0
def Va.zero (v:Va):Bool:=decide (v.t=0) &&decide (v.n=0) && !v.b &&decide (v.s=[])
def eJ (op var:Int) (val:Va) (n:Nat):Bool:=decide (many op=(n:Int)) && (decide (op=1) || val.zero) && (decide (op=2) || decide (var=0))
def jt (op var:Int) (val:Va) (n:Nat) (ts:List Int):Int:=
 if eJ op var val n=true then
  if op=1 then(if val.right then val.t else 0)
  else if op=2 then cI var
  else if 0 ∈ ts then 0 else tU op ts
 else 0
mutual
def Ex.b4:Ex→Int
 | .mk op var val nl l=>jt op var val l.length (Ex.xq l)
def Ex.xq:List Ex→List Int
 | []=> []
 | e::l=>e.b4::Ex.xq l
end
theorem Ex.G5: ∀l:List Ex,Ex.xq l=l.map Ex.b4
 | []=>by simp[Ex.xq]
 | e::l=>by simp[Ex.xq,Ex.G5 l]
theorem Ex.pI (op var:Int) (val:Va) (nl:Bool) (l:List Ex): (Ex.mk op var val nl l).b4=jt op var val l.length (l.map Ex.b4):=by
 simp only[Ex.b4,Ex.G5]
inductive Ex.Fit:Ex→Prop where
 | mk (op var:Int) (val:Va) (nl:Bool) (l:List Ex):val.s.length< 4611686018427387904→(∀x ∈ l,x.Fit)→Ex.Fit (.mk op var val nl l)
theorem Ex.Fit.val {op var:Int} {val:Va} {nl:Bool} {l:List Ex} (h: (Ex.mk op var val nl l).Fit):val.s.length< 4611686018427387904:=by
 cases h;assumption
theorem Ex.Fit.mem {op var:Int} {val:Va} {nl:Bool} {l:List Ex} (h: (Ex.mk op var val nl l).Fit): ∀x ∈ l,x.Fit:=by
 cases h;assumption
theorem Ex.db (x:Ex): ∃a b c d e f L,x.v= .agg [vi a,vi b,vi c,vi d,.bool e,.str f,L]∧V.aj L=true∧V.ae [.agg [vi a,vi b,vi c,vi d,.bool e,.str f,L]]=true:=by
 have h:=x.pure
 obtain⟨op,var,val,nl,l⟩:=x
 rw[Ex.bN] at h
 refine⟨_,_,_,_,_,_,_,Ex.bN ..,?_,?_⟩
 · simpa [V.aj,V.ae] using h
 · simp only[V.ae,h,Bool.and_true]
def c3:Nat→Int→Int→Int→List V
 | 0,_,_,_=> [vi 0,vi 0,vi 0]
 | 1,x,_,_=> [vi x,vi 0,vi 0]
 | 2,x,y,_=> [vi x,vi y,vi 0]
 | _+3,x,y,z=> [vi x,vi y,vi z]
theorem cP (nl:Bool) (x:V) (xs:List V):lv nl (x::xs)= .lit 7 (x::xs):=rfl
theorem yD {v:Va}:v.zero=true↔v=aM:=by
 obtain⟨t,n,b,s⟩:=v
 simp[Va.zero,aM]
 constructor
 · rintro⟨⟨⟨rfl,rfl⟩,rfl⟩,rfl⟩;exact⟨rfl,rfl,rfl,rfl⟩
 · rintro⟨rfl,rfl,rfl,rfl⟩;exact⟨⟨⟨rfl,rfl⟩,rfl⟩,rfl⟩
end Go.AM
