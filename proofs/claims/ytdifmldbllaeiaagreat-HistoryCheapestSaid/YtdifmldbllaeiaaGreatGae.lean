/- Texts of the proof. -/
import Derived.Test.YtdifmldbllaeiaaGreatGad
set_option maxRecDepth 20000
set_option maxHeartbeats 4000000
set_option linter.unusedSimpArgs false
set_option linter.unusedVariables false
namespace Go.AM.Dr
theorem E1 (a b c d:Pt): ∃r:Int,Ev E 222 [a.v,b.v,c.v,d.v] ⟨vi r,[]⟩:=by
 refine bp (Ev.bH rfl rfl rfl ?_)
 have hb:Ev E 251 [.lit 2 [a.v,b.v,c.v,d.v]] ⟨.bool (Vx [a,b,c,d]),[]⟩:=wC [a,b,c,d] (by simp)
 obtain⟨p1,q1,h1⟩:=Ew a b
 obtain⟨p2,q2,h2⟩:=Ew c d
 conv=>whnf
 repeat' (first| intro g| refine nd ⟨rfl,rfl,rfl⟩ ?_| apply ca hb| apply ca (tU _ _ _) | apply ca h1| apply ca h2| apply ca (RZ _ _) | apply ca (R0 _ _) | apply ca (pE _ _) | refine st ?_| refine br ?_ ?_<;>intro hc| rfl) <;>conv=>whnf
 all_goals exact⟨_,rfl⟩
noncomputable def aaa (a b c d:Pt):Int:=(E1 a b c d).choose
theorem JA (a b c d:Pt):Ev E 222 [a.v,b.v,c.v,d.v] ⟨vi (aaa a b c d),[]⟩:=(E1 a b c d).choose_spec
theorem JB (a b p:Pt): ∃r:Bool,Ev E 223 [a.v,b.v,p.v] ⟨.bool r,[]⟩:=by
 refine bp (Ev.bH rfl rfl rfl ?_)
 conv=>whnf
 repeat' (first| intro g| apply ca (JA _ _ _ _) | refine st ?_| refine br ?_ ?_<;>intro hc| rfl) <;>conv=>whnf
 all_goals exact⟨_,rfl⟩
noncomputable def aef (a b p:Pt):Bool:=(JB a b p).choose
theorem OA (a b p:Pt):Ev E 223 [a.v,b.v,p.v] ⟨.bool (aef a b p),[]⟩:=(JB a b p).choose_spec
theorem wE (a b c d:Pt): ∃r:Int,Ev E 184 [.agg [vi a.x,vi a.y,vi b.x,vi b.y],.agg [vi c.x,vi c.y,vi d.x,vi d.y]] ⟨vi r,[]⟩:=by
 refine bp (Ev.bH rfl rfl rfl ?_)
 conv=>whnf
 repeat' (first| intro g| apply ca (JA a b c d) | refine st ?_| refine br ?_ ?_<;>intro hc| rfl) <;>conv=>whnf
 all_goals exact⟨_,rfl⟩
noncomputable def OB (a b c d:Pt):Int:=(wE a b c d).choose
theorem yX (a b c d:Pt):Ev E 184 [.agg [vi a.x,vi a.y,vi b.x,vi b.y],.agg [vi c.x,vi c.y,vi d.x,vi d.y]] ⟨vi (OB a b c d),[]⟩:=(wE a b c d).choose_spec
theorem BA (a b p:Pt): ∃r:Bool,Ev E 186 [.agg [vi a.x,vi a.y,vi b.x,vi b.y],p.v] ⟨.bool r,[]⟩:=by
 refine bp (Ev.bH rfl rfl rfl ?_)
 conv=>whnf
 repeat' (first| intro g| apply ca (OA a b p) | refine st ?_| refine br ?_ ?_<;>intro hc| rfl) <;>conv=>whnf
 all_goals exact⟨_,rfl⟩
noncomputable def Vy (a b p:Pt):Bool:=(BA a b p).choose
theorem E2 (a b p:Pt):Ev E 186 [.agg [vi a.x,vi a.y,vi b.x,vi b.y],p.v] ⟨.bool (Vy a b p),[]⟩:=(BA a b p).choose_spec
theorem E3 (a b c:Int): ∃r:Int,Ev E 429 [.lit 1 [vi a,vi b,vi c]] ⟨vi r,[]⟩:=by
 refine bp (Ev.bH rfl rfl rfl ?_)
 conv=>whnf
 repeat' (first| intro g| refine st ?_| refine br ?_ ?_<;>intro hc| rfl) <;>conv=>whnf
 refine aO.by (fun ((i,r):Nat×Int)=> ⟨[(0,.lit 1 [vi a,vi b,vi c]),(3,vi r),(4,ar (i+1))],[]⟩)
  (fun (i,_)=>i≤2) (fun (i,_)=>2 - i) (0,a) su (by simp) ?_
 rintro⟨i,r⟩ hi
 try dsimp only at hi
 rcases(by omega:i=0∨i=1∨i=2) with rfl| rfl| rfl
 ·conv=>whnf
  repeat' (first| intro g| refine st ?_| refine br ?_ ?_<;>intro hc| rfl) <;>conv=>whnf
  exact aK.mk (1,_) om (by simp) su
 ·conv=>whnf
  repeat' (first| intro g| refine st ?_| refine br ?_ ?_<;>intro hc| rfl) <;>conv=>whnf
  exact aK.mk (2,_) om (by simp) su
 ·conv=>whnf
  repeat' (first| intro g| refine st ?_| refine br ?_ ?_<;>intro hc| rfl) <;>conv=>whnf
  exact⟨_,rfl⟩
noncomputable def aab (a b c:Int):Int:=(E3 a b c).choose
theorem R1 (a b c:Int):Ev E 429 [.lit 1 [vi a,vi b,vi c]] ⟨vi (aab a b c),[]⟩:=(E3 a b c).choose_spec
theorem E4 (a b c:Int): ∃r:Int,Ev E 430 [.lit 1 [vi a,vi b,vi c]] ⟨vi r,[]⟩:=by
 refine bp (Ev.bH rfl rfl rfl ?_)
 conv=>whnf
 repeat' (first| intro g| refine st ?_| refine br ?_ ?_<;>intro hc| rfl) <;>conv=>whnf
 refine aO.by (fun ((i,r):Nat×Int)=> ⟨[(0,.lit 1 [vi a,vi b,vi c]),(3,vi r),(4,ar (i+1))],[]⟩)
  (fun (i,_)=>i≤2) (fun (i,_)=>2 - i) (0,a) su (by simp) ?_
 rintro⟨i,r⟩ hi
 try dsimp only at hi
 rcases(by omega:i=0∨i=1∨i=2) with rfl| rfl| rfl
 ·conv=>whnf
  repeat' (first| intro g| refine st ?_| refine br ?_ ?_<;>intro hc| rfl) <;>conv=>whnf
  exact aK.mk (1,_) om (by simp) su
 ·conv=>whnf
  repeat' (first| intro g| refine st ?_| refine br ?_ ?_<;>intro hc| rfl) <;>conv=>whnf
  exact aK.mk (2,_) om (by simp) su
 ·conv=>whnf
  repeat' (first| intro g| refine st ?_| refine br ?_ ?_<;>intro hc| rfl) <;>conv=>whnf
  exact⟨_,rfl⟩
noncomputable def aac (a b c:Int):Int:=(E4 a b c).choose
theorem R2 (a b c:Int):Ev E 430 [.lit 1 [vi a,vi b,vi c]] ⟨vi (aac a b c),[]⟩:=(E4 a b c).choose_spec
theorem JC (a b c p:Pt): ∃r:Bool,Ev E 565 [a.v,b.v,c.v,p.v] ⟨.bool r,[]⟩:=by
 refine bp (Ev.bH rfl rfl rfl ?_)
 conv=>whnf
 repeat' (first| intro g| apply ca (tU _ _ _) | apply ca (OA _ _ _) | apply ca (R1 _ _ _) | apply ca (R2 _ _ _) | refine st ?_| refine br ?_ ?_<;>intro hc| rfl) <;>conv=>whnf
 all_goals exact⟨_,rfl⟩
noncomputable def aeg (a b c p:Pt):Bool:=(JC a b c p).choose
theorem OC (a b c p:Pt):Ev E 565 [a.v,b.v,c.v,p.v] ⟨.bool (aeg a b c p),[]⟩:=(JC a b c p).choose_spec
theorem JD (a b c p:Pt): ∃r:Bool,Ev E 556 [a.v,b.v,c.v,p.v] ⟨.bool r,[]⟩:=by
 refine bp (Ev.bH rfl rfl rfl ?_)
 have hr:Ev E 181 [.lit 2 [a.v,b.v,c.v,p.v]] ⟨.bool (CT [a,b,c,p]),[]⟩:=yW [a,b,c,p] (by simp)
 conv=>whnf
 repeat' (first| intro g| apply ca hr| apply ca (OC _ _ _ _) | refine st ?_| refine br ?_ ?_<;>intro hc| rfl) <;>conv=>whnf
 all_goals exact⟨_,rfl⟩
noncomputable def aeh (a b c p:Pt):Bool:=(JD a b c p).choose
theorem Vz (a b c p:Pt):Ev E 556 [a.v,b.v,c.v,p.v] ⟨.bool (aeh a b c p),[]⟩:=(JD a b c p).choose_spec
end Go.AM.Dr
namespace Go.AM.Dr
theorem E5 (a b c d p:Pt): ∃r:Bool,Ev E 566 [p.v,.eptr (.agg [vi a.x,vi a.y,vi b.x,vi b.y]) 0,.eptr (.agg [vi c.x,vi c.y,vi d.x,vi d.y]) 0] ⟨.bool r,[]⟩:=by
 refine bp (Ev.bH rfl rfl rfl ?_)
 conv=>whnf
 repeat' (first| intro g| apply ca (E2 a b p) | apply ca (E2 c d p) | refine st ?_| refine br ?_ ?_<;>intro hc| rfl) <;>conv=>whnf
 all_goals exact⟨_,rfl⟩
noncomputable def aad (a b c d p:Pt):Bool:=(E5 a b c d p).choose
theorem tH (a b c d p:Pt):Ev E 566 [p.v,.eptr (.agg [vi a.x,vi a.y,vi b.x,vi b.y]) 0,.eptr (.agg [vi c.x,vi c.y,vi d.x,vi d.y]) 0] ⟨.bool (aad a b c d p),[]⟩:=(E5 a b c d p).choose_spec
theorem HJ (l:List Pt) (hl:l.length< 1000000): ∃r:Bool,Ev E 183 [.lit 2 (l.map Pt.v)] ⟨.bool r,[]⟩:=by
 refine bp (Ev.bH rfl rfl rfl ?_)
 by_cases h3:3 <l.length
 ·obtain⟨x,hx⟩: ∃x,l[0]? =some x:=⟨_,aL (by omega)⟩
  obtain⟨y,hy⟩: ∃y,l[l.length - 1]? =some y:=⟨_,aL (by omega)⟩
  have hw:IntKind.i64.wrap (((l.map Pt.v).length:Int) - 1)=((l.length - 1:Nat):Int):=by
   rw[List.length_map];exact wt
  conv=>whnf
  repeat' (first| intro g| refine wi (av hx rfl) ?_| refine wi (av hy hw) ?_| refine st ?_| refine br ?_ ?_<;>intro hc| rfl) <;>conv=>whnf
  all_goals exact⟨_,rfl⟩
 ·exact dr
theorem tl0 {Q:aP→SS→Prop} {i xN pD oi HK xk g:Nat} {a b c d e p:Pt} {L:List V} (hL:L[i]? =some p.v) (hi:i< 2)
  (hR: ∀T' O',lk T' 10=some (.bool true)→Q .ret ⟨T',O'⟩)
  (hN: ∀T' O',SS.Sub ⟨[(5,.ptr 96 xN 0 0),(6,.ptr 112 pD 0 0),(7,.ptr 128 oi 0 0),(8,.ptr 144 HK 0 0),(9,.ptr 160 xk 0 0),(28,.sl 464 g 0 2),(29,ar 2),(30,ar (i+1))],
    [(96,⟨xN,2,false,false,some [a.v]⟩),(112,⟨pD,2,false,false,some [b.v]⟩),(128,⟨oi,2,false,false,some [c.v]⟩),(144,⟨HK,2,false,false,some [d.v]⟩),(160,⟨xk,2,false,false,some [e.v]⟩),(464,⟨g,2,true,false,some L⟩)]⟩ ⟨T',O'⟩→Q .normal ⟨T',O'⟩):
  km E RL ⟨[(5,.ptr 96 xN 0 0),(6,.ptr 112 pD 0 0),(7,.ptr 128 oi 0 0),(8,.ptr 144 HK 0 0),(9,.ptr 160 xk 0 0),(28,.sl 464 g 0 2),(29,ar 2),(30,ar i)],
    [(96,⟨xN,2,false,false,some [a.v]⟩),(112,⟨pD,2,false,false,some [b.v]⟩),(128,⟨oi,2,false,false,some [c.v]⟩),(144,⟨HK,2,false,false,some [d.v]⟩),(160,⟨xk,2,false,false,some [e.v]⟩),(464,⟨g,2,true,false,some L⟩)]⟩ Q:=by
 conv=>whnf
 repeat' (first| intro g| refine wi hL ?_| apply ca (OC _ _ _ _) | refine st ?_| refine br ?_ ?_<;>intro hc| rfl) <;>conv=>whnf
 all_goals first| exact hR _ _ rfl| exact hN _ _ su
theorem tl1 {Q:aP→SS→Prop} {i xN oi HL g:Nat} {a c d e x y:Pt} {L:List V} (hL:L[i]? =some (.agg [vi x.x,vi x.y,vi y.x,vi y.y])) (hi:i< 3)
  (hR: ∀T' O',lk T' 10=some (.bool true)→Q .ret ⟨T',O'⟩)
  (hN: ∀T' O',SS.Sub ⟨[(5,.ptr 96 xN 0 0),(7,.ptr 128 oi 0 0),(13,.ptr 224 HL 0 0),(62,.sl 1008 g 0 3),(63,ar 3),(64,ar (i+1))],
    [(96,⟨xN,2,false,false,some [a.v]⟩),(128,⟨oi,2,false,false,some [c.v]⟩),(224,⟨HL,4,false,false,some [.agg [vi d.x,vi d.y,vi e.x,vi e.y]]⟩),(1008,⟨g,4,true,false,some L⟩)]⟩ ⟨T',O'⟩→Q .normal ⟨T',O'⟩):
  km E RM ⟨[(5,.ptr 96 xN 0 0),(7,.ptr 128 oi 0 0),(13,.ptr 224 HL 0 0),(62,.sl 1008 g 0 3),(63,ar 3),(64,ar i)],
    [(96,⟨xN,2,false,false,some [a.v]⟩),(128,⟨oi,2,false,false,some [c.v]⟩),(224,⟨HL,4,false,false,some [.agg [vi d.x,vi d.y,vi e.x,vi e.y]]⟩),(1008,⟨g,4,true,false,some L⟩)]⟩ Q:=by
 conv=>whnf
 repeat' (first| intro g| refine wi hL ?_| apply ca (yX d e x y) | apply ca (tH d e x y _) | refine st ?_| refine br ?_ ?_<;>intro hc| rfl) <;>conv=>whnf
 all_goals first| exact hR _ _ rfl| exact hN _ _ su
theorem wF (a b c d e:Pt): ∃r:Bool,Ev E 553 [a.v,b.v,c.v,d.v,e.v] ⟨.bool r,[]⟩:=by
 refine bp (Ev.bH rfl rfl rfl ?_)
 have hr:Ev E 181 [.lit 2 [a.v,b.v,c.v,d.v,e.v]] ⟨.bool (CT [a,b,c,d,e]),[]⟩:=yW [a,b,c,d,e] (by simp)
 have OD: ∀T' O',lk T' 10=some (V.bool true)→Av abL.results [a.v,b.v,c.v,d.v,e.v] (fun res=> ∃r:Bool,res=⟨.bool r,[]⟩) .ret ⟨T',O'⟩:=by
  intro T' O' h
  show pf [.tmp 10] [a.v,b.v,c.v,d.v,e.v] ⟨T',O'⟩ (fun res=> ∃r:Bool,res=⟨.bool r,[]⟩)
  unfold pf
  simp only[Hc,h]
  conv=>whnf
  repeat' (first| intro g| refine st ?_| refine br ?_ ?_<;>intro hc| rfl) <;>conv=>whnf
  exact⟨_,rfl⟩
 conv=>whnf
 repeat' (first| intro g| apply ca hr| refine st ?_| refine br ?_ ?_<;>intro hc| rfl) <;>conv=>whnf
 ·exact⟨_,rfl⟩
 rename_i xN pD oi HK xk afD
 clear hr hc
 refine aO.by (fun (i:Nat)=> ⟨[(5,.ptr 96 xN 0 0),(6,.ptr 112 pD 0 0),(7,.ptr 128 oi 0 0),(8,.ptr 144 HK 0 0),(9,.ptr 160 xk 0 0),(28,.sl 464 g 0 2),(29,ar 2),(30,ar i)],
   [(96,⟨xN,2,false,false,some [a.v]⟩),(112,⟨pD,2,false,false,some [b.v]⟩),(128,⟨oi,2,false,false,some [c.v]⟩),(144,⟨HK,2,false,false,some [d.v]⟩),(160,⟨xk,2,false,false,some [e.v]⟩),(464,⟨g,2,true,false,some [d.v,e.v]⟩)]⟩)
  (fun i=>i≤2) (fun i=>2 - i) 0 su (by simp) ?_
 rintro i hi
 rcases(by omega:i=0∨i=1∨i=2) with rfl| rfl| rfl
 ·exact tl0 rfl (by omega) (fun T' O' h=>OD T' O' h) fun T' O' hs=>aK.mk 1 om (by simp) hs
 ·exact tl0 rfl (by omega) (fun T' O' h=>OD T' O' h) fun T' O' hs=>aK.mk 2 om (by simp) hs
 clear hi
 conv=>whnf
 repeat' (first| intro g| refine st ?_| refine br ?_ ?_<;>intro hc| rfl) <;>conv=>whnf
 rename_i afE HL
 refine aO.by (fun (i:Nat)=> ⟨[(5,.ptr 96 xN 0 0),(7,.ptr 128 oi 0 0),(13,.ptr 224 HL 0 0),(62,.sl 1008 g 0 3),(63,ar 3),(64,ar i)],
   [(96,⟨xN,2,false,false,some [a.v]⟩),(128,⟨oi,2,false,false,some [c.v]⟩),(224,⟨HL,4,false,false,some [.agg [vi d.x,vi d.y,vi e.x,vi e.y]]⟩),(1008,⟨g,4,true,false,some [.agg [vi a.x,vi a.y,vi b.x,vi b.y],.agg [vi b.x,vi b.y,vi c.x,vi c.y],.agg [vi c.x,vi c.y,vi a.x,vi a.y]]⟩)]⟩)
  (fun i=>i≤3) (fun i=>3 - i) 0 su (by simp) ?_
 rintro i hi
 rcases(by omega:i=0∨i=1∨i=2∨i=3) with rfl| rfl| rfl| rfl
 ·exact tl1 (x:=a) (y:=b) rfl (by omega) (fun T' O' h=>OD T' O' h) fun T' O' hs=>aK.mk 1 om (by simp) hs
 ·exact tl1 (x:=b) (y:=c) rfl (by omega) (fun T' O' h=>OD T' O' h) fun T' O' hs=>aK.mk 2 om (by simp) hs
 ·exact tl1 (x:=c) (y:=a) rfl (by omega) (fun T' O' h=>OD T' O' h) fun T' O' hs=>aK.mk 3 om (by simp) hs
 ·exact dr
noncomputable def OE (a b c d e:Pt):Bool:=(wF a b c d e).choose
theorem HM (a b c d e:Pt):Ev E 553 [a.v,b.v,c.v,d.v,e.v] ⟨.bool (OE a b c d e),[]⟩:=(wF a b c d e).choose_spec
end Go.AM.Dr
namespace Go.AM.Dr
theorem iZ: ∀ (ps:List Pt) (i k:Nat),(fa i (ps.map Pt.v))[k]? =match ps[k]?,ps[k+1]? with
   | some p,some q=>some [.int .i64 ((i+k:Nat):Int),.agg [vi p.x,vi p.y,vi q.x,vi q.y]]
   | _,_=>none
 | [],i,k=>by simp[fa]
 | [p],i,k=>by cases k<;>simp[fa]
 | p::q::r,i,0=>by simp[fa,Pt.v,V.cells]
 | p::q::r,i,k+1=>by
   have ih:=iZ (q::r) (i+1) k
   simp only[List.map_cons,fa,List.getElem?_cons_succ] at ih ⊢
   rw[ih]
   have:i+1+k=i+(k+1):=by omega
   rw[this]
theorem nv: ∀ (ps:List V) (i:Nat),∀x ∈ fa i ps,x.length=2
 | [],i,x,h=>by simp[fa] at h
 | [p],i,x,h=>by simp[fa] at h
 | p::q::r,i,x,h=>by
   rw[fa] at h
   rcases List.mem_cons.1 h with rfl| h
   ·rfl
   ·exact nv (q::r) (i+1) x h
theorem mn (l:List Pt):Ev E 182 [iy l] ⟨.fn 221 [.eptr (iy l) 0],[]⟩:=by
 refine Ev.aI rfl rfl rfl ?_
 exact dr
theorem E6 {l:List Pt} (hl:l.length< 1000000):E.iter 221 [(iy l).eptr 0]=some (fa 0 (l.map Pt.v)):=by
 show (if (l.map Pt.v).length< 4611686018427387904 then some (fa 0 (l.map Pt.v)) else none)=_
 rw[if_pos (by simp;omega)]
theorem K0 (l:List Pt) (hl:l.length< 1000000): ∃r:Int,Ev E 144 [iy l] ⟨vi r,[]⟩:=by
 refine bp (Ev.bH rfl rfl rfl ?_)
 have hr:Ev E 181 [iy l] ⟨.bool (CT l),[]⟩:=yW l (by omega)
 have R3:=mn l
 conv=>whnf
 repeat' (first| intro g| apply ca hr| apply ca R3| refine st ?_| refine br ?_ ?_<;>intro hc| rfl) <;>conv=>whnf
 ·exact⟨_,rfl⟩
 ·exact⟨_,rfl⟩
 ·exact⟨_,rfl⟩
 rename_i MH np tF R4
 obtain⟨cl,ig⟩:=HJ l hl
 generalize hz:IntKind.i64.wrap (((l.map Pt.v).length:Int) - 2)=z
 refine r7.by (fa 0 (l.map Pt.v)) rfl (E6 hl) (fun x hx=>nv _ _ x hx) (fun (_:Unit)=> [(32,⟨MH,1,false,false,some [iy l]⟩),(64,⟨R4,1,false,false,some [vi 0]⟩),(80,⟨g,1,false,false,some [vi z]⟩)]) (fun k a=>True) () (by(repeat' (first| exact True.intro| refine ai ?_| refine And.intro ?_ ?_))) trivial ?_ ?_
 ·rintro k x u hx v
  rw[iZ] at hx
  cases hp:l[k]? with
  | none=>rw[hp] at hx;cases hx
  | some p=>
  cases hq:l[k+1]? with
  | none=>rw[hp,hq] at hx;cases hx
  | some q=>
  rw[hp,hq] at hx
  injection hx with hx;subst hx
  have hk:=(List.getElem?_eq_some_iff.1 hq).1
  have hw:IntKind.i64.wrap (((0+k:Nat):Int)+1)=((k+1:Nat):Int):=wt
  have JE:Ev E 182 [V.lit 2 (aF (l.map Pt.v) 0 ((IntKind.i64.wrap (((0+k:Nat):Int)+1)).toNat - 0))] ⟨.fn 221 [.eptr (iy (l.take (k+1))) 0],[]⟩:=by
   rw[hw]
   have e:aF (l.map Pt.v) 0 (((k+1:Nat):Int).toNat - 0)=(l.take (k+1)).map Pt.v:=by
    simp[aF,List.map_take]
   rw[e];exact mn _
  have Vs: (l.take (k+1)).length< 1000000:=by simp;omega
  generalize l.take (k+1)=m at JE Vs
  generalize ((0+k:Nat):Int)=kk at hw JE
  clear R3 hr hp hq hz hc np tF
  conv=>whnf
  repeat' (first| intro g| apply ca JE| refine st ?_| refine br ?_ ?_<;>intro hc| rfl) <;>conv=>whnf
  ·exact⟨_,rfl⟩
  rename_i JF xN
  refine r7.by (fa 0 (m.map Pt.v)) rfl (E6 Vs) (fun x hx=>nv _ _ x hx) (fun (_:Unit)=> [(32,⟨MH,1,false,false,some [iy l]⟩),(64,⟨R4,1,false,false,some [vi 0]⟩),(80,⟨JF,1,false,false,some [vi z]⟩),
   (96,⟨xN,1,false,false,some [vi kk]⟩),(112,⟨g,4,false,false,some [.agg [vi p.x,vi p.y,vi q.x,vi q.y]]⟩)]) (fun k a=>True) () (by(repeat' (first| exact True.intro| refine ai ?_| refine And.intro ?_ ?_))) trivial ?_ ?_
  ·rintro k2 x2 u2 JG v2
   rw[iZ] at JG
   cases Hj:m[k2]? with
   | none=>rw[Hj] at JG;cases JG
   | some p2=>
   cases MJ:m[k2+1]? with
   | none=>rw[Hj,MJ] at JG;cases JG
   | some q2=>
   rw[Hj,MJ] at JG
   injection JG with JG;subst JG
   generalize ((0+k2:Nat):Int)=kk2
   clear Hj MJ Vs JE
   conv=>whnf
   repeat' (first| intro g| apply ca ig| apply ca (yX p q p2 q2) | refine st ?_| refine br ?_ ?_<;>intro hc| rfl) <;>conv=>whnf
   all_goals first| (refine Nf.mk () trivial ?_; (repeat' (first| exact True.intro| refine ai ?_| refine And.intro ?_ ?_))) | exact⟨_,rfl⟩
  ·rintro _ _
   conv=>whnf
   repeat' (first| intro g| refine st ?_| refine br ?_ ?_<;>intro hc| rfl) <;>conv=>whnf
   exact Nf.mk () trivial (by(repeat' (first| exact True.intro| refine ai ?_| refine And.intro ?_ ?_)))
 ·rintro _ _
  conv=>whnf
  repeat' (first| intro g| refine st ?_| refine br ?_ ?_<;>intro hc| rfl) <;>conv=>whnf
  exact⟨_,rfl⟩
end Go.AM.Dr
namespace Go.AM.Dr
def IsSqrt (n s:Int):Prop:=0≤s∧s*s≤n∧n< (s+1)*(s+1)
theorem iX {a b:Int} (h0:0≤a) (h:a≤b):a*a≤b*b:=Int.mul_le_mul h h h0 (by omega)
theorem IsSqrt.uniq {n s t:Int} (h:IsSqrt n s) (k:IsSqrt n t):s=t:=by
 obtain⟨h1,h2,h3⟩:=h
 obtain⟨k1,k2,k3⟩:=k
 rcases Int.lt_trichotomy s t with hl| hl| hl
 ·have:=iX (a:=s+1) (b:=t) (by omega) (by omega);omega
 ·exact hl
 ·have:=iX (a:=t+1) (b:=s) (by omega) (by omega);omega
open Classical in
noncomputable def lA (n:Int):Int:=if h: ∃s,IsSqrt n s then h.choose else 0
theorem lB {n s:Int} (h:IsSqrt n s):lA n=s:=by
 have hex: ∃s,IsSqrt n s:=⟨s,h⟩
 unfold lA;rw[dif_pos hex];exact hex.choose_spec.uniq h
theorem vf {n:Int} (h:n≤0):lA n=0:=by
 by_cases hz:n=0
 ·subst hz;exact lB ⟨by omega,by omega,by omega⟩
 ·unfold lA;rw[dif_neg]
  rintro⟨s,h1,h2,h3⟩
  have:=Int.mul_nonneg h1 h1
  omega
theorem pn {b r:Nat} (h:FloatKind.f64.format.sqrt b=some r):Ev E 41 [.float b] ⟨.float r,[]⟩:=by
 have Q3:Ev E 52 [.float b] ⟨.float r,[]⟩:=Ev.ext (by rw[ZI];simp[AW,h])
 refine Ev.aI rfl rfl rfl ?_
 exact dr
theorem xI {n:Int} (h1:n≤9223372036854775807):Ev E 27 [vi n] ⟨vi (lA n),[]⟩:=by
 by_cases h0:0 <n
 case neg=>
  rw[vf (by omega)]
  refine Ev.aI rfl rfl rfl ?_
  conv=>whnf
  repeat' (first| intro g| refine st ?_| refine br ?_ ?_<;>intro hc| rfl) <;>conv=>whnf
  all_goals trivial
 obtain⟨r,m,hr,hm,Jq,Xn⟩:=Eu h0 h1
 have e1:IntKind.i64.min≤m:=by simp[IntKind.min,IntKind.signed,IntKind.bits];omega
 have e2:m≤IntKind.i64.max:=by simp[IntKind.max,IntKind.signed,IntKind.bits];omega
 refine Ev.aI rfl rfl rfl ?_
 conv=>whnf
 repeat' (first| intro g| refine wi ((⟨hm,e1,e2⟩:_∧_∧_)) ?_| apply ca (pn hr) | refine st ?_| refine br ?_ ?_<;>intro hc| rfl) <;>conv=>whnf
 generalize X3: (if 3037000499 <m then(3037000499:Int) else m)=s0
 have yG:0≤s0∧s0≤3037000499:=by split at X3<;>omega
 refine aO.by (fun s:Int=> ⟨[(0,vi n),(3,vi s)],[]⟩) (fun s=>0≤s∧s≤3037000499) (fun s=>s.toNat) s0 ?_ yG ?_
 ·exact su
 rintro s ⟨iY,nZ⟩
 have Q3:=iX iY nZ
 have NB:0≤s*s:=Int.mul_nonneg iY iY
 have hw:IntKind.i64.wrap (s*s)=s*s:=wrap64 (by omega) (by omega)
 conv=>whnf
 repeat' (first| intro g| refine st ?_| refine br ?_ ?_<;>intro hc| rfl) <;>conv=>whnf
 ·rw[hw] at hc
  have:0 <s:=by
   rcases Int.lt_or_le 0 s with h| h
   ·exact h
   · have:s=0:=by omega
     subst this;omega
  refine aK.mk (s - 1) om ?_ su
  exact⟨by omega,by omega⟩
 rw[hw] at hc
 refine aO.by (fun s:Int=> ⟨[(0,vi n),(3,vi s)],[]⟩) (fun s=>0≤s∧s≤3037000499∧s*s≤n) (fun s=> (3037000499 - s).toNat) s ?_ ⟨iY,nZ,by omega⟩ ?_
 ·exact su
 clear hw Q3 NB hc iY nZ s
 rintro s ⟨iY,nZ,hle⟩
 by_cases bk:s< 3037000499
 ·have Q3:=iX (a:=s+1) (b:=3037000499) (by omega) (by omega)
  have NB:0≤(s+1)*(s+1):=Int.mul_nonneg (by omega) (by omega)
  have Kz:IntKind.i64.wrap (s+1)=s+1:=wrap64 (by omega) (by omega)
  have hw:IntKind.i64.wrap ((s+1)*(s+1))=(s+1)*(s+1):=wrap64 (by omega) (by omega)
  conv=>whnf
  repeat' (first| intro g| refine st ?_| refine br ?_ ?_<;>intro hc| rfl) <;>conv=>whnf
  ·rw[Kz,hw] at hc
   refine aK.mk (s+1) om ?_ su
   exact⟨by omega,by omega,hc⟩
  ·rw[Kz,hw] at hc
   rw[lB ⟨iY,hle,by omega⟩]
 ·conv=>whnf
  repeat' (first| intro g| refine st ?_| refine br ?_ ?_<;>intro hc| rfl) <;>conv=>whnf
  have:=iX (a:=3037000500) (b:=s+1) (by omega) (by omega)
  rw[lB ⟨iY,hle,by omega⟩]
end Go.AM.Dr
namespace Go.AM.Dr
theorem vj (l:List Edge) (h:l.length< 1000000):Ev E 28 [.lit 4 (l.map Edge.v)] ⟨.own 4 (l.map Edge.v),[]⟩:=
 Ev.ext (by rw[ZD];simp[dy];omega)
theorem qE (l:List aX) (h:l.length< 1000000):Ev E 29 [.lit 5 (l.map aX.v)] ⟨.own 5 (l.map aX.v),[]⟩:=
 Ev.ext (by rw[ZE];simp[dy];omega)
theorem qF (l:List Way) (h:l.length< 1000000):Ev E 30 [.lit 8 (l.map Way.v)] ⟨.own 8 (l.map Way.v),[]⟩:=
 Ev.ext (by rw[ZF];simp[dy];omega)
theorem ns (l:List Place) (h:l.length< 1000000):Ev E 31 [.lit 7 (l.map Place.v)] ⟨.own 7 (l.map Place.v),[]⟩:=
 Ev.ext (by rw[ZG];simp[dy];omega)
theorem eE (l:List Pt) (h:l.length< 1000000):Ev E 32 [iy l] ⟨.own 2 (l.map Pt.v),[]⟩:=
 Ev.ext (by rw[ZC];simp[dy,iy];omega)
theorem K1 (e:Edge) (id:Int):Ev E 557 [e.v,.eptr (vi id) 0] ⟨.bool (decide (e.id=id)),[]⟩:=by
 refine Ev.aI rfl rfl rfl ?_
 exact dr
def yY (es:List Edge) (id:Int):Int:=firstIdx (fun e=>decide (e.id=id)) es
theorem tV {m:aG} (h:m.Fit) (id:Int):Ev E 543 [m.v,vi id] ⟨vi (yY m.az id),[]⟩:=by
 have he:=h.e
 have hi:=Ou (l:=m.az) (caps:=[.eptr (vi id) 0]) rfl (by omega) (fun x=>K1 x id) rfl
 refine Ev.aI rfl rfl rfl ?_
 conv=>whnf
 repeat' (first| intro g| apply ca hi| refine st ?_| refine br ?_ ?_<;>intro hc| rfl) <;>conv=>whnf
 all_goals rfl
structure wG (m:aG) where
 k:Nat
 n:Nat
 e:Edge
 a:Pt
 b:Pt
 c:Pt
 he:m.az[k]? =some e
 hf:yY m.az e.id=(k:Int)
 hn:1≤n
 ha:e.line[n - 1]? =some a
 hb:e.line[n]? =some b
 hc:e.line[n+1]? =some c
 rB:m.az.length< 1000000
 hl:e.line.length< 1000000
def wG.v {m:aG} (q:wG m):V:= .agg [ar q.k,ar q.n,vi q.a.x,vi q.a.y,vi q.b.x,vi q.b.y,vi q.c.x,vi q.c.y]
theorem OF {m:aG} (h:m.Fit) (q:wG m):Ev E 534 [m.v,vi q.e.id,ar q.n] ⟨.tuple [q.v,vi 0],[]⟩:=by
 have hf:=tV h q.e.id
 obtain⟨k,n,e,a,b,c,he,RC,hn,ha,hb,hc,rB,hl⟩:=q
 dsimp only at hf ⊢
 rw[RC] at hf
 have hk:=(List.getElem?_eq_some_iff.1 he).1
 have ig:=(List.getElem?_eq_some_iff.1 hc).1
 have w1:IntKind.i64.wrap ((n:Int) - 1)=((n - 1:Nat):Int):=wt
 have w2:IntKind.i64.wrap ((n:Int)+1)=((n+1:Nat):Int):=wt
 have w3:IntKind.i64.wrap (((e.line.map Pt.v).length:Int) - 2)=(e.line.length:Int) - 2:=by rw[List.length_map];exact wrap64 (by omega) (by omega)
 refine Ev.aI rfl rfl rfl ?_
 conv=>whnf
 repeat' (first| ((exfalso;omega)) | intro g| refine wi (av he rfl) ?_| refine wi (av ha w1) ?_| refine wi (av hb rfl) ?_| refine wi (av hc w2) ?_| apply ca hf| refine st ?_| refine br ?_ ?_<;>intro hc| rfl) <;>conv=>whnf
theorem OG (x:Int): -9223372036854775808≤jV x∧jV x≤9223372036854775807:=by
 unfold jV IntKind.wrap
 simp only[IntKind.bits,IntKind.signed]
 simp
 omega
theorem K2 (f:aX) (id:Int):Ev E 551 [f.v,.eptr (vi id) 0] ⟨.bool (decide (f.id=id)),[]⟩:=by
 refine Ev.aI rfl rfl rfl ?_
 exact dr
theorem yZ {m:aG} (h:m.Fit) (id:Int): ∃r:Int,Ev E 550 [vi id,.eptr m.v 0] ⟨vi r,[]⟩:=by
 refine bp (Ev.bH rfl rfl rfl ?_)
 have hf:=h.f
 have hi:=Ov (l:=m.al) (caps:=[.eptr (vi id) 0]) rfl (by omega) (fun x=>K2 x id) rfl
 rcases dU (fun f:aX=>decide (f.id=id)) m.al with⟨h1,_⟩ | ⟨i,x,h1,h2,h3⟩
 ·rw[h1] at hi
  exact dr
 ·rw[h1] at hi
  have:=(List.getElem?_eq_some_iff.1 h2).1
  exact dr1
theorem vv {m:aG} (h:m.Fit) (e:Edge): ∃r:Int,Ev E 540 [m.v,e.v] ⟨vi r,[]⟩:=by
 refine bp (Ev.bH rfl rfl rfl ?_)
 obtain⟨r1,h1⟩:=yZ h e.left
 obtain⟨r2,h2⟩:=yZ h e.right
 exact dr
def OH (a b:Pt):Int:=jV (jV (a.x*b.y) - jV (a.y*b.x))
theorem OI (a b:Pt):Ev E 219 [a.v,b.v] ⟨vi (OH a b),[]⟩:=by
 refine Ev.aI rfl rfl rfl ?_
 exact dr
def R5 (a b:Pt):Pt:=⟨jV (a.x - b.x),jV (a.y - b.y)⟩
def wG.aae {m:aG} (q:wG m):Int:=OH (R5 q.b q.a) (R5 q.c q.a)
def R6 (x:Int):Int:=if x<jV (0 - x) then jV (0 - x) else x
theorem R7 {x:Int} (h:x≤9223372036854775807):R6 x≤9223372036854775807:=by
 unfold R6
 split
 ·exact(OG _).2
 ·exact h
noncomputable def wG.cost {m:aG} (q:wG m):Int:=lA (R6 q.aae)
theorem xJ {m:aG} (h:m.Fit) (q:wG m):Ev E 527 [m.v,vi q.e.id,ar q.n] ⟨vi q.cost,[]⟩:=by
 have iG:=OF h q
 have hs:=xI (n:=R6 q.aae) (R7 (OG _).2)
 refine Ev.aI rfl rfl rfl ?_
 conv=>whnf
 repeat' (first| intro g| apply ca iG| apply ca (sg q.b q.a) | apply ca (sg q.c q.a) | apply ca (OI (R5 q.b q.a) (R5 q.c q.a)) | apply ca hs| refine st ?_| refine br ?_ ?_<;>intro hc| rfl) <;>conv=>whnf
end Go.AM.Dr
namespace Go.AM.Dr
theorem E7 {l:List Pt} {i:Nat} (hi:i<l.length) (h:l.length< 1000000):Ev E 547 [.msl 2 (l.map Pt.v) 0 l.length,ar i,vi (IntKind.i64.wrap ((i:Int)+1))] ⟨.sl 0 0 0 (l.length - 1),[(0,(l.eraseIdx i).map Pt.v++[(Pt.mk 0 0).v])]⟩:=by
 have hw:IntKind.i64.wrap ((i:Int)+1)=((i+1:Nat):Int):=wt
 rw[hw]
 refine Ev.aI rfl rfl rfl ?_
 have CK:aF (l.map Pt.v) (0+((i+1:Nat):Int).toNat) (l.length - ((i+1:Nat):Int).toNat)=(l.drop (i+1)).map Pt.v:=by
  rw[fX]
  congr 1
  rw[List.take_of_length_le (by simp)]
  simp
 conv=>whnf
 repeat' (first| intro g| refine nd (by first| ((and_intros<;>first| rfl| exact bq (bq (Pt.aV _) (Pt.aV _)) (bR rfl) | exact fZ (bq (bq (Pt.aV _) (Pt.aV _)) (bR rfl)) | (simp only[overwrite,aF,List.length_map,List.length_append,List.length_cons,List.length_nil,List.length_take,List.length_drop];omega) | omega)) | fail) ?_| refine wi CK ?_| refine st ?_| refine br ?_ ?_<;>intro hc| rfl) <;>conv=>whnf
 obtain⟨A,x,B,rfl,hA⟩: ∃A x B,l=A++x::B∧A.length=i:=⟨l.take i,l[i],l.drop (i+1),by simp,by simp;omega⟩
 have e1: (A++x::B).drop (i+1)=B:=by
  rw[←hA];simp[List.drop_append]
 have e2: (A++x::B).eraseIdx i=A++B:=by
  rw[←hA];simp[List.eraseIdx_append_of_length_le]
 have e3: ((i:Int).toNat - 0+((B).map Pt.v).length)=A.length+B.length:=by simp;omega
 rw[e1,e2,e3]
 have e4: ((A.length+B.length:Nat):Int).toNat=A.length+B.length:=by omega
 have e5: (((A++x::B).length:Nat):Int).toNat - (A.length+B.length)=1:=by simp;omega
 have e6: (A++x::B).length - 1=A.length+B.length:=by simp
 rw[e4,e5,e6]
 subst hA
 show (⟨V.sl 0 0 0 _,[(0,_)]⟩:eL)=_
 congr 3
 simp[overwrite,List.take_append,List.drop_append]
 rw[List.take_of_length_le (by simp),List.drop_eq_nil_of_le (by simp;omega),List.drop_eq_nil_of_le (by simp;omega),List.drop_eq_nil_of_le (by simp;omega),List.drop_eq_nil_of_le (by simp;omega)]
 rfl
def wG.rest {m:aG} (q:wG m):List Pt:=q.e.line.eraseIdx q.n
theorem JH {m:aG} (q:wG m):Ev E 535 [q.v,m.v] ⟨.own 2 (q.rest.map Pt.v),[]⟩:=by
 have ig:=eE q.e.line q.hl
 have hb:=(List.getElem?_eq_some_iff.1 q.hb).1
 have CL:=E7 (i:=q.n) hb q.hl
 have hle:q.e.line.length - 1=q.rest.length:=by simp[wG.rest,List.length_eraseIdx,hb]
 have aaf:Ev E 547 [.msl 2 (q.e.line.map Pt.v) 0 (q.e.line.map Pt.v).length,ar q.n,vi (IntKind.i64.wrap ((q.n:Int)+1))] ⟨.sl 0 0 0 (q.e.line.length - 1),[(0,q.rest.map Pt.v++[(Pt.mk 0 0).v])]⟩:=by
  rw[List.length_map];exact CL
 refine Ev.aI rfl rfl rfl ?_
 have he:=q.he
 conv=>whnf
 repeat' (first| intro g| refine wi (av he rfl) ?_| refine wi (qB hle) ?_| apply ca ig| apply ca aaf| refine st ?_| refine br ?_ ?_<;>intro hc| rfl) <;>conv=>whnf
end Go.AM.Dr
namespace Go.AM.Dr
theorem E8 (skip:Bool) (n:Int): ∀ (ps:List Pt) (i:Nat),∀x ∈ xa skip n i (ps.map Pt.v),∃p q:Pt,x=[p.v,q.v]
 | [],i,x,h=>by simp[xa] at h
 | [p],i,x,h=>by simp[xa] at h
 | p::q::r,i,x,h=>by
   simp only[List.map_cons,xa] at h
   rcases List.mem_append.1 h with h| h
   ·split at h
    ·simp at h
    ·exact⟨p,q,by simpa using h⟩
   ·exact E8 skip n (q::r) (i+1) x h
theorem E9 (e n:Int): ∀ (es:List Edge) (k:Nat),(∀x ∈ es,x.line.length< 1000000)→ ∃xs,Eb e n k (es.map Edge.v)=some xs∧ ∀x ∈ xs,∃p q:Pt,x=[p.v,q.v]
 | [],k,_=> ⟨[],rfl,by simp⟩
 | a::es,k,h=>by
   obtain⟨xs,h1,h2⟩:=E9 e n es (k+1) fun x hx=>h x (by simp[hx])
   have ha:=h a (by simp)
   have hc: (a.line.map Pt.v).length< 4611686018427387904∧(a.line.map Pt.v).all Rx=true:=by
    refine⟨by simp;omega,?_⟩
    rw[List.all_eq_true]
    intro v hv
    obtain⟨p,_,rfl⟩:=List.mem_map.1 hv
    rfl
   refine⟨xa (decide ((k:Int)=e)) n 0 (a.line.map Pt.v)++xs,?_,fun x hx=> ?_⟩
   ·show (if (a.line.map Pt.v).length< 4611686018427387904∧(a.line.map Pt.v).all Rx=true then(Eb e n (k+1) (es.map Edge.v)).map (xa (decide ((k:Int)=e)) n 0 (a.line.map Pt.v)++ ·) else none)=_
    rw[if_pos hc,h1];rfl
   ·rcases List.mem_append.1 hx with hx| hx
    ·exact E8 _ _ _ _ x hx
    ·exact h2 x hx
theorem OJ {m:aG} (h:m.Fit) (q:wG m): ∃xs,E.iter 564 [.eptr m.v 0,.eptr q.v 0]=some xs∧ ∀x ∈ xs,∃p q:Pt,x=[p.v,q.v]:=by
 obtain⟨xs,h1,h2⟩:=E9 (q.k:Int) (q.n:Int) m.az 0 h.el
 refine⟨xs,?_,h2⟩
 have hb:=(List.getElem?_eq_some_iff.1 q.hb).1
 have:=q.hl
 have:=h.e
 show (if (m.az.map Edge.v).length< 4611686018427387904∧(0:Int)≤(q.n:Int)∧(q.n:Int) < 4611686018427387904 then Eb (q.k:Int) (q.n:Int) 0 (m.az.map Edge.v) else none)=_
 rw[if_pos ⟨by simp;omega,by omega,by omega⟩,h1]
theorem K3 {m:aG} (q:wG m):Ev E 552 [q.v,m.v] ⟨.fn 564 [.eptr m.v 0,.eptr q.v 0],[]⟩:=by
 refine Ev.aI rfl rfl rfl ?_
 exact dr
theorem K4 {m:aG} (q:wG m) (p:Place): ∃r:Bool,Ev E 555 [p.v,.eptr q.v 0] ⟨.bool r,[]⟩:=by
 refine bp (Ev.bH rfl rfl rfl ?_)
 conv=>whnf
 repeat' (first| intro g| refine ca (Vz q.a q.b q.c ⟨p.x,p.y⟩) ?_| refine st ?_| refine br ?_ ?_<;>intro hc| rfl) <;>conv=>whnf
 all_goals exact⟨_,rfl⟩
theorem K5 {m:aG} (h:m.Fit) (q:wG m): ∃r:Bool,Ev E 541 [q.v,m.v] ⟨.bool r,[]⟩:=by
 refine bp (Ev.bH rfl rfl rfl ?_)
 have hp:=h.p
 obtain⟨cb,hc⟩: ∃cb:Bool,Ev E 554 [.lit 7 (m.aA.map Place.v),.fn 555 [.eptr q.v 0]] ⟨.bool cb,[]⟩:=⟨_,KZ (l:=m.aA) (caps:=[.eptr q.v 0]) rfl (by omega) (fun x=> (K4 q x).choose_spec) rfl⟩
 obtain⟨xs,hx,HN⟩:=OJ h q
 conv=>whnf
 repeat' (first| intro g| apply ca (K3 q) | refine st ?_| refine br ?_ ?_<;>intro hc| rfl) <;>conv=>whnf
 rename_i xj R4
 refine r7.by xs rfl hx (fun x hx=>by obtain⟨p,q,rfl⟩:=HN x hx;rfl) (fun (_:Unit)=> [(48,⟨xj,8,false,false,some [q.v]⟩),(64,⟨R4,4,false,false,some [m.v]⟩),(96,⟨g,1,false,false,some [.bool true]⟩)]) (fun k a=>True) () (by(repeat' (first| exact True.intro| refine ai ?_| refine And.intro ?_ ?_))) trivial ?_ ?_
 ·rintro k x u JG v
  obtain⟨d,e,rfl⟩:=HN x (List.mem_of_getElem? JG)
  conv=>whnf
  repeat' (first| intro g| apply ca (HM q.a q.b q.c d e) | apply ca hc| refine st ?_| refine br ?_ ?_<;>intro hc| rfl) <;>conv=>whnf
  all_goals first| (refine Nf.mk () trivial ?_; (repeat' (first| exact True.intro| refine ai ?_| refine And.intro ?_ ?_))) | exact⟨_,rfl⟩
 ·rintro _ _
  exact dr
theorem R8 {m:aG} (h:m.Fit) (q:wG m): ∃r:Int,Ev E 526 [m.v,vi q.e.id,ar q.n] ⟨vi r,[]⟩:=by
 refine bp (Ev.bH rfl rfl rfl ?_)
 have iG:=OF h q
 have T6:=JH q
 obtain⟨r1,h1⟩:=vv h q.e
 obtain⟨r2,h2⟩:=K5 h q
 obtain⟨r3,h3⟩:=K0 q.rest (by simp[wG.rest,List.length_eraseIdx];have:=q.hl;split<;>omega)
 have he:=q.he
 exact dr
end Go.AM.Dr
namespace Go.AM.Dr
open Classical in
noncomputable def y6 (m:aG) (e:Edge):Int:=if h:m.Fit then(vv h e).choose else 0
theorem OK {m:aG} (h:m.Fit) (e:Edge):Ev E 540 [m.v,e.v] ⟨vi (y6 m e),[]⟩:=by
 unfold y6
 rw[dif_pos h]
 exact(vv h e).choose_spec
end Go.AM.Dr
namespace Go.AM.Dr
def mxI (x:Int):Int:=if 1 <x then x else 1
section
variable (fc gx:Int→Int→Int) (m:aG) (d:Int)
def Al (id:Int):Nat→List Event
 | 0=> []
 | j+1=>Al id j++if fc id ((j+1:Nat):Int)=0 then [⟨1,mxI (gx id ((j+1:Nat):Int)),id,0,((j+1:Nat):Int)⟩] else []
def VA (k:Nat) (e:Edge):Prop:=yY m.az e.id=k∧y6 m e=d
noncomputable instance (k:Nat) (e:Edge):Decidable (VA m d k e):=inferInstanceAs (Decidable (_∧_))
noncomputable def R9 (k:Nat):List Event:=match m.az[k]? with
 | some e=>if VA m d k e then Al fc gx e.id (e.line.length - 2) else []
 | none=> []
noncomputable def si:Nat→List Event
 | 0=> []
 | k+1=>si k++R9 fc gx m d k
theorem CU (id:Int): ∀j,(Al fc gx id j).length≤j
 | 0=>by simp[Al]
 | j+1=>by
   have:=CU id j
   simp only[Al,List.length_append]
   split<;>simp<;>omega
theorem Fa (hl: ∀e ∈ m.az,e.line.length< 10): ∀k,(si fc gx m d k).length≤7*k
 | 0=>by simp[si]
 | k+1=>by
   have ih:=Fa hl k
   simp only[si,R9,List.length_append]
   cases he:m.az[k]? with
   | none=>simp;omega
   | some e=>
     dsimp only
     have h1:=hl e (List.mem_of_getElem? he)
     have h2:=CU fc gx e.id (e.line.length - 2)
     split
     ·omega
     ·simp;omega
end
end Go.AM.Dr
namespace Go.AM.Dr
section
variable {m:aG} {fc gx:Int→Int→Int}
 (hc: ∀id n,Ev E 526 [m.v,vi id,vi n] ⟨vi (fc id n),[]⟩) (hx: ∀id n,Ev E 527 [m.v,vi id,vi n] ⟨vi (gx id n),[]⟩)
 (hf: ∀id,Ev E 543 [m.v,vi id] ⟨vi (yY m.az id),[]⟩) (hd: ∀e:Edge,Ev E 540 [m.v,e.v] ⟨vi (y6 m e),[]⟩)
include hc hx
theorem OL {e:Edge} {d:Int} {k j ne xj BB oi:Nat} {A:List Event} {Q:aP→SS→Prop} (hle:e.line.length< 10) (hA:A.length< 1000)
  (hQ: ∀T' O' g,SS.Sub ⟨[(1,vi d),(2,.ptr 48 xj 0 0),(5,.sl 97 g 0 (A++Al fc gx e.id (j+1)).length),(7,.ptr 128 oi 0 0),(8,ar (j+2)),(13,.lit 4 (m.az.map Edge.v)),(14,ar ne),(15,ar k)],
    [(48,⟨xj,4,false,false,some [m.v]⟩),(97,⟨g,5,true,false,some ((A++Al fc gx e.id (j+1)).map Event.v)⟩),(128,⟨oi,4,false,false,some [e.v]⟩)]⟩ ⟨T',O'⟩→Q .normal ⟨T',O'⟩) (bk:j+2 <e.line.length):
  km E RG ⟨[(1,vi d),(2,.ptr 48 xj 0 0),(5,.sl 97 BB 0 (A++Al fc gx e.id j).length),(7,.ptr 128 oi 0 0),(8,ar (j+1)),(13,.lit 4 (m.az.map Edge.v)),(14,ar ne),(15,ar k)],
    [(48,⟨xj,4,false,false,some [m.v]⟩),(97,⟨BB,5,true,false,some ((A++Al fc gx e.id j).map Event.v)⟩),(128,⟨oi,4,false,false,some [e.v]⟩)]⟩ Q:=by
 have h1:=hc e.id ((j+1:Nat):Int)
 have h2:=hx e.id ((j+1:Nat):Int)
 have rB:=CU fc gx e.id j
 have hLl: (A++Al fc gx e.id j).length=A.length+(Al fc gx e.id j).length:=by simp
 have w1:IntKind.i64.wrap (((j+1:Nat):Int)+1)=((j+2:Nat):Int):=wt
 have eJ:A++Al fc gx e.id (j+1)=(A++Al fc gx e.id j)++if fc e.id ((j+1:Nat):Int)=0 then [⟨1,mxI (gx e.id ((j+1:Nat):Int)),e.id,0,((j+1:Nat):Int)⟩] else []:=by
  rw[List.append_assoc];rfl
 have hLb: (A++Al fc gx e.id j).length< 2000:=by omega
 rw[eJ] at hQ
 clear eJ hc hx rB hLl
 generalize A++Al fc gx e.id j=L at*
 by_cases h0:fc e.id ((j+1:Nat):Int)=0
 ·rw[if_pos h0] at hQ
  rw[h0] at h1
  conv=>whnf
  repeat' (first| ((exfalso;omega)) | intro g| apply ca h1| apply ca h2| refine st ?_| refine br ?_ ?_<;>intro hc| rfl) <;>conv=>whnf
  refine hQ _ _ g ?_
  exact su
 ·rw[if_neg h0,List.append_nil] at hQ
  conv=>whnf
  repeat' (first| ((exfalso;omega)) | contradiction| intro g| apply ca h1| refine st ?_| refine br ?_ ?_<;>intro hc| rfl) <;>conv=>whnf
  refine hQ _ _ BB ?_
  exact su
include hf hd
theorem Hp (h1:m.az.length≤25) (hl: ∀e ∈ m.az,e.line.length< 10) (d:Int): ∃l':List Event,l'.length≤7*m.az.length∧(∀x ∈ l',x ∈ si fc gx m d m.az.length)∧Ev E 529 [m.v,vi d] ⟨.own 5 (l'.map Event.v),[]⟩:=by
 have kA:=Fa fc gx m d hl
 have hz: (if d< 1 then [] else si fc gx m d m.az.length).length≤7*m.az.length:=by
  have:=kA m.az.length
  split
  ·simp
  ·omega
 obtain⟨l',p1,EA⟩:=NG (l:=if d< 1 then [] else si fc gx m d m.az.length) (by omega)
 have hlen:l'.length< 2000:=by rw[p1.length_eq];omega
 have TX:=p1.length_eq
 refine⟨l',by omega,fun x hx=> ?_,?_⟩
 ·have:=p1.mem_iff.1 hx
  split at this
  ·simp at this
  ·exact this
 clear p1 hz
 refine Ev.aI rfl rfl rfl ?_
 conv=>whnf
 repeat' (first| intro g| refine st ?_| refine br ?_ ?_<;>intro hc| rfl) <;>conv=>whnf
 rename_i xj _
 refine aO.by (fun ((k,L,BB):Nat×List Event×Nat)=> ⟨[(1,vi d),(2,.ptr 48 xj 0 0),(5,.sl 97 BB 0 L.length),(13,.lit 4 (m.az.map Edge.v)),(14,ar (m.az.map Edge.v).length),(15,ar k)],
   [(48,⟨xj,4,false,false,some [m.v]⟩),(97,⟨BB,5,true,false,some (L.map Event.v)⟩)]⟩)
  (fun p=>p.1≤m.az.length∧p.2.1=if d< 1 then [] else si fc gx m d p.1) (fun p=>m.az.length - p.1) (0,[],g) su ⟨by simp,by simp[si]⟩ ?_
 rintro⟨k,L,BB⟩ ⟨hk,hL⟩
 dsimp only at hk hL
 by_cases bk:k<m.az.length
 ·obtain⟨e,he⟩: ∃e,m.az[k]? =some e:=⟨_,aL bk⟩
  have hle:=hl e (List.mem_of_getElem? he)
  have f1:=hf e.id
  have f2:=hd e
  by_cases Fb:d< 1
  ·conv=>whnf
   repeat' (first| ((exfalso;omega)) | intro g| refine wi (av he rfl) ?_| refine st ?_| refine br ?_ ?_<;>intro hc| rfl) <;>conv=>whnf
   exact aK.mk (k+1,L,BB) om ⟨om,by simpa [Fb] using hL⟩ su
  rw[if_neg Fb] at hL
  have eJ:si fc gx m d (k+1)=L++(if VA m d k e then Al fc gx e.id (e.line.length - 2) else []):=by
   simp only[si,R9,he,hL]
  by_cases s1:yY m.az e.id=k
  case neg=>
   rw[if_neg (fun h=>s1 h.1),List.append_nil] at eJ
   conv=>whnf
   repeat' (first| ((exfalso;omega)) | contradiction| intro g| refine wi (av he rfl) ?_| apply ca f1| refine st ?_| refine br ?_ ?_<;>intro hc| rfl) <;>conv=>whnf
   exact aK.mk (k+1,L,BB) om ⟨om,by dsimp only;rw[if_neg Fb,eJ]⟩ su
  by_cases s2:y6 m e=d
  case neg=>
   rw[if_neg (fun h=>s2 h.2),List.append_nil] at eJ
   conv=>whnf
   repeat' (first| ((exfalso;omega)) | contradiction| intro g| refine wi (av he rfl) ?_| apply ca f1| apply ca f2| refine st ?_| refine br ?_ ?_<;>intro hc| rfl) <;>conv=>whnf
   exact aK.mk (k+1,L,BB) om ⟨om,by dsimp only;rw[if_neg Fb,eJ]⟩ su
  rw[if_pos ⟨s1,s2⟩] at eJ
  have hLl:L.length< 1000:=by have:=kA k;rw[hL];omega
  rw[s1] at f1
  rw[s2] at f2
  conv=>whnf
  repeat' (first| ((exfalso;omega)) | contradiction| intro g| refine wi (av he rfl) ?_| apply ca f1| apply ca f2| refine st ?_| refine br ?_ ?_<;>intro hc| rfl) <;>conv=>whnf
  refine aO.by (fun ((j,BB):Nat×Nat)=> ⟨[(1,vi d),(2,.ptr 48 xj 0 0),(5,.sl 97 BB 0 (L++Al fc gx e.id j).length),(7,.ptr 128 g 0 0),(8,ar (j+1)),(13,.lit 4 (m.az.map Edge.v)),(14,ar (m.az.map Edge.v).length),(15,ar k)],
   [(48,⟨xj,4,false,false,some [m.v]⟩),(97,⟨BB,5,true,false,some ((L++Al fc gx e.id j).map Event.v)⟩),(128,⟨g,4,false,false,some [e.v]⟩)]⟩)
   (fun p=>p.1≤e.line.length - 2) (fun p=>e.line.length - 2 - p.1) (0,BB) ?_ om ?_
  ·simp only[Al,List.append_nil]
   exact su
  rintro⟨j,BB⟩ hj
  dsimp only at hj
  by_cases kb:j+2 <e.line.length
  ·exact OL hc hx hle hLl (fun T' O' g' hs=>aK.mk (j+1,g') om om hs) kb
  have w1:IntKind.i64.wrap (((j+1:Nat):Int)+1)=((j+2:Nat):Int):=wt
  obtain rfl:j=e.line.length - 2:=by omega
  conv=>whnf
  repeat' (first| ((exfalso;omega)) | intro g| refine st ?_| refine br ?_ ?_<;>intro hc| rfl) <;>conv=>whnf
  exact aK.mk (k+1,L++Al fc gx e.id (e.line.length - 2),BB) om ⟨om,by dsimp only;rw[if_neg Fb,eJ]⟩ su
 ·obtain rfl:k=m.az.length:=by omega
  subst hL
  conv=>whnf
  repeat' (first| intro g| apply ca EA| refine st ?_| refine br ?_ ?_<;>intro hc| rfl) <;>conv=>whnf
  refine aO.by (fun ((i,VB):Nat×Nat)=> ⟨[(9,.sl 161 VB 0 (l'.take i).length),(67,.sl 97 BB 0 l'.length),(68,ar l'.length),(69,ar i)],
   [(97,⟨BB,5,true,false,some (l'.map Event.v)⟩),(161,⟨VB,5,true,false,some ((l'.take i).map Event.v)⟩)]⟩)
   (fun p=>p.1≤l'.length) (fun p=>l'.length - p.1) (0,g) ?_ om ?_
  ·have e3:V.sl 97 BB 0 (if d< 1 then [] else si fc gx m d m.az.length).length= .sl 97 BB 0 l'.length:=by rw[TX]
   have e4:ar (if d< 1 then [] else si fc gx m d m.az.length).length=ar l'.length:=by rw[TX]
   dsimp only
   rw[List.take_zero]
   (refine⟨?_,?_⟩ <;>repeat' (first| exact True.intro| refine And.intro (e3) ?_| refine And.intro (e4) ?_| refine ai ?_| refine And.intro ?_ ?_))
  rintro⟨i,VB⟩ hi
  dsimp only at hi
  by_cases kb:i<l'.length
  ·obtain⟨x,JG⟩: ∃x,l'[i]? =some x:=⟨_,aL kb⟩
   have DZ:l'.take (i+1)=l'.take i++[x]:=by rw[List.take_add_one,JG];rfl
   have Xt: (l'.take i).length=i:=by simp;omega
   conv=>whnf
   repeat' (first| intro g| refine wi (av JG rfl) ?_| refine st ?_| refine br ?_ ?_<;>intro hc| rfl) <;>conv=>whnf
   refine aK.mk (i+1,g) om om ?_
   dsimp only
   rw[DZ]
   exact su
  obtain rfl:i=l'.length:=by omega
  dsimp only
  rw[List.take_length]
  conv=>whnf
  repeat' (first| intro g| refine wi (gZ (by simp)) ?_| refine st ?_| refine br ?_ ?_<;>intro hc| rfl) <;>conv=>whnf
end
end Go.AM.Dr
namespace Go.AM.Dr
def wG.es {m:aG} (q:wG m):List Edge:=m.az.set q.k ⟨q.e.id,q.rest,q.e.left,q.e.right⟩
theorem OM {m:aG} (h:m.Fit) (q:wG m) (Hq:Ev E 526 [m.v,vi q.e.id,ar q.n] ⟨vi 0,[]⟩):
  Ev E 524 [m.v,vi q.e.id,ar q.n] ⟨.tuple [.agg [.own 4 (q.es.map Edge.v),.own 5 (m.al.map aX.v),.own 8 (m.ways.map Way.v),.own 7 (m.aA.map Place.v)],vi 0],[]⟩:=by
 have hle:=h.e
 have hlw:=h.w
 have iG:=OF h q
 have T6:=JH q
 have hqe:=q.he
 have hqk:=(List.getElem?_eq_some_iff.1 hqe).1
 have c1:=vj m.az h.e
 have c2:=qE m.al h.f
 have c3:=qF m.ways h.w
 have c4:=ns m.aA h.p
 refine Ev.aI rfl rfl rfl ?_
 conv=>whnf
 repeat' (first| intro g| apply ca Hq| apply ca iG| apply ca c1| apply ca c2| apply ca c3| apply ca c4| refine st ?_| refine br ?_ ?_<;>intro hc| rfl) <;>conv=>whnf
 rename_i R4 pD xk K6 Sa K7 Sb
 have hE: ∀ {l:List Edge} {i:Nat} {x:Edge},l[i]? =some x→(l.map Edge.v).set (i:Int).toNat (.agg [vi x.id,.lit 2 (x.line.map Pt.v),vi x.left,vi x.right])=l.map Edge.v:=fun h=>tD h
 have hW: ∀ {l:List Way} {i:Nat} {x:Way},l[i]? =some x→(l.map Way.v).set (i:Int).toNat (.agg [vi x.id,.lit 2 (x.line.map Pt.v),vi x.level,.str x.cls,.str x.name,.bool x.yC,vi x.weight,vi x.bB])=l.map Way.v:=fun h=>tD h
 refine aO.by (fun (i:Nat)=> ⟨[(3,.ptr 64 R4 0 0),(6,.ptr 112 pD 0 0),(9,.ptr 160 xk 0 0),(11,.ptr 192 g 0 0),(44,ar (m.az.map Edge.v).length),(45,ar i)],
   [(64,⟨R4,4,false,false,some [m.v]⟩),(112,⟨pD,4,false,false,some [.agg [.lit 4 [],.lit 5 [],.lit 8 [],.lit 7 []]]⟩),(160,⟨xk,8,false,false,some [q.v]⟩),(192,⟨g,4,false,false,some [.agg [.sl 512 K6 0 (m.az.map Edge.v).length,.sl 560 Sa 0 (m.al.map aX.v).length,.sl 608 K7 0 (m.ways.map Way.v).length,.sl 656 Sb 0 (m.aA.map Place.v).length]]⟩),
    (512,⟨K6,4,true,false,some (m.az.map Edge.v)⟩),(560,⟨Sa,5,true,false,some (m.al.map aX.v)⟩),(608,⟨K7,8,true,false,some (m.ways.map Way.v)⟩),(656,⟨Sb,7,true,false,some (m.aA.map Place.v)⟩)]⟩)
  (fun i=>i≤m.az.length) (fun i=>m.az.length - i) 0 su (by simp) ?_
 clear c1 c2 c3 c4 Hq iG
 rintro i hi
 by_cases bk:i<m.az.length
 ·obtain⟨e,he⟩: ∃e,m.az[i]? =some e:=⟨_,aL bk⟩
  have ig:=eE e.line (h.el e (List.mem_of_getElem? he))
  conv=>whnf
  repeat' (first| intro g| refine wi (av he rfl) ?_| apply ca ig| refine st ?_| refine br ?_ ?_<;>intro hc| rfl) <;>conv=>whnf
  have e1: (⟨K6,4,true,false,some ((m.az.map Edge.v).set (i:Int).toNat (.agg [vi e.id,.lit 2 (e.line.map Pt.v),vi e.left,vi e.right]))⟩:Obj)=⟨K6,4,true,false,some (m.az.map Edge.v)⟩:=by rw[hE he]
  exact aK.mk (i+1) om (by omega) (by(refine⟨?_,?_⟩ <;>repeat' (first| exact True.intro| refine And.intro (e1) ?_| refine ai ?_| refine And.intro ?_ ?_)))
 obtain rfl:i=m.az.length:=by omega
 conv=>whnf
 repeat' (first| intro g| refine st ?_| refine br ?_ ?_<;>intro hc| rfl) <;>conv=>whnf
 refine aO.by (fun (i:Nat)=> ⟨[(3,.ptr 64 R4 0 0),(6,.ptr 112 pD 0 0),(9,.ptr 160 xk 0 0),(11,.ptr 192 g 0 0),(63,ar (m.ways.map Way.v).length),(64,ar i)],
   [(64,⟨R4,4,false,false,some [m.v]⟩),(112,⟨pD,4,false,false,some [.agg [.lit 4 [],.lit 5 [],.lit 8 [],.lit 7 []]]⟩),(160,⟨xk,8,false,false,some [q.v]⟩),(192,⟨g,4,false,false,some [.agg [.sl 512 K6 0 (m.az.map Edge.v).length,.sl 560 Sa 0 (m.al.map aX.v).length,.sl 608 K7 0 (m.ways.map Way.v).length,.sl 656 Sb 0 (m.aA.map Place.v).length]]⟩),
    (512,⟨K6,4,true,false,some (m.az.map Edge.v)⟩),(560,⟨Sa,5,true,false,some (m.al.map aX.v)⟩),(608,⟨K7,8,true,false,some (m.ways.map Way.v)⟩),(656,⟨Sb,7,true,false,some (m.aA.map Place.v)⟩)]⟩)
  (fun i=>i≤m.ways.length) (fun i=>m.ways.length - i) 0 su (by simp) ?_
 rintro i hi
 by_cases bk:i<m.ways.length
 ·obtain⟨e,he⟩: ∃e,m.ways[i]? =some e:=⟨_,aL bk⟩
  have ig:=eE e.line (h.wl e (List.mem_of_getElem? he))
  conv=>whnf
  repeat' (first| intro g| refine wi (av he rfl) ?_| apply ca ig| refine st ?_| refine br ?_ ?_<;>intro hc| rfl) <;>conv=>whnf
  have e1: (⟨K7,8,true,false,some ((m.ways.map Way.v).set (i:Int).toNat (.agg [vi e.id,.lit 2 (e.line.map Pt.v),vi e.level,.str e.cls,.str e.name,.bool e.yC,vi e.weight,vi e.bB]))⟩:Obj)=⟨K7,8,true,false,some (m.ways.map Way.v)⟩:=by rw[hW he]
  exact aK.mk (i+1) om (by omega) (by(refine⟨?_,?_⟩ <;>repeat' (first| exact True.intro| refine And.intro (e1) ?_| refine ai ?_| refine And.intro ?_ ?_)))
 obtain rfl:i=m.ways.length:=by omega
 have hqs:q.es.map Edge.v=(m.az.map Edge.v).set (q.k:Int).toNat (.agg [vi q.e.id,.lit 2 (q.rest.map Pt.v),vi q.e.left,vi q.e.right]):=by
  simp[wG.es,List.map_set,Edge.v,iy]
 rw[hqs]
 conv=>whnf
 repeat' (first| intro g| refine wi (av hqe rfl) ?_| refine wi (gZ rfl) ?_| refine wi (gZ (by simp)) ?_| apply ca T6| refine st ?_| refine br ?_ ?_<;>intro hc| rfl) <;>conv=>whnf
end Go.AM.Dr
namespace Go.AM.Dr
def Fc:V:= .agg [vi 0,vi 0,vi 0,vi 0,vi 0,vi 0,vi 0,vi 0]
theorem Sc {m:aG} (h:m.Fit) {id n:Int} (hf:yY m.az id= -1):Ev E 534 [m.v,vi id,vi n] ⟨.tuple [Fc,vi 5],[]⟩:=by
 have hi:=tV h id
 rw[hf] at hi
 refine Ev.aI rfl rfl rfl ?_
 exact dr
theorem VC {m:aG} (h:m.Fit) {id n:Int} {k:Nat} {e:Edge} (hf:yY m.az id=k) (he:m.az[k]? =some e) (hn:n< 1∨(e.line.length:Int) - 2 <n):Ev E 534 [m.v,vi id,vi n] ⟨.tuple [Fc,vi 1],[]⟩:=by
 have hi:=tV h id
 rw[hf] at hi
 have hl:=h.el e (List.mem_of_getElem? he)
 have w3:IntKind.i64.wrap (((e.line.map Pt.v).length:Int) - 2)=(e.line.length:Int) - 2:=by rw[List.length_map];exact wrap64 (by omega) (by omega)
 refine Ev.aI rfl rfl rfl ?_
 exact dr1
theorem y7 {m:aG} (h:m.Fit) (id n:Int): (∃x:Int,x≠0∧Ev E 534 [m.v,vi id,vi n] ⟨.tuple [Fc,vi x],[]⟩)∨ ∃q:wG m,q.e.id=id∧(q.n:Int)=n:=by
 rcases dU (fun e:Edge=>decide (e.id=id)) m.az with⟨h1,_⟩ | ⟨k,e,h1,h2,h3⟩
 ·exact .inl ⟨5,by decide,Sc h h1⟩
 ·have hl:=h.el e (List.mem_of_getElem? h2)
  by_cases hn:n< 1∨(e.line.length:Int) - 2 <n
  ·exact .inl ⟨1,by decide,VC h h1 h2 hn⟩
  ·have Q0:e.id=id:=by simpa using h3
   obtain⟨a,ha⟩: ∃x,e.line[n.toNat - 1]? =some x:=⟨_,aL (by omega)⟩
   obtain⟨b,hb⟩: ∃x,e.line[n.toNat]? =some x:=⟨_,aL (by omega)⟩
   obtain⟨c,hc⟩: ∃x,e.line[n.toNat+1]? =some x:=⟨_,aL (by omega)⟩
   exact .inr ⟨⟨k,n.toNat,e,a,b,c,h2,by rw[Q0];exact h1,by omega,ha,hb,hc,h.e,hl⟩,Q0,by show ((n.toNat:Nat):Int)=n;omega⟩
theorem ON {m:aG} {id n x:Int} (hx:x≠0) (iG:Ev E 534 [m.v,vi id,vi n] ⟨.tuple [Fc,vi x],[]⟩):Ev E 526 [m.v,vi id,vi n] ⟨vi x,[]⟩:=by
 refine Ev.aI rfl rfl rfl ?_
 conv=>whnf
 repeat' (first| contradiction| intro g| apply ca iG| refine st ?_| refine br ?_ ?_<;>intro hc| rfl) <;>conv=>whnf
theorem Sd {m:aG} {id n x:Int} (hx:x≠0) (iG:Ev E 534 [m.v,vi id,vi n] ⟨.tuple [Fc,vi x],[]⟩):Ev E 527 [m.v,vi id,vi n] ⟨vi 0,[]⟩:=by
 refine Ev.aI rfl rfl rfl ?_
 conv=>whnf
 repeat' (first| contradiction| intro g| apply ca iG| refine st ?_| refine br ?_ ?_<;>intro hc| rfl) <;>conv=>whnf
theorem Se {m:aG} (h:m.Fit) (id n:Int): ∃r:Int,Ev E 526 [m.v,vi id,vi n] ⟨vi r,[]⟩:=by
 rcases y7 h id n with⟨x,hx,iG⟩ | ⟨q,rfl,rfl⟩
 ·exact⟨x,ON hx iG⟩
 ·exact R8 h q
theorem OO {m:aG} (h:m.Fit) (id n:Int): ∃r:Int,Ev E 527 [m.v,vi id,vi n] ⟨vi r,[]⟩:=by
 rcases y7 h id n with⟨x,hx,iG⟩ | ⟨q,rfl,rfl⟩
 ·exact⟨0,Sd hx iG⟩
 ·exact⟨_,xJ h q⟩
theorem JI (fc gx:Int→Int→Int) (id:Int) {e:Event}: ∀j,e ∈ Al fc gx id j→e.kind=1∧e.other=0∧fc e.id e.n=0∧e.at_=mxI (gx e.id e.n)
 | 0,h=>by simp[Al] at h
 | j+1,h=>by
   rcases List.mem_append.1 h with h| h
   ·exact JI fc gx id j h
   ·split at h
    ·rename_i h0
     rw[List.mem_singleton.1 h]
     exact⟨rfl,rfl,h0,rfl⟩
    ·simp at h
theorem Fe (fc gx:Int→Int→Int) (m:aG) (d:Int) {e:Event}: ∀k,e ∈ si fc gx m d k→e.kind=1∧e.other=0∧fc e.id e.n=0∧e.at_=mxI (gx e.id e.n)
 | 0,h=>by simp[si] at h
 | k+1,h=>by
   rcases List.mem_append.1 h with h| h
   ·exact Fe fc gx m d k h
   ·unfold R9 at h
    split at h
    ·split at h
     ·exact JI fc gx _ _ h
     ·simp at h
    ·simp at h
theorem Sg {m:aG} (h:m.Fit) (h1:m.az.length≤25) (hl: ∀e ∈ m.az,e.line.length< 10) (d:Int): ∃l:List Event,l.length≤7*m.az.length∧(∀e ∈ l,yS m e)∧Ev E 529 [m.v,vi d] ⟨.own 5 (l.map Event.v),[]⟩:=by
 obtain⟨fc,hc⟩:=sk2 (Se h)
 obtain⟨gx,hx⟩:=sk2 (OO h)
 obtain⟨l,k1,k2,k3⟩:=Hp hc hx (fun id=>tV h id) (fun e=>OK h e) h1 hl d
 refine⟨l,k1,fun e he=> ?_,k3⟩
 obtain⟨p1,p2,p3,p4⟩:=Fe fc gx m d _ (k2 e he)
 obtain⟨kk,t,a,b,n⟩:=e
 dsimp only at p1 p2 p3 p4
 subst p1;subst p2;subst p4
 have q1:=hc a n
 rw[p3] at q1
 exact .drop q1 (hx a n) (T4 _).1 (T4 _).2
theorem K8 {m:aG} (h:m.Fit) {id n:Int} (hc:Ev E 526 [m.v,vi id,vi n] ⟨vi 0,[]⟩): ∃ (v:V) (q:wG m),Ev E 524 [m.v,vi id,vi n] ⟨v,[]⟩∧Jy v (.tuple [(aG.mk q.es m.al m.ways m.aA).v,vi 0]):=by
 rcases y7 h id n with⟨x,hx,iG⟩ | ⟨q,rfl,rfl⟩
 ·exact absurd (CS (hc.Z1 (ON hx iG))) (fun e=>hx e.symm)
 ·exact⟨_,q,OM h q hc,Vo (m:=⟨q.es,m.al,m.ways,m.aA⟩) (.inl rfl) (.inl rfl) (.inl rfl) (.inl rfl)⟩
end Go.AM.Dr
namespace Go.AM
theorem tW (k:Bool) {m:aG} (h:m.al.length< 1000000):Ev E 500 [m.kv k] ⟨.mlit (bI k m.al m.al.length),[]⟩:=by
 cases k
 ·skip
  refine Ev.aI rfl rfl rfl ?_
  conv=>whnf
  repeat' (first| intro g| refine st ?_| refine br ?_ ?_<;>intro hc| rfl) <;>conv=>whnf
  rename_i g1
  refine aO.by (fun (n:Nat)=> ⟨[(1,.ptr 32 g1 0 0),(3,.mp 112 g),(8,CN false (m.al.map aX.v)),(9,ar (m.al.map aX.v).length),(10,ar n)],
     [(32,⟨g1,4,false,false,some [m.kv false]⟩),(112,⟨g,0,false,false,some (bI false m.al n)⟩)]⟩) (fun n=>n≤m.al.length) (fun n=>m.al.length - n) 0 su afU ?_
  intro n hn
  by_cases bk:n<m.al.length
  ·obtain⟨f,hf⟩: ∃f,m.al[n]? =some f:=⟨_,aL bk⟩
   cases hq:findF (m.al.take n) f.id with
   | none=>
     have fj:=ED false hf hq
     conv=>whnf
     repeat' (first| intro g| refine wi (av hf rfl) ?_| refine wi (vp _ hq) ?_| refine wi fj ?_| refine st ?_| refine br ?_ ?_<;>intro hc| rfl) <;>conv=>whnf
     exact aK.mk (n+1) om ae0 su
   | some i=>
     obtain⟨f',Si,_⟩:=dW hq
     have K9:m.al[i]? =some f':=by
      have GQ:i<n:=by have:=(af0.1 Si).1;simp at this;omega
      rw[agy] at Si;simpa [GQ] using Si
     have hs:=Ba false hf (by rw[hq];simp)
     conv=>whnf
     repeat' (first| intro g| refine wi (av hf rfl) ?_| refine wi (vq _ hq K9) ?_| refine st ?_| refine br ?_ ?_<;>intro hc| rfl) <;>conv=>whnf
     exact aK.mk (n+1) om ae0 (by(refine⟨?_,?_⟩ <;>repeat' (first| exact True.intro| refine And.intro ((by(conv=>whnf);rw[hs])) ?_| refine ai ?_| refine And.intro ?_ ?_)))
  obtain rfl:n=m.al.length:=ae0
  have hp:=iF false m.al m.al.length
  have ht:=pz false m.al m.al.length
  have Q8:=kG false m.al m.al.length
  conv=>whnf
  repeat' (first| intro g| refine st ?_| refine br ?_ ?_<;>intro hc| rfl) <;>conv=>whnf
  rw[Q8]
  exact dr
 ·skip
  refine Ev.aI rfl rfl rfl ?_
  conv=>whnf
  repeat' (first| intro g| refine st ?_| refine br ?_ ?_<;>intro hc| rfl) <;>conv=>whnf
  rename_i g1
  refine aO.by (fun (n:Nat)=> ⟨[(1,.ptr 32 g1 0 0),(3,.mp 112 g),(8,CN true (m.al.map aX.v)),(9,ar (m.al.map aX.v).length),(10,ar n)],
     [(32,⟨g1,4,false,false,some [m.kv true]⟩),(112,⟨g,0,false,false,some (bI true m.al n)⟩)]⟩) (fun n=>n≤m.al.length) (fun n=>m.al.length - n) 0 su afU ?_
  intro n hn
  by_cases bk:n<m.al.length
  ·obtain⟨f,hf⟩: ∃f,m.al[n]? =some f:=⟨_,aL bk⟩
   cases hq:findF (m.al.take n) f.id with
   | none=>
     have fj:=ED true hf hq
     conv=>whnf
     repeat' (first| intro g| refine wi (av hf rfl) ?_| refine wi (vp _ hq) ?_| refine wi fj ?_| refine st ?_| refine br ?_ ?_<;>intro hc| rfl) <;>conv=>whnf
     exact aK.mk (n+1) om ae0 su
   | some i=>
     obtain⟨f',Si,_⟩:=dW hq
     have K9:m.al[i]? =some f':=by
      have GQ:i<n:=by have:=(af0.1 Si).1;simp at this;omega
      rw[agy] at Si;simpa [GQ] using Si
     have hs:=Ba true hf (by rw[hq];simp)
     conv=>whnf
     repeat' (first| intro g| refine wi (av hf rfl) ?_| refine wi (vq _ hq K9) ?_| refine st ?_| refine br ?_ ?_<;>intro hc| rfl) <;>conv=>whnf
     exact aK.mk (n+1) om ae0 (by(refine⟨?_,?_⟩ <;>repeat' (first| exact True.intro| refine And.intro ((by(conv=>whnf);rw[hs])) ?_| refine ai ?_| refine And.intro ?_ ?_)))
  obtain rfl:n=m.al.length:=ae0
  have hp:=iF true m.al m.al.length
  have ht:=pz true m.al m.al.length
  have Q8:=kG true m.al m.al.length
  conv=>whnf
  repeat' (first| intro g| refine st ?_| refine br ?_ ?_<;>intro hc| rfl) <;>conv=>whnf
  rw[Q8]
  exact dr
def aX.zero:aX:=⟨0,[],[],0,0⟩
end Go.AM
