/-
  Texts of the proof: LbU, LbV, LbX.
-/
import Derived.Test.YtjkmpppkkhbjkaaGreatFns
import Derived.Test.YtjkmpppkkhbjkaaGreatBase
import Derived.Test.YtjkmpppkkhbjkaaGreatLo
set_option maxRecDepth 20000
set_option linter.unusedSimpArgs false
set_option linter.unusedVariables false
namespace Go.AM
def ddI (x:Nat) (l:List Nat):List Nat:=if l.contains x then l else x::l
def dd (l:List Nat):List Nat:=l.foldr ddI []
theorem Bq {x:Nat}: ∀ {l:List Nat},x ∈ dd l↔x ∈ l
 | []=>Iff.rfl
 | a::l=>by
   have ih:=Bq (x:=x) (l:=l)
   show x ∈ ddI a (dd l)↔_
   unfold ddI
   split
   · rename_i h
     have ha:a ∈ l:=Bq.1 (by simpa using h)
     rw[ih,List.mem_cons]
     exact⟨.inr,fun h=>h.elim (fun e=>e ▸ ha) id⟩
   · rw[List.mem_cons,List.mem_cons,ih]
def YQ (before:List (List Nat)) (p:List Nat):List Nat:=dd (p++p.flatMap fun i=>before.getD i [])
def zp:List (List Nat)→List (List Nat)→List cI→List cI→Bool
 | [],_,_,_=>true
 | p::ps,before,bF,f::rest=> (fits bF (YQ before p) f bF.length &&p.all (· <bF.length)) &&zp ps (before++[YQ before p]) (bF++[f]) rest
 | _::_,_,_,[]=>false
def zs (a b:List (List Nat)):Prop:= ∀i x,x ∈ a.getD i []↔x ∈ b.getD i []
theorem wG {bF:List cI} {a b:List Nat} (h: ∀x,x ∈ a↔x ∈ b) (f:cI): ∀n,fits bF a f n=fits bF b f n
 | 0=>rfl
 | n+1=>by
   unfold fits
   have:a.contains n=b.contains n:=by
    rw[Bool.eq_iff_iff,List.contains_iff_mem,List.contains_iff_mem];exact h n
   rw[this,wG h f n]
theorem zt {a b:List (List Nat)} (h:zs a b) (p:List Nat) (x:Nat):x ∈ YQ a p↔x ∈ closure b p:=by
 unfold YQ closure
 rw[Bq,List.mem_append,List.mem_append,List.mem_flatMap,List.mem_flatMap]
 exact or_congr Iff.rfl ⟨fun ⟨i,k,l⟩=> ⟨i,k,(h i x).1 l⟩,fun ⟨i,k,l⟩=> ⟨i,k,(h i x).2 l⟩⟩
theorem zs.snoc {a b:List (List Nat)} (h:zs a b) (hl:a.length=b.length) {c d:List Nat} (k: ∀x,x ∈ c↔x ∈ d):zs (a++[c]) (b++[d]):=fun i x=>by
 rw[List.getD_eq_getElem?_getD,List.getD_eq_getElem?_getD]
 by_cases hi:i<a.length
 · rw[List.getElem?_append_left hi,List.getElem?_append_left (by omega)]
   have:=h i x
   rwa [List.getD_eq_getElem?_getD,List.getD_eq_getElem?_getD] at this
 · rw[List.getElem?_append_right (by omega),List.getElem?_append_right (by omega),hl]
   cases i - b.length with
   | zero=>simpa using k x
   | succ n=>simp
theorem CK: ∀ {ps:List (List Nat)} {a b:List (List Nat)} {bF fs:List cI},zs a b→a.length=b.length→zp ps a bF fs=Dj ps b bF fs
 | [],_,_,_,_,_,_=>by unfold zp Dj;rfl
 | p::ps,a,b,bF,[],_,_=>by unfold zp Dj;rfl
 | p::ps,a,b,bF,f::rest,h,hl=>by
   unfold zp Dj
   rw[wG (zt h p) f,CK (h.snoc hl (zt h p)) (by simp[hl])]
theorem Md {ps:List (List Nat)} {fs:List cI} (h:zp ps [] [] fs=true):Dj ps [] [] fs=true:=by
 rw[←CK (a:=[]) (b:=[]) (fun _ _=>Iff.rfl) rfl];exact h
end Go.AM
namespace Go.AM
theorem uv {E:Env}: ∀ {a b:List bJ} {σ:St} {Q:List cI→St→Prop},kP E a σ (fun fs σ'=>kP E b σ' fun fs' σ''=>Q (fs++fs') σ'')→kP E (a++b) σ Q
 | [],_,_,_,h=>by simpa [kP] using h
 | o::a,_,_,_,h=>by
   simp only[List.cons_append,kP] at h ⊢
   exact ke h fun v σ' r w h'=>uv h'
inductive FX (F:List cI) (S1:SS) (fs:List cI) (S:SS):Prop
 | mk (h:fs=F) (k:S1.Sub S)
def WX (E:Env) (os:List bJ) (S:SS) (F:List cI) (S1:SS):Prop:= ∀σ,S.On σ→kP E os σ fun fs σ'=>fs=F∧S1.On σ'
theorem WX.of {E:Env} {os:List bJ} {S S1:SS} {F:List cI} (h:A6 E os S (FX F S1)):WX E os S F S1:=fun σ ho=>by
 refine gZ (kY h ho) ?_
 rintro fs σ' ⟨S',h1,⟨h2,h3⟩⟩
 exact⟨h2,h3.on h1⟩
theorem WX.cut {E:Env} {a b:List bJ} {S S1 S2:SS} {F F2:List cI} (h1:WX E a S F S1) (h2:WX E b S1 F2 S2):WX E (a++b) S (F++F2) S2:=fun σ ho=>by
 refine uv (gZ (h1 σ ho) ?_)
 rintro fs σ' ⟨rfl,h4⟩
 refine gZ (h2 σ' h4) ?_
 rintro fs' σ'' ⟨rfl,h5⟩
 exact⟨rfl,h5⟩
theorem WX.IY {E:Env} (n:Nat) {os:List bJ} {S S1 S2:SS} {F F2:List cI} (h1:WX E (os.take n) S F S1) (h2:WX E (os.drop n) S1 F2 S2):WX E os S (F++F2) S2:=by
 rw[←List.take_append_drop n os];exact WX.cut h1 h2
theorem WS.drw {E:Env} {ops:List bJ} {c:aW} {S S1:SS} {Q:aX→SS→Prop} {F:List cI} (h:WX E ops S F S1) (hc:zp (ops.map (·.pre)) [] [] F=true) (h2:WS E c S1 Q):WS E (.seq (.drawn ops) c) S Q:=fun σ ho=>by
 rw[nd]
 refine pD (gZ (h σ ho) ?_)
 rintro fs σ' ⟨rfl,h4⟩
 exact⟨Md hc,h2 σ' h4⟩
end Go.AM
set_option maxHeartbeats 4000000
namespace Go.AM
def oO:List bJ:=match ua 1 (ua 3 LO) with
 | .seq (.drawn ops) _=>ops
 | _=> []
def Gl:List cI:=[⟨[],[.t 54]⟩,⟨[.t 54],[.t 55]⟩,⟨[.t 55],[.t 56]⟩]
theorem W5 (dn gp:Nat):WX E ((oO).take 3) ⟨(1,.ptr 32 dn 0 0):: (2,.lit 6 [.agg [.int .i64 2,.int .i64 180,.int .i64 0,.int .i64 9,.str [79,97,107],.int .i64 1024],.agg [.int .i64 1,.int .i64 0,.int .i64 0,.int .i64 9,.str [69,108,109],.int .i64 10],.agg [.int .i64 3,.int .i64 0,.int .i64 90,.int .i64 9,.str [65,115,104],.int .i64 5]]):: [],[(32,⟨dn,4,false,false,some [.agg [.lit 4 [],.lit 5 [],.lit 8 [],.sl 115 gp 0 3]]⟩),(115,⟨gp,7,true,false,some [.agg [.int .i64 1,.int .i64 0,.int .i64 0,.str [],.str [69,108,109],.int .i64 5,.int .i64 0],.agg [.int .i64 2,.int .i64 180,.int .i64 0,.str [],.str [79,97,107],.int .i64 9,.int .i64 0],.agg [.int .i64 3,.int .i64 0,.int .i64 90,.str [],.str [65,115,104],.int .i64 2,.int .i64 0]]⟩)]⟩ Gl ⟨(56,.bool true):: (1,.ptr 32 dn 0 0):: (2,.lit 6 [.agg [.int .i64 2,.int .i64 180,.int .i64 0,.int .i64 9,.str [79,97,107],.int .i64 1024],.agg [.int .i64 1,.int .i64 0,.int .i64 0,.int .i64 9,.str [69,108,109],.int .i64 10],.agg [.int .i64 3,.int .i64 0,.int .i64 90,.int .i64 9,.str [65,115,104],.int .i64 5]]):: [],[(32,⟨dn,4,false,false,some [.agg [.lit 4 [],.lit 5 [],.lit 8 [],.sl 115 gp 0 3]]⟩),(115,⟨gp,7,true,false,some [.agg [.int .i64 1,.int .i64 0,.int .i64 0,.str [],.str [69,108,109],.int .i64 5,.int .i64 0],.agg [.int .i64 2,.int .i64 180,.int .i64 0,.str [],.str [79,97,107],.int .i64 9,.int .i64 0],.agg [.int .i64 3,.int .i64 0,.int .i64 90,.str [],.str [65,115,104],.int .i64 2,.int .i64 0]]⟩)]⟩:=WX.of (by
 (conv=>whnf);repeat' ((first| intro g| refine ah.mk _ (IK) ?_| refine st ?_| (first| refine b1 ?_ ?_| refine b2 ?_ ?_| refine Br.mk ?_ ?_) <;>intro hc| exact rfl) <;>conv=>whnf)
 exact FX.mk rfl (by(refine⟨?_,?_⟩ <;>repeat' (first| exact True.intro| refine ai ?_| refine And.intro ?_ ?_))))
def Gm:List cI:=[⟨[.t 56,.t 2],[.t 57]⟩,⟨[.t 56,.t 57],[.t 58]⟩,⟨[.t 56,.t 58],[.t 59]⟩,⟨[.t 56,.t 2],[.t 60]⟩,⟨[.t 56,.t 60],[.t 61]⟩,⟨[.t 56,.t 61],[.t 62]⟩,⟨[.t 56,.t 59,.t 62],[.t 63]⟩,⟨[.t 56,.t 63],[.t 64]⟩,⟨[.t 56,.t 64],[.t 65]⟩,⟨[.t 65],[.t 66]⟩]
theorem W6 (dn gp:Nat):WX E (((oO).drop 3).take 10) ⟨(56,.bool true):: (1,.ptr 32 dn 0 0):: (2,.lit 6 [.agg [.int .i64 2,.int .i64 180,.int .i64 0,.int .i64 9,.str [79,97,107],.int .i64 1024],.agg [.int .i64 1,.int .i64 0,.int .i64 0,.int .i64 9,.str [69,108,109],.int .i64 10],.agg [.int .i64 3,.int .i64 0,.int .i64 90,.int .i64 9,.str [65,115,104],.int .i64 5]]):: [],[(32,⟨dn,4,false,false,some [.agg [.lit 4 [],.lit 5 [],.lit 8 [],.sl 115 gp 0 3]]⟩),(115,⟨gp,7,true,false,some [.agg [.int .i64 1,.int .i64 0,.int .i64 0,.str [],.str [69,108,109],.int .i64 5,.int .i64 0],.agg [.int .i64 2,.int .i64 180,.int .i64 0,.str [],.str [79,97,107],.int .i64 9,.int .i64 0],.agg [.int .i64 3,.int .i64 0,.int .i64 90,.str [],.str [65,115,104],.int .i64 2,.int .i64 0]]⟩)]⟩ Gm ⟨(66,.bool true):: (1,.ptr 32 dn 0 0):: (2,.lit 6 [.agg [.int .i64 2,.int .i64 180,.int .i64 0,.int .i64 9,.str [79,97,107],.int .i64 1024],.agg [.int .i64 1,.int .i64 0,.int .i64 0,.int .i64 9,.str [69,108,109],.int .i64 10],.agg [.int .i64 3,.int .i64 0,.int .i64 90,.int .i64 9,.str [65,115,104],.int .i64 5]]):: [],[(32,⟨dn,4,false,false,some [.agg [.lit 4 [],.lit 5 [],.lit 8 [],.sl 115 gp 0 3]]⟩),(115,⟨gp,7,true,false,some [.agg [.int .i64 1,.int .i64 0,.int .i64 0,.str [],.str [69,108,109],.int .i64 5,.int .i64 0],.agg [.int .i64 2,.int .i64 180,.int .i64 0,.str [],.str [79,97,107],.int .i64 9,.int .i64 0],.agg [.int .i64 3,.int .i64 0,.int .i64 90,.str [],.str [65,115,104],.int .i64 2,.int .i64 0]]⟩)]⟩:=WX.of (by
 (conv=>whnf);repeat' ((first| intro g| refine ah.mk _ (IL) ?_| refine st ?_| (first| refine b1 ?_ ?_| refine b2 ?_ ?_| refine Br.mk ?_ ?_) <;>intro hc| exact rfl) <;>conv=>whnf)
 exact FX.mk rfl (by(refine⟨?_,?_⟩ <;>repeat' (first| exact True.intro| refine ai ?_| refine And.intro ?_ ?_))))
def Gn:List cI:=[⟨[.t 66,.t 2],[.t 67]⟩,⟨[.t 66,.t 67],[.t 68]⟩,⟨[.t 66,.t 68],[.t 69]⟩,⟨[.t 66,.t 2],[.t 70]⟩,⟨[.t 66,.t 70],[.t 71]⟩,⟨[.t 66,.t 71],[.t 72]⟩,⟨[.t 66,.t 69,.t 72],[.t 73]⟩,⟨[.t 66,.t 73],[.t 74]⟩,⟨[.t 66,.t 74],[.t 75]⟩,⟨[.t 75],[.t 76]⟩]
theorem W7 (dn gp:Nat):WX E ((((oO).drop 3).drop 10).take 10) ⟨(66,.bool true):: (1,.ptr 32 dn 0 0):: (2,.lit 6 [.agg [.int .i64 2,.int .i64 180,.int .i64 0,.int .i64 9,.str [79,97,107],.int .i64 1024],.agg [.int .i64 1,.int .i64 0,.int .i64 0,.int .i64 9,.str [69,108,109],.int .i64 10],.agg [.int .i64 3,.int .i64 0,.int .i64 90,.int .i64 9,.str [65,115,104],.int .i64 5]]):: [],[(32,⟨dn,4,false,false,some [.agg [.lit 4 [],.lit 5 [],.lit 8 [],.sl 115 gp 0 3]]⟩),(115,⟨gp,7,true,false,some [.agg [.int .i64 1,.int .i64 0,.int .i64 0,.str [],.str [69,108,109],.int .i64 5,.int .i64 0],.agg [.int .i64 2,.int .i64 180,.int .i64 0,.str [],.str [79,97,107],.int .i64 9,.int .i64 0],.agg [.int .i64 3,.int .i64 0,.int .i64 90,.str [],.str [65,115,104],.int .i64 2,.int .i64 0]]⟩)]⟩ Gn ⟨(76,.bool true):: (1,.ptr 32 dn 0 0):: (2,.lit 6 [.agg [.int .i64 2,.int .i64 180,.int .i64 0,.int .i64 9,.str [79,97,107],.int .i64 1024],.agg [.int .i64 1,.int .i64 0,.int .i64 0,.int .i64 9,.str [69,108,109],.int .i64 10],.agg [.int .i64 3,.int .i64 0,.int .i64 90,.int .i64 9,.str [65,115,104],.int .i64 5]]):: [],[(32,⟨dn,4,false,false,some [.agg [.lit 4 [],.lit 5 [],.lit 8 [],.sl 115 gp 0 3]]⟩),(115,⟨gp,7,true,false,some [.agg [.int .i64 1,.int .i64 0,.int .i64 0,.str [],.str [69,108,109],.int .i64 5,.int .i64 0],.agg [.int .i64 2,.int .i64 180,.int .i64 0,.str [],.str [79,97,107],.int .i64 9,.int .i64 0],.agg [.int .i64 3,.int .i64 0,.int .i64 90,.str [],.str [65,115,104],.int .i64 2,.int .i64 0]]⟩)]⟩:=WX.of (by
 (conv=>whnf);repeat' ((first| intro g| refine ah.mk _ (IM) ?_| refine st ?_| (first| refine b1 ?_ ?_| refine b2 ?_ ?_| refine Br.mk ?_ ?_) <;>intro hc| exact rfl) <;>conv=>whnf)
 exact FX.mk rfl (by(refine⟨?_,?_⟩ <;>repeat' (first| exact True.intro| refine ai ?_| refine And.intro ?_ ?_))))
def Gp:List cI:=[⟨[.t 76,.t 2],[.t 77]⟩,⟨[.t 76,.t 77],[.t 78]⟩,⟨[.t 76,.t 78],[.t 79]⟩,⟨[.t 76,.t 2],[.t 80]⟩,⟨[.t 76,.t 80],[.t 81]⟩,⟨[.t 76,.t 81],[.t 82]⟩,⟨[.t 76,.t 79,.t 82],[.t 83]⟩,⟨[.t 76,.t 83],[.t 84]⟩,⟨[.t 76,.t 84],[.t 85]⟩,⟨[.t 85],[.t 86]⟩]
theorem W8 (dn gp:Nat):WX E (((((oO).drop 3).drop 10).drop 10).take 10) ⟨(76,.bool true):: (1,.ptr 32 dn 0 0):: (2,.lit 6 [.agg [.int .i64 2,.int .i64 180,.int .i64 0,.int .i64 9,.str [79,97,107],.int .i64 1024],.agg [.int .i64 1,.int .i64 0,.int .i64 0,.int .i64 9,.str [69,108,109],.int .i64 10],.agg [.int .i64 3,.int .i64 0,.int .i64 90,.int .i64 9,.str [65,115,104],.int .i64 5]]):: [],[(32,⟨dn,4,false,false,some [.agg [.lit 4 [],.lit 5 [],.lit 8 [],.sl 115 gp 0 3]]⟩),(115,⟨gp,7,true,false,some [.agg [.int .i64 1,.int .i64 0,.int .i64 0,.str [],.str [69,108,109],.int .i64 5,.int .i64 0],.agg [.int .i64 2,.int .i64 180,.int .i64 0,.str [],.str [79,97,107],.int .i64 9,.int .i64 0],.agg [.int .i64 3,.int .i64 0,.int .i64 90,.str [],.str [65,115,104],.int .i64 2,.int .i64 0]]⟩)]⟩ Gp ⟨(86,.bool true):: (1,.ptr 32 dn 0 0):: (2,.lit 6 [.agg [.int .i64 2,.int .i64 180,.int .i64 0,.int .i64 9,.str [79,97,107],.int .i64 1024],.agg [.int .i64 1,.int .i64 0,.int .i64 0,.int .i64 9,.str [69,108,109],.int .i64 10],.agg [.int .i64 3,.int .i64 0,.int .i64 90,.int .i64 9,.str [65,115,104],.int .i64 5]]):: [],[(32,⟨dn,4,false,false,some [.agg [.lit 4 [],.lit 5 [],.lit 8 [],.sl 115 gp 0 3]]⟩),(115,⟨gp,7,true,false,some [.agg [.int .i64 1,.int .i64 0,.int .i64 0,.str [],.str [69,108,109],.int .i64 5,.int .i64 0],.agg [.int .i64 2,.int .i64 180,.int .i64 0,.str [],.str [79,97,107],.int .i64 9,.int .i64 0],.agg [.int .i64 3,.int .i64 0,.int .i64 90,.str [],.str [65,115,104],.int .i64 2,.int .i64 0]]⟩)]⟩:=WX.of (by
 (conv=>whnf);repeat' ((first| intro g| refine ah.mk _ (IN) ?_| refine st ?_| (first| refine b1 ?_ ?_| refine b2 ?_ ?_| refine Br.mk ?_ ?_) <;>intro hc| exact rfl) <;>conv=>whnf)
 exact FX.mk rfl (by(refine⟨?_,?_⟩ <;>repeat' (first| exact True.intro| refine ai ?_| refine And.intro ?_ ?_))))
def Gq:List cI:=[⟨[.t 86,.t 2],[.t 87]⟩,⟨[.t 86,.t 87],[.t 88]⟩,⟨[.t 86,.t 88],[.t 89]⟩,⟨[.t 86,.t 2],[.t 90]⟩,⟨[.t 86,.t 90],[.t 91]⟩,⟨[.t 86,.t 91],[.t 92]⟩,⟨[.t 86,.t 89,.t 92],[.t 93]⟩,⟨[.t 86,.t 93],[.t 94]⟩,⟨[.t 94],[.t 3]⟩]
theorem W9 (dn gp:Nat):WX E (((((oO).drop 3).drop 10).drop 10).drop 10) ⟨(86,.bool true):: (1,.ptr 32 dn 0 0):: (2,.lit 6 [.agg [.int .i64 2,.int .i64 180,.int .i64 0,.int .i64 9,.str [79,97,107],.int .i64 1024],.agg [.int .i64 1,.int .i64 0,.int .i64 0,.int .i64 9,.str [69,108,109],.int .i64 10],.agg [.int .i64 3,.int .i64 0,.int .i64 90,.int .i64 9,.str [65,115,104],.int .i64 5]]):: [],[(32,⟨dn,4,false,false,some [.agg [.lit 4 [],.lit 5 [],.lit 8 [],.sl 115 gp 0 3]]⟩),(115,⟨gp,7,true,false,some [.agg [.int .i64 1,.int .i64 0,.int .i64 0,.str [],.str [69,108,109],.int .i64 5,.int .i64 0],.agg [.int .i64 2,.int .i64 180,.int .i64 0,.str [],.str [79,97,107],.int .i64 9,.int .i64 0],.agg [.int .i64 3,.int .i64 0,.int .i64 90,.str [],.str [65,115,104],.int .i64 2,.int .i64 0]]⟩)]⟩ Gq ⟨(3,.bool true):: (1,.ptr 32 dn 0 0):: (2,.lit 6 [.agg [.int .i64 2,.int .i64 180,.int .i64 0,.int .i64 9,.str [79,97,107],.int .i64 1024],.agg [.int .i64 1,.int .i64 0,.int .i64 0,.int .i64 9,.str [69,108,109],.int .i64 10],.agg [.int .i64 3,.int .i64 0,.int .i64 90,.int .i64 9,.str [65,115,104],.int .i64 5]]):: [],[(32,⟨dn,4,false,false,some [.agg [.lit 4 [],.lit 5 [],.lit 8 [],.sl 115 gp 0 3]]⟩),(115,⟨gp,7,true,false,some [.agg [.int .i64 1,.int .i64 0,.int .i64 0,.str [],.str [69,108,109],.int .i64 5,.int .i64 0],.agg [.int .i64 2,.int .i64 180,.int .i64 0,.str [],.str [79,97,107],.int .i64 9,.int .i64 0],.agg [.int .i64 3,.int .i64 0,.int .i64 90,.str [],.str [65,115,104],.int .i64 2,.int .i64 0]]⟩)]⟩:=WX.of (by
 (conv=>whnf);repeat' ((first| intro g| refine ah.mk _ (IP) ?_| refine st ?_| (first| refine b1 ?_ ?_| refine b2 ?_ ?_| refine Br.mk ?_ ?_) <;>intro hc| exact rfl) <;>conv=>whnf)
 exact FX.mk rfl (by(refine⟨?_,?_⟩ <;>repeat' (first| exact True.intro| refine ai ?_| refine And.intro ?_ ?_))))
theorem aaa (dn gp:Nat):WX E oO ⟨(1,.ptr 32 dn 0 0):: (2,.lit 6 [.agg [.int .i64 2,.int .i64 180,.int .i64 0,.int .i64 9,.str [79,97,107],.int .i64 1024],.agg [.int .i64 1,.int .i64 0,.int .i64 0,.int .i64 9,.str [69,108,109],.int .i64 10],.agg [.int .i64 3,.int .i64 0,.int .i64 90,.int .i64 9,.str [65,115,104],.int .i64 5]]):: [],[(32,⟨dn,4,false,false,some [.agg [.lit 4 [],.lit 5 [],.lit 8 [],.sl 115 gp 0 3]]⟩),(115,⟨gp,7,true,false,some [.agg [.int .i64 1,.int .i64 0,.int .i64 0,.str [],.str [69,108,109],.int .i64 5,.int .i64 0],.agg [.int .i64 2,.int .i64 180,.int .i64 0,.str [],.str [79,97,107],.int .i64 9,.int .i64 0],.agg [.int .i64 3,.int .i64 0,.int .i64 90,.str [],.str [65,115,104],.int .i64 2,.int .i64 0]]⟩)]⟩ (Gl++(Gm++(Gn++(Gp++Gq)))) ⟨(3,.bool true):: (1,.ptr 32 dn 0 0):: (2,.lit 6 [.agg [.int .i64 2,.int .i64 180,.int .i64 0,.int .i64 9,.str [79,97,107],.int .i64 1024],.agg [.int .i64 1,.int .i64 0,.int .i64 0,.int .i64 9,.str [69,108,109],.int .i64 10],.agg [.int .i64 3,.int .i64 0,.int .i64 90,.int .i64 9,.str [65,115,104],.int .i64 5]]):: [],[(32,⟨dn,4,false,false,some [.agg [.lit 4 [],.lit 5 [],.lit 8 [],.sl 115 gp 0 3]]⟩),(115,⟨gp,7,true,false,some [.agg [.int .i64 1,.int .i64 0,.int .i64 0,.str [],.str [69,108,109],.int .i64 5,.int .i64 0],.agg [.int .i64 2,.int .i64 180,.int .i64 0,.str [],.str [79,97,107],.int .i64 9,.int .i64 0],.agg [.int .i64 3,.int .i64 0,.int .i64 90,.str [],.str [65,115,104],.int .i64 2,.int .i64 0]]⟩)]⟩:=
 WX.IY 3 (W5 dn gp) (WX.IY 10 (W6 dn gp) (WX.IY 10 (W7 dn gp) (WX.IY 10 (W8 dn gp) (W9 dn gp))))
theorem Gr:zp (oO.map (·.pre)) [] [] (Gl++(Gm++(Gn++(Gp++Gq))))=true:=by kernel_rfl
end Go.AM
