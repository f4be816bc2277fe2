/-
  Texts of the proof: POfA, POfB.
-/
import Derived.Test.YtjmcpijpclfakaaGreatHa
import Derived.Test.YtjmcpijpclfakaaGreatF
import Derived.Test.YtjmcpijpclfakaaGreatD
set_option maxRecDepth 20000
set_option linter.unusedSimpArgs false
set_option linter.unusedVariables false
namespace Go.AM
def gK (v:Va):Bd:=if v.t=3 then⟨0,0,false,[v.s],true,true⟩ else if v.t=2 then(bif v.b then nb 1 1 else nb 0 0) else nb v.n v.n
def yO (op:Int) (a b:Bd):Bd:=
 if op=4∨op=11 then least a b else if op=5∨op=12 then m8 a b else if op=6 then tI a b else if op=7 then pK a b
 else if op=8 then plus a b else if op=9 then minus a b else times a b
def cS (K:Int→Bd) (op var:Int) (val:Va):List Bd→Bd
 | [a]=>nb (oG (1 - a.hi)) (oG (1 - a.lo))
 | [a,b]=>yO op a b
 | [a,b,c]=>if a.lo=1 then b else if a.hi=0 then c else either b c
 | _=>if op=1 then gK val else K var
mutual
def Ex.bd (K:Int→Bd):Ex→Bd
 | .mk op var val nl l=>cS K op var val (Ex.DR K l)
def Ex.DR (K:Int→Bd):List Ex→List Bd
 | []=> []
 | e::l=>e.bd K::Ex.DR K l
end
theorem Ex.FZ (K:Int→Bd): ∀l:List Ex,Ex.DR K l=l.map (Ex.bd K)
 | []=>by simp[Ex.DR]
 | e::l=>by simp[Ex.DR,Ex.FZ K l]
theorem Ex.nc (K:Int→Bd) (op var:Int) (val:Va) (nl:Bool) (l:List Ex): (Ex.mk op var val nl l).bd K=cS K op var val (l.map (Ex.bd K)):=by
 simp only[Ex.bd,Ex.FZ]
structure KOk (K:Int→Bd):Prop where
 text: ∀v,cI v≠0→(K v).text=decide (cI v=3)
 some: ∀v,(K v).text=true→((K v).some=true↔(K v).ws≠[])
 len: ∀v,(K v).ws.length< 1000
structure yP (t:Int) (n:Nat) (b:Bd):Prop where
 text:b.text=decide (t=3)
 some:b.text=true→(b.some=true↔b.ws≠[])
 len:b.ws.length≤1000*n
theorem Cm {l:List bH} (h:gZ l):KOk (aH l) where
 text v hv:=by
  unfold aH
  split
  · rename_i e;rw[decide_eq_true e];rfl
  · rename_i e;rw[decide_eq_false e];unfold pL;split<;>rfl
 some v hv:=by
  unfold aH at hv ⊢
  split at hv
  · rename_i e;rw[if_pos e];simp[jc]
  · unfold pL at hv;split at hv<;>simp[nb] at hv
 len v:=by
  unfold aH
  split
  · simp only[jc]
    cases ho:cY v l with
    | nil=>simp[fA]
    | cons k own=>
      have hk:k ∈ l:=(List.mem_filter.1 (show k ∈ cY v l by rw[ho];simp)).1
      have h1:=m9 [] (k.texts.filter (common (k::own)))
      have h2: (k.texts.filter (common (k::own))).length≤k.texts.length:=List.length_filter_le ..
      have h3:=h.tx k hk
      simp only[fA]
      simp at h1
      omega
  · unfold pL;split<;>simp[nb]
theorem DS (t:Int) (n:Nat) (a b:Int) (ht:t≠3):yP t n (nb a b):=⟨by simp[nb,ht],by simp[nb],by simp[nb]⟩
theorem Cn (op:Int) (a b:Bd): ∃x y,yO op a b=nb x y:=by
 unfold yO
 split;exact⟨_,_,rfl⟩
 split;exact⟨_,_,rfl⟩
 split
 · unfold tI
   repeat' split
   all_goals exact⟨_,_,rfl⟩
 split
 · unfold pK
   repeat' split
   all_goals exact⟨_,_,rfl⟩
 split;exact⟨_,_,rfl⟩
 split;exact⟨_,_,rfl⟩
 exact⟨_,_,rfl⟩
theorem I5 {t:Int} {m n:Nat} {a b:Bd} (ha:yP t m a) (hb:yP t n b):yP t (m+n) (either a b):=by
 unfold either
 cases h:a.text
 · simp only[Bool.false_eq_true,if_false]
   have:=ha.text
   rw[h] at this
   exact DS _ _ _ _ (by simpa using this.symm)
 · simp only[if_true]
   have ht:=ha.text
   rw[h] at ht
   split
   · rename_i hs
     simp only[Bool.and_eq_true] at hs
     refine⟨ht,fun _=> ⟨fun _=> ?_,fun _=>rfl⟩,?_⟩
     · have h1:=(ha.some h).1 hs.1
       dsimp only
       intro h2
       have h3: ∀ (l a:List dE),a≠[]→union a l≠[]:=by
        intro l
        induction l with
        | nil=>intro a h;exact h
        | cons s l ih=>
          intro a h
          unfold union
          split
          · exact ih _ h
          · exact ih _ (by simp)
       exact h3 _ _ h1 h2
     · have:=m9 a.ws b.ws
       have:=ha.len
       have:=hb.len
       dsimp only
       omega
   · exact⟨ht,fun _=>by simp,by simp⟩
theorem eT {  op var:Int} {val:Va} {nl:Bool} {l:List Ex} (h: (Ex.mk op var val nl l).b4≠0):
   (op=1∧l=[]∧var=0∧val.right=true∧(Ex.mk op var val nl l).b4=val.t)∨
   (op=2∧l=[]∧val=aM∧cI var≠0∧(Ex.mk op var val nl l).b4=cI var)∨
   (∃x,op=3∧l=[x]∧var=0∧val=aM∧x.b4=2∧(Ex.mk op var val nl l).b4=2)∨
   (∃x y,(4≤op∧op≤12)∧l=[x,y]∧var=0∧val=aM∧x.b4≠0∧y.b4≠0∧(Ex.mk op var val nl l).b4≠3∧
     (op=6→x.b4=y.b4∧(Ex.mk op var val nl l).b4=2)∧(op=4∨op=5→x.b4=2∧y.b4=2∧(Ex.mk op var val nl l).b4=2)∧(op=7→x.b4=1∧y.b4=1∧(Ex.mk op var val nl l).b4=2)∧(8≤op→x.b4=1∧y.b4=1∧(Ex.mk op var val nl l).b4=1))∨
   (∃x y z,op=13∧l=[x,y,z]∧var=0∧val=aM∧x.b4=2∧y.b4≠0∧z.b4=y.b4∧(Ex.mk op var val nl l).b4=y.b4):=by
 rw[Ex.pI] at h ⊢
 cases hh:eJ op var val l.length with
 | false=>simp only[jt,hh] at h;exact absurd rfl h
 | true=>
   simp only[jt,hh,if_true] at h ⊢
   rcases nS hh with⟨rfl,hl,rfl⟩ | ⟨rfl,hl,rfl⟩ | ⟨rfl,hl,rfl,rfl⟩ | ⟨ho,hl,rfl,rfl⟩ | ⟨rfl,hl,rfl,rfl⟩
   · obtain rfl:=List.eq_nil_of_length_eq_zero hl
     refine .inl ⟨rfl,rfl,rfl,?_⟩
     cases hr:val.right with
     | true=>simp[hr]
     | false=>simp[hr] at h
   · obtain rfl:=List.eq_nil_of_length_eq_zero hl
     refine .inr (.inl ⟨rfl,rfl,rfl,by simpa using h,by simp⟩)
   · match l,hl,h with
     | [x],_,h=>
       refine .inr (.inr (.inl ⟨x,rfl,rfl,rfl,rfl,?_⟩))
       simp[tU] at h ⊢
       exact⟨h.2,by simp[h.2]⟩
   · rw[ if_neg (by omega),if_neg (by omega)] at h ⊢
     match l,hl,h with
     | [x,y],_,h=>
       refine .inr (.inr (.inr (.inl ⟨x,y,ho,rfl,rfl,rfl,?_⟩)))
       simp only[List.map_cons,List.map_nil,List.mem_cons,List.not_mem_nil,or_false] at h ⊢
       by_cases h0:0=x.b4∨0=y.b4
       · rw[if_pos h0] at h;exact absurd rfl h
       rw[if_neg h0] at h ⊢
       simp only[tU] at h ⊢
       refine⟨by omega,by omega,?_⟩
       split at h
       · rename_i e
         rw[if_pos e] at ⊢
         split at h
         · rename_i e2;rw[if_pos e2];exact⟨by decide,by omega,fun _=> ⟨e2.1,e2.2,rfl⟩,by omega,by omega⟩
         · exact absurd rfl h
       · rename_i e
         rw[if_neg e] at ⊢
         split at h
         · rename_i e1
           rw[if_pos e1] at ⊢
           split at h
           · rename_i e2;rw[if_pos e2];exact⟨by decide,fun _=> ⟨e2,rfl⟩,by omega,by omega,by omega⟩
           · exact absurd rfl h
         · rename_i e1
           rw[if_neg e1] at ⊢
           split at h
           · rename_i e3
             rw[if_pos e3] at ⊢
             split at h
             · rename_i e2;rw[if_pos e2];exact⟨by decide,by omega,by omega,fun _=> ⟨e2.1,e2.2,rfl⟩,by omega⟩
             · exact absurd rfl h
           · rename_i e3
             rw[if_neg e3] at ⊢
             split at h
             · rename_i e2;rw[if_pos e2];exact⟨by decide,by omega,by omega,by omega,fun _=> ⟨e2.1,e2.2,rfl⟩⟩
             · exact absurd rfl h
   · match l,hl,h with
     | [x,y,z],_,h=>
       refine .inr (.inr (.inr (.inr ⟨x,y,z,rfl,rfl,rfl,rfl,?_⟩)))
       simp only[List.map_cons,List.map_nil,List.mem_cons,List.not_mem_nil,or_false,Int.reduceEq,if_false] at h ⊢
       split at h
       · exact absurd rfl h
       · rename_i h0
         rw[if_neg h0]
         simp only[tU] at h ⊢
         split at h
         · rename_i e;rw[if_pos e];exact⟨e.1,by omega,e.2.symm,rfl⟩
         · exact absurd rfl h
end Go.AM
namespace Go.AM
theorem uh {v:Va} (h:v.right=true):v.t=1∨v.t=2∨v.t=3:=by
 unfold Va.right at h
 repeat' split at h
 all_goals first| omega| simp at h
theorem oK {K:Int→Bd} (hK:KOk K): ∀ (k:Nat) (e:Ex),e.size≤k→e.b4≠0→yP e.b4 e.size (e.bd K)
 | 0,e,h,_=>by have:=e.size_pos;omega
 | k+1,.mk op var val nl l,h,ht=>by
   have hc:=eT ht
   rw[Ex.nc]
   have cJ: (Ex.mk op var val nl l).size=1+Ex.bK l:=by simp only[Ex.size]
   rcases hc with⟨rfl,rfl,_,hr,e⟩ | ⟨rfl,rfl,_,hv,e⟩ | ⟨x,rfl,rfl,_,_,hx,e⟩ | ⟨x,y,ho,rfl,_,_,hx,hy,e,_⟩ | ⟨x,y,z,rfl,rfl,_,_,hx,hy,hz,e⟩
   · rw[e]
     simp only[List.map_nil,cS,if_true]
     unfold gK
     rcases uh hr with h1| h1| h1<;>simp only[h1,Int.reduceEq,if_true,if_false]
     · exact DS _ _ _ _ (by decide)
     · cases val.b<;>exact DS _ _ _ _ (by decide)
     · exact⟨rfl,by simp,by simp[Ex.size];omega⟩
   · rw[e]
     simp only[List.map_nil,cS,Int.reduceEq,if_false]
     refine⟨hK.text var hv,hK.some var,?_⟩
     have:=hK.len var
     simp[Ex.size];omega
   · rw[e]
     exact DS _ _ _ _ (by decide)
   · simp only[List.map_cons,List.map_nil,cS]
     obtain⟨a,b,Ny⟩:=Cn op (x.bd K) (y.bd K)
     rw[Ny]
     exact DS _ _ _ _ e
   · have sx:Ex.bK [x,y,z]=x.size+(y.size+z.size):=by simp[Ex.bK]
     have bx:=oK hK k x (by omega) (by omega)
     have by':=oK hK k y (by omega) hy
     have bz:=oK hK k z (by omega) (by omega)
     rw[hz] at bz
     rw[e,cJ,sx]
     have he:=I5 by' bz
     simp only[List.map_cons,List.map_nil,cS]
     have mono: ∀ {t:Int} {m n:Nat} {b:Bd},m≤n→yP t m b→yP t n b:=fun h hb=> ⟨hb.text,hb.some,by have:=hb.len;omega⟩
     split
     · exact mono (by omega) by'
     split
     · exact mono (by omega) bz
     · exact mono (by omega) he
theorem Ex.br (x:Ex): ∃a b c d e f L,x.v= .agg [vi a,vi b,vi c,vi d,.bool e,.str f,L]∧V.aj (.agg [vi a,vi b,vi c,vi d,.bool e,.str f,L])=true:=by
 obtain⟨a,b,c,d,e,f,L,h,hL,hp⟩:=x.db
 exact⟨a,b,c,d,e,f,L,h,by rw[←h];exact x.pure⟩
def DT:List V:=[.agg [vi 4,.fn 408 []],.agg [vi 5,.fn 409 []],.agg [vi 6,.fn 410 []],.agg [vi 7,.fn 411 []],.agg [vi 8,.fn 412 []],.agg [vi 9,.fn 413 []],.agg [vi 10,.fn 414 []],.agg [vi 11,.fn 408 []],.agg [vi 12,.fn 409 []]]
theorem Co:Ev E 379 [] ⟨.own 2 DT,[]⟩:=by
 refine Ev.aG aba (abb _) rfl ?_
 (conv=>whnf);repeat' ((first| intro g| refine st ?_| (first| refine b1 ?_ ?_| refine b2 ?_ ?_| refine Br.mk ?_ ?_) <;>intro hc| exact rfl) <;>conv=>whnf)
theorem fa (o:Int) (g:Nat) (op:Int) (r:List V):Ev E 381 [.agg [vi o,.fn g []],.eptr (.agg (vi op::r)) 0] ⟨.bool (decide (o=op)),[]⟩:=by
 refine Ev.aG abe (abf _) rfl ?_
 (conv=>whnf);repeat' ((first| intro g| refine st ?_| (first| refine b1 ?_ ?_| refine b2 ?_ ?_| refine Br.mk ?_ ?_) <;>intro hc| exact rfl) <;>conv=>whnf)
theorem Ld {op:Int} (dN:4≤op∧op≤12) {r:List V} (hr:V.ae r=true):Ev E 380 [.lit 2 DT,.fn 381 [.eptr (.agg (vi op::r)) 0]] ⟨vi (op - 4),[]⟩:=by
 have hp:V.ae [.fn 381 [.eptr (.agg (vi op::r)) 0]]=true:=by simp[V.ae,V.aj,hr]
 have cm:aD E 381=[]:=rfl
 have eb:V.ae [.eptr (.agg (vi op::r)) 0]=true:=by simp[V.ae,V.aj,hr]
 refine Ev.aG abc (abd _) rfl ?_
 unfold DT
 (conv=>whnf);repeat' ((first| intro g| refine st ?_| (first| refine b1 ?_ ?_| refine b2 ?_ ?_| refine Br.mk ?_ ?_) <;>intro hc| exact rfl) <;>conv=>whnf)
 refine bj.by (fun (i:Nat)=> ⟨[(0,.lit 2 DT),(1,.fn 381 [.eptr (.agg (vi op::r)) 0]),(7,aO 9),(8,aO i)],[]⟩) (fun i=> (i:Int)+4≤op) (fun i=>9 - i) 0 (by(refine⟨?_,?_⟩ <;>repeat' (first| exact True.intro| refine ai ?_| refine And.intro ?_ ?_))) (by omega) ?_
 rintro i hi
 have gv:i=0∨i=1∨i=2∨i=3∨i=4∨i=5∨i=6∨i=7∨i=8:=by omega
 rcases gv with rfl| rfl| rfl| rfl| rfl| rfl| rfl| rfl| rfl
 · by_cases ho: (4:Int)=op
   · subst ho
     (conv=>whnf);repeat' ((first| intro g| refine bD.mk _ (rfl) ?_| refine aq (by assumption) (by first| assumption| rfl| (simp only[V.ae,V.aj,Bool.and_self,Bool.true_and,Bool.and_true, *])) (fa _ _ _ _) rfl ?_| refine st ?_| (first| refine b1 ?_ ?_| refine b2 ?_ ?_| refine Br.mk ?_ ?_) <;>intro hc| exact rfl) <;>conv=>whnf)
   · (conv=>whnf);repeat' ((first| intro g| refine bD.mk _ (rfl) ?_| refine aq (by assumption) (by first| assumption| rfl| (simp only[V.ae,V.aj,Bool.and_self,Bool.true_and,Bool.and_true, *])) (fa _ _ _ _) rfl ?_| refine st ?_| (first| refine b1 ?_ ?_| refine b2 ?_ ?_| refine Br.mk ?_ ?_) <;>intro hc| exact rfl) <;>conv=>whnf)
     exact bk.mk 1 (by first| omega| (dsimp only;omega)) (by omega) (by(refine⟨?_,?_⟩ <;>repeat' (first| exact True.intro| refine ai ?_| refine And.intro ?_ ?_)))
 · by_cases ho: (5:Int)=op
   · subst ho
     (conv=>whnf);repeat' ((first| intro g| refine bD.mk _ (rfl) ?_| refine aq (by assumption) (by first| assumption| rfl| (simp only[V.ae,V.aj,Bool.and_self,Bool.true_and,Bool.and_true, *])) (fa _ _ _ _) rfl ?_| refine st ?_| (first| refine b1 ?_ ?_| refine b2 ?_ ?_| refine Br.mk ?_ ?_) <;>intro hc| exact rfl) <;>conv=>whnf)
   · (conv=>whnf);repeat' ((first| intro g| refine bD.mk _ (rfl) ?_| refine aq (by assumption) (by first| assumption| rfl| (simp only[V.ae,V.aj,Bool.and_self,Bool.true_and,Bool.and_true, *])) (fa _ _ _ _) rfl ?_| refine st ?_| (first| refine b1 ?_ ?_| refine b2 ?_ ?_| refine Br.mk ?_ ?_) <;>intro hc| exact rfl) <;>conv=>whnf)
     exact bk.mk 2 (by first| omega| (dsimp only;omega)) (by omega) (by(refine⟨?_,?_⟩ <;>repeat' (first| exact True.intro| refine ai ?_| refine And.intro ?_ ?_)))
 · by_cases ho: (6:Int)=op
   · subst ho
     (conv=>whnf);repeat' ((first| intro g| refine bD.mk _ (rfl) ?_| refine aq (by assumption) (by first| assumption| rfl| (simp only[V.ae,V.aj,Bool.and_self,Bool.true_and,Bool.and_true, *])) (fa _ _ _ _) rfl ?_| refine st ?_| (first| refine b1 ?_ ?_| refine b2 ?_ ?_| refine Br.mk ?_ ?_) <;>intro hc| exact rfl) <;>conv=>whnf)
   · (conv=>whnf);repeat' ((first| intro g| refine bD.mk _ (rfl) ?_| refine aq (by assumption) (by first| assumption| rfl| (simp only[V.ae,V.aj,Bool.and_self,Bool.true_and,Bool.and_true, *])) (fa _ _ _ _) rfl ?_| refine st ?_| (first| refine b1 ?_ ?_| refine b2 ?_ ?_| refine Br.mk ?_ ?_) <;>intro hc| exact rfl) <;>conv=>whnf)
     exact bk.mk 3 (by first| omega| (dsimp only;omega)) (by omega) (by(refine⟨?_,?_⟩ <;>repeat' (first| exact True.intro| refine ai ?_| refine And.intro ?_ ?_)))
 · by_cases ho: (7:Int)=op
   · subst ho
     (conv=>whnf);repeat' ((first| intro g| refine bD.mk _ (rfl) ?_| refine aq (by assumption) (by first| assumption| rfl| (simp only[V.ae,V.aj,Bool.and_self,Bool.true_and,Bool.and_true, *])) (fa _ _ _ _) rfl ?_| refine st ?_| (first| refine b1 ?_ ?_| refine b2 ?_ ?_| refine Br.mk ?_ ?_) <;>intro hc| exact rfl) <;>conv=>whnf)
   · (conv=>whnf);repeat' ((first| intro g| refine bD.mk _ (rfl) ?_| refine aq (by assumption) (by first| assumption| rfl| (simp only[V.ae,V.aj,Bool.and_self,Bool.true_and,Bool.and_true, *])) (fa _ _ _ _) rfl ?_| refine st ?_| (first| refine b1 ?_ ?_| refine b2 ?_ ?_| refine Br.mk ?_ ?_) <;>intro hc| exact rfl) <;>conv=>whnf)
     exact bk.mk 4 (by first| omega| (dsimp only;omega)) (by omega) (by(refine⟨?_,?_⟩ <;>repeat' (first| exact True.intro| refine ai ?_| refine And.intro ?_ ?_)))
 · by_cases ho: (8:Int)=op
   · subst ho
     (conv=>whnf);repeat' ((first| intro g| refine bD.mk _ (rfl) ?_| refine aq (by assumption) (by first| assumption| rfl| (simp only[V.ae,V.aj,Bool.and_self,Bool.true_and,Bool.and_true, *])) (fa _ _ _ _) rfl ?_| refine st ?_| (first| refine b1 ?_ ?_| refine b2 ?_ ?_| refine Br.mk ?_ ?_) <;>intro hc| exact rfl) <;>conv=>whnf)
   · (conv=>whnf);repeat' ((first| intro g| refine bD.mk _ (rfl) ?_| refine aq (by assumption) (by first| assumption| rfl| (simp only[V.ae,V.aj,Bool.and_self,Bool.true_and,Bool.and_true, *])) (fa _ _ _ _) rfl ?_| refine st ?_| (first| refine b1 ?_ ?_| refine b2 ?_ ?_| refine Br.mk ?_ ?_) <;>intro hc| exact rfl) <;>conv=>whnf)
     exact bk.mk 5 (by first| omega| (dsimp only;omega)) (by omega) (by(refine⟨?_,?_⟩ <;>repeat' (first| exact True.intro| refine ai ?_| refine And.intro ?_ ?_)))
 · by_cases ho: (9:Int)=op
   · subst ho
     (conv=>whnf);repeat' ((first| intro g| refine bD.mk _ (rfl) ?_| refine aq (by assumption) (by first| assumption| rfl| (simp only[V.ae,V.aj,Bool.and_self,Bool.true_and,Bool.and_true, *])) (fa _ _ _ _) rfl ?_| refine st ?_| (first| refine b1 ?_ ?_| refine b2 ?_ ?_| refine Br.mk ?_ ?_) <;>intro hc| exact rfl) <;>conv=>whnf)
   · (conv=>whnf);repeat' ((first| intro g| refine bD.mk _ (rfl) ?_| refine aq (by assumption) (by first| assumption| rfl| (simp only[V.ae,V.aj,Bool.and_self,Bool.true_and,Bool.and_true, *])) (fa _ _ _ _) rfl ?_| refine st ?_| (first| refine b1 ?_ ?_| refine b2 ?_ ?_| refine Br.mk ?_ ?_) <;>intro hc| exact rfl) <;>conv=>whnf)
     exact bk.mk 6 (by first| omega| (dsimp only;omega)) (by omega) (by(refine⟨?_,?_⟩ <;>repeat' (first| exact True.intro| refine ai ?_| refine And.intro ?_ ?_)))
 · by_cases ho: (10:Int)=op
   · subst ho
     (conv=>whnf);repeat' ((first| intro g| refine bD.mk _ (rfl) ?_| refine aq (by assumption) (by first| assumption| rfl| (simp only[V.ae,V.aj,Bool.and_self,Bool.true_and,Bool.and_true, *])) (fa _ _ _ _) rfl ?_| refine st ?_| (first| refine b1 ?_ ?_| refine b2 ?_ ?_| refine Br.mk ?_ ?_) <;>intro hc| exact rfl) <;>conv=>whnf)
   · (conv=>whnf);repeat' ((first| intro g| refine bD.mk _ (rfl) ?_| refine aq (by assumption) (by first| assumption| rfl| (simp only[V.ae,V.aj,Bool.and_self,Bool.true_and,Bool.and_true, *])) (fa _ _ _ _) rfl ?_| refine st ?_| (first| refine b1 ?_ ?_| refine b2 ?_ ?_| refine Br.mk ?_ ?_) <;>intro hc| exact rfl) <;>conv=>whnf)
     exact bk.mk 7 (by first| omega| (dsimp only;omega)) (by omega) (by(refine⟨?_,?_⟩ <;>repeat' (first| exact True.intro| refine ai ?_| refine And.intro ?_ ?_)))
 · by_cases ho: (11:Int)=op
   · subst ho
     (conv=>whnf);repeat' ((first| intro g| refine bD.mk _ (rfl) ?_| refine aq (by assumption) (by first| assumption| rfl| (simp only[V.ae,V.aj,Bool.and_self,Bool.true_and,Bool.and_true, *])) (fa _ _ _ _) rfl ?_| refine st ?_| (first| refine b1 ?_ ?_| refine b2 ?_ ?_| refine Br.mk ?_ ?_) <;>intro hc| exact rfl) <;>conv=>whnf)
   · (conv=>whnf);repeat' ((first| intro g| refine bD.mk _ (rfl) ?_| refine aq (by assumption) (by first| assumption| rfl| (simp only[V.ae,V.aj,Bool.and_self,Bool.true_and,Bool.and_true, *])) (fa _ _ _ _) rfl ?_| refine st ?_| (first| refine b1 ?_ ?_| refine b2 ?_ ?_| refine Br.mk ?_ ?_) <;>intro hc| exact rfl) <;>conv=>whnf)
     exact bk.mk 8 (by first| omega| (dsimp only;omega)) (by omega) (by(refine⟨?_,?_⟩ <;>repeat' (first| exact True.intro| refine ai ?_| refine And.intro ?_ ?_)))
 · by_cases ho: (12:Int)=op
   · subst ho
     (conv=>whnf);repeat' ((first| intro g| refine bD.mk _ (rfl) ?_| refine aq (by assumption) (by first| assumption| rfl| (simp only[V.ae,V.aj,Bool.and_self,Bool.true_and,Bool.and_true, *])) (fa _ _ _ _) rfl ?_| refine st ?_| (first| refine b1 ?_ ?_| refine b2 ?_ ?_| refine Br.mk ?_ ?_) <;>intro hc| exact rfl) <;>conv=>whnf)
   · exfalso;omega
theorem afG {op:Int} (dN:4≤op∧op≤12): ∃g,DT[(op - 4).toNat]? =some (.agg [vi op,.fn g []])∧aD E g=[]∧ ∀a b:Bd,a.ws.length< 1000000→b.ws.length< 1000000→Ev E g [a.v,b.v] ⟨(yO op a b).v,[]⟩:=by
 have h:op=4∨op=5∨op=6∨op=7∨op=8∨op=9∨op=10∨op=11∨op=12:=by omega
 rcases h with rfl| rfl| rfl| rfl| rfl| rfl| rfl| rfl| rfl
 · exact⟨_,rfl,rfl,fun a b _ _=>DJ a b⟩
 · exact⟨_,rfl,rfl,fun a b _ _=>wG a b⟩
 · exact⟨_,rfl,rfl,fun a b ha hb=>IT a b ha hb⟩
 · exact⟨_,rfl,rfl,fun a b _ _=>Pd a b⟩
 · exact⟨_,rfl,rfl,fun a b _ _=>Pc a b⟩
 · exact⟨_,rfl,rfl,fun a b _ _=>K3 a b⟩
 · exact⟨_,rfl,rfl,fun a b _ _=>K4 a b⟩
 · exact⟨_,rfl,rfl,fun a b _ _=>DJ a b⟩
 · exact⟨_,rfl,rfl,fun a b _ _=>wG a b⟩
theorem I6 {t:Int} {m n:Nat} {a b:Bd} (ha:yP t m a) (hb:yP t n b) (hm:m< 100) (hn:n< 100): ∃v,Ev E 378 [a.v,b.v] ⟨v,[]⟩∧yJ (either a b) v:=by
 cases h:a.text with
 | false=>exact⟨_,FM a b h,.inl rfl⟩
 | true=>
   cases hs: (a.some &&b.some) with
   | false=>exact⟨_,FN a b h hs,.inl rfl⟩
   | true=>
     simp only[Bool.and_eq_true] at hs
     have hbt:b.text=true:=by rw[hb.text,←ha.text,h]
     have:=ha.len
     have:=hb.len
     exact FO a b h hs.1 hs.2 ((ha.some h).1 hs.1) ((hb.some hbt).1 hs.2) (by omega) (by omega)
end Go.AM
