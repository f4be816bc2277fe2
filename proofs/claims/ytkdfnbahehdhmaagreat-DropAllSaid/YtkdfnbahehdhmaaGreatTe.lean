/-
  Texts of the proof, joined by program: AlD. Own work.
-/
import Derived.Test.YtkdfnbahehdhmaaGreatAl
import Derived.Test.YtkdfnbahehdhmaaGreatAm
import Derived.Test.YtkdfnbahehdhmaaGreatXg
import Derived.Test.YtkdfnbahehdhmaaGreatEd
import Derived.Test.YtkdfnbahehdhmaaGreatSc
set_option linter.unusedSimpArgs false
set_option linter.unusedVariables false
set_option maxRecDepth 20000
set_option maxHeartbeats 8000000
namespace Go.AM
theorem vE {E:Env} {r:Nat} {g:Nat} {args:List V} {v v':V} {S:SS} {Q:KK} (hm:df E g=[]) (hp:V.an args=true) (he:Ev E g args ⟨v,[]⟩) (hv: ∀ (r:Nat) (k:V→bz),dk false r [] v k=k v') (k:Q v' S [] []):ed E (lQ E r false g args) S Q:=by
 have key: ∀ (as0:List V) (i:Nat) (kk:List V→List Nat→List dV→bz),V.an as0=true→eQ (r+8) as0 [] i kk=kk as0 [] []:=by
  intro as0
  induction as0 with
  | nil=>intro i kk _;rfl
  | cons a as0 ih=>
    intro i kk h
    simp only[V.an,Bool.and_eq_true] at h
    simp only[eQ,gA,h.1,cond_true,List.nil_append]
    rw[ih (i+1) _ h.2]
 unfold lQ
 rw[hm,key args 0 _ hp]
 refine⟨rfl,⟨⟨v,[]⟩,he,?_⟩⟩
 simp only[gB,hv,ed]
 exact k
theorem agr {l:List Event} (h:l.length< 1000000):Ev E 10 [.lit 5 (l.map Event.v),.lit 5 (l.map Event.v)] ⟨.bool true,[]⟩:=by
 refine Ev.aG aiP (aiQ _) rfl ?_
 (conv=>whnf);repeat' ((first| intro g| refine st ?_| (first| refine b1 ?_ ?_| refine b2 ?_ ?_| refine Br.mk ?_ ?_) <;>intro hc| exact rfl) <;>conv=>whnf)
 refine aV.by (fun (i:Nat)=> ⟨[(0,.lit 5 (l.map Event.v)),(1,.lit 5 (l.map Event.v)),(5,aD i)],[]⟩) (fun i=>i≤l.length) (fun i=>l.length - i) 0 (by(refine⟨?_,?_⟩ <;>repeat' (first| exact True.intro| refine ai ?_| refine And.intro ?_ ?_))) (by simp) ?_
 intro i hi
 (conv=>whnf);repeat' ((first| intro g| refine st ?_| (first| refine b1 ?_ ?_| refine b2 ?_ ?_| refine Br.mk ?_ ?_) <;>intro hc| exact rfl) <;>conv=>whnf)
 all_goals first| exact a9.mk (i+1) (by first| omega| (dsimp only;omega)) (by omega) (by(refine⟨?_,?_⟩ <;>repeat' (first| exact True.intro| refine ai ?_| refine And.intro ?_ ?_))) | (simp at hc;done) | trace_state
theorem aiC {m:aQ} (h:m.Fit) (id n:Int): ∃c x:Int,Ev E 526 [m.v,vi id,vi n] ⟨vi c,[]⟩∧Ev E 536 [m.v,vi id,vi n] ⟨vi c,[]⟩∧Ev E 527 [m.v,vi id,vi n] ⟨vi x,[]⟩∧Ev E 528 [m.v,vi id,vi n] ⟨vi x,[]⟩:=by
 rcases jN (fun e:Edge=>decide (e.id=id)) m.aH with⟨h1,_⟩ | ⟨k,e,h1,h2,h3⟩
 · have h1:lG m.aH id= -1:=h1
   have ha:=Li h (n:=n) h1
   exact⟨5,0,IH (.inl rfl) ha,FF h h1,xD (by decide) ha,CC h h1⟩
 · have h1:lG m.aH id=k:=h1
   by_cases hn:n< 1∨(e.line.length:Int) - 2 <n
   · have ha:=SA h h1 h2 hn
     exact⟨1,0,IH (.inr rfl) ha,II h h1 h2 hn,xD (by decide) ha,FA h h1 h2 hn⟩
   · obtain⟨j,rfl⟩: ∃j:Nat,n=j:=⟨n.toNat,by omega⟩
     have Tv:e.id=id:=of_decide_eq_true h3
     subst Tv
     let q:oC m:=⟨k,j,e,_,_,_,h2,h1,by omega,aE (by omega),aE (by omega),aE (by omega),h.e,h.el e (List.mem_of_getElem? h2)⟩
     exact⟨FC m q,q.cost,SD h q,Ll h q,Lh h q,IC h q⟩
theorem agD {m:aQ} (h:m.Fit) (h1:m.aH.length≤25) (hl: ∀e ∈ m.aH,e.line.length< 10) (d:Int): ∃R:List Event,R.length< 1000∧Ev E 529 [m.v,vi d] ⟨.own 5 (R.map Event.v),[]⟩∧Ev E 530 [m.v,vi d] ⟨.own 5 (R.map Event.v),[]⟩:=by
 have Je:=aiC h
 let fc:=fun id n=> (Je id n).choose
 let gx:=fun id n=> (Je id n).choose_spec.choose
 have hs:=fun id n=> (Je id n).choose_spec.choose_spec
 refine⟨if d< 1 then [] else afR fc gx m d m.aH.length,?_,ag8 (fun id n=> (hs id n).1) (fun id n=> (hs id n).2.2.1) (vO h) (Iz h) h1 hl d,agJ (fun id n=> (hs id n).2.1) (fun id n=> (hs id n).2.2.2) (j9 h) (AW h) h1 hl d⟩
 have:=afQ fc gx m d hl m.aH.length
 have:=(afZ fc gx m d m.aH.length).2.1.length_eq
 split
 · simp
 · omega
theorem agE {m:aQ} {R:List Event} {d d0:Int} {ds:List Int} {HJ g20 g27 i j:Nat} {ms:List V} {Q:bd→SS→Prop} (hd:ds[j]? =some d) (hl:ds.length=5) (hj:j< 5) (hR:R.length< 1000)
  (h1:Ev E 529 [m.v,vi d] ⟨.own 5 (R.map Event.v),[]⟩) (h2:Ev E 530 [m.v,vi d] ⟨.own 5 (R.map Event.v),[]⟩)
  (hQ: ∀T' O',SS.Sub ⟨[(2,vi d0),(7,.bool true),(10,.ptr 176 HJ 0 0),(20,.sl 336 g20 0 2),(21,aD 2),(22,aD i),(27,.sl 448 g27 0 5),(28,aD 5),(29,aD (j+1))],[(176,⟨HJ,4,false,false,some [m.v]⟩),(336,⟨g20,4,true,false,some ms⟩),(448,⟨g27,1,true,false,some (ds.map vi)⟩)]⟩ ⟨T',O'⟩→Q .normal ⟨T',O'⟩):
  oN E agN ⟨[(2,vi d0),(7,.bool true),(10,.ptr 176 HJ 0 0),(20,.sl 336 g20 0 2),(21,aD 2),(22,aD i),(27,.sl 448 g27 0 5),(28,aD 5),(29,aD j)],[(176,⟨HJ,4,false,false,some [m.v]⟩),(336,⟨g20,4,true,false,some ms⟩),(448,⟨g27,1,true,false,some (ds.map vi)⟩)]⟩ Q:=by
 have h3:=agr (l:=R) (by omega)
 have hm1:df E 529=[]:=rfl
 have KL:df E 530=[]:=rfl
 have hp:V.an [m.v,vi d]=true:=rfl
 have i1: ∀ (r:Nat) (k:V→bz),dk false r [] (.own 5 (R.map Event.v)) k=k (.lit 5 (R.map Event.v)):=fun _ _=>rfl
 (conv=>whnf);repeat' ((first| intro g| refine aL.mk _ (aq hd rfl) ?_| refine ag.mk _ (h1) ?_| refine ag.mk _ (h2) ?_| refine ag.mk _ (h3) ?_| refine st ?_| (first| refine b1 ?_ ?_| refine b2 ?_ ?_| refine Br.mk ?_ ?_) <;>intro hc| exact rfl) <;>conv=>whnf)
 all_goals exact hQ _ _ (by(refine⟨?_,?_⟩ <;>repeat' (first| exact True.intro| refine ai ?_| refine And.intro ?_ ?_)))
theorem ahp {m:aQ} {d:Int} {g20 i:Nat} {ms:List V} {Q:bd→SS→Prop} (hms:ms[i]? =some m.v) (hi:i< 2) (hf:m.Fit) (he:m.aH.length≤25) (hl: ∀e ∈ m.aH,e.line.length< 10)
   (hQ: ∀T' O',SS.Sub ⟨[(2,vi d),(7,.bool true),(20,.sl 336 g20 0 2),(21,aD 2),(22,aD (i+1))],[(336,⟨g20,4,true,false,some ms⟩)]⟩ ⟨T',O'⟩→Q .normal ⟨T',O'⟩):
   oN E agO ⟨[(2,vi d),(7,.bool true),(20,.sl 336 g20 0 2),(21,aD 2),(22,aD i)],[(336,⟨g20,4,true,false,some ms⟩)]⟩ Q:=by
 have hb:=agD hf he hl
 have S9:=(List.getElem?_eq_some_iff.1 hms).1
 (conv=>whnf);repeat' ((first| intro g| refine aL.mk _ (hms) ?_| refine st ?_| (first| refine b1 ?_ ?_| refine b2 ?_ ?_| refine Br.mk ?_ ?_) <;>intro hc| exact rfl) <;>conv=>whnf)
 obtain⟨ds,hds⟩: ∃ds:List Int,ds=[d,0,1,2,3]:=⟨_,rfl⟩
 have e1: (⟨g,1,true,false,some [vi d,vi 0,vi 1,vi 2,vi 3]⟩:Obj)=⟨g,1,true,false,some (ds.map vi)⟩:=by rw[hds];rfl
 have C4:ds.length=5:=by rw[hds];rfl
 clear hds
 rename_i HJ
 refine aV.by (fun j:Nat=> ⟨[(2,vi d),(7,.bool true),(10,.ptr 176 HJ 0 0),(20,.sl 336 g20 0 2),(21,aD 2),(22,aD i),(27,.sl 448 g 0 5),(28,aD 5),(29,aD j)],[(176,⟨HJ,4,false,false,some [m.v]⟩),(336,⟨g20,4,true,false,some ms⟩),(448,⟨g,1,true,false,some (ds.map vi)⟩)]⟩) (fun j=>j≤5) (fun j=>5 - j) 0 (by(refine⟨?_,?_⟩ <;>repeat' (first| exact True.intro| refine And.intro (e1) ?_| refine ai ?_| refine And.intro ?_ ?_))) (by omega) ?_
 intro j hj
 by_cases bl:j< 5
 · obtain⟨x,hx⟩: ∃x,ds[j]? =some x:=⟨_,aE (by omega)⟩
   obtain⟨R,hR,r1,r2⟩:=hb x
   exact agE hx C4 bl hR r1 r2 fun T' O' hs=>a9.mk (j+1) (by first| omega| (dsimp only;omega)) (by first| omega| (dsimp only;omega)) hs
 obtain rfl:j=5:=by omega
 (conv=>whnf);repeat' ((first| intro g| refine st ?_| (first| refine b1 ?_ ?_| refine b2 ?_ ?_| refine Br.mk ?_ ?_) <;>intro hc| exact rfl) <;>conv=>whnf)
 exact hQ _ _ (by(refine⟨?_,?_⟩ <;>repeat' (first| exact True.intro| refine ai ?_| refine And.intro ?_ ?_)))
theorem Cp {m:aQ} (hm:m.Kl):m.Small∧m.Fit:=by
 have h1:=hm.aZ.1
 have h2:=hm.aH.1;have h3:=hm.bn;have h4:=hm.ways.1
 have hl: ∀e ∈ m.aH,2≤e.line.length∧e.line.length≤5:=hm.aH.2
 have hw: ∀w ∈ m.ways,2≤w.line.length∧w.line.length≤5:=hm.ways.2
 exact⟨⟨by omega,by omega,by omega,by omega,fun e he=>by have:=hl e he;omega,fun e he=>by have:=hw e he;omega⟩,⟨by omega,by omega,by omega,by omega,fun e he=>by have:=hl e he;omega,fun e he=>by have:=hw e he;omega⟩⟩
theorem K0 {m m':aQ} (hm:m.Kl) (h:kc m m'):m'.Fit∧m'.aH.length≤25∧ ∀e ∈ m'.aH,e.line.length< 10:=by
 have h1:=hm.aZ.1
 have h2:=hm.aH.1;have h3:=hm.bn;have h4:=hm.ways.1
 have e1:=h.aH;have e2:=h.bn;have e3:=h.ways
 refine⟨⟨by omega,by omega,by omega,?_,fun e he=>by have:=h.el e he;omega,fun e he=>by have:=h.wl e he;omega⟩,by omega,h.el⟩
 rcases h.aZ with h| ⟨k,f,hk,_,h⟩
 · omega
 · rw[h];simp;omega
theorem Ss (m:aQ) (a b:Bool): ∀ (r:Nat) (k:V→bz),dk false r [] (m.vw a b) k=k m.v:=by
 intro r k
 cases a<;>cases b<;>rfl
theorem Fe {ls:List (List Int)} (hs:sJ ls): ∃m:aQ,m.Kl∧Ev E 522 [fU ls] ⟨m.v,[]⟩:=by
 have hs8:sJ (ls.take 8):=⟨by have:=hs.1;simp;omega,fun l h=>hs.2 l (List.mem_of_mem_take h)⟩
 have hl:=hs.1
 obtain⟨res,h,m,hm,rfl⟩:=Er hs8
 refine⟨m,hm,?_⟩
 have h8: ∀n:Nat,n=ls.length→(if (8:Int) < (n:Int) then(8:Int) else(n:Int)).toNat=min 8 ls.length:=fun n hn=>by
  rw[hn];split<;>omega
 refine Ev.aG T9 (Ua _) rfl ?_
 (conv=>whnf);repeat' ((first| intro g| refine aL.mk _ (qG (k:=8) (h8 _ (by first| (simp;done) | fail))) ?_| refine ag.mk _ (h) ?_| refine st ?_| (first| refine b1 ?_ ?_| refine b2 ?_ ?_| refine Br.mk ?_ ?_) <;>intro hc| exact rfl) <;>conv=>whnf)
set_option maxHeartbeats 8000000 in
theorem agh {ls:List (List Int)} (hs:sJ ls) (q0 q1 q2 d:Int):Ev E 519 [fU ls,kW q0 q1 q2,vi d] ⟨.bool true,[]⟩:=by
 obtain⟨m,hm,MQ⟩:=Fe hs
 obtain⟨RK,hmf⟩:=Cp hm
 obtain⟨_,aar,m',a,b,ho,rfl⟩:=Gk RK q0 q1 q2
 obtain⟨of,oe,ol⟩:=K0 hm ho
 have hm9:df E 79=[]:=rfl
 have uM:V.an [m.v,kW q0 q1 q2]=true:=rfl
 refine Ev.aG ah5 (ah6 _) rfl ?_
 (conv=>whnf);repeat' ((first| refine vE hm9 uM aar (Ss m' a b) ?_| intro g| refine ag.mk _ (H3) ?_| refine ag.mk _ (MQ) ?_| refine st ?_| (first| refine b1 ?_ ?_| refine b2 ?_ ?_| refine Br.mk ?_ ?_) <;>intro hc| exact rfl) <;>conv=>whnf)
 have hms: ∀k:Nat,k< 2→ ∃x:aQ,[m.v,m'.v][k]? =some x.v∧x.Fit∧x.aH.length≤25∧ ∀e ∈ x.aH,e.line.length< 10:=fun k hk=>by
   rcases(by omega:k=0∨k=1) with rfl| rfl
   · exact⟨m,rfl,hmf,by have:=hm.aH.1;omega,RK.el⟩
   · exact⟨m',rfl,of,oe,ol⟩
 clear hs MQ RK hmf aar ho of oe ol hm uM hm9
 generalize [m.v,m'.v]=ms at*
 refine aV.by (fun i:Nat=> ⟨[(2,vi d),(7,.bool true),(20,.sl 336 g 0 2),(21,aD 2),(22,aD i)],[(336,⟨g,4,true,false,some ms⟩)]⟩) (fun i=>i≤2) (fun i=>2 - i) 0 (by(refine⟨?_,?_⟩ <;>repeat' (first| exact True.intro| refine ai ?_| refine And.intro ?_ ?_))) (by omega) ?_
 intro i hi
 by_cases bl:i< 2
 · obtain⟨x,h1,h2,h3,h4⟩:=hms i bl
   exact ahp h1 bl h2 h3 h4 fun T' O' hs=>a9.mk (i+1) (by first| omega| (dsimp only;omega)) (by first| omega| (dsimp only;omega)) hs
 obtain rfl:i=2:=by omega
 (conv=>whnf);repeat' ((first| intro g| refine st ?_| (first| refine b1 ?_ ?_| refine b2 ?_ ?_| refine Br.mk ?_ ?_) <;>intro hc| exact rfl) <;>conv=>whnf)
end Go.AM
