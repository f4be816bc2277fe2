/-
  Texts of the proof, joined by program: DcCor, DcLaw1, DcLaw. Own work.
-/
import Derived.Test.YtkdfnbahehdhmaaGreatData
import Derived.Test.YtkdfnbahehdhmaaGreatXi
import Derived.Test.YtkdfnbahehdhmaaGreatXh
import Derived.Test.YtkdfnbahehdhmaaGreatEd
import Derived.Test.YtkdfnbahehdhmaaGreatSc
set_option linter.unusedSimpArgs false
set_option linter.unusedVariables false
set_option maxRecDepth 20000
set_option maxHeartbeats 2000000
namespace Go.AM
def yM (e:Edge) (j:Nat):List Pt:=(List.range j).map fun (i:Nat)=> (⟨e.id,((i+1:Nat):Int)⟩:Pt)
def wC (es:List Edge):Nat→List Pt
 | 0=> []
 | k+1=>match es[k]? with
   | some e=>wC es k++yM e (e.line.length - 2)
   | none=>wC es k
theorem AA (e:Edge) (j:Nat): (yM e j).length=j:=by simp[yM]
theorem Fc (e:Edge) (j:Nat):yM e (j+1)=yM e j++[⟨e.id,((j+1:Nat):Int)⟩]:=by
 simp[yM,List.range_succ]
theorem Co {m:aQ} (h:m.aH.length< 1000) (hl: ∀e ∈ m.aH,e.line.length< 1000):Ev E 523 [m.v] ⟨.own 2 ((wC m.aH m.aH.length).map Pt.v),[]⟩:=by
 refine Ev.aG Ub (Uc _) rfl ?_
 (conv=>whnf);repeat' ((first| intro g| refine st ?_| (first| refine b1 ?_ ?_| refine b2 ?_ ?_| refine Br.mk ?_ ?_) <;>intro hc| exact rfl) <;>conv=>whnf)
 refine aV.by (fun ((i,L,g):Nat×List Pt×Nat)=> ⟨[(3,.sl 65 g 0 L.length),(8,.lit 4 (m.aH.map Edge.v)),(9,aD (m.aH.map Edge.v).length),(10,aD i)],[(65,⟨g,2,true,false,some (L.map Pt.v)⟩)]⟩)
   (fun (i,L,_)=>i≤m.aH.length∧L=wC m.aH i∧L.length≤1000*i) (fun (i,_,_)=>m.aH.length - i) (0,[],g) (by(refine⟨?_,?_⟩ <;>repeat' (first| exact True.intro| refine ai ?_| refine And.intro ?_ ?_))) ⟨by simp,rfl,by simp⟩ ?_
 rintro⟨i,L,g⟩ ⟨hi,hL,Tf⟩
 try dsimp only at hi hL Tf
 by_cases bl:i<m.aH.length
 · obtain⟨e,he⟩: ∃e,m.aH[i]? =some e:=⟨_,aE bl⟩
   have oO:=hl e (List.mem_of_getElem? he)
   have mF:wC m.aH (i+1)=L++yM e (e.line.length - 2):=by simp only[wC,he,hL]
   (conv=>whnf);repeat' ((first| intro g| refine aL.mk _ (aq he rfl) ?_| refine st ?_| (first| refine b1 ?_ ?_| refine b2 ?_ ?_| refine Br.mk ?_ ?_) <;>intro hc| exact rfl) <;>conv=>whnf)
   rename_i g65
   refine aV.by (fun ((j,K,g65):Nat×List Pt×Nat)=> ⟨[(3,.sl 65 g65 0 K.length),(5,.ptr 96 g 0 0),(6,aD (j+1)),(8,.lit 4 (m.aH.map Edge.v)),(9,aD (m.aH.map Edge.v).length),(10,aD i)],
     [(65,⟨g65,2,true,false,some (K.map Pt.v)⟩),(96,⟨g,4,false,false,some [e.v]⟩)]⟩) (fun (j,K,_)=>j≤e.line.length - 2∧K=L++yM e j) (fun (j,_,_)=>e.line.length - 2 - j) (0,L,g65) (by(refine⟨?_,?_⟩ <;>repeat' (first| exact True.intro| refine ai ?_| refine And.intro ?_ ?_))) ⟨by simp,by simp[yM]⟩ ?_
   rintro⟨j,K,g65⟩ ⟨hj,hK⟩
   try dsimp only at hj hK
   have hKl:K.length=L.length+j:=by rw[hK];simp[AA]
   have w1:IntKind.i64.wrap (((j+1:Nat):Int)+1)=((j+2:Nat):Int):=(wrap64 (by omega) (by omega)).trans (by omega)
   by_cases fB:j+2 <e.line.length
   · have ac6:IntKind.i64.wrap (((j+1:Nat):Int)+1) < ((e.line.map Pt.v).length:Int):=by rw[w1,List.length_map];omega
     (conv=>whnf);repeat' ((first| intro g| refine st ?_| (first| refine b1 ?_ ?_| refine b2 ?_ ?_| refine Br.mk ?_ ?_) <;>intro hc| exact rfl) <;>conv=>whnf)
     refine a9.mk (j+1,K++[⟨e.id,((j+1:Nat):Int)⟩],_) (by first| omega| (dsimp only;omega)) ⟨(by first| omega| (dsimp only;omega)),?_⟩ (by(refine⟨?_,?_⟩ <;>repeat' (first| exact True.intro| refine ai ?_| refine And.intro ?_ ?_)))
     show K++_=_
     rw[hK,Fc,List.append_assoc]
   · have ez: ¬IntKind.i64.wrap (((j+1:Nat):Int)+1) < ((e.line.map Pt.v).length:Int):=by rw[w1,List.length_map];omega
     have hj2:j=e.line.length - 2:=by omega
     (conv=>whnf);repeat' ((first| contradiction| intro g| refine st ?_| (first| refine b1 ?_ ?_| refine b2 ?_ ?_| refine Br.mk ?_ ?_) <;>intro hc| exact rfl) <;>conv=>whnf)
     refine a9.mk (i+1,K,_) (by first| omega| (dsimp only;omega)) ⟨(by first| omega| (dsimp only;omega)),?_,?_⟩ (by(refine⟨?_,?_⟩ <;>repeat' (first| exact True.intro| refine ai ?_| refine And.intro ?_ ?_)))
     · show K=_
       rw[hK,mF,hj2]
     · show K.length≤_
       omega
 obtain rfl:i=m.aH.length:=by omega
 (conv=>whnf);repeat' ((first| intro g| refine aL.mk _ (ei (by simp)) ?_| refine st ?_| (first| refine b1 ?_ ?_| refine b2 ?_ ?_| refine Br.mk ?_ ?_) <;>intro hc| exact rfl) <;>conv=>whnf)
 rw[hL]
theorem AB (es:List Edge) (hl: ∀e ∈ es,e.line.length< 1000): ∀k,(wC es k).length≤1000*k
 | 0=>by simp[wC]
 | k+1=>by
   have:=AB es hl k
   simp only[wC]
   split
   · rename_i e he
     have:=hl e (List.mem_of_getElem? he)
     simp[AA];omega
   · omega
end Go.AM
set_option maxRecDepth 20000
set_option maxHeartbeats 4000000
namespace Go.AM
def yN (a b:Int):Int:=IntKind.i64.wrap ↑(BitVec.ofInt IntKind.i64.bits a &&&BitVec.ofInt IntKind.i64.bits b).toNat
theorem Sr {m:aQ} {g5 H9 ko:Nat} {ms:List V} {pp:Pt} {Q:bd→SS→Prop} (hms:ms[ko]? =some m.v) (hko:ko< 2) (hf:m.Fit) (he:m.aH.length< 1000) (hl: ∀e ∈ m.aH,e.line.length< 1000)
   (hQ: ∀T' O',SS.Sub ⟨[(5,.ptr 96 g5 0 0),(7,.bool true),(25,.sl 416 H9 0 2),(26,aD 2),(27,aD (ko+1))],[(416,⟨H9,4,true,false,some ms⟩),(96,⟨g5,2,false,false,some [pp.v]⟩)]⟩ ⟨T',O'⟩→Q .normal ⟨T',O'⟩):
   oN E CR ⟨[(5,.ptr 96 g5 0 0),(7,.bool true),(25,.sl 416 H9 0 2),(26,aD 2),(27,aD ko)],[(416,⟨H9,4,true,false,some ms⟩),(96,⟨g5,2,false,false,some [pp.v]⟩)]⟩ Q:=by
 have aaq:=Co he hl
 have hlen:=AB m.aH hl m.aH.length
 have hb:=fun p:Pt=>KZ hf p.x p.y
 generalize wC m.aH m.aH.length=C at*
 have hC:C.length≤1000000:=by omega
 have S9:=(List.getElem?_eq_some_iff.1 hms).1
 clear hlen
 (conv=>whnf);repeat' ((first| intro g| refine aL.mk _ (hms) ?_| refine ag.mk _ (aaq) ?_| refine st ?_| (first| refine b1 ?_ ?_| refine b2 ?_ ?_| refine Br.mk ?_ ?_) <;>intro hc| exact rfl) <;>conv=>whnf)
 rename_i HJ _ _ _
 obtain⟨L,hL⟩: ∃L,L=C++[pp,⟨yN pp.x 31,yN pp.y 7⟩,⟨yN pp.x 31,0⟩]:=⟨_,rfl⟩
 have hLm:L.map Pt.v=C.map Pt.v++[pp.v,Pt.v ⟨yN pp.x 31,yN pp.y 7⟩,Pt.v ⟨yN pp.x 31,0⟩]:=by rw[hL];simp
 have Tf:L.length=(C.map Pt.v).length+3:=by rw[hL];simp
 have hLb:L.length< 2000000:=by rw[Tf];simp;omega
 have e1: (⟨g,2,true,false,some (C.map Pt.v++[pp.v,Pt.v ⟨yN pp.x 31,yN pp.y 7⟩,Pt.v ⟨yN pp.x 31,0⟩])⟩:Obj)=⟨g,2,true,false,some (L.map Pt.v)⟩:=by rw[hLm]
 generalize hn:L.length=n at*
 have e2:V.sl 193 g 0 ((C.map Pt.v).length+3)= .sl 193 g 0 n:=by rw[Tf]
 have e3:aD ((C.map Pt.v).length+3)=aD n:=by rw[Tf]
 clear hLm Tf hL aaq hC
 refine aV.by (fun k:Nat=> ⟨[(10,.ptr 176 HJ 0 0),(47,.sl 193 g 0 n),(48,aD n),(49,aD k),(5,.ptr 96 g5 0 0),(7,.bool true),(25,.sl 416 H9 0 2),(26,aD 2),(27,aD ko)],[(176,⟨HJ,4,false,false,some [m.v]⟩),(193,⟨g,2,true,false,some (L.map Pt.v)⟩),(416,⟨H9,4,true,false,some ms⟩),(96,⟨g5,2,false,false,some [pp.v]⟩)]⟩) (fun k=>k≤n) (fun k=>n - k) 0 (by(refine⟨?_,?_⟩ <;>repeat' (first| exact True.intro| refine And.intro (e1) ?_| refine And.intro (e2) ?_| refine And.intro (e3) ?_| refine ai ?_| refine And.intro ?_ ?_))) (by omega) ?_
 intro k hk
 by_cases bl:k<n
 · obtain⟨p,hp⟩: ∃p,L[k]? =some p:=⟨_,aE (by omega)⟩
   obtain⟨M,a,b,c,x,v1,v2,h1,h2,i1,i2,h3,h4,h5,h6⟩:=hb p
   exact Ia hp hn hLb h1 h2 i1 i2 h3 h4 h5 h6 fun T' O' hs=>a9.mk (k+1) (by first| omega| (dsimp only;omega)) (by first| omega| (dsimp only;omega)) hs
 obtain rfl:k=n:=by omega
 (conv=>whnf);repeat' ((first| intro g| refine st ?_| (first| refine b1 ?_ ?_| refine b2 ?_ ?_| refine Br.mk ?_ ?_) <;>intro hc| exact rfl) <;>conv=>whnf)
 exact hQ _ _ (by(refine⟨?_,?_⟩ <;>repeat' (first| exact True.intro| refine ai ?_| refine And.intro ?_ ?_)))
end Go.AM
set_option maxRecDepth 20000
namespace Go.AM
theorem Cp {m:aQ} (hm:m.Kl):m.Small∧m.Fit:=by
 have h1:=hm.aZ.1
 have h2:=hm.aH.1;have h3:=hm.bn;have h4:=hm.ways.1
 have hl: ∀e ∈ m.aH,2≤e.line.length∧e.line.length≤5:=hm.aH.2
 have hw: ∀w ∈ m.ways,2≤w.line.length∧w.line.length≤5:=hm.ways.2
 exact⟨⟨by omega,by omega,by omega,by omega,fun e he=>by have:=hl e he;omega,fun e he=>by have:=hw e he;omega⟩,⟨by omega,by omega,by omega,by omega,fun e he=>by have:=hl e he;omega,fun e he=>by have:=hw e he;omega⟩⟩
theorem K0 {m m':aQ} (hm:m.Kl) (h:kc m m'):m'.Fit∧m'.aH.length< 1000∧ ∀e ∈ m'.aH,e.line.length< 1000:=by
 have h1:=hm.aZ.1
 have h2:=hm.aH.1;have h3:=hm.bn;have h4:=hm.ways.1
 have e1:=h.aH;have e2:=h.bn;have e3:=h.ways
 refine⟨⟨by omega,by omega,by omega,?_,fun e he=>by have:=h.el e he;omega,fun e he=>by have:=h.wl e he;omega⟩,by omega,h.el⟩
 rcases h.aZ with h| ⟨k,f,hk,_,h⟩
 · omega
 · rw[h];simp;omega
theorem Ss (m:aQ) (a b:Bool): ∀ (r:Nat) (k:V→bz),dk false r [] (m.vw a b) k=k m.v:=by
 intro r k
 cases a<;>cases b<;>rfl
theorem Fe {ls:List (List Int)} (hs:sJ ls): ∃m:aQ,m.Kl∧Ev E 522 [fU ls] ⟨m.v,[]⟩:=by
 have hs8:sJ (ls.take 8):=⟨by have:=hs.1;simp;omega,fun l h=>hs.2 l (List.mem_of_mem_take h)⟩
 have hl:=hs.1
 obtain⟨res,h,m,hm,rfl⟩:=Er hs8
 refine⟨m,hm,?_⟩
 have h8: ∀n:Nat,n=ls.length→(if (8:Int) < (n:Int) then(8:Int) else(n:Int)).toNat=min 8 ls.length:=fun n hn=>by
  rw[hn];split<;>omega
 refine Ev.aG T9 (Ua _) rfl ?_
 (conv=>whnf);repeat' ((first| intro g| refine aL.mk _ (qG (k:=8) (h8 _ (by first| (simp;done) | fail))) ?_| refine ag.mk _ (h) ?_| refine st ?_| (first| refine b1 ?_ ?_| refine b2 ?_ ?_| refine Br.mk ?_ ?_) <;>intro hc| exact rfl) <;>conv=>whnf)
set_option maxHeartbeats 4000000 in
theorem Cf {ls:List (List Int)} (hs:sJ ls) (q0 q1 q2:Int) (p:Pt):Ev E 518 [fU ls,kW q0 q1 q2,p.v] ⟨.bool true,[]⟩:=by
 obtain⟨m,hm,MQ⟩:=Fe hs
 obtain⟨RK,hmf⟩:=Cp hm
 obtain⟨_,aar,m',a,b,ho,rfl⟩:=Gk RK q0 q1 q2
 obtain⟨of,oe,ol⟩:=K0 hm ho
 have hm9:df E 79=[]:=rfl
 have uM:V.an [m.v,kW q0 q1 q2]=true:=rfl
 refine Ev.aG T5 (T6 _) rfl ?_
 (conv=>whnf);repeat' ((first| refine vE hm9 uM aar (Ss m' a b) ?_| intro g| refine ag.mk _ (H3) ?_| refine ag.mk _ (MQ) ?_| refine st ?_| (first| refine b1 ?_ ?_| refine b2 ?_ ?_| refine Br.mk ?_ ?_) <;>intro hc| exact rfl) <;>conv=>whnf)
 rename_i g5 _
 have hms: ∀k:Nat,k< 2→ ∃x:aQ,[m.v,m'.v][k]? =some x.v∧x.Fit∧x.aH.length< 1000∧ ∀e ∈ x.aH,e.line.length< 1000:=fun k hk=>by
   rcases(by omega:k=0∨k=1) with rfl| rfl
   · exact⟨m,rfl,hmf,by have:=RK.aH;omega,RK.el⟩
   · exact⟨m',rfl,of,oe,ol⟩
 have Mq: [m.v,m'.v].length=2:=rfl
 clear hs MQ RK hmf aar ho of oe ol hm uM hm9
 generalize [m.v,m'.v]=ms at*
 refine aV.by (fun i:Nat=> ⟨[(5,.ptr 96 g5 0 0),(7,.bool true),(25,.sl 416 g 0 2),(26,aD 2),(27,aD i)],[(416,⟨g,4,true,false,some ms⟩),(96,⟨g5,2,false,false,some [p.v]⟩)]⟩) (fun i=>i≤2) (fun i=>2 - i) 0 (by(refine⟨?_,?_⟩ <;>repeat' (first| exact True.intro| refine ai ?_| refine And.intro ?_ ?_))) (by omega) ?_
 intro i hi
 by_cases bl:i< 2
 · obtain⟨x,h1,h2,h3,h4⟩:=hms i bl
   exact Sr h1 bl h2 h3 h4 fun T' O' hs=>a9.mk (i+1) (by first| omega| (dsimp only;omega)) (by first| omega| (dsimp only;omega)) hs
 obtain rfl:i=2:=by omega
 (conv=>whnf);repeat' ((first| intro g| refine st ?_| (first| refine b1 ?_ ?_| refine b2 ?_ ?_| refine Br.mk ?_ ?_) <;>intro hc| exact rfl) <;>conv=>whnf)
end Go.AM
