/-
  Texts of the proof: PFacN.
-/
import Derived.Test.YtjmcpijpclfakaaGreatHc
set_option maxRecDepth 20000
set_option maxHeartbeats 4000000
set_option linter.unusedSimpArgs false
set_option linter.unusedVariables false
namespace Go.AM
theorem I4:Ev E 373 [.nils] ⟨.own 4 [],[]⟩:=
 Ev.ext (by rw[Rz];simp[nG])
theorem FX { l:List bH} (hl:gZ l) (h0:l=[]):Ev E 339 [.nils] ⟨.mlit (ep (aH l) 9),[]⟩:=by
 have hlen:=hl.len
 have lm: (l.map bH.v).length=l.length:=List.length_map ..
 have Kd:V.ae (l.map bH.v)=true:=AM.bq bH.pure l
 have rj:Ev E 373 [.nils] ⟨.own 4 (l.map bH.v),[]⟩:=by rw[h0];exact I4
 refine Ev.aG Rf (Rg _) rfl ?_
 (conv=>whnf);repeat' ((first| intro g| refine st ?_| (first| refine b1 ?_ ?_| refine b2 ?_ ?_| refine Br.mk ?_ ?_) <;>intro hc| exact rfl) <;>conv=>whnf)
 rename_i oU
 refine bj.by (fun ((n,gj):Nat×Nat)=> ⟨[(0,.nils),(3,.mp 176 oU),(4,.ptr 80 gj 0 0)],[(176,⟨oU,0,false,false,some (ep (aH l) n)⟩),(80,⟨gj,1,false,false,some [vi ((n:Int)+1)]⟩)]⟩)
   (fun (n,gj)=>n≤9) (fun (n,gj)=>9 - n) (0,g) (by(refine⟨?_,?_⟩ <;>repeat' (first| exact True.intro| refine ai ?_| refine And.intro ?_ ?_))) (by simp) ?_
 rintro⟨n,gj⟩ hn
 try dsimp only at hn
 by_cases hn9:n< 9
 · obtain⟨ res,FU,b,rest,wH,rfl⟩:=DP (l:=l) ((n:Int)+1) hlen
   rw[←lm] at FU
   have I2:=yL ((n:Int)+1)
   have Lb: ∀g:Nat,(⟨g,1,false,false,some [V.int .i64 (IntKind.i64.wrap ((n:Int)+1+1))]⟩:Obj)=⟨g,1,false,false,some [vi (((n+1:Nat):Int)+1)]⟩:=fun g=>by rw[show IntKind.i64.wrap ((n:Int)+1+1)=((n+1:Nat):Int)+1 from(wrap64 (by omega) (by omega)).trans (by omega)]
   by_cases h3:cI ((n:Int)+1)=3
   · rw[ h3] at I2
     obtain⟨w,hw,jY⟩:=AX _ (Hs (v:=(n:Int)+1) hl)
     have hOp:V.ae ((cY ((n:Int)+1) l).map bH.v)=true:=AM.bq bH.pure _
     have I3:aH l ((n:Int)+1)=jc (cY ((n:Int)+1) l):=by simp[aH,h3]
     generalize cY ((n:Int)+1) l=own at*
     have hB:jc own=⟨0,0,true,fA own,!(fA own).isEmpty,true⟩:=rfl
     generalize fA own=ws at hB
     rw[hB] at I3 jY
     have fE:=fun W=>ud (aH l) n (w:=W)
     rw[I3] at fE
     have RB: ∃W,(Bd.v ⟨0,0,true,ws,!ws.isEmpty,true⟩= .agg [vi 0,vi 0,W,.bool (!ws.isEmpty),.bool true])∧(W= .nils∧w= .agg [vi 0,vi 0,.nils,.bool (!ws.isEmpty),.bool true]∨W= .lit 1 (ws.map V.str)∧(w= .agg [vi 0,vi 0,.lit 1 (ws.map V.str),.bool (!ws.isEmpty),.bool true]∨w= .agg [vi 0,vi 0,.own 1 (ws.map V.str),.bool (!ws.isEmpty),.bool true])):=by
       rcases jY with h| ⟨h0,h⟩
       · cases ws with
         | nil=>exact⟨.nils,rfl,.inl ⟨rfl,h⟩⟩
         | cons y ys=>exact⟨_,rfl,.inr ⟨rfl,.inl h⟩⟩
       · cases ws with
         | nil=>simp[lh] at h0
         | cons y ys=>exact⟨_,rfl,.inr ⟨rfl,.inr h⟩⟩
     obtain⟨W,hW,Q6⟩:=RB
     clear jY hB
     generalize (!ws.isEmpty)=so at*
     rw[hW] at fE
     rcases Q6 with⟨rfl,rfl⟩ | ⟨rfl,rfl| rfl⟩
     all_goals
       (conv=>whnf);repeat' ((first| intro g| refine bU.mk (⟨rfl,rfl,rfl,Nat.le_of_eq (Nat.zero_add _),Kd⟩) ?_| refine bD.mk _ (xK rfl) ?_| refine bD.mk _ (fE _ rfl) ?_| refine av.mk _ (rj) ?_| refine av.mk _ (FU) ?_| refine av.mk _ (I2) ?_| refine av.mk _ (hw) ?_| refine st ?_| (first| refine b1 ?_ ?_| refine b2 ?_ ?_| refine Br.mk ?_ ?_) <;>intro hc| exact rfl) <;>conv=>whnf)
       exact bk.mk (n+1,g) (by first| omega| (dsimp only;omega)) (by omega) (by(refine⟨?_,?_⟩ <;>repeat' (first| exact True.intro| refine And.intro (Lb _) ?_| refine ai ?_| refine And.intro ?_ ?_)))
   · have I3:aH l ((n:Int)+1)=pL ((n:Int)+1) l:=by simp[aH,h3]
     unfold pL at I3
     rw[←ue,←uf] at I3
     have hOp:V.ae ((cY ((n:Int)+1) l).map bH.v)=true:=AM.bq bH.pure _
     have hol:=Cl ((n:Int)+1) l
     generalize cY ((n:Int)+1) l=own at*
     have fE:=fun W=>ud (aH l) n (w:=W)
     rw[I3] at fE
     have FV:iM ((n:Int)+1)=if cI ((n:Int)+1)=2 then 0 else -1073741824:=rfl
     have hto:toV ((n:Int)+1)=if cI ((n:Int)+1)=2 then 1 else 1073741824:=rfl
     generalize iM ((n:Int)+1)=fr at*
     generalize toV ((n:Int)+1)=to at*
     generalize cI ((n:Int)+1)=t at*
     by_cases h2:t=2
     all_goals
       simp only[h2,if_true,if_false] at FV hto
       subst FV hto
       (conv=>whnf);repeat' ((first| intro g| refine bU.mk (⟨rfl,rfl,rfl,Nat.le_of_eq (Nat.zero_add _),Kd⟩) ?_| refine bD.mk _ (xK rfl) ?_| refine av.mk _ (rj) ?_| refine av.mk _ (FU) ?_| refine av.mk _ (I2) ?_| refine av.mk _ (lE) ?_| refine st ?_| (first| refine b1 ?_ ?_| refine b2 ?_ ?_| refine Br.mk ?_ ?_) <;>intro hc| exact rfl) <;>conv=>whnf)
     all_goals rename_i afF xN ug
     · refine bj.by (fun (i:Nat)=> ⟨[(0,.nils),(3,.mp 176 oU),(4,.ptr 80 gj 0 0),(5,.sl 97 xN 0 own.length),(6,.ptr 112 ug 0 0),(7,.ptr 128 g 0 0),(32,.sl 97 xN 0 own.length),(33,aO own.length),(34,aO i)],
           [(176,⟨oU,0,false,false,some (ep (aH l) n)⟩),(80,⟨gj,1,false,true,some [vi ((n:Int)+1)]⟩),(97,⟨xN,4,true,false,some (own.map bH.v++rest)⟩),
            (112,⟨ug,5,false,false,some [.agg [vi (oI (own.take i) (0)),vi (oJ (own.take i) 1),.lit 1 [],.bool false,.bool false]]⟩),(128,⟨g,5,false,false,some [.agg [vi (0),vi 1,.lit 1 [],.bool false,.bool false]]⟩)]⟩)
         (fun i=>i≤own.length) (fun i=>own.length - i) 0 (by(refine⟨?_,?_⟩ <;>repeat' (first| exact True.intro| refine ai ?_| refine And.intro ?_ ?_))) (by simp) ?_
       intro i hi
       by_cases bY:i<own.length
       · have hx:own[i]? =some own[i]:=bp bY
         generalize own[i]=x at hx
         have h1:=nU (a:=0) hx
         have h2:=nV (a:=1) hx
         obtain⟨tv,gD,_⟩:=x.na
         have FW: (own.map bH.v++rest)[((i:Nat):Int).toNat]? =some x.v:=by
           rw[List.getElem?_append_left (by simp;omega)]
           exact eL hx rfl
         rw[gD] at FW
         have yN:0+((i:Nat):Int).toNat< (own.map bH.v++rest).length:=by simp;omega
         (conv=>whnf);repeat' ((first| intro g| refine bU.mk (yN) ?_| refine bD.mk _ (FW) ?_| refine bD.mk _ ((by simpa using FW)) ?_| refine st ?_| (first| refine b1 ?_ ?_| refine b2 ?_ ?_| refine Br.mk ?_ ?_) <;>intro hc| exact rfl) <;>conv=>whnf)
         exact bk.mk (i+1) (by first| omega| (dsimp only;omega)) (by omega) (by rw[h1,h2]; (refine⟨?_,?_⟩ <;>repeat' (first| exact True.intro| refine ai ?_| refine And.intro ?_ ?_)))
       · obtain rfl:i=own.length:=by omega
         rw[List.take_length]
         generalize oI own (0)=A at*
         generalize oJ own 1=B at*
         by_cases Lc:B<A
         · rw[if_pos Lc] at fE
           (conv=>whnf);repeat' ((first| intro g| refine bD.mk _ (fE _ rfl) ?_| refine st ?_| (first| refine b1 ?_ ?_| refine b2 ?_ ?_| refine Br.mk ?_ ?_) <;>intro hc| exact rfl) <;>conv=>whnf)
           exact bk.mk (n+1,g) (by first| omega| (dsimp only;omega)) (by omega) (by(refine⟨?_,?_⟩ <;>repeat' (first| exact True.intro| refine And.intro (Lb _) ?_| refine ai ?_| refine And.intro ?_ ?_)))
         · rw[if_neg Lc] at fE
           (conv=>whnf);repeat' ((first| intro g| refine bD.mk _ (fE _ rfl) ?_| refine st ?_| (first| refine b1 ?_ ?_| refine b2 ?_ ?_| refine Br.mk ?_ ?_) <;>intro hc| exact rfl) <;>conv=>whnf)
           exact bk.mk (n+1,g) (by first| omega| (dsimp only;omega)) (by omega) (by(refine⟨?_,?_⟩ <;>repeat' (first| exact True.intro| refine And.intro (Lb _) ?_| refine ai ?_| refine And.intro ?_ ?_)))
     · refine bj.by (fun (i:Nat)=> ⟨[(0,.nils),(3,.mp 176 oU),(4,.ptr 80 gj 0 0),(5,.sl 97 xN 0 own.length),(6,.ptr 112 ug 0 0),(7,.ptr 128 g 0 0),(32,.sl 97 xN 0 own.length),(33,aO own.length),(34,aO i)],
           [(176,⟨oU,0,false,false,some (ep (aH l) n)⟩),(80,⟨gj,1,false,true,some [vi ((n:Int)+1)]⟩),(97,⟨xN,4,true,false,some (own.map bH.v++rest)⟩),
            (112,⟨ug,5,false,false,some [.agg [vi (oI (own.take i) (-1073741824)),vi (oJ (own.take i) 1073741824),.lit 1 [],.bool false,.bool false]]⟩),(128,⟨g,5,false,false,some [.agg [vi (-1073741824),vi 1073741824,.lit 1 [],.bool false,.bool false]]⟩)]⟩)
         (fun i=>i≤own.length) (fun i=>own.length - i) 0 (by(refine⟨?_,?_⟩ <;>repeat' (first| exact True.intro| refine ai ?_| refine And.intro ?_ ?_))) (by simp) ?_
       intro i hi
       by_cases bY:i<own.length
       · have hx:own[i]? =some own[i]:=bp bY
         generalize own[i]=x at hx
         have h1:=nU (a:= -1073741824) hx
         have h2:=nV (a:=1073741824) hx
         obtain⟨tv,gD,_⟩:=x.na
         have FW: (own.map bH.v++rest)[((i:Nat):Int).toNat]? =some x.v:=by
           rw[List.getElem?_append_left (by simp;omega)]
           exact eL hx rfl
         rw[gD] at FW
         have yN:0+((i:Nat):Int).toNat< (own.map bH.v++rest).length:=by simp;omega
         (conv=>whnf);repeat' ((first| intro g| refine bU.mk (yN) ?_| refine bD.mk _ (FW) ?_| refine bD.mk _ ((by simpa using FW)) ?_| refine st ?_| (first| refine b1 ?_ ?_| refine b2 ?_ ?_| refine Br.mk ?_ ?_) <;>intro hc| exact rfl) <;>conv=>whnf)
         exact bk.mk (i+1) (by first| omega| (dsimp only;omega)) (by omega) (by rw[h1,h2]; (refine⟨?_,?_⟩ <;>repeat' (first| exact True.intro| refine ai ?_| refine And.intro ?_ ?_)))
       · obtain rfl:i=own.length:=by omega
         rw[List.take_length]
         generalize oI own (-1073741824)=A at*
         generalize oJ own 1073741824=B at*
         by_cases Lc:B<A
         · rw[if_pos Lc] at fE
           (conv=>whnf);repeat' ((first| intro g| refine bD.mk _ (fE _ rfl) ?_| refine st ?_| (first| refine b1 ?_ ?_| refine b2 ?_ ?_| refine Br.mk ?_ ?_) <;>intro hc| exact rfl) <;>conv=>whnf)
           exact bk.mk (n+1,g) (by first| omega| (dsimp only;omega)) (by omega) (by(refine⟨?_,?_⟩ <;>repeat' (first| exact True.intro| refine And.intro (Lb _) ?_| refine ai ?_| refine And.intro ?_ ?_)))
         · rw[if_neg Lc] at fE
           (conv=>whnf);repeat' ((first| intro g| refine bD.mk _ (fE _ rfl) ?_| refine st ?_| (first| refine b1 ?_ ?_| refine b2 ?_ ?_| refine Br.mk ?_ ?_) <;>intro hc| exact rfl) <;>conv=>whnf)
           exact bk.mk (n+1,g) (by first| omega| (dsimp only;omega)) (by omega) (by(refine⟨?_,?_⟩ <;>repeat' (first| exact True.intro| refine And.intro (Lb _) ?_| refine ai ?_| refine And.intro ?_ ?_)))
 · obtain rfl:n=9:=by omega
   have eZ:=jS (aH l) 9
   (conv=>whnf);repeat' ((first| intro g| refine bU.mk (⟨rfl,rfl,vK _ _,DQ _ _⟩) ?_| refine st ?_| (first| refine b1 ?_ ?_| refine b2 ?_ ?_| refine Br.mk ?_ ?_) <;>intro hc| exact rfl) <;>conv=>whnf)
   rw[eZ]
   (conv=>whnf);repeat' ((first| intro g| refine st ?_| (first| refine b1 ?_ ?_| refine b2 ?_ ?_| refine Br.mk ?_ ?_) <;>intro hc| exact rfl) <;>conv=>whnf)
theorem FY {l:List bH} {sv:V} (hl:gZ l) (hs:td 4 (l.map bH.v) sv):Ev E 339 [sv] ⟨.mlit (ep (aH l) 9),[]⟩:=by
 rcases hs with rfl| ⟨h0,rfl⟩
 · exact I1 hl
 · exact FX hl (by simpa using h0)
end Go.AM
