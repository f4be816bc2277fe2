/-
  Texts of the proof: PBdA, PBdB, PBdC, PBdD.
-/
import Derived.Test.YtjmcpijpclfakaaGreatD
set_option maxRecDepth 20000
set_option maxHeartbeats 4000000
set_option linter.unusedSimpArgs false
set_option linter.unusedVariables false
namespace Go.AM
structure Bd where
 lo:Int
 hi:Int
 nl:Bool
 ws:List dE
 some:Bool
 text:Bool
def Bd.v (b:Bd):V:= .agg [vi b.lo,vi b.hi,lh b.nl b.ws,.bool b.some,.bool b.text]
def nb (lo hi:Int):Bd:=⟨lo,hi,false,[],false,false⟩
theorem vG (ws:List dE):lh false ws= .lit 1 (ws.map V.str):=by
 cases ws<;>rfl
theorem Bd.pure (b:Bd):V.aj b.v=true:=by
 simp only[Bd.v,V.aj,V.ae,gB];rfl
def yJ (b:Bd) (v:V):Prop:=v=b.v∨lh b.nl b.ws= .lit 1 (b.ws.map V.str)∧v= .agg [vi b.lo,vi b.hi,.own 1 (b.ws.map V.str),.bool b.some,.bool b.text]
theorem yJ.imp {b:Bd} {v:V} (h:yJ b v) (r:Nat) (k:V→bR):bC false r [] v k=k b.v:=by
 rcases h with rfl| ⟨hn,rfl⟩
 · simp only[bC,b.pure,cond_true]
 · have:b.v= .agg [vi b.lo,vi b.hi,.lit 1 (b.ws.map V.str),.bool b.some,.bool b.text]:=by rw[Bd.v,hn]
   rw[this]
   rfl
theorem bc {E:Env} {r:Nat} {g:Nat} {args:List V} {v v':V} {S:SS} {Q:KK} (hm:aD E g=[]) (hp:V.ae args=true) (he:Ev E g args ⟨v,[]⟩) (hv: ∀ (r:Nat) (k:V→bR),bC false r [] v k=k v') (k:Q v' S [] []):eR E (mj E r false g args) S Q:=by
 have key: ∀ (bL:List V) (i:Nat) (kk:List V→List Nat→List fk→bR),V.ae bL=true→fW (r+8) bL [] i kk=kk bL [] []:=by
  intro bL
  induction bL with
  | nil=>intro i kk _;rfl
  | cons a bL ih=>
    intro i kk h
    simp only[V.ae,Bool.and_eq_true] at h
    simp only[fW,gQ,h.1,cond_true,List.nil_append]
    rw[ih (i+1) _ h.2]
 unfold mj
 rw[hm,key args 0 _ hp]
 refine⟨rfl,⟨⟨v,[]⟩,he,?_⟩⟩
 simp only[cM,hv,eR]
 exact k
theorem Ci:Ev E 394 [] ⟨(nb 1 1).v,[]⟩:=by
 refine Ev.aG abi (abj _) rfl ?_
 (conv=>whnf);repeat' ((first| intro g| refine st ?_| (first| refine b1 ?_ ?_| refine b2 ?_ ?_| refine Br.mk ?_ ?_) <;>intro hc| exact rfl) <;>conv=>whnf)
theorem Hq:Ev E 395 [] ⟨(nb 0 0).v,[]⟩:=by
 refine Ev.aG abk (abl _) rfl ?_
 (conv=>whnf);repeat' ((first| intro g| refine st ?_| (first| refine b1 ?_ ?_| refine b2 ?_ ?_| refine Br.mk ?_ ?_) <;>intro hc| exact rfl) <;>conv=>whnf)
theorem lE:Ev E 377 [] ⟨(nb 0 1).v,[]⟩:=by
 refine Ev.aG aa8 (aa9 _) rfl ?_
 (conv=>whnf);repeat' ((first| intro g| refine st ?_| (first| refine b1 ?_ ?_| refine b2 ?_ ?_| refine Br.mk ?_ ?_) <;>intro hc| exact rfl) <;>conv=>whnf)
def least (a b:Bd):Bd:=nb (cH a.lo b.lo) (cH a.hi b.hi)
def m8 (a b:Bd):Bd:=nb (imax a.lo b.lo) (imax a.hi b.hi)
def plus (a b:Bd):Bd:=nb (dW (oG (a.lo+b.lo))) (dW (oG (a.hi+b.hi)))
def minus (a b:Bd):Bd:=nb (dW (oG (a.lo - b.hi))) (dW (oG (a.hi - b.lo)))
def pK (a b:Bd):Bd:=if a.hi<b.lo then nb 1 1 else if b.hi≤a.lo then nb 0 0 else nb 0 1
def KZ (a b:Bd):Int:=cH (cH (cH (dW (oG (a.lo*b.lo))) (dW (oG (a.lo*b.hi)))) (dW (oG (a.hi*b.lo)))) (dW (oG (a.hi*b.hi)))
def K0 (a b:Bd):Int:=imax (imax (imax (dW (oG (a.lo*b.lo))) (dW (oG (a.lo*b.hi)))) (dW (oG (a.hi*b.lo)))) (dW (oG (a.hi*b.hi)))
def times (a b:Bd):Bd:=nb (KZ a b) (K0 a b)
theorem DJ (a b:Bd):Ev E 408 [a.v,b.v] ⟨(least a b).v,[]⟩:=by
 have ha:=gB a.nl a.ws
 have hb:=gB b.nl b.ws
 simp only[Bd.v]
 generalize lh a.nl a.ws=A at*
 generalize lh b.nl b.ws=B at*
 refine Ev.aG abv (abw _) rfl ?_
 (conv=>whnf);repeat' ((first| intro g| refine st ?_| (first| refine b1 ?_ ?_| refine b2 ?_ ?_| refine Br.mk ?_ ?_) <;>intro hc| exact rfl) <;>conv=>whnf)
theorem vH (a:Bd):Ev E 416 [a.v] ⟨.bool (decide (a.lo=a.hi)),[]⟩:=by
 have ha:=gB a.nl a.ws
 simp only[Bd.v]
 generalize lh a.nl a.ws=A at*
 refine Ev.aG abH (abI _) rfl ?_
 (conv=>whnf);repeat' ((first| intro g| refine st ?_| (first| refine b1 ?_ ?_| refine b2 ?_ ?_| refine Br.mk ?_ ?_) <;>intro hc| exact rfl) <;>conv=>whnf)
end Go.AM
namespace Go.AM
theorem wG (a b:Bd):Ev E 409 [a.v,b.v] ⟨(m8 a b).v,[]⟩:=by
 simp only[Bd.v]
 generalize lh a.nl a.ws=A at*
 generalize lh b.nl b.ws=B at*
 refine Ev.aG abx (aby _) rfl ?_
 (conv=>whnf);repeat' ((first| intro g| refine st ?_| (first| refine b1 ?_ ?_| refine b2 ?_ ?_| refine Br.mk ?_ ?_) <;>intro hc| exact rfl) <;>conv=>whnf)
theorem Pc (a b:Bd):Ev E 412 [a.v,b.v] ⟨(plus a b).v,[]⟩:=by
 simp only[Bd.v]
 generalize lh a.nl a.ws=A at*
 generalize lh b.nl b.ws=B at*
 refine Ev.aG abB (abC _) rfl ?_
 (conv=>whnf);repeat' ((first| intro g| refine av.mk _ (B6 _) ?_| refine st ?_| (first| refine b1 ?_ ?_| refine b2 ?_ ?_| refine Br.mk ?_ ?_) <;>intro hc| exact rfl) <;>conv=>whnf)
theorem K3 (a b:Bd):Ev E 413 [a.v,b.v] ⟨(minus a b).v,[]⟩:=by
 simp only[Bd.v]
 generalize lh a.nl a.ws=A at*
 generalize lh b.nl b.ws=B at*
 refine Ev.aG abD (abE _) rfl ?_
 (conv=>whnf);repeat' ((first| intro g| refine av.mk _ (B6 _) ?_| refine st ?_| (first| refine b1 ?_ ?_| refine b2 ?_ ?_| refine Br.mk ?_ ?_) <;>intro hc| exact rfl) <;>conv=>whnf)
theorem Pd (a b:Bd):Ev E 411 [a.v,b.v] ⟨(pK a b).v,[]⟩:=by
 unfold pK
 generalize hr: (if a.hi<b.lo then nb 1 1 else if b.hi≤a.lo then nb 0 0 else nb 0 1)=R
 simp only[Bd.v]
 generalize lh a.nl a.ws=A at*
 generalize lh b.nl b.ws=B at*
 refine Ev.aG abz (abA _) rfl ?_
 (conv=>whnf);repeat' ((first| intro g| refine av.mk _ (Ci) ?_| refine av.mk _ (Hq) ?_| refine av.mk _ (lE) ?_| refine st ?_| (first| refine b1 ?_ ?_| refine b2 ?_ ?_| refine Br.mk ?_ ?_) <;>intro hc| exact rfl) <;>conv=>whnf)
 all_goals (rw[←hr];simp only[*,if_true,if_false];rfl)
def afB (w x y z:Int):Nat→Int
 | 0=>w
 | 1=>w
 | 2=>cH w x
 | 3=>cH (cH w x) y
 | _+4=>cH (cH (cH w x) y) z
theorem Pe (w x y z:Int):Ev E 429 [.lit 1 [vi w,vi x,vi y,vi z]] ⟨vi (cH (cH (cH w x) y) z),[]⟩:=by
 refine Ev.aG abR (abS _) rfl ?_
 (conv=>whnf);repeat' ((first| intro g| refine st ?_| (first| refine b1 ?_ ?_| refine b2 ?_ ?_| refine Br.mk ?_ ?_) <;>intro hc| exact rfl) <;>conv=>whnf)
 refine bj.by (fun (i:Nat)=> ⟨[(0,.lit 1 [vi w,vi x,vi y,vi z]),(3,vi (afB w x y z i)),(4,aO i)],[]⟩) (fun i=>1≤i∧i≤4) (fun i=>4 - i) 1 (by(refine⟨?_,?_⟩ <;>repeat' (first| exact True.intro| refine ai ?_| refine And.intro ?_ ?_))) (by simp) ?_
 rintro i ⟨h1,hi⟩
 have gv:i=1∨i=2∨i=3∨i=4:=by omega
 rcases gv with rfl| rfl| rfl| rfl
 · (conv=>whnf);repeat' ((first| intro g| refine bD.mk _ (rfl) ?_| refine st ?_| (first| refine b1 ?_ ?_| refine b2 ?_ ?_| refine Br.mk ?_ ?_) <;>intro hc| exact rfl) <;>conv=>whnf)
   exact bk.mk 2 (by first| omega| (dsimp only;omega)) ⟨by omega,by omega⟩ (by(refine⟨?_,?_⟩ <;>repeat' (first| exact True.intro| refine ai ?_| refine And.intro ?_ ?_)))
 · (conv=>whnf);repeat' ((first| intro g| refine bD.mk _ (rfl) ?_| refine st ?_| (first| refine b1 ?_ ?_| refine b2 ?_ ?_| refine Br.mk ?_ ?_) <;>intro hc| exact rfl) <;>conv=>whnf)
   exact bk.mk 3 (by first| omega| (dsimp only;omega)) ⟨by omega,by omega⟩ (by(refine⟨?_,?_⟩ <;>repeat' (first| exact True.intro| refine ai ?_| refine And.intro ?_ ?_)))
 · (conv=>whnf);repeat' ((first| intro g| refine bD.mk _ (rfl) ?_| refine st ?_| (first| refine b1 ?_ ?_| refine b2 ?_ ?_| refine Br.mk ?_ ?_) <;>intro hc| exact rfl) <;>conv=>whnf)
   exact bk.mk 4 (by first| omega| (dsimp only;omega)) ⟨by omega,by omega⟩ (by(refine⟨?_,?_⟩ <;>repeat' (first| exact True.intro| refine ai ?_| refine And.intro ?_ ?_)))
 · (conv=>whnf);repeat' ((first| intro g| refine st ?_| (first| refine b1 ?_ ?_| refine b2 ?_ ?_| refine Br.mk ?_ ?_) <;>intro hc| exact rfl) <;>conv=>whnf)
def afC (w x y z:Int):Nat→Int
 | 0=>w
 | 1=>w
 | 2=>imax w x
 | 3=>imax (imax w x) y
 | _+4=>imax (imax (imax w x) y) z
theorem Pf (w x y z:Int):Ev E 430 [.lit 1 [vi w,vi x,vi y,vi z]] ⟨vi (imax (imax (imax w x) y) z),[]⟩:=by
 refine Ev.aG abT (abU _) rfl ?_
 (conv=>whnf);repeat' ((first| intro g| refine st ?_| (first| refine b1 ?_ ?_| refine b2 ?_ ?_| refine Br.mk ?_ ?_) <;>intro hc| exact rfl) <;>conv=>whnf)
 refine bj.by (fun (i:Nat)=> ⟨[(0,.lit 1 [vi w,vi x,vi y,vi z]),(3,vi (afC w x y z i)),(4,aO i)],[]⟩) (fun i=>1≤i∧i≤4) (fun i=>4 - i) 1 (by(refine⟨?_,?_⟩ <;>repeat' (first| exact True.intro| refine ai ?_| refine And.intro ?_ ?_))) (by simp) ?_
 rintro i ⟨h1,hi⟩
 have gv:i=1∨i=2∨i=3∨i=4:=by omega
 rcases gv with rfl| rfl| rfl| rfl
 · (conv=>whnf);repeat' ((first| intro g| refine bD.mk _ (rfl) ?_| refine st ?_| (first| refine b1 ?_ ?_| refine b2 ?_ ?_| refine Br.mk ?_ ?_) <;>intro hc| exact rfl) <;>conv=>whnf)
   exact bk.mk 2 (by first| omega| (dsimp only;omega)) ⟨by omega,by omega⟩ (by(refine⟨?_,?_⟩ <;>repeat' (first| exact True.intro| refine ai ?_| refine And.intro ?_ ?_)))
 · (conv=>whnf);repeat' ((first| intro g| refine bD.mk _ (rfl) ?_| refine st ?_| (first| refine b1 ?_ ?_| refine b2 ?_ ?_| refine Br.mk ?_ ?_) <;>intro hc| exact rfl) <;>conv=>whnf)
   exact bk.mk 3 (by first| omega| (dsimp only;omega)) ⟨by omega,by omega⟩ (by(refine⟨?_,?_⟩ <;>repeat' (first| exact True.intro| refine ai ?_| refine And.intro ?_ ?_)))
 · (conv=>whnf);repeat' ((first| intro g| refine bD.mk _ (rfl) ?_| refine st ?_| (first| refine b1 ?_ ?_| refine b2 ?_ ?_| refine Br.mk ?_ ?_) <;>intro hc| exact rfl) <;>conv=>whnf)
   exact bk.mk 4 (by first| omega| (dsimp only;omega)) ⟨by omega,by omega⟩ (by(refine⟨?_,?_⟩ <;>repeat' (first| exact True.intro| refine ai ?_| refine And.intro ?_ ?_)))
 · (conv=>whnf);repeat' ((first| intro g| refine st ?_| (first| refine b1 ?_ ?_| refine b2 ?_ ?_| refine Br.mk ?_ ?_) <;>intro hc| exact rfl) <;>conv=>whnf)
theorem K4 (a b:Bd):Ev E 414 [a.v,b.v] ⟨(times a b).v,[]⟩:=by
 simp only[Bd.v]
 generalize lh a.nl a.ws=A at*
 generalize lh b.nl b.ws=B at*
 refine Ev.aG abF (abG _) rfl ?_
 (conv=>whnf);repeat' ((first| intro g| refine av.mk _ (B6 _) ?_| refine av.mk _ (Pe _ _ _ _) ?_| refine av.mk _ (Pf _ _ _ _) ?_| refine st ?_| (first| refine b1 ?_ ?_| refine b2 ?_ ?_| refine Br.mk ?_ ?_) <;>intro hc| exact rfl) <;>conv=>whnf)
end Go.AM
namespace Go.AM
def tI (a b:Bd):Bd:=
 if a.text then(if a.some &&b.some then(if a.ws.any (fun s=>decide (s ∈ b.ws)) then(if a.ws.length=1∧b.ws.length=1 then nb 1 1 else nb 0 1) else nb 0 0) else nb 0 1)
 else if a.hi<b.lo∨b.hi<a.lo then nb 0 0 else if a.lo=a.hi∧b.lo=b.hi then nb 1 1 else nb 0 1
theorem WG (b:Bd) (s:dE) (hlen:b.ws.length< 4611686018427387904):Ev E 427 [.str s,.eptr b.v 0] ⟨.bool (decide (s ∈ b.ws)),[]⟩:=by
 have h:=qw (x8 b.nl b.ws) s hlen
 have hb:=gB b.nl b.ws
 simp only[Bd.v]
 generalize lh b.nl b.ws=B at*
 have cm:aD E 349=[]:=rfl
 have hp:V.ae [B,.str s]=true:=by simp[V.ae,V.aj,hb]
 refine Ev.aG abP (abQ _) rfl ?_
 (conv=>whnf);repeat' ((first| intro g| refine aq (by assumption) (by first| assumption| rfl| (simp only[V.ae,V.aj,Bool.and_self,Bool.true_and,Bool.and_true, *])) (h) rfl ?_| refine st ?_| (first| refine b1 ?_ ?_| refine b2 ?_ ?_| refine Br.mk ?_ ?_) <;>intro hc| exact rfl) <;>conv=>whnf)
theorem K5 {r R:Bd} (h:r=R): (iE.mk r.v [])=⟨.agg [vi R.lo,vi R.hi,lh R.nl R.ws,.bool R.some,.bool R.text],[]⟩:=by rw[h];rfl
theorem IT (a b:Bd) (la:a.ws.length< 1000000) (lb:b.ws.length< 1000000):Ev E 410 [a.v,b.v] ⟨(tI a b).v,[]⟩:=by
 obtain⟨lo,hi,nl,ws,so,tx⟩:=a
 obtain⟨AU,gP,Cj,kU,Nx,WH⟩:=b
 have hc:=IB (x8 nl ws) (g:=427) (caps:=[.eptr (Bd.mk AU gP Cj kU Nx WH).v 0]) (by simp[V.ae,V.aj,Bd.pure]) (by dsimp only at la;omega) (p:=fun s=>decide (s ∈ kU)) (fun x _=>WG ⟨AU,gP,Cj,kU,Nx,WH⟩ x (by dsimp only at lb ⊢;omega)) rfl
 have ub:=vH ⟨lo,hi,nl,ws,so,tx⟩
 have Ck:=vH ⟨AU,gP,Cj,kU,Nx,WH⟩
 unfold tI
 dsimp only at la lb ⊢
 cases tx
 · rw[if_neg (by simp)]
   clear hc
   have ha:=gB nl ws
   have hb:=gB Cj kU
   generalize hr: (if hi<AU∨gP<lo then nb 0 0 else if lo=hi∧AU=gP then nb 1 1 else nb 0 1)=R
   simp only[Bd.v] at ub Ck ⊢
   generalize lh nl ws=A at*
   generalize lh Cj kU=B at*
   have cm:aD E 416=[]:=rfl
   have mR:V.ae [.agg [vi lo,vi hi,A,.bool so,.bool false]]=true:=by simp[V.ae,V.aj,ha]
   have xM:V.ae [.agg [vi AU,vi gP,B,.bool Nx,.bool WH]]=true:=by simp[V.ae,V.aj,hb]
   refine Ev.aG Ho (Hp _) rfl ?_
   (conv=>whnf);repeat' ((first| intro g| refine aq (by assumption) (by first| assumption| rfl| (simp only[V.ae,V.aj,Bool.and_self,Bool.true_and,Bool.and_true, *])) (ub) rfl ?_| refine aq (by assumption) (by first| assumption| rfl| (simp only[V.ae,V.aj,Bool.and_self,Bool.true_and,Bool.and_true, *])) (Ck) rfl ?_| refine av.mk _ (Ci) ?_| refine av.mk _ (Hq) ?_| refine av.mk _ (lE) ?_| refine st ?_| (first| refine b1 ?_ ?_| refine b2 ?_ ?_| refine Br.mk ?_ ?_) <;>intro hc| exact rfl) <;>conv=>whnf)
   all_goals (refine K5 ?_;rw[←hr];clear hr;repeat' split)
   all_goals first| rfl| (exfalso;omega)
 · rw[if_pos rfl]
   generalize hr: (if (so &&Nx)=true then(if (ws.any fun s=>decide (s ∈ kU))=true then(if ws.length=1∧kU.length=1 then nb 1 1 else nb 0 1) else nb 0 0) else nb 0 1)=R
   cases so
   · subst hr
     simp only[Bd.v,Bool.false_and]
     generalize lh nl ws=A at*
     generalize lh Cj kU=B at*
     refine Ev.aG Ho (Hp _) rfl ?_
     (conv=>whnf);repeat' ((first| intro g| refine av.mk _ (lE) ?_| refine st ?_| (first| refine b1 ?_ ?_| refine b2 ?_ ?_| refine Br.mk ?_ ?_) <;>intro hc| exact rfl) <;>conv=>whnf)
   cases Nx
   · subst hr
     simp only[Bd.v,Bool.and_false]
     generalize lh nl ws=A at*
     generalize lh Cj kU=B at*
     refine Ev.aG Ho (Hp _) rfl ?_
     (conv=>whnf);repeat' ((first| intro g| refine av.mk _ (lE) ?_| refine st ?_| (first| refine b1 ?_ ?_| refine b2 ?_ ?_| refine Br.mk ?_ ?_) <;>intro hc| exact rfl) <;>conv=>whnf)
   have lm: (ws.map V.str).length=ws.length:=List.length_map ..
   have lm': (kU.map V.str).length=kU.length:=List.length_map ..
   simp only[Bd.v] at hc ⊢
   clear ub Ck
   rcases lj nl ws with⟨e,e2⟩ | e<;>rcases lj Cj kU with⟨e',e2'⟩ | e'<;>rw[e,e'] at hc ⊢
   all_goals
     refine Ev.aG Ho (Hp _) rfl ?_
     (conv=>whnf);repeat' ((first| intro g| refine av.mk _ (hc) ?_| refine av.mk _ (Ci) ?_| refine av.mk _ (Hq) ?_| refine av.mk _ (lE) ?_| refine st ?_| (first| refine b1 ?_ ?_| refine b2 ?_ ?_| refine Br.mk ?_ ?_) <;>intro hc| exact rfl) <;>conv=>whnf)
     all_goals (refine K5 ?_;rw[←hr];clear hr;simp_all)
     all_goals omega
end Go.AM
namespace Go.AM
def union (a:List dE):List dE→List dE
 | []=>a
 | s::l=>union (if s ∈ a then a else a++[s]) l
theorem kM: ∀ (a b c:List dE),union a (b++c)=union (union a b) c
 | _,[],_=>rfl
 | a,s::b,c=>kM _ b c
theorem m9: ∀ (a b:List dE),(union a b).length≤a.length+b.length
 | _,[]=>by simp[union]
 | a,s::b=>by
   have h:=m9 (if s ∈ a then a else a++[s]) b
   unfold union
   split at h
   · rename_i hs;rw[if_pos hs];simp;omega
   · rename_i hs;rw[if_neg hs];simp at h ⊢;omega
theorem yK {a b:List dE} {i:Nat} {s:dE} (h:b[i]? =some s):union a (b.take (i+1))=if s ∈ union a (b.take i) then union a (b.take i) else union a (b.take i)++[s]:=by
 rw[List.take_add_one,h,kM]
 rfl
def either (a b:Bd):Bd:=
 if a.text then(if a.some &&b.some then⟨0,0,false,union a.ws b.ws,true,true⟩ else⟨0,0,false,[],false,true⟩) else nb (cH a.lo b.lo) (imax a.hi b.hi)
theorem IU (l:List dE) (h:l.length< 1000000):Ev E 407 [.lit 1 (l.map V.str)] ⟨.own 1 (l.map V.str),[]⟩:=
 Ev.ext (by rw[abV];simp[nG];omega)
theorem FM (a b:Bd) (h:a.text=false):Ev E 378 [a.v,b.v] ⟨(either a b).v,[]⟩:=by
 obtain⟨lo,hi,nl,ws,so,tx⟩:=a
 dsimp only at h
 subst h
 simp only[Bd.v]
 generalize lh nl ws=A at*
 generalize lh b.nl b.ws=B at*
 refine Ev.aG Hk (Hl _) rfl ?_
 (conv=>whnf);repeat' ((first| intro g| refine st ?_| (first| refine b1 ?_ ?_| refine b2 ?_ ?_| refine Br.mk ?_ ?_) <;>intro hc| exact rfl) <;>conv=>whnf)
theorem FN (a b:Bd) (h:a.text=true) (h2: (a.some &&b.some)=false):Ev E 378 [a.v,b.v] ⟨(either a b).v,[]⟩:=by
 obtain⟨lo,hi,nl,ws,so,tx⟩:=a
 obtain⟨AU,gP,Cj,kU,Nx,WH⟩:=b
 dsimp only at h h2
 subst h
 simp only[Bd.v]
 have e:either ⟨lo,hi,nl,ws,so,true⟩ ⟨AU,gP,Cj,kU,Nx,WH⟩=⟨0,0,false,[],false,true⟩:=by simp[either,h2]
 rw[e]
 generalize lh nl ws=A at*
 generalize lh Cj kU=B at*
 cases so
 · refine Ev.aG Hk (Hl _) rfl ?_
   (conv=>whnf);repeat' ((first| intro g| refine st ?_| (first| refine b1 ?_ ?_| refine b2 ?_ ?_| refine Br.mk ?_ ?_) <;>intro hc| exact rfl) <;>conv=>whnf)
 · cases Nx
   · refine Ev.aG Hk (Hl _) rfl ?_
     (conv=>whnf);repeat' ((first| intro g| refine st ?_| (first| refine b1 ?_ ?_| refine b2 ?_ ?_| refine Br.mk ?_ ?_) <;>intro hc| exact rfl) <;>conv=>whnf)
   · simp at h2
theorem FO (a b:Bd) (h:a.text=true) (hs:a.some=true) (kl:b.some=true) (hn:a.ws≠[]) (hn':b.ws≠[]) (la:a.ws.length< 100000) (lb:b.ws.length< 100000): ∃v,Ev E 378 [a.v,b.v] ⟨v,[]⟩∧yJ (either a b) v:=by
 have hE:yJ (either a b) (.agg [vi 0,vi 0,.own 1 ((union a.ws b.ws).map V.str),.bool true,.bool true]):= .inr (by simp[either,h,hs,kl,vG])
 refine⟨_,?_,hE⟩
 clear hE
 obtain⟨lo,hi,nl,ws,so,tx⟩:=a
 obtain⟨AU,gP,Cj,kU,Nx,WH⟩:=b
 dsimp only at h hs kl hn hn' la lb ⊢
 subst h hs kl
 have e:lh nl ws= .lit 1 (ws.map V.str):=by
   rcases lj nl ws with⟨_,h0⟩ | h0
   · exact absurd h0 hn
   · exact h0
 have e':lh Cj kU= .lit 1 (kU.map V.str):=by
   rcases lj Cj kU with⟨_,h0⟩ | h0
   · exact absurd h0 hn'
   · exact h0
 simp only[Bd.v,e,e']
 have rj:=IU ws (by omega)
 refine Ev.aG Hk (Hl _) rfl ?_
 (conv=>whnf);repeat' ((first| intro g| refine av.mk _ (rj) ?_| refine st ?_| (first| refine b1 ?_ ?_| refine b2 ?_ ?_| refine Br.mk ?_ ?_) <;>intro hc| exact rfl) <;>conv=>whnf)
 rename_i ed fh gj agz
 refine bj.by (fun ((i,L,g9):Nat×List dE×Nat)=> ⟨[(4,.ptr 80 gj 0 0),(5,.sl 97 g9 0 L.length),(35,.lit 1 (kU.map V.str)),(36,aO (kU.map V.str).length),(37,aO i)],
     [(80,⟨gj,5,false,false,some [.agg [vi 0,vi 0,.lit 1 [],.bool false,.bool false]]⟩),(97,⟨g9,1,true,false,some (L.map V.str)⟩)]⟩)
   (fun (i,L,g9)=>i≤kU.length∧L=union ws (kU.take i)) (fun (i,_,_)=>kU.length - i) (0,ws,g) (by(refine⟨?_,?_⟩ <;>repeat' (first| exact True.intro| refine ai ?_| refine And.intro ?_ ?_))) ⟨by simp,rfl⟩ ?_
 rintro⟨i,L,g9⟩ ⟨hi,hL⟩
 try dsimp only at hi hL
 have sr:L.length< 1000000:=by
   have h1:=m9 ws (kU.take i)
   rw[←hL] at h1
   have h2: (kU.take i).length≤kU.length:=by simp;omega
   omega
 have sU: (L.map V.str).length=L.length:=List.length_map ..
 by_cases bY:i<kU.length
 · have hx:kU[i]? =some kU[i]:=bp bY
   generalize kU[i]=x at hx
   have hc:=qw (sv:= .lit 1 (L.map V.str)) (.inl rfl) x (by omega)
   have hU:=yK (a:=ws) hx
   rw[←hL] at hU
   rw[xm] at hc
   by_cases hm:x ∈ L
   · rw[decide_eq_true hm] at hc
     rw[if_pos hm] at hU
     (conv=>whnf);repeat' ((first| intro g| refine bD.mk _ (aA hx rfl rfl) ?_| refine av.mk _ (hc) ?_| refine st ?_| (first| refine b1 ?_ ?_| refine b2 ?_ ?_| refine Br.mk ?_ ?_) <;>intro hc| exact rfl) <;>conv=>whnf)
     exact bk.mk (i+1,L,g9) (by first| omega| (dsimp only;omega)) ⟨by omega,hU.symm⟩ (by(refine⟨?_,?_⟩ <;>repeat' (first| exact True.intro| refine ai ?_| refine And.intro ?_ ?_)))
   · rw[decide_eq_false hm] at hc
     rw[if_neg hm] at hU
     (conv=>whnf);repeat' ((first| intro g| refine bD.mk _ (aA hx rfl rfl) ?_| refine av.mk _ (hc) ?_| refine st ?_| (first| refine b1 ?_ ?_| refine b2 ?_ ?_| refine Br.mk ?_ ?_) <;>intro hc| exact rfl) <;>conv=>whnf)
     exact bk.mk (i+1,L++[x],g) (by first| omega| (dsimp only;omega)) ⟨by omega,hU.symm⟩ (by(refine⟨?_,?_⟩ <;>repeat' (first| exact True.intro| refine ai ?_| refine And.intro ?_ ?_)))
 · have gv:i=kU.length:=by omega
   subst gv
   rw[List.take_length] at hL
   subst hL
   (conv=>whnf);repeat' ((first| intro g| refine st ?_| (first| refine b1 ?_ ?_| refine b2 ?_ ?_| refine Br.mk ?_ ?_) <;>intro hc| exact rfl) <;>conv=>whnf)
theorem AV (n:Int) (b:Bool) (s:dE):Ev E 350 [(Va.mk 1 n b s).v] ⟨(nb n n).v,[]⟩:=by
 refine Ev.aG KV (KW _) rfl ?_
 simp only[Va.v]
 (conv=>whnf);repeat' ((first| intro g| refine st ?_| (first| refine b1 ?_ ?_| refine b2 ?_ ?_| refine Br.mk ?_ ?_) <;>intro hc| exact rfl) <;>conv=>whnf)
theorem AW (n:Int) (b:Bool) (s:dE):Ev E 350 [(Va.mk 2 n b s).v] ⟨(bif b then nb 1 1 else nb 0 0).v,[]⟩:=by
 refine Ev.aG KV (KW _) rfl ?_
 simp only[Va.v]
 cases b
 all_goals (conv=>whnf);repeat' ((first| intro g| refine av.mk _ (Ci) ?_| refine av.mk _ (Hq) ?_| refine st ?_| (first| refine b1 ?_ ?_| refine b2 ?_ ?_| refine Br.mk ?_ ?_) <;>intro hc| exact rfl) <;>conv=>whnf)
theorem IV (n:Int) (b:Bool) (s:dE):Ev E 350 [(Va.mk 3 n b s).v] ⟨.agg [vi 0,vi 0,.own 1 [.str s],.bool true,.bool true],[]⟩:=by
 refine Ev.aG KV (KW _) rfl ?_
 simp only[Va.v]
 (conv=>whnf);repeat' ((first| intro g| refine st ?_| (first| refine b1 ?_ ?_| refine b2 ?_ ?_| refine Br.mk ?_ ?_) <;>intro hc| exact rfl) <;>conv=>whnf)
end Go.AM
