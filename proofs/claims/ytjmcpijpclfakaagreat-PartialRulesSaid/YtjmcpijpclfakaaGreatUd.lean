/-
  Texts of the proof: PRuE.
-/
import Derived.Test.YtjmcpijpclfakaaGreatUb
import Derived.Test.YtjmcpijpclfakaaGreatVc
set_option maxRecDepth 20000
set_option maxHeartbeats 8000000
set_option linter.unusedSimpArgs false
set_option linter.unusedVariables false
namespace Go.AM
theorem E6 (x:b5) {e:Ex} (he:e.size≤60) (hf:e.Fit) (ht:e.b4≠0):Ev E 348 [e.g,x.v] ⟨.tuple [.agg [vi (e.eval x).t,vi (e.eval x).n,.bool (e.eval x).b,.str (e.eval x).s],vi 0],[]⟩:=by
 have XX:e.err=0:=by unfold Ex.err;rw[if_neg (by omega),if_neg ht]
 have h:=M4 x e XX hf
 rw[e.vg] at h
 exact h
theorem GQ (x:b5) {e:Ex} (m:Int) (he:e.size≤60) (hf:e.Fit) (ht:e.b4≠0):Ev E 365 [e.g,vi m,.eptr x.v 0] ⟨vi (qq x e m),[]⟩:=by
 have h:=E6 x he hf ht
 have hm:aD E 348=[]:=rfl
 have mT: ∀v,V.aj v=true→V.ae [e.g,v]=true:=fun v hv=>by simp only[V.ae,e.jN,hv,Bool.and_self]
 have hp:=mT _ x.pure
 unfold qq
 generalize e.eval x=w at*
 have gD:x.v= .agg [vi x.kind,.str x.cls,.str x.name,vi x.weight,vi x.level,.bool x.cg,vi x.scale,vi x.hour,vi x.reader]:=rfl
 rw[gD] at h hp ⊢
 refine Ev.aG aa0 (aa1 _) rfl ?_
 (conv=>whnf);repeat' ((first| refine aq hm hp h rfl ?_| intro g| refine st ?_| (first| refine b1 ?_ ?_| refine b2 ?_ ?_| refine Br.mk ?_ ?_) <;>intro hc| exact rfl) <;>conv=>whnf)
 all_goals (simp only[cH,imax];repeat' split;all_goals first| rfl| (exfalso;omega) | (congr 2;omega))
def Lk.v (k:Lk):V:= .tuple [.agg [vi k.c,vi k.d,vi k.s],.str k.name,vi k.err]
theorem E7 (x:b5) {l:List aP} {i:Nat} {r:aP} (h:l[i]? =some r): ((l.take (i+1)).filter (aP.holds x)).foldl gb []=bif r.holds x then gb (((l.take i).filter (aP.holds x)).foldl gb []) r else((l.take i).filter (aP.holds x)).foldl gb []:=by
 rw[iN h,List.foldl_append]
 cases r.holds x<;>rfl
theorem Il (x:b5) {l:List aP} (hl:l.length< 1000000) (hf: ∀r ∈ l,r.Fit) (hg:gu l=0):Ev E 330 [.lit 30 (l.map aP.v),x.v] ⟨(zP x (counts x l)).v,[]⟩:=by
 have lm: (l.map aP.v).length=l.length:=List.length_map ..
 have Ik:=uW l hl hf
 rw[hg] at Ik
 have hG:=((oB l).1 hg).ok
 have hm:aD E 348=[]:=rfl
 have gD:x.v= .agg [vi x.kind,.str x.cls,.str x.name,vi x.weight,vi x.level,.bool x.cg,vi x.scale,vi x.hour,vi x.reader]:=rfl
 have mT: ∀e:Ex,V.ae [e.g,x.v]=true:=fun e=>by simp only[V.ae,e.jN,x.pure,Bool.and_self]
 have ei:=fun (e:Ex)=>E6 x (e:=e)
 have Sw:=fun (e:Ex) (m:Int)=>GQ x (e:=e) m
 have hm5:aD E 365=[]:=rfl
 have gm:=zQ x l
 unfold counts at gm ⊢
 rw[gD] at mT ei Sw ⊢
 refine Ev.aG aaI (aaJ _) rfl ?_
 (conv=>whnf);repeat' ((first| intro g| refine av.mk _ (Ik) ?_| refine st ?_| (first| refine b1 ?_ ?_| refine b2 ?_ ?_| refine Br.mk ?_ ?_) <;>intro hc| exact rfl) <;>conv=>whnf)
 rename_i fh gj
 refine bj.by (fun ((i,L,g9):Nat×List aP×Nat)=> ⟨[(3,.ptr 64 fh 0 0),(4,.ptr 80 gj 0 0),(8,.sl 145 g9 0 L.length),(21,.lit 30 (l.map aP.v)),(22,aO l.length),(23,aO i)],[(64,⟨fh,9,false,false,some [.agg [vi x.kind,.str x.cls,.str x.name,vi x.weight,vi x.level,.bool x.cg,vi x.scale,vi x.hour,vi x.reader]]⟩),(80,⟨gj,3,false,false,some [.agg [vi 0,vi 0,vi 0]]⟩),(145,⟨g9,30,true,false,some (L.map aP.v)⟩)]⟩)
   (fun (i,L,g9)=>i≤l.length∧L.length≤i∧L=((l.take i).filter (aP.holds x)).foldl gb []) (fun (i,_,_)=>l.length - i) (0,[],g) (by(refine⟨?_,?_⟩ <;>repeat' (first| exact True.intro| refine ai ?_| refine And.intro ?_ ?_))) (by simp) ?_
 rintro⟨i,L,g9⟩ ⟨hi,DN,hL⟩
 try dsimp only at hi DN hL
 have sU: (L.map aP.v).length=L.length:=List.length_map ..
 by_cases bY:i<l.length
 · obtain⟨r,hr⟩: ∃r,l[i]? =some r:=⟨_,bp bY⟩
   have Kj:=List.mem_of_getElem? hr
   have NN:=hG r Kj
   have h1:=ei r.w NN.w.1 (hf r Kj).w.2 (by rw[NN.w.2];decide)
   have ni:=E7 x hr
   rw[←hL] at ni
   have hho:r.holds x=(r.w.eval x).b:=rfl
   rw[hho] at ni
   clear ei Sw gm Ik hho NN Kj hG hf hg
   generalize r.w.eval x=w at*
   obtain⟨wt,wn,wb,ws⟩:=w
   dsimp only at h1 ni
   have hrp:=r.pure
   rw[r.bN] at hrp
   cases wb with
   | false=>
     (conv=>whnf);repeat' ((first| refine aq hm (mT _) h1 rfl ?_| intro g| refine bD.mk _ (aA hr (aP.bN r) rfl) ?_| refine st ?_| (first| refine b1 ?_ ?_| refine b2 ?_ ?_| refine Br.mk ?_ ?_) <;>intro hc| exact rfl) <;>conv=>whnf)
     exact bk.mk (i+1,L,g9) (by first| omega| (dsimp only;omega)) ⟨by omega,by omega,ni.symm⟩ (by(refine⟨?_,?_⟩ <;>repeat' (first| exact True.intro| refine ai ?_| refine And.intro ?_ ?_)))
   | true=>
     rw[cond_true] at ni
     cases L with
     | nil=>
       (conv=>whnf);repeat' ((first| refine aq hm (mT _) h1 rfl ?_| refine fg hrp ?_| intro g| refine bD.mk _ (aA hr (aP.bN r) rfl) ?_| refine st ?_| (first| refine b1 ?_ ?_| refine b2 ?_ ?_| refine Br.mk ?_ ?_) <;>intro hc| exact rfl) <;>conv=>whnf)
       exact bk.mk (i+1,[r],g) (by first| omega| (dsimp only;omega)) ⟨by omega,by simp,ni.symm⟩ (by(refine⟨?_,?_⟩ <;>repeat' (first| exact True.intro| refine ai ?_| refine And.intro ?_ ?_)))
     | cons a t=>
       have ha: (a::t)[0]? =some a:=rfl
       have Am:0 < (a::t).length:=by simp
       have GR: ((l.take (i+1)).filter (aP.holds x)).foldl gb []=if r.prio<a.prio then a::t else if r.prio=a.prio then(a::t)++[r] else [r]:=ni
       clear ni
       generalize a::t=L at*
       by_cases c1:r.prio<a.prio
       · rw[if_pos c1] at GR
         (conv=>whnf);repeat' ((first| refine aq hm (mT _) h1 rfl ?_| refine fg hrp ?_| intro g| refine bD.mk _ (aA hr (aP.bN r) rfl) ?_| refine bD.mk _ (aA ha (aP.bN a) rfl) ?_| refine st ?_| (first| refine b1 ?_ ?_| refine b2 ?_ ?_| refine Br.mk ?_ ?_) <;>intro hc| exact rfl) <;>conv=>whnf)
         exact bk.mk (i+1,L,g9) (by first| omega| (dsimp only;omega)) ⟨by omega,by omega,GR.symm⟩ (by(refine⟨?_,?_⟩ <;>repeat' (first| exact True.intro| refine ai ?_| refine And.intro ?_ ?_)))
       rw[if_neg c1] at GR
       by_cases c2:r.prio=a.prio
       · rw[if_pos c2] at GR
         (conv=>whnf);repeat' ((first| refine aq hm (mT _) h1 rfl ?_| refine fg hrp ?_| intro g| refine bD.mk _ (aA hr (aP.bN r) rfl) ?_| refine bD.mk _ (aA ha (aP.bN a) rfl) ?_| refine st ?_| (first| refine b1 ?_ ?_| refine b2 ?_ ?_| refine Br.mk ?_ ?_) <;>intro hc| exact rfl) <;>conv=>whnf)
         exact bk.mk (i+1,L++[r],g) (by first| omega| (dsimp only;omega)) ⟨by omega,by simp;omega,GR.symm⟩ (by simp only[List.map_append,List.map_cons,List.map_nil,List.length_append,List.length_cons,List.length_nil,r.bN]; (refine⟨?_,?_⟩ <;>repeat' (first| exact True.intro| refine ai ?_| refine And.intro ?_ ?_)))
       · rw[if_neg c2] at GR
         (conv=>whnf);repeat' ((first| refine aq hm (mT _) h1 rfl ?_| refine fg hrp ?_| intro g| refine bD.mk _ (aA hr (aP.bN r) rfl) ?_| refine bD.mk _ (aA ha (aP.bN a) rfl) ?_| refine st ?_| (first| refine b1 ?_ ?_| refine b2 ?_ ?_| refine Br.mk ?_ ?_) <;>intro hc| exact rfl) <;>conv=>whnf)
         exact bk.mk (i+1,[r],g) (by first| omega| (dsimp only;omega)) ⟨by omega,by simp,GR.symm⟩ (by(refine⟨?_,?_⟩ <;>repeat' (first| exact True.intro| refine ai ?_| refine And.intro ?_ ?_)))
 · obtain rfl:i=l.length:=by omega
   rw[List.take_length] at hL
   rw[←hL] at gm ⊢
   clear ei Ik
   match L,sU,gm with
   | [],sU,gm=>
     (conv=>whnf);repeat' ((first| intro g| refine st ?_| (first| refine b1 ?_ ?_| refine b2 ?_ ?_| refine Br.mk ?_ ?_) <;>intro hc| exact rfl) <;>conv=>whnf)
   | [r],sU,gm=>
     have Kj:=gm r (by simp)
     have NN:=hG r Kj
     have hrf:=hf r Kj
     have k1:=Sw r.c 255 NN.c.1 hrf.c.2 (by rw[NN.c.2];decide)
     have k2:=Sw r.d 16 NN.d.1 hrf.d.2 (by rw[NN.d.2];decide)
     have k3:=Sw r.s 8 NN.s.1 hrf.s.2 (by rw[NN.s.2];decide)
     have e: (zP x [r]).v= .tuple [.agg [vi (qq x r.c 255),vi (qq x r.d 16),vi (qq x r.s 8)],.str r.name,vi 0]:=rfl
     rw[e]
     (conv=>whnf);repeat' ((first| refine iT (Ex.jN _) ?_| intro g| refine av.mk _ (k1) ?_| refine av.mk _ (k2) ?_| refine av.mk _ (k3) ?_| refine st ?_| (first| refine b1 ?_ ?_| refine b2 ?_ ?_| refine Br.mk ?_ ?_) <;>intro hc| exact rfl) <;>conv=>whnf)
   | r::q::t,sU,gm=>
     have Kj:=hf r (gm r (by simp))
     have hqm:=hf q (gm q (by simp))
     have PJ:=Kj.name
     have hq0:=hqm.name
     have e: (zP x (r::q::t)).v= .tuple [.agg [vi 0,vi 0,vi 0],.str (r.name++47::q.name),vi 31]:=rfl
     have e':r.name++47::q.name=r.name++[47]++q.name:=by simp
     rw[e,e']
     have ha: (r::q::t)[0]? =some r:=rfl
     have hb: (r::q::t)[1]? =some q:=rfl
     have Am:1 < (r::q::t).length:=by simp
     generalize r::q::t=L at*
     (conv=>whnf);repeat' ((first| intro g| refine bD.mk _ (aA ha (aP.bN r) rfl) ?_| refine bD.mk _ (aA hb (aP.bN q) rfl) ?_| refine st ?_| (first| refine b1 ?_ ?_| refine b2 ?_ ?_| refine Br.mk ?_ ?_) <;>intro hc| exact rfl) <;>conv=>whnf)
end Go.AM
