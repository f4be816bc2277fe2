/-
  Texts of the proof, joined by program: FuLib, FuD, FuA, FuB. Own work.
-/
import Derived.Test.YtinmckmdbepjcaaData
import Derived.Test.YtinmckmdbepjcaaPu
set_option linter.unusedSimpArgs false
set_option linter.unusedVariables false
set_option maxRecDepth 20000
namespace Go.AM
structure aG.Fit (m:aG):Prop where
 e:m.an.length< 1000000
 f:m.ah.length< 1000000
 w:m.ways.length< 1000000
 p:m.aw.length< 1000000
 el: ∀e ∈ m.an,e.line.length< 1000000
 wl: ∀w ∈ m.ways,w.line.length< 1000000
def aG.zero:aG:=⟨[],[],[],[]⟩
end Go.AM
set_option maxRecDepth 20000
namespace Go.AM
def findF (fs:List ar) (id:Int):Option Nat:=fs.findIdx? fun f=>decide (f.id=id)
theorem cu {fs:List ar} {id:Int} {i:Nat} (h:findF fs id=some i): ∃f,fs[i]? =some f∧f.id=id∧ ∀j g,j<i→fs[j]? =some g→g.id≠id:=by
 unfold findF at h
 rw[List.findIdx?_eq_some_iff_getElem] at h
 obtain⟨hl,h1,h2⟩:=h
 refine⟨fs[i],List.getElem?_eq_getElem hl,by simpa using h1,fun j g hj hg=> ?_⟩
 have bT:j<fs.length:=by omega
 rw[List.getElem?_eq_getElem bT] at hg
 injection hg with hg
 subst hg
 simpa using h2 j hj
theorem Ax {fs:List ar} {id:Int} (h:findF fs id=none): ∀ (j:Nat) g,fs[j]? =some g→g.id≠id:=by
 unfold findF at h
 rw[List.findIdx?_eq_none_iff] at h
 intro j g hg
 simpa using h g (List.mem_of_getElem? hg)
def Af:Bool→Nat→ar→V
 | true,i,f=> .epk i 5 f.v 0
 | false,_,f=> .eptr f.v 0
def b5 (k:Bool) (fs:List ar):Nat→List V
 | 0=> []
 | n+1=>match fs[n]? with
   | some f=>if findF (fs.take n) f.id=none then b5 k fs n++[.tuple [vi f.id,Af k n f]] else b5 k fs n
   | none=>b5 k fs n
theorem sj (x:V): ∀ (es es':List V),cB x es=some none→cB x (es++es')=cB x es'
 | [],_,_=>rfl
 | e::es,es',h=>by
   unfold cB at h
   split at h
   · simp at*
   · rename_i k' v mC he
     injection he with h1 h2
     subst h1;subst h2
     split at h
     · simp at h
     · rename_i hk
       simp only[List.cons_append,cB,hk]
       exact sj x _ es' h
     · simp at h
   · simp at h
theorem qw (x v:V): ∀ (es es':List V),cB x es=some (some v)→cB x (es++es')=some (some v)
 | [],_,h=>by simp[cB] at h
 | e::es,es',h=>by
   unfold cB at h
   split at h
   · simp at*
   · rename_i k' v' mC he
     injection he with h1 h2
     subst h1;subst h2
     split at h
     · rename_i hk
       simp only[List.cons_append,cB,hk];exact h
     · rename_i hk
       simp only[List.cons_append,cB,hk]
       exact qw x v _ es' h
     · simp at h
   · simp at h
theorem sk (x v:V): ∀ (es:List V),cB x es=some none→jD x v es=some (es++[.tuple [x,v]])
 | [],_=>rfl
 | e::es,h=>by
   unfold cB at h
   split at h
   · simp at*
   · rename_i k' v' mC he
     injection he with h1 h2
     subst h1;subst h2
     split at h
     · simp at h
     · rename_i hk
       simp only[List.cons_append,jD,hk,sk x v _ h,Option.map_some]
     · simp at h
   · simp at h
def kL (k:Bool) (fs:List ar) (n:Nat) (id:Int):Option V:=match findF (fs.take n) id with
 | some i=> (fs[i]?).map (Af k i)
 | none=>none
theorem sU {fs:List ar} {n:Nat} {f:ar} (hf:fs[n]? =some f) (id:Int):findF (fs.take (n+1)) id=(match findF (fs.take n) id with| some i=>some i| none=>if f.id=id then some n else none):=by
 rw[List.take_add_one,hf]
 have hl: (fs.take n).length=n:=by have:=(List.getElem?_eq_some_iff.1 hf).1;simp;omega
 simp only[findF,Option.toList,List.findIdx?_append,hl]
 cases List.findIdx? (fun f=>decide (f.id=id)) (fs.take n) with
 | some i=>rfl
 | none=>
   by_cases h:f.id=id<;>simp[List.findIdx?_cons,h]
theorem nX (k:Bool) (fs:List ar) (id:Int): ∀n,cB (vi id) (b5 k fs n)=some (kL k fs n id)
 | 0=>by simp[b5,cB,kL,findF]
 | n+1=>    by
   have ih:=nX k fs id n
   unfold b5
   cases hf:fs[n]? with
   | none=>
     have:fs.take (n+1)=fs.take n:=by rw[List.take_add_one,hf];simp
     simp only[ih,kL,this]
   | some f=>
     have hs:=sU hf id
     by_cases hn:findF (fs.take n) f.id=none
     · simp only[hn,if_true]
       cases hl:findF (fs.take n) id with
       | none=>
         have hi:cB (vi id) (b5 k fs n)=some none:=by rw[ih];simp[kL,hl]
         rw[sj _ _ _ hi]
         rw[hl] at hs
         by_cases he:f.id=id
         · subst he
           simp only[if_true] at hs
           simp only[kL,hs,hf,Option.map_some]
           simp[cB,vT,vi]
         · simp only[if_neg he] at hs
           have vd: ¬id=f.id:=fun h=>he h.symm
           have hb: (id==f.id)=false:=by simpa using vd
           simp[kL,hs,cB,vT,vi,hb]
       | some i=>
         rw[hl] at hs
         obtain⟨g,hg,_⟩:=cu hl
         have GD:i<n:=by have:=(List.getElem?_eq_some_iff.1 hg).1;simp at this;omega
         have MF:fs[i]? =some g:=by rw[List.getElem?_take] at hg;simpa [GD] using hg
         have hi:cB (vi id) (b5 k fs n)=some (some (Af k i g)):=by rw[ih];simp[kL,hl,MF]
         rw[qw _ _ _ _ hi]
         simp[kL,hs,MF]
     · simp only[hn,if_false]
       cases hl:findF (fs.take n) id with
       | none=>
         rw[hl] at hs
         by_cases he:f.id=id
         · subst he;exact absurd hl hn
         · simp only[if_neg he] at hs
           rw[ih];simp[kL,hl,hs]
       | some i=>
         rw[hl] at hs
         rw[ih];simp[kL,hl,hs]
theorem yw (k:Bool) {fs:List ar} {n:Nat} {f:ar} (hf:fs[n]? =some f) (h:findF (fs.take n) f.id=none):jD (vi f.id) (Af k n f) (b5 k fs n)=some (b5 k fs (n+1)):=by
 have h1:cB (vi f.id) (b5 k fs n)=some none:=by rw[nX];simp[kL,h]
 rw[sk _ _ _ h1]
 simp[b5,hf,h]
theorem vX (k:Bool) {fs:List ar} {n:Nat} {f:ar} (hf:fs[n]? =some f) (h:findF (fs.take n) f.id≠none):b5 k fs (n+1)=b5 k fs n:=by
 simp[b5,hf,h]
theorem rH {k:Bool} {fs:List ar} {n:Nat} {id:Int} (z:V) (h:findF (fs.take n) id=none):eE false z (b5 k fs n) (vi id)= .done z:=by
 simp[eE,nX,kL,h]
theorem rI {k:Bool} {fs:List ar} {n:Nat} {id:Int} (z:V) {i:Nat} {f:ar} (h:findF (fs.take n) id=some i) (hf:fs[i]? =some f):eE false z (b5 k fs n) (vi id)= .done (Af k i f):=by
 simp[eE,nX,kL,h,hf]
theorem C1 (k:Bool) (i:Nat) (f:ar): (Af k i f).aE=true:=by cases k<;>rfl
theorem jo (k:Bool) (fs:List ar): ∀n,V.aq (b5 k fs n)=true
 | 0=>rfl
 | n+1=>by
   unfold b5
   split
   · split
     · exact fe (jo k fs n) (by simp[V.aq,V.aE,C1,vi])
     · exact jo k fs n
   · exact jo k fs n
theorem m7 (k:Bool) (fs:List ar): ∀n,(b5 k fs n).all V.isTuple=true
 | 0=>rfl
 | n+1=>by
   unfold b5
   split
   · split
     · simp[m7 k fs n,V.isTuple]
     · exact m7 k fs n
   · exact m7 k fs n
theorem tq (k:Bool) (fs:List ar) (n:Nat):V.aE (.mlit (b5 k fs n))=true:=by
 simp only[V.aE,jo]
def w8:Bool→List V→V
 | true,l=> .litk 5 l
 | false,l=> .lit 5 l
def aG.kv (k:Bool) (m:aG):V:= .agg [.lit 4 (m.an.map Edge.v),w8 k (m.ah.map ar.v),.lit 8 (m.ways.map Way.v),.lit 7 (m.aw.map Place.v)]
def b9 (a b:Int) (e:Edge):Bool:=decide (e.left=a∧e.right=b∨e.left=b∧e.right=a)
def IG (es:List Edge) (a b:Int) (f g:ar):Int:=
 if a=b then 1 else if f.bg≠g.bg∨f.bg< 1 then 25 else if es.any (b9 a b)=false then 13 else if f.name≠[]∧g.name≠[]∧f.name≠g.name then 24 else 0
def jX (m:aG) (a b:Int):Int:=match findF m.ah a,findF m.ah b with
 | some i,some j=> (match m.ah[i]?,m.ah[j]? with
   | some f,some g=>IG m.an a b f g
   | _,_=>5)
 | _,_=>5
end Go.AM
set_option maxRecDepth 20000
namespace Go.AM
set_option maxHeartbeats 2000000 in
theorem yt (k:Bool) {m:aG} (h:m.ah.length< 1000000):Ev E 500 [m.kv k] ⟨.mlit (b5 k m.ah m.ah.length),[]⟩:=by
 cases k
 · skip
   refine Ev.bU Iy (Iz _) rfl ?_
   (conv=>whnf);repeat' ((first| intro g| refine st ?_| (first| refine b1 ?_ ?_| refine b2 ?_ ?_| refine Br.mk ?_ ?_) <;>intro hc| exact rfl) <;>conv=>whnf)
   rename_i g1
   refine ba.by (fun (n:Nat)=> ⟨[(1,.ptr 32 g1 0 0),(3,.mp 112 g),(8,w8 false (m.ah.map ar.v)),(9,aF (m.ah.map ar.v).length),(10,aF n)],
       [(32,⟨g1,4,false,false,some [m.kv false]⟩),(112,⟨g,0,false,false,some (b5 false m.ah n)⟩)]⟩) (fun n=>n≤m.ah.length) (fun n=>m.ah.length - n) 0 (by(refine⟨?_,?_⟩ <;>repeat' (first| exact True.intro| refine ai ?_| refine And.intro ?_ ?_))) (by simp) ?_
   intro n hn
   by_cases bk:n<m.ah.length
   · obtain⟨f,hf⟩: ∃f,m.ah[n]? =some f:=⟨_,aL bk⟩
     cases hq:findF (m.ah.take n) f.id with
     | none=>
       have gZ:=yw false hf hq
       (conv=>whnf);repeat' ((first| intro g| refine aH.mk _ (aC hf rfl) ?_| refine aH.mk _ (rH _ hq) ?_| refine aH.mk _ (gZ) ?_| refine st ?_| (first| refine b1 ?_ ?_| refine b2 ?_ ?_| refine Br.mk ?_ ?_) <;>intro hc| exact rfl) <;>conv=>whnf)
       exact bc.mk (n+1) (by first| omega| (dsimp only;omega)) (by omega) (by(refine⟨?_,?_⟩ <;>repeat' (first| exact True.intro| refine ai ?_| refine And.intro ?_ ?_)))
     | some i=>
       obtain⟨f',D8,_⟩:=cu hq
       have Ay:m.ah[i]? =some f':=by
        have GD:i<n:=by have:=(List.getElem?_eq_some_iff.1 D8).1;simp at this;omega
        rw[List.getElem?_take] at D8;simpa [GD] using D8
       have hs:=vX false hf (by rw[hq];simp)
       (conv=>whnf);repeat' ((first| intro g| refine aH.mk _ (aC hf rfl) ?_| refine aH.mk _ (rI _ hq Ay) ?_| refine st ?_| (first| refine b1 ?_ ?_| refine b2 ?_ ?_| refine Br.mk ?_ ?_) <;>intro hc| exact rfl) <;>conv=>whnf)
       exact bc.mk (n+1) (by first| omega| (dsimp only;omega)) (by omega) (by(refine⟨?_,?_⟩ <;>repeat' (first| exact True.intro| refine And.intro ((by(conv=>whnf);rw[hs])) ?_| refine ai ?_| refine And.intro ?_ ?_)))
   obtain rfl:n=m.ah.length:=by omega
   have hp:=jo false m.ah m.ah.length
   have ht:=m7 false m.ah m.ah.length
   have GB:=tq false m.ah m.ah.length
   (conv=>whnf);repeat' ((first| intro g| refine st ?_| (first| refine b1 ?_ ?_| refine b2 ?_ ?_| refine Br.mk ?_ ?_) <;>intro hc| exact rfl) <;>conv=>whnf)
   rw[GB]
   (conv=>whnf);repeat' ((first| intro g| refine st ?_| (first| refine b1 ?_ ?_| refine b2 ?_ ?_| refine Br.mk ?_ ?_) <;>intro hc| exact rfl) <;>conv=>whnf)
 · skip
   refine Ev.bU Iy (Iz _) rfl ?_
   (conv=>whnf);repeat' ((first| intro g| refine st ?_| (first| refine b1 ?_ ?_| refine b2 ?_ ?_| refine Br.mk ?_ ?_) <;>intro hc| exact rfl) <;>conv=>whnf)
   rename_i g1
   refine ba.by (fun (n:Nat)=> ⟨[(1,.ptr 32 g1 0 0),(3,.mp 112 g),(8,w8 true (m.ah.map ar.v)),(9,aF (m.ah.map ar.v).length),(10,aF n)],
       [(32,⟨g1,4,false,false,some [m.kv true]⟩),(112,⟨g,0,false,false,some (b5 true m.ah n)⟩)]⟩) (fun n=>n≤m.ah.length) (fun n=>m.ah.length - n) 0 (by(refine⟨?_,?_⟩ <;>repeat' (first| exact True.intro| refine ai ?_| refine And.intro ?_ ?_))) (by simp) ?_
   intro n hn
   by_cases bk:n<m.ah.length
   · obtain⟨f,hf⟩: ∃f,m.ah[n]? =some f:=⟨_,aL bk⟩
     cases hq:findF (m.ah.take n) f.id with
     | none=>
       have gZ:=yw true hf hq
       (conv=>whnf);repeat' ((first| intro g| refine aH.mk _ (aC hf rfl) ?_| refine aH.mk _ (rH _ hq) ?_| refine aH.mk _ (gZ) ?_| refine st ?_| (first| refine b1 ?_ ?_| refine b2 ?_ ?_| refine Br.mk ?_ ?_) <;>intro hc| exact rfl) <;>conv=>whnf)
       exact bc.mk (n+1) (by first| omega| (dsimp only;omega)) (by omega) (by(refine⟨?_,?_⟩ <;>repeat' (first| exact True.intro| refine ai ?_| refine And.intro ?_ ?_)))
     | some i=>
       obtain⟨f',D8,_⟩:=cu hq
       have Ay:m.ah[i]? =some f':=by
        have GD:i<n:=by have:=(List.getElem?_eq_some_iff.1 D8).1;simp at this;omega
        rw[List.getElem?_take] at D8;simpa [GD] using D8
       have hs:=vX true hf (by rw[hq];simp)
       (conv=>whnf);repeat' ((first| intro g| refine aH.mk _ (aC hf rfl) ?_| refine aH.mk _ (rI _ hq Ay) ?_| refine st ?_| (first| refine b1 ?_ ?_| refine b2 ?_ ?_| refine Br.mk ?_ ?_) <;>intro hc| exact rfl) <;>conv=>whnf)
       exact bc.mk (n+1) (by first| omega| (dsimp only;omega)) (by omega) (by(refine⟨?_,?_⟩ <;>repeat' (first| exact True.intro| refine And.intro ((by(conv=>whnf);rw[hs])) ?_| refine ai ?_| refine And.intro ?_ ?_)))
   obtain rfl:n=m.ah.length:=by omega
   have hp:=jo true m.ah m.ah.length
   have ht:=m7 true m.ah m.ah.length
   have GB:=tq true m.ah m.ah.length
   (conv=>whnf);repeat' ((first| intro g| refine st ?_| (first| refine b1 ?_ ?_| refine b2 ?_ ?_| refine Br.mk ?_ ?_) <;>intro hc| exact rfl) <;>conv=>whnf)
   rw[GB]
   (conv=>whnf);repeat' ((first| intro g| refine st ?_| (first| refine b1 ?_ ?_| refine b2 ?_ ?_| refine Br.mk ?_ ?_) <;>intro hc| exact rfl) <;>conv=>whnf)
def ar.zero:ar:=⟨0,[],[],0,0⟩
end Go.AM
set_option maxRecDepth 20000
