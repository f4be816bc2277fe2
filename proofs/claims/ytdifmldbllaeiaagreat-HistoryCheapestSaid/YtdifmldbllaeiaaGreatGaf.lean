/- Texts of the proof. -/
import Derived.Test.YtdifmldbllaeiaaGreatGae
set_option maxRecDepth 20000
set_option maxHeartbeats 4000000
set_option linter.unusedSimpArgs false
set_option linter.unusedVariables false
namespace Go.AM
theorem OP (l:List Int): (Hv l).length=0↔l=[]:=by
 constructor
 ·intro h
  cases l with
  | nil=>rfl
  | cons a l=>
    have:0 < (ed (a::l)).length:=by rw[dx];simp
    have:=Bf (ed (a::l)) _ this
    unfold Hv jj at h
    omega
 ·rintro rfl;rfl
theorem tX (es:List Edge) (a b:Int): (bY es a b).length=0↔es.any (cS a b)=false:=by
 unfold bY
 rw[OP]
 simp[pA,List.any_eq_false]
theorem rD {es:List Edge} {a b:Int} (h:es.any (cS a b)=false): ((bY es a b).map vi).length=0:=by
 rw[List.length_map];exact(tX es a b).2 h
theorem ez {es:List Edge} {a b:Int} (h:es.any (cS a b)=true): ¬ ((bY es a b).map vi).length=0:=by
 rw[List.length_map];intro h0;rw[(tX es a b).1 h0] at h;simp at h
def oo (m:aG):Prop:=m.az.length< 1000000∧m.al.length< 1000000
inductive gL (m:aG) (a b:Int):Int→Prop
 | OQ (h:findF m.al a=none) (h2:findF m.al b=none):gL m a b 5
 | OR {j g} (h:findF m.al a=none) (h2:findF m.al b=some j) (h3:m.al[j]? =some g):gL m a b 5
 | OS {i f} (h:findF m.al a=some i) (h1:m.al[i]? =some f) (h2:findF m.al b=none):gL m a b 5
 | arg {i f} (h:findF m.al a=some i) (h1:m.al[i]? =some f) (h2:a=b):gL m a b 1
 | bB {i f j g} (h:findF m.al a=some i) (h1:m.al[i]? =some f) (h2:findF m.al b=some j) (h3:m.al[j]? =some g) (h4:a≠b) (h5:f.bB≠g.bB):gL m a b 25
 | OT {i f j g} (h:findF m.al a=some i) (h1:m.al[i]? =some f) (h2:findF m.al b=some j) (h3:m.al[j]? =some g) (h4:a≠b) (h5:f.bB=g.bB) (h6:f.bB< 1):gL m a b 25
 | VD {i f j g} (h:findF m.al a=some i) (h1:m.al[i]? =some f) (h2:findF m.al b=some j) (h3:m.al[j]? =some g) (h4:a≠b) (h5:f.bB=g.bB) (h6: ¬f.bB< 1) (h7:m.az.any (cS a b)=false):gL m a b 13
 | VE {i f j g} (h:findF m.al a=some i) (h1:m.al[i]? =some f) (h2:findF m.al b=some j) (h3:m.al[j]? =some g) (h4:a≠b) (h5:f.bB=g.bB) (h6: ¬f.bB< 1) (h7:m.az.any (cS a b)=true) (h8:f.name≠[]) (h9:g.name≠[]) (D0:f.name≠g.name):gL m a b 24
 | ok1 {i f j g} (h:findF m.al a=some i) (h1:m.al[i]? =some f) (h2:findF m.al b=some j) (h3:m.al[j]? =some g) (h4:a≠b) (h5:f.bB=g.bB) (h6: ¬f.bB< 1) (h7:m.az.any (cS a b)=true) (h8:f.name=[]):gL m a b 0
 | ok2 {i f j g} (h:findF m.al a=some i) (h1:m.al[i]? =some f) (h2:findF m.al b=some j) (h3:m.al[j]? =some g) (h4:a≠b) (h5:f.bB=g.bB) (h6: ¬f.bB< 1) (h7:m.az.any (cS a b)=true) (h8:f.name≠[]) (h9:g.name=[]):gL m a b 0
 | ok3 {i f j g} (h:findF m.al a=some i) (h1:m.al[i]? =some f) (h2:findF m.al b=some j) (h3:m.al[j]? =some g) (h4:a≠b) (h5:f.bB=g.bB) (h6: ¬f.bB< 1) (h7:m.az.any (cS a b)=true) (h8:f.name≠[]) (h9:g.name≠[]) (D0:f.name=g.name):gL m a b 0
theorem Sj (m:aG) (a b:Int):gL m a b (xi m a b):=by
 unfold xi
 cases h:findF m.al a with
 | none=>
   cases h2:findF m.al b with
   | none=>exact .OQ h h2
   | some j=>obtain⟨g,hg,_⟩:=dW h2;exact .OR h h2 hg
 | some i=>
   obtain⟨f,hf,KD,_⟩:=dW h
   cases h2:findF m.al b with
   | none=>exact .OS h hf h2
   | some j=>
     obtain⟨g,hg,_⟩:=dW h2
     simp only[hf,hg,T1]
     by_cases h4:a=b
     ·rw[if_pos h4];exact .arg h hf h4
     rw[if_neg h4]
     by_cases h5:f.bB=g.bB
     ·by_cases h6:f.bB< 1
      ·rw[if_pos (.inr h6)];exact .OT h hf h2 hg h4 h5 h6
      rw[if_neg (by rintro(h| h);exact h h5;exact h6 h)]
      cases h7:m.az.any (cS a b) with
      | false=>rw[if_pos rfl];exact .VD h hf h2 hg h4 h5 h6 h7
      | true=>
        rw[if_neg afU]
        by_cases h8:f.name=[]
        ·rw[if_neg (fun h=>h.1 h8)];exact .ok1 h hf h2 hg h4 h5 h6 h7 h8
        by_cases h9:g.name=[]
        ·rw[if_neg (fun h=>h.2.1 h9)];exact .ok2 h hf h2 hg h4 h5 h6 h7 h8 h9
        by_cases D0:f.name=g.name
        ·rw[if_neg (fun h=>h.2.2 D0)];exact .ok3 h hf h2 hg h4 h5 h6 h7 h8 h9 D0
        ·rw[if_pos ⟨h8,h9,D0⟩];exact .VE h hf h2 hg h4 h5 h6 h7 h8 h9 D0
     ·rw[if_pos (.inl h5)];exact .bB h hf h2 hg h4 h5
theorem y8 {m:aG} {a b c:Int} (h:xi m a b=c):gL m a b c:=h ▸ Sj m a b
theorem kJ {k:Bool} {fs:List aX} {id:Int} (h:findF fs id=none):cQ false .nilp (bI k fs fs.length) (vi id)= .done .nilp:=
 vp _ (by rw[ag9];exact h)
theorem bL {k:Bool} {fs:List aX} {id:Int} {i:Nat} {f:aX} (h:findF fs id=some i) (hf:fs[i]? =some f):cQ false .nilp (bI k fs fs.length) (vi id)= .done (CM k i f):=
 vq _ (by rw[ag9];exact h) hf
theorem Ff {m:aG} {a b:Int} (hb:Ev E 495 [.lit 4 (m.az.map Edge.v),vi a,vi b] ⟨.own 1 ((bY m.az a b).map vi),[]⟩) (h:findF m.al a=none) (h2:findF m.al b=none):Ev E 501 [m.kv false,.mlit (bI false m.al m.al.length),vi a,vi b] ⟨vi 5,[]⟩:=by
 refine Ev.aI rfl rfl rfl ?_
 conv=>whnf
 repeat' (first| intro g| refine wi (kJ h) ?_| refine wi (kJ h2) ?_| refine st ?_| refine br ?_ ?_<;>intro hc| rfl) <;>conv=>whnf
theorem Fg {m:aG} {a b:Int} (hb:Ev E 495 [.lit 4 (m.az.map Edge.v),vi a,vi b] ⟨.own 1 ((bY m.az a b).map vi),[]⟩) {j:Nat} {g:aX} (h:findF m.al a=none) (h2:findF m.al b=some j) (h3:m.al[j]? =some g):Ev E 501 [m.kv false,.mlit (bI false m.al m.al.length),vi a,vi b] ⟨vi 5,[]⟩:=by
 refine Ev.aI rfl rfl rfl ?_
 conv=>whnf
 repeat' (first| intro g| refine wi (kJ h) ?_| refine wi (bL h2 h3) ?_| refine st ?_| refine br ?_ ?_<;>intro hc| rfl) <;>conv=>whnf
theorem Fh {m:aG} {a b:Int} (hb:Ev E 495 [.lit 4 (m.az.map Edge.v),vi a,vi b] ⟨.own 1 ((bY m.az a b).map vi),[]⟩) {i:Nat} {f:aX} (h:findF m.al a=some i) (h1:m.al[i]? =some f) (h2:findF m.al b=none):Ev E 501 [m.kv false,.mlit (bI false m.al m.al.length),vi a,vi b] ⟨vi 5,[]⟩:=by
 refine Ev.aI rfl rfl rfl ?_
 conv=>whnf
 repeat' (first| intro g| refine wi (bL h h1) ?_| refine wi (kJ h2) ?_| refine st ?_| refine br ?_ ?_<;>intro hc| rfl) <;>conv=>whnf
theorem La {m:aG} {a b:Int} (hb:Ev E 495 [.lit 4 (m.az.map Edge.v),vi a,vi b] ⟨.own 1 ((bY m.az a b).map vi),[]⟩) {i:Nat} {f:aX} (h:findF m.al a=some i) (h1:m.al[i]? =some f) (h2:a=b):Ev E 501 [m.kv false,.mlit (bI false m.al m.al.length),vi a,vi b] ⟨vi 1,[]⟩:=by
 subst h2
 refine Ev.aI rfl rfl rfl ?_
 conv=>whnf
 repeat' (first| intro g| refine wi (bL h h1) ?_| refine st ?_| refine br ?_ ?_<;>intro hc| rfl) <;>conv=>whnf
theorem HO {m:aG} {a b:Int} (hb:Ev E 495 [.lit 4 (m.az.map Edge.v),vi a,vi b] ⟨.own 1 ((bY m.az a b).map vi),[]⟩) {i j:Nat} {f g:aX} (h:findF m.al a=some i) (h1:m.al[i]? =some f) (h2:findF m.al b=some j) (h3:m.al[j]? =some g) (h4:a≠b) (h5:f.bB≠g.bB):Ev E 501 [m.kv false,.mlit (bI false m.al m.al.length),vi a,vi b] ⟨vi 25,[]⟩:=by
 refine Ev.aI rfl rfl rfl ?_
 conv=>whnf
 repeat' (first| intro g| refine wi (bL h h1) ?_| refine wi (bL h2 h3) ?_| refine st ?_| refine br ?_ ?_<;>intro hc| rfl) <;>conv=>whnf
theorem Fi {m:aG} {a b:Int} (hb:Ev E 495 [.lit 4 (m.az.map Edge.v),vi a,vi b] ⟨.own 1 ((bY m.az a b).map vi),[]⟩) {i j:Nat} {f g:aX} (h:findF m.al a=some i) (h1:m.al[i]? =some f) (h2:findF m.al b=some j) (h3:m.al[j]? =some g) (h4:a≠b) (h5:f.bB=g.bB) (h6:f.bB< 1):Ev E 501 [m.kv false,.mlit (bI false m.al m.al.length),vi a,vi b] ⟨vi 25,[]⟩:=by
 refine Ev.aI rfl rfl rfl ?_
 conv=>whnf
 repeat' (first| intro g| refine wi (bL h h1) ?_| refine wi (bL h2 h3) ?_| refine st ?_| refine br ?_ ?_<;>intro hc| rfl) <;>conv=>whnf
theorem HP {m:aG} {a b:Int} (hb:Ev E 495 [.lit 4 (m.az.map Edge.v),vi a,vi b] ⟨.own 1 ((bY m.az a b).map vi),[]⟩) {i j:Nat} {f g:aX} (h:findF m.al a=some i) (h1:m.al[i]? =some f) (h2:findF m.al b=some j) (h3:m.al[j]? =some g) (h4:a≠b) (h5:f.bB=g.bB) (h6: ¬f.bB< 1) (h7:m.az.any (cS a b)=false):Ev E 501 [m.kv false,.mlit (bI false m.al m.al.length),vi a,vi b] ⟨vi 13,[]⟩:=by
 have hz:=rD h7
 clear h7
 refine Ev.aI rfl rfl rfl ?_
 conv=>whnf
 repeat' (first| intro g| refine wi (bL h h1) ?_| refine wi (bL h2 h3) ?_| apply ca hb| refine st ?_| refine br ?_ ?_<;>intro hc| rfl) <;>conv=>whnf
theorem HQ {m:aG} {a b:Int} (hb:Ev E 495 [.lit 4 (m.az.map Edge.v),vi a,vi b] ⟨.own 1 ((bY m.az a b).map vi),[]⟩) {i j:Nat} {f g:aX} (h:findF m.al a=some i) (h1:m.al[i]? =some f) (h2:findF m.al b=some j) (h3:m.al[j]? =some g) (h4:a≠b) (h5:f.bB=g.bB) (h6: ¬f.bB< 1) (h7:m.az.any (cS a b)=true) (h8:f.name≠[]) (h9:g.name≠[]) (D0:f.name≠g.name):Ev E 501 [m.kv false,.mlit (bI false m.al m.al.length),vi a,vi b] ⟨vi 24,[]⟩:=by
 have hz:=ez h7
 clear h7
 refine Ev.aI rfl rfl rfl ?_
 conv=>whnf
 repeat' (first| intro g| refine wi (bL h h1) ?_| refine wi (bL h2 h3) ?_| apply ca hb| refine st ?_| refine br ?_ ?_<;>intro hc| rfl) <;>conv=>whnf
theorem Lb {m:aG} {a b:Int} (hb:Ev E 495 [.lit 4 (m.az.map Edge.v),vi a,vi b] ⟨.own 1 ((bY m.az a b).map vi),[]⟩) {i j:Nat} {f g:aX} (h:findF m.al a=some i) (h1:m.al[i]? =some f) (h2:findF m.al b=some j) (h3:m.al[j]? =some g) (h4:a≠b) (h5:f.bB=g.bB) (h6: ¬f.bB< 1) (h7:m.az.any (cS a b)=true) (h8:f.name=[]):Ev E 501 [m.kv false,.mlit (bI false m.al m.al.length),vi a,vi b] ⟨vi 0,[]⟩:=by
 have hz:=ez h7
 clear h7
 refine Ev.aI rfl rfl rfl ?_
 conv=>whnf
 repeat' (first| intro g| refine wi (bL h h1) ?_| refine wi (bL h2 h3) ?_| apply ca hb| refine st ?_| refine br ?_ ?_<;>intro hc| rfl) <;>conv=>whnf
theorem Lc {m:aG} {a b:Int} (hb:Ev E 495 [.lit 4 (m.az.map Edge.v),vi a,vi b] ⟨.own 1 ((bY m.az a b).map vi),[]⟩) {i j:Nat} {f g:aX} (h:findF m.al a=some i) (h1:m.al[i]? =some f) (h2:findF m.al b=some j) (h3:m.al[j]? =some g) (h4:a≠b) (h5:f.bB=g.bB) (h6: ¬f.bB< 1) (h7:m.az.any (cS a b)=true) (h8:f.name≠[]) (h9:g.name=[]):Ev E 501 [m.kv false,.mlit (bI false m.al m.al.length),vi a,vi b] ⟨vi 0,[]⟩:=by
 have hz:=ez h7
 clear h7
 refine Ev.aI rfl rfl rfl ?_
 conv=>whnf
 repeat' (first| intro g| refine wi (bL h h1) ?_| refine wi (bL h2 h3) ?_| apply ca hb| refine st ?_| refine br ?_ ?_<;>intro hc| rfl) <;>conv=>whnf
theorem Ld {m:aG} {a b:Int} (hb:Ev E 495 [.lit 4 (m.az.map Edge.v),vi a,vi b] ⟨.own 1 ((bY m.az a b).map vi),[]⟩) {i j:Nat} {f g:aX} (h:findF m.al a=some i) (h1:m.al[i]? =some f) (h2:findF m.al b=some j) (h3:m.al[j]? =some g) (h4:a≠b) (h5:f.bB=g.bB) (h6: ¬f.bB< 1) (h7:m.az.any (cS a b)=true) (h8:f.name≠[]) (h9:g.name≠[]) (D0:f.name=g.name):Ev E 501 [m.kv false,.mlit (bI false m.al m.al.length),vi a,vi b] ⟨vi 0,[]⟩:=by
 have hz:=ez h7
 clear h7
 refine Ev.aI rfl rfl rfl ?_
 conv=>whnf
 repeat' (first| intro g| refine wi (bL h h1) ?_| refine wi (bL h2 h3) ?_| apply ca hb| refine st ?_| refine br ?_ ?_<;>intro hc| rfl) <;>conv=>whnf
theorem Fj {m:aG} {a b:Int} (hb:Ev E 495 [.lit 4 (m.az.map Edge.v),vi a,vi b] ⟨.own 1 ((bY m.az a b).map vi),[]⟩) (h:findF m.al a=none) (h2:findF m.al b=none):Ev E 501 [m.kv true,.mlit (bI true m.al m.al.length),vi a,vi b] ⟨vi 5,[]⟩:=by
 refine Ev.aI rfl rfl rfl ?_
 conv=>whnf
 repeat' (first| intro g| refine wi (kJ h) ?_| refine wi (kJ h2) ?_| refine st ?_| refine br ?_ ?_<;>intro hc| rfl) <;>conv=>whnf
theorem Fk {m:aG} {a b:Int} (hb:Ev E 495 [.lit 4 (m.az.map Edge.v),vi a,vi b] ⟨.own 1 ((bY m.az a b).map vi),[]⟩) {j:Nat} {g:aX} (h:findF m.al a=none) (h2:findF m.al b=some j) (h3:m.al[j]? =some g):Ev E 501 [m.kv true,.mlit (bI true m.al m.al.length),vi a,vi b] ⟨vi 5,[]⟩:=by
 refine Ev.aI rfl rfl rfl ?_
 conv=>whnf
 repeat' (first| intro g| refine wi (kJ h) ?_| refine wi (bL h2 h3) ?_| refine st ?_| refine br ?_ ?_<;>intro hc| rfl) <;>conv=>whnf
theorem Fm {m:aG} {a b:Int} (hb:Ev E 495 [.lit 4 (m.az.map Edge.v),vi a,vi b] ⟨.own 1 ((bY m.az a b).map vi),[]⟩) {i:Nat} {f:aX} (h:findF m.al a=some i) (h1:m.al[i]? =some f) (h2:findF m.al b=none):Ev E 501 [m.kv true,.mlit (bI true m.al m.al.length),vi a,vi b] ⟨vi 5,[]⟩:=by
 refine Ev.aI rfl rfl rfl ?_
 conv=>whnf
 repeat' (first| intro g| refine wi (bL h h1) ?_| refine wi (kJ h2) ?_| refine st ?_| refine br ?_ ?_<;>intro hc| rfl) <;>conv=>whnf
theorem Lf {m:aG} {a b:Int} (hb:Ev E 495 [.lit 4 (m.az.map Edge.v),vi a,vi b] ⟨.own 1 ((bY m.az a b).map vi),[]⟩) {i:Nat} {f:aX} (h:findF m.al a=some i) (h1:m.al[i]? =some f) (h2:a=b):Ev E 501 [m.kv true,.mlit (bI true m.al m.al.length),vi a,vi b] ⟨vi 1,[]⟩:=by
 subst h2
 refine Ev.aI rfl rfl rfl ?_
 conv=>whnf
 repeat' (first| intro g| refine wi (bL h h1) ?_| refine st ?_| refine br ?_ ?_<;>intro hc| rfl) <;>conv=>whnf
theorem HR {m:aG} {a b:Int} (hb:Ev E 495 [.lit 4 (m.az.map Edge.v),vi a,vi b] ⟨.own 1 ((bY m.az a b).map vi),[]⟩) {i j:Nat} {f g:aX} (h:findF m.al a=some i) (h1:m.al[i]? =some f) (h2:findF m.al b=some j) (h3:m.al[j]? =some g) (h4:a≠b) (h5:f.bB≠g.bB):Ev E 501 [m.kv true,.mlit (bI true m.al m.al.length),vi a,vi b] ⟨vi 25,[]⟩:=by
 refine Ev.aI rfl rfl rfl ?_
 conv=>whnf
 repeat' (first| intro g| refine wi (bL h h1) ?_| refine wi (bL h2 h3) ?_| refine st ?_| refine br ?_ ?_<;>intro hc| rfl) <;>conv=>whnf
theorem Fo {m:aG} {a b:Int} (hb:Ev E 495 [.lit 4 (m.az.map Edge.v),vi a,vi b] ⟨.own 1 ((bY m.az a b).map vi),[]⟩) {i j:Nat} {f g:aX} (h:findF m.al a=some i) (h1:m.al[i]? =some f) (h2:findF m.al b=some j) (h3:m.al[j]? =some g) (h4:a≠b) (h5:f.bB=g.bB) (h6:f.bB< 1):Ev E 501 [m.kv true,.mlit (bI true m.al m.al.length),vi a,vi b] ⟨vi 25,[]⟩:=by
 refine Ev.aI rfl rfl rfl ?_
 conv=>whnf
 repeat' (first| intro g| refine wi (bL h h1) ?_| refine wi (bL h2 h3) ?_| refine st ?_| refine br ?_ ?_<;>intro hc| rfl) <;>conv=>whnf
theorem HS {m:aG} {a b:Int} (hb:Ev E 495 [.lit 4 (m.az.map Edge.v),vi a,vi b] ⟨.own 1 ((bY m.az a b).map vi),[]⟩) {i j:Nat} {f g:aX} (h:findF m.al a=some i) (h1:m.al[i]? =some f) (h2:findF m.al b=some j) (h3:m.al[j]? =some g) (h4:a≠b) (h5:f.bB=g.bB) (h6: ¬f.bB< 1) (h7:m.az.any (cS a b)=false):Ev E 501 [m.kv true,.mlit (bI true m.al m.al.length),vi a,vi b] ⟨vi 13,[]⟩:=by
 have hz:=rD h7
 clear h7
 refine Ev.aI rfl rfl rfl ?_
 conv=>whnf
 repeat' (first| intro g| refine wi (bL h h1) ?_| refine wi (bL h2 h3) ?_| apply ca hb| refine st ?_| refine br ?_ ?_<;>intro hc| rfl) <;>conv=>whnf
theorem HT {m:aG} {a b:Int} (hb:Ev E 495 [.lit 4 (m.az.map Edge.v),vi a,vi b] ⟨.own 1 ((bY m.az a b).map vi),[]⟩) {i j:Nat} {f g:aX} (h:findF m.al a=some i) (h1:m.al[i]? =some f) (h2:findF m.al b=some j) (h3:m.al[j]? =some g) (h4:a≠b) (h5:f.bB=g.bB) (h6: ¬f.bB< 1) (h7:m.az.any (cS a b)=true) (h8:f.name≠[]) (h9:g.name≠[]) (D0:f.name≠g.name):Ev E 501 [m.kv true,.mlit (bI true m.al m.al.length),vi a,vi b] ⟨vi 24,[]⟩:=by
 have hz:=ez h7
 clear h7
 refine Ev.aI rfl rfl rfl ?_
 conv=>whnf
 repeat' (first| intro g| refine wi (bL h h1) ?_| refine wi (bL h2 h3) ?_| apply ca hb| refine st ?_| refine br ?_ ?_<;>intro hc| rfl) <;>conv=>whnf
theorem Lg {m:aG} {a b:Int} (hb:Ev E 495 [.lit 4 (m.az.map Edge.v),vi a,vi b] ⟨.own 1 ((bY m.az a b).map vi),[]⟩) {i j:Nat} {f g:aX} (h:findF m.al a=some i) (h1:m.al[i]? =some f) (h2:findF m.al b=some j) (h3:m.al[j]? =some g) (h4:a≠b) (h5:f.bB=g.bB) (h6: ¬f.bB< 1) (h7:m.az.any (cS a b)=true) (h8:f.name=[]):Ev E 501 [m.kv true,.mlit (bI true m.al m.al.length),vi a,vi b] ⟨vi 0,[]⟩:=by
 have hz:=ez h7
 clear h7
 refine Ev.aI rfl rfl rfl ?_
 conv=>whnf
 repeat' (first| intro g| refine wi (bL h h1) ?_| refine wi (bL h2 h3) ?_| apply ca hb| refine st ?_| refine br ?_ ?_<;>intro hc| rfl) <;>conv=>whnf
theorem Lh {m:aG} {a b:Int} (hb:Ev E 495 [.lit 4 (m.az.map Edge.v),vi a,vi b] ⟨.own 1 ((bY m.az a b).map vi),[]⟩) {i j:Nat} {f g:aX} (h:findF m.al a=some i) (h1:m.al[i]? =some f) (h2:findF m.al b=some j) (h3:m.al[j]? =some g) (h4:a≠b) (h5:f.bB=g.bB) (h6: ¬f.bB< 1) (h7:m.az.any (cS a b)=true) (h8:f.name≠[]) (h9:g.name=[]):Ev E 501 [m.kv true,.mlit (bI true m.al m.al.length),vi a,vi b] ⟨vi 0,[]⟩:=by
 have hz:=ez h7
 clear h7
 refine Ev.aI rfl rfl rfl ?_
 conv=>whnf
 repeat' (first| intro g| refine wi (bL h h1) ?_| refine wi (bL h2 h3) ?_| apply ca hb| refine st ?_| refine br ?_ ?_<;>intro hc| rfl) <;>conv=>whnf
theorem Li {m:aG} {a b:Int} (hb:Ev E 495 [.lit 4 (m.az.map Edge.v),vi a,vi b] ⟨.own 1 ((bY m.az a b).map vi),[]⟩) {i j:Nat} {f g:aX} (h:findF m.al a=some i) (h1:m.al[i]? =some f) (h2:findF m.al b=some j) (h3:m.al[j]? =some g) (h4:a≠b) (h5:f.bB=g.bB) (h6: ¬f.bB< 1) (h7:m.az.any (cS a b)=true) (h8:f.name≠[]) (h9:g.name≠[]) (D0:f.name=g.name):Ev E 501 [m.kv true,.mlit (bI true m.al m.al.length),vi a,vi b] ⟨vi 0,[]⟩:=by
 have hz:=ez h7
 clear h7
 refine Ev.aI rfl rfl rfl ?_
 conv=>whnf
 repeat' (first| intro g| refine wi (bL h h1) ?_| refine wi (bL h2 h3) ?_| apply ca hb| refine st ?_| refine br ?_ ?_<;>intro hc| rfl) <;>conv=>whnf
theorem CV (k:Bool) {m:aG} (hs:oo m) (a b:Int):Ev E 501 [m.kv k,.mlit (bI k m.al m.al.length),vi a,vi b] ⟨vi (xi m a b),[]⟩:=by
 have hb:=Hw hs.1 a b
 generalize hr:xi m a b=r
 have hc:=y8 hr
 clear hr hs
 cases k
 ·cases hc with
  | OQ h h2=>exact Ff hb h h2
  | OR h h2 h3=>exact Fg hb h h2 h3
  | OS h h1 h2=>exact Fh hb h h1 h2
  | arg h h1 h2=>exact La hb h h1 h2
  | bB h h1 h2 h3 h4 h5=>exact HO hb h h1 h2 h3 h4 h5
  | OT h h1 h2 h3 h4 h5 h6=>exact Fi hb h h1 h2 h3 h4 h5 h6
  | VD h h1 h2 h3 h4 h5 h6 h7=>exact HP hb h h1 h2 h3 h4 h5 h6 h7
  | VE h h1 h2 h3 h4 h5 h6 h7 h8 h9 D0=>exact HQ hb h h1 h2 h3 h4 h5 h6 h7 h8 h9 D0
  | ok1 h h1 h2 h3 h4 h5 h6 h7 h8=>exact Lb hb h h1 h2 h3 h4 h5 h6 h7 h8
  | ok2 h h1 h2 h3 h4 h5 h6 h7 h8 h9=>exact Lc hb h h1 h2 h3 h4 h5 h6 h7 h8 h9
  | ok3 h h1 h2 h3 h4 h5 h6 h7 h8 h9 D0=>exact Ld hb h h1 h2 h3 h4 h5 h6 h7 h8 h9 D0
 ·cases hc with
  | OQ h h2=>exact Fj hb h h2
  | OR h h2 h3=>exact Fk hb h h2 h3
  | OS h h1 h2=>exact Fm hb h h1 h2
  | arg h h1 h2=>exact Lf hb h h1 h2
  | bB h h1 h2 h3 h4 h5=>exact HR hb h h1 h2 h3 h4 h5
  | OT h h1 h2 h3 h4 h5 h6=>exact Fo hb h h1 h2 h3 h4 h5 h6
  | VD h h1 h2 h3 h4 h5 h6 h7=>exact HS hb h h1 h2 h3 h4 h5 h6 h7
  | VE h h1 h2 h3 h4 h5 h6 h7 h8 h9 D0=>exact HT hb h h1 h2 h3 h4 h5 h6 h7 h8 h9 D0
  | ok1 h h1 h2 h3 h4 h5 h6 h7 h8=>exact Lg hb h h1 h2 h3 h4 h5 h6 h7 h8
  | ok2 h h1 h2 h3 h4 h5 h6 h7 h8 h9=>exact Lh hb h h1 h2 h3 h4 h5 h6 h7 h8 h9
  | ok3 h h1 h2 h3 h4 h5 h6 h7 h8 h9 D0=>exact Li hb h h1 h2 h3 h4 h5 h6 h7 h8 h9 D0
end Go.AM
namespace Go.AM
theorem aG.tY (k:Bool) (m:aG): (m.kv k).au=true:=by
 cases k<;>simp only[aG.kv,CN,V.au,V.ak,Edge.aV,aX.aV,Way.aV,Place.aV,agE]
theorem JJ {m:aG} (hs:oo m) (a b:Int):Ev E 487 [m.v,vi a,vi b] ⟨vi (xi m a b),[]⟩:=by
 have h1:=tW false hs.2
 have h2:=CV false hs a b
 have Q8:=kG false m.al m.al.length
 have Jq:bC E 500=[]:=rfl
 have Xn:bC E 501=[]:=rfl
 have Lj:V.ak [m.v]=true:=by
  have h0:V.au m.v=true:=aG.tY false m
  simp only[V.ak,h0];rfl
 have Sk:V.ak [m.v,.mlit (bI false m.al m.al.length),vi a,vi b]=true:=by
  have h0:V.au m.v=true:=aG.tY false m
  simp only[V.ak,Q8,h0];rfl
 refine Ev.aI rfl rfl rfl ?_
 conv=>whnf
 repeat' (first| refine gJ Jq Lj h1 Q8 ?_| refine gJ Xn Sk h2 rfl ?_| intro g| refine st ?_| refine br ?_ ?_<;>intro hc| rfl) <;>conv=>whnf
end Go.AM
namespace Go.AM
structure aag (m:aG):Prop where
 e:m.az.length< 1000
 f:m.al.length< 1000
 w:m.ways.length< 1000
 p:m.aA.length< 1000
 el: ∀e ∈ m.az,e.line.length< 1000
 wl: ∀w ∈ m.ways,w.line.length< 1000
def dL (a b x:Int):Int:=if x=a then b else x
theorem tU (a b x:Int):Ev E 502 [vi x,.eptr (vi a) 0,.eptr (vi b) 0] ⟨vi (dL a b x),[]⟩:=by
 unfold dL
 refine Ev.aI rfl rfl rfl ?_
 conv=>whnf
 repeat' (first| intro g| refine st ?_| refine br ?_ ?_<;>intro hc| rfl) <;>conv=>whnf
 ·rw[if_pos hc]
 ·rw[if_neg hc]
def gS (a b:Int) (e:Edge):Edge:=⟨e.id,e.line,dL a b e.left,dL a b e.right⟩
def ei (es:List Edge) (a b:Int):Nat→List Edge
 | 0=> []
 | n+1=>match es[n]? with
   | some e=>if cS a b e then ei es a b n else ei es a b n++[gS a b e]
   | none=>ei es a b n
def BC (x f:aX):aX:=⟨x.id,x.cls,TY x.name f.name,if 255 <jV (x.weight+f.weight) then 255 else jV (x.weight+f.weight),x.bB⟩
def dt (fs:List aX) (i j:Nat) (f:aX):Nat→List aX
 | 0=> []
 | n+1=>match fs[n]? with
   | some x=>if n=i then dt fs i j f n else if n=j then dt fs i j f n++[BC x f] else dt fs i j f n++[x]
   | none=>dt fs i j f n
theorem oq (es:List Edge) (a b:Int): ∀n,(ei es a b n).length≤n
 | 0=>af6 _
 | n+1=>by
   have:=oq es a b n
   unfold ei;split
   ·split
    ·omega
    ·simp;omega
   ·omega
theorem lC (fs:List aX) (i j:Nat) (f:aX): ∀n,(dt fs i j f n).length≤n
 | 0=>af6 _
 | n+1=>by
   have:=lC fs i j f n
   unfold dt;split
   ·split
    ·omega
    ·split<;> (simp;omega)
   ·omega
theorem y9 {a b:Int} (h:a≠b) (e:Edge):cS a b e=decide (dL a b e.left=b∧dL a b e.right=b∧e.left≠e.right):=by
 unfold cS dL
 rw[decide_eq_decide]
 by_cases h1:e.left=a<;>by_cases h2:e.right=a<;>by_cases h3:e.left=b<;>by_cases h4:e.right=b<;>simp_all
theorem fF {α:Type} {f:α→V} (h: ∀x,(f x).erase=f x): ∀l:List α,V.erases (l.map f)=l.map f
 | []=>rfl
 | x::l=>by simp only[List.map_cons,V.erases,h x,fF h l]
theorem Pt.er (p:Pt):p.v.erase=p.v:=rfl
theorem Edge.er (e:Edge):e.v.erase=e.v:=by simp only[Edge.v,iy,V.erase,V.erases,vi,fF Pt.er]
theorem aX.er (e:aX):e.v.erase=e.v:=rfl
theorem Way.er (e:Way):e.v.erase=e.v:=by simp only[Way.v,iy,V.erase,V.erases,vi,fF Pt.er]
theorem Place.er (e:Place):e.v.erase=e.v:=rfl
theorem OU (m:aG) (a b:Int):cC (0,1) [m.v,vi a,vi b]=[m.kv true,vi a,vi b]:=by
 simp only[cC,V.erases,V.erase,aG.v,vi,fF Edge.er,fF aX.er,fF Way.er,fF Place.er]
 rfl
def oL (sz:Nat):List V→V
 | []=> .lit sz []
 | x::l=> .own sz (x::l)
theorem T7 {α:Type} {f:α→V} (h: ∀x,(f x).erase=f x) (sz:Nat) (l:List α): (oL sz (l.map f)).erase=oL sz (l.map f):=by
 cases l with
 | nil=>rfl
 | cons x l=>simp only[List.map_cons,oL,V.erase,V.erases,h x,fF h]
def HU (m:aG) (es:List Edge) (fs:List aX):V:= .tuple [.agg [oL 4 (es.map Edge.v),.own 5 (fs.map aX.v),oL 8 (m.ways.map Way.v),.own 7 (m.aA.map Place.v)],vi 0]
theorem Sm (m:aG) (es:List Edge) (fs:List aX): (HU m es fs).erase=HU m es fs:=by
 simp only[HU,V.erase,V.erases,vi,T7 Edge.er,T7 Way.er,fF aX.er,fF Place.er]
end Go.AM
namespace Go.AM
end Go.AM
namespace Go.AM
structure OV where
 g3:Nat
 g4:Nat
 g5:Nat
 g6:Nat
 gP:Nat
 g10:Nat
abbrev Az (G:OV) (M:V) (x:List (Nat×V)):List (Nat×V):=(3,.ptr 64 G.g3 0 0):: (4,.ptr 80 G.g4 0 0):: (5,.ptr 96 G.g5 0 0):: (6,.ptr 112 G.g6 0 0):: (8,M):: (10,.ptr 176 G.g10 0 0)::x
abbrev AA (G:OV) (m:aG) (a b:Int) (E' F W:V) (x:List (Nat×Obj)):List (Nat×Obj):=
 (64,⟨G.g3,4,false,false,some [m.kv true]⟩):: (80,⟨G.g4,1,false,false,some [vi a]⟩):: (96,⟨G.g5,1,false,false,some [vi b]⟩):: (112,⟨G.g6,4,false,false,some [aG.zero.v]⟩)::
 (576,⟨G.gP,7,true,false,some (m.aA.map Place.v)⟩):: (176,⟨G.g10,4,false,false,some [.agg [E',F,W,.sl 576 G.gP 0 (m.aA.map Place.v).length]]⟩)::x
abbrev lV (r:Nat) (og:Option Nat) (n:Nat):V:=match og with
 | none=> .nils
 | some g=> .sl r g 0 n
abbrev lR (r sz:Nat) (og:Option Nat) (l:List V):List (Nat×Obj):=match og with
 | none=> []
 | some g=> [(r,⟨g,sz,true,false,some l⟩)]
theorem aei {m:aG} {a b:Int} {G:OV} {M:V} {n k:Nat} {og:Option Nat} {x:Way} {ws:List V} {L:List Way} {Q:aP→SS→Prop} (hx:ws[k]? =some x.v) (hn:ws.length=n) (hk:k<n) (hb:n< 1000) (hL:L.length=k) (r9:og=none→L=[])
   (ig:Ev E 32 [iy x.line] ⟨.own 2 (x.line.map Pt.v),[]⟩)
   (hQ: ∀T' O' g',SS.Sub ⟨Az G M [(38,.lit 8 ws),(39,ar n),(40,ar (k+1))],AA G m a b .nils .nils (.sl 180 g' 0 (L++[x]).length) [(180,⟨g',8,true,false,some ((L++[x]).map Way.v)⟩)]⟩ ⟨T',O'⟩→Q .normal ⟨T',O'⟩):
   km E RH ⟨Az G M [(38,.lit 8 ws),(39,ar n),(40,ar k)],AA G m a b .nils .nils (lV 180 og L.length) (lR 180 8 og (L.map Way.v))⟩ Q:=by
 cases og with
 | none=>
   have:=r9 rfl
   subst this
   conv=>whnf
   repeat' (first| intro g| refine wi hx ?_| apply ca ig| refine st ?_| refine br ?_ ?_<;>intro hc| rfl) <;>conv=>whnf
   exact hQ _ _ _ su
 | some g0=>
   conv=>whnf
   repeat' (first| intro g| refine wi hx ?_| apply ca ig| refine st ?_| refine br ?_ ?_<;>intro hc| rfl) <;>conv=>whnf
   exact hQ _ _ _ su
theorem VF {m:aG} {a b:Int} {G:OV} {M:V} {n k nw:Nat} {og ow:Option Nat} {e:Edge} {es ws:List V} {L:List Edge} {Q:aP→SS→Prop} (hx:es[k]? =some e.v) (hn:es.length=n) (hk:k<n) (hb:n< 1000) (hL:L.length≤k)
  (h1:dL a b e.left=b) (h2:dL a b e.right=b) (h3: ¬e.left=e.right) (hl:Ev E 502 [vi e.left,.eptr (vi a) 0,.eptr (vi b) 0] ⟨vi (dL a b e.left),[]⟩) (hr:Ev E 502 [vi e.right,.eptr (vi a) 0,.eptr (vi b) 0] ⟨vi (dL a b e.right),[]⟩)
  (hQ: ∀T' O',SS.Sub ⟨Az G M [(13,.fn 502 [.ptr 80 G.g4 0 0,.ptr 96 G.g5 0 0]),(57,.lit 4 es),(58,ar n),(59,ar (k+1))],AA G m a b (lV 178 og L.length) .nils (lV 180 ow nw) (lR 178 4 og (L.map Edge.v)++lR 180 8 ow ws)⟩ ⟨T',O'⟩→Q .normal ⟨T',O'⟩):
  km E tC ⟨Az G M [(13,.fn 502 [.ptr 80 G.g4 0 0,.ptr 96 G.g5 0 0]),(57,.lit 4 es),(58,ar n),(59,ar k)],AA G m a b (lV 178 og L.length) .nils (lV 180 ow nw) (lR 178 4 og (L.map Edge.v)++lR 180 8 ow ws)⟩ Q:=by
 rw[h1] at hl
 rw[h2] at hr
 cases og<;>cases ow
 all_goals
  conv=>whnf
  repeat' (first| intro g| refine wi hx ?_| apply ca hl| apply ca hr| refine st ?_| refine br ?_ ?_<;>intro hc| rfl) <;>conv=>whnf
  exact hQ _ _ su
theorem aah {m:aG} {a b:Int} {G:OV} {M:V} {n k nw:Nat} {og ow:Option Nat} {e:Edge} {es ws:List V} {L:List Edge} {Q:aP→SS→Prop} (hx:es[k]? =some e.v) (hn:es.length=n) (hk:k<n) (hb:n< 1000) (hL:L.length≤k) (r9:og=none→L=[])
  (ig:Ev E 32 [iy e.line] ⟨.own 2 (e.line.map Pt.v),[]⟩) (hl:Ev E 502 [vi e.left,.eptr (vi a) 0,.eptr (vi b) 0] ⟨vi (dL a b e.left),[]⟩) (hr:Ev E 502 [vi e.right,.eptr (vi a) 0,.eptr (vi b) 0] ⟨vi (dL a b e.right),[]⟩)
  (h1:dL a b e.left=b) (h2:dL a b e.right=b) (h3:e.left=e.right)
  (hQ: ∀T' O' g',SS.Sub ⟨Az G M [(13,.fn 502 [.ptr 80 G.g4 0 0,.ptr 96 G.g5 0 0]),(57,.lit 4 es),(58,ar n),(59,ar (k+1))],AA G m a b (.sl 178 g' 0 (L++[gS a b e]).length) .nils (lV 180 ow nw) ([(178,⟨g',4,true,false,some ((L++[gS a b e]).map Edge.v)⟩)]++lR 180 8 ow ws)⟩ ⟨T',O'⟩→Q .normal ⟨T',O'⟩):
  km E tC ⟨Az G M [(13,.fn 502 [.ptr 80 G.g4 0 0,.ptr 96 G.g5 0 0]),(57,.lit 4 es),(58,ar n),(59,ar k)],AA G m a b (lV 178 og L.length) .nils (lV 180 ow nw) (lR 178 4 og (L.map Edge.v)++lR 180 8 ow ws)⟩ Q:=by
 rw[h1] at hl
 rw[h2] at hr
 have CW:gS a b e=⟨e.id,e.line,b,b⟩:=by simp only[gS,h1,h2]
 rw[CW] at hQ
 clear CW
 clear h1 h2
 cases og<;>cases ow
 all_goals
  try (have:=r9 rfl;subst this)
  conv=>whnf
  repeat' (first| intro g| refine wi hx ?_| apply ca hl| apply ca hr| apply ca ig| refine st ?_| refine br ?_ ?_<;>intro hc| rfl) <;>conv=>whnf
  exact hQ _ _ _ su
theorem aai {m:aG} {a b:Int} {G:OV} {M:V} {n k nw:Nat} {og ow:Option Nat} {e:Edge} {es ws:List V} {L:List Edge} {Q:aP→SS→Prop} (hx:es[k]? =some e.v) (hn:es.length=n) (hk:k<n) (hb:n< 1000) (hL:L.length≤k) (r9:og=none→L=[])
  (ig:Ev E 32 [iy e.line] ⟨.own 2 (e.line.map Pt.v),[]⟩) (hl:Ev E 502 [vi e.left,.eptr (vi a) 0,.eptr (vi b) 0] ⟨vi (dL a b e.left),[]⟩) (hr:Ev E 502 [vi e.right,.eptr (vi a) 0,.eptr (vi b) 0] ⟨vi (dL a b e.right),[]⟩)
  (h1:dL a b e.left=b) (h2: ¬dL a b e.right=b)
  (hQ: ∀T' O' g',SS.Sub ⟨Az G M [(13,.fn 502 [.ptr 80 G.g4 0 0,.ptr 96 G.g5 0 0]),(57,.lit 4 es),(58,ar n),(59,ar (k+1))],AA G m a b (.sl 178 g' 0 (L++[gS a b e]).length) .nils (lV 180 ow nw) ([(178,⟨g',4,true,false,some ((L++[gS a b e]).map Edge.v)⟩)]++lR 180 8 ow ws)⟩ ⟨T',O'⟩→Q .normal ⟨T',O'⟩):
  km E tC ⟨Az G M [(13,.fn 502 [.ptr 80 G.g4 0 0,.ptr 96 G.g5 0 0]),(57,.lit 4 es),(58,ar n),(59,ar k)],AA G m a b (lV 178 og L.length) .nils (lV 180 ow nw) (lR 178 4 og (L.map Edge.v)++lR 180 8 ow ws)⟩ Q:=by
 rw[h1] at hl
 have CW:gS a b e=⟨e.id,e.line,b,dL a b e.right⟩:=by simp only[gS,h1]
 rw[CW] at hQ
 clear CW
 generalize dL a b e.right=r at*
 clear h1
 cases og<;>cases ow
 all_goals
  try (have:=r9 rfl;subst this)
  conv=>whnf
  repeat' (first| intro g| refine wi hx ?_| apply ca hl| apply ca hr| apply ca ig| refine st ?_| refine br ?_ ?_<;>intro hc| rfl) <;>conv=>whnf
  exact hQ _ _ _ su
theorem aaj {m:aG} {a b:Int} {G:OV} {M:V} {n k nw:Nat} {og ow:Option Nat} {e:Edge} {es ws:List V} {L:List Edge} {Q:aP→SS→Prop} (hx:es[k]? =some e.v) (hn:es.length=n) (hk:k<n) (hb:n< 1000) (hL:L.length≤k) (r9:og=none→L=[])
  (ig:Ev E 32 [iy e.line] ⟨.own 2 (e.line.map Pt.v),[]⟩) (hl:Ev E 502 [vi e.left,.eptr (vi a) 0,.eptr (vi b) 0] ⟨vi (dL a b e.left),[]⟩) (hr:Ev E 502 [vi e.right,.eptr (vi a) 0,.eptr (vi b) 0] ⟨vi (dL a b e.right),[]⟩)
  (h1: ¬dL a b e.left=b)
  (hQ: ∀T' O' g',SS.Sub ⟨Az G M [(13,.fn 502 [.ptr 80 G.g4 0 0,.ptr 96 G.g5 0 0]),(57,.lit 4 es),(58,ar n),(59,ar (k+1))],AA G m a b (.sl 178 g' 0 (L++[gS a b e]).length) .nils (lV 180 ow nw) ([(178,⟨g',4,true,false,some ((L++[gS a b e]).map Edge.v)⟩)]++lR 180 8 ow ws)⟩ ⟨T',O'⟩→Q .normal ⟨T',O'⟩):
  km E tC ⟨Az G M [(13,.fn 502 [.ptr 80 G.g4 0 0,.ptr 96 G.g5 0 0]),(57,.lit 4 es),(58,ar n),(59,ar k)],AA G m a b (lV 178 og L.length) .nils (lV 180 ow nw) (lR 178 4 og (L.map Edge.v)++lR 180 8 ow ws)⟩ Q:=by
 have CW:gS a b e=⟨e.id,e.line,dL a b e.left,dL a b e.right⟩:=rfl
 rw[CW] at hQ
 clear CW
 generalize dL a b e.left=l at*
 generalize dL a b e.right=r at*
 cases og<;>cases ow
 all_goals
  try (have:=r9 rfl;subst this)
  conv=>whnf
  repeat' (first| intro g| refine wi hx ?_| apply ca hl| apply ca hr| apply ca ig| refine st ?_| refine br ?_ ?_<;>intro hc| rfl) <;>conv=>whnf
  exact hQ _ _ _ su
theorem Sn {m:aG} {a b:Int} {G:OV} {M:V} {n k nw:Nat} {og ow:Option Nat} {e:Edge} {es ws:List V} {L:List Edge} {Q:aP→SS→Prop} (hx:es[k]? =some e.v) (hn:es.length=n) (hk:k<n) (hb:n< 1000) (hL:L.length≤k) (r9:og=none→L=[])
  (ig:Ev E 32 [iy e.line] ⟨.own 2 (e.line.map Pt.v),[]⟩) (hl:Ev E 502 [vi e.left,.eptr (vi a) 0,.eptr (vi b) 0] ⟨vi (dL a b e.left),[]⟩) (hr:Ev E 502 [vi e.right,.eptr (vi a) 0,.eptr (vi b) 0] ⟨vi (dL a b e.right),[]⟩) (Q5:a≠b) (ht:cS a b e=false)
  (hQ: ∀T' O' g',SS.Sub ⟨Az G M [(13,.fn 502 [.ptr 80 G.g4 0 0,.ptr 96 G.g5 0 0]),(57,.lit 4 es),(58,ar n),(59,ar (k+1))],AA G m a b (.sl 178 g' 0 (L++[gS a b e]).length) .nils (lV 180 ow nw) ([(178,⟨g',4,true,false,some ((L++[gS a b e]).map Edge.v)⟩)]++lR 180 8 ow ws)⟩ ⟨T',O'⟩→Q .normal ⟨T',O'⟩):
  km E tC ⟨Az G M [(13,.fn 502 [.ptr 80 G.g4 0 0,.ptr 96 G.g5 0 0]),(57,.lit 4 es),(58,ar n),(59,ar k)],AA G m a b (lV 178 og L.length) .nils (lV 180 ow nw) (lR 178 4 og (L.map Edge.v)++lR 180 8 ow ws)⟩ Q:=by
 rw[y9 Q5] at ht
 by_cases h1:dL a b e.left=b
 ·by_cases h2:dL a b e.right=b
  ·by_cases h3:e.left=e.right
   ·exact aah hx hn hk hb hL r9 ig hl hr h1 h2 h3 hQ
   ·simp[h1,h2,h3] at ht
  ·exact aai hx hn hk hb hL r9 ig hl hr h1 h2 hQ
 ·exact aaj hx hn hk hb hL r9 ig hl hr h1 hQ
end Go.AM
namespace Go.AM
theorem OW {m:aG} {a b:Int} {G:OV} {M:V} {n k i j ne nw:Nat} {f g x:aX} {og oe ow:Option Nat} {es ws:List V} {L:List aX} {Q:aP→SS→Prop} (hx: (m.al.map aX.v)[k]? =some x.v) (hn:m.al.length=n) (hk:k<n) (hb:n< 1000) (hL:L.length≤k) (r9:og=none→L=[]) (h1:k=i)
  (hQ: ∀T' O',SS.Sub ⟨Az G M [(18,.epk i 5 f.v 0),(19,.epk j 5 g.v 0),(109,ar n),(110,ar (k+1))],AA G m a b (lV 178 oe ne) (lV 179 og L.length) (lV 180 ow nw) (lR 179 5 og (L.map aX.v)++lR 178 4 oe es++lR 180 8 ow ws)⟩ ⟨T',O'⟩→Q .normal ⟨T',O'⟩):
  km E Cz ⟨Az G M [(18,.epk i 5 f.v 0),(19,.epk j 5 g.v 0),(109,ar n),(110,ar k)],AA G m a b (lV 178 oe ne) (lV 179 og L.length) (lV 180 ow nw) (lR 179 5 og (L.map aX.v)++lR 178 4 oe es++lR 180 8 ow ws)⟩ Q:=by
 subst h1
 have xO: (((k:Int).toNat==k) !=false)=true:=afU
 cases og<;>cases oe<;>cases ow
 all_goals
  conv=>whnf
  repeat' (first| intro g| refine wi hx ?_| refine st ?_| refine br ?_ ?_<;>intro hc| rfl) <;>conv=>whnf
  exact hQ _ _ su
theorem OX {m:aG} {a b:Int} {G:OV} {M:V} {n k i j ne nw:Nat} {f g x:aX} {og oe ow:Option Nat} {es ws:List V} {L:List aX} {Q:aP→SS→Prop} (hx: (m.al.map aX.v)[k]? =some x.v) (hn:m.al.length=n) (hk:k<n) (hb:n< 1000) (hL:L.length≤k) (r9:og=none→L=[]) (h1: ¬k=i) (h2: ¬k=j)
  (hQ: ∀T' O' g',SS.Sub ⟨Az G M [(18,.epk i 5 f.v 0),(19,.epk j 5 g.v 0),(109,ar n),(110,ar (k+1))],AA G m a b (lV 178 oe ne) (.sl 179 g' 0 (L++[x]).length) (lV 180 ow nw) ([(179,⟨g',5,true,false,some ((L++[x]).map aX.v)⟩)]++lR 178 4 oe es++lR 180 8 ow ws)⟩ ⟨T',O'⟩→Q .normal ⟨T',O'⟩):
  km E Cz ⟨Az G M [(18,.epk i 5 f.v 0),(19,.epk j 5 g.v 0),(109,ar n),(110,ar k)],AA G m a b (lV 178 oe ne) (lV 179 og L.length) (lV 180 ow nw) (lR 179 5 og (L.map aX.v)++lR 178 4 oe es++lR 180 8 ow ws)⟩ Q:=by
 have xO: (((k:Int).toNat==i) !=false)=false:=by simpa using h1
 have pF: (((k:Int).toNat==j) !=false)=false:=by simpa using h2
 cases og<;>cases oe<;>cases ow
 all_goals
  try (have:=r9 rfl;subst this)
  conv=>whnf
  repeat' (first| intro g| refine wi hx ?_| refine st ?_| refine br ?_ ?_<;>intro hc| rfl) <;>conv=>whnf
  exact hQ _ _ _ su
theorem OY {m:aG} {a b:Int} {G:OV} {M:V} {n k i j ne nw:Nat} {f g x:aX} {og oe ow:Option Nat} {es ws:List V} {L:List aX} {Q:aP→SS→Prop} (hx: (m.al.map aX.v)[k]? =some x.v) (hn:m.al.length=n) (hk:k<n) (hb:n< 1000) (hL:L.length≤k) (r9:og=none→L=[]) (h1: ¬k=i) (h2:k=j) (ho:Ev E 17 [.lit 1 [.str x.name,.str f.name]] ⟨.str (TY x.name f.name),[]⟩)
  (hQ: ∀T' O' g',SS.Sub ⟨Az G M [(18,.epk i 5 f.v 0),(19,.epk j 5 g.v 0),(109,ar n),(110,ar (k+1))],AA G m a b (lV 178 oe ne) (.sl 179 g' 0 (L++[BC x f]).length) (lV 180 ow nw) ([(179,⟨g',5,true,false,some ((L++[BC x f]).map aX.v)⟩)]++lR 178 4 oe es++lR 180 8 ow ws)⟩ ⟨T',O'⟩→Q .normal ⟨T',O'⟩):
  km E Cz ⟨Az G M [(18,.epk i 5 f.v 0),(19,.epk j 5 g.v 0),(109,ar n),(110,ar k)],AA G m a b (lV 178 oe ne) (lV 179 og L.length) (lV 180 ow nw) (lR 179 5 og (L.map aX.v)++lR 178 4 oe es++lR 180 8 ow ws)⟩ Q:=by
 subst h2
 generalize hy:BC x f=y at*
 unfold BC jV at hy
 generalize TY x.name f.name=nm at*
 have xO: (((k:Int).toNat==i) !=false)=false:=by simpa using h1
 have pF: (((k:Int).toNat==k) !=false)=true:=afU
 cases og<;>cases oe<;>cases ow
 all_goals
  try (have:=r9 rfl;subst this)
  conv=>whnf
  repeat' (first| intro g| refine wi hx ?_| apply ca ho| refine st ?_| refine br ?_ ?_<;>intro hc| rfl) <;>conv=>whnf
  subst hy
  exact hQ _ _ _ su
end Go.AM
namespace Go.AM
theorem take_succ {α:Type} {l:List α} {n:Nat} {x:α} (h:l[n]? =some x):l.take (n+1)=l.take n++[x]:=by
 rw[agD,h];rfl
theorem BD {fs:List aX} {i j:Nat} {y:aX} (hy:fs[j]? =some y) (VG:i≠j) (f:aX): ∀n,j<n→dt fs i j f n≠[]
 | 0,h=>ae0
 | n+1,h=>by
   by_cases hn:n=j
   ·subst hn
    simp[dt,hy,ag8 VG]
   ·have ih:=BD hy VG f n ae0
    cases hx:fs[n]? with
    | none=>rw[dt,hx];exact ih
    | some x=>
      rw[dt,hx]
      by_cases hi:n=i
      ·simp only[if_pos hi];exact ih
      ·simp only[if_neg hi,if_neg hn];simp
theorem Lk {m:aG} (hs:aag m) (a b:Int) (hc:xi m a b=0) {i j:Nat} {f y:aX} (hi:findF m.al a=some i) (hif:m.al[i]? =some f) (hj:findF m.al b=some j) (hjg:m.al[j]? =some y) (VG:i≠j) (Q5:a≠b):
  Ev E 485 [m.v,vi a,vi b] ⟨HU m (ei m.az a b m.az.length) (dt m.al i j f m.al.length),[]⟩:=by
 have h1:=tW true (m:=m) (by have:=hs.f;omega)
 have h2:=CV true (m:=m) ⟨by have:=hs.e;omega,by have:=hs.f;omega⟩ a b
 rw[hc] at h2
 have Q8:=kG true m.al m.al.length
 have h0:=aG.tY true m
 have Jq:bC E 500=[]:=rfl
 have Xn:bC E 501=[]:=rfl
 have Lj:V.ak [m.kv true]=true:=by simp only[V.ak,h0];rfl
 have Sk:V.ak [m.kv true,.mlit (bI true m.al m.al.length),vi a,vi b]=true:=by simp only[V.ak,Q8,h0];rfl
 have Xm:=ns m.aA (by have:=hs.p;omega)
 have hlf:=bL (k:=true) hi hif
 have hlg:=bL (k:=true) hj hjg
 have hE:m.az.length< 1000:=hs.e
 have hF:m.al.length< 1000:=hs.f
 have hW:m.ways.length< 1000:=hs.w
 obtain⟨res,h3,h4⟩:=Ev.X4 (R:=fun r=>r=⟨HU m (ei m.az a b m.az.length) (dt m.al i j f m.al.length),[]⟩) Zo (Zp _) rfl rfl (by simp only[V.ak,show V.au m.v=true from aG.tY false m];rfl) (OU m a b) (by
  conv=>whnf
  repeat' (first| refine gJ Jq Lj h1 Q8 ?_| refine gJ Xn Sk h2 rfl ?_| intro g| apply ca Xm| refine st ?_| refine br ?_ ?_<;>intro hc| rfl) <;>conv=>whnf
  rename_i g3 g4 g5 g6 gP
  clear h1 h2 Xm Lj Sk h0
  refine aO.by (fun ((k,og):Nat×Option Nat)=> ⟨Az ⟨g3,g4,g5,g6,gP,g⟩ (.mlit (bI true m.al m.al.length)) [(38,.lit 8 (m.ways.map Way.v)),(39,ar m.ways.length),(40,ar k)],
      AA ⟨g3,g4,g5,g6,gP,g⟩ m a b .nils .nils (lV 180 og (m.ways.take k).length) (lR 180 8 og ((m.ways.take k).map Way.v))⟩)
    (fun (k,og)=>k≤m.ways.length∧(og=none↔m.ways.take k=[])) (fun (k,_)=>m.ways.length - k) (0,none) ?_ ⟨afU,afU⟩ ?_
  ·(refine⟨?_,?_⟩ <;>repeat' (first| exact True.intro| refine And.intro ((by(conv=>whnf);first| rfl| simp)) ?_| refine ai ?_| refine And.intro ?_ ?_))
  rintro⟨k,og⟩ ⟨hk,r9⟩
  try dsimp only at hk r9
  by_cases bk:k<m.ways.length
  · obtain⟨x,hx⟩: ∃x,m.ways[k]? =some x:=⟨_,aL bk⟩
    have ig:=eE x.line (by have:=hs.wl x (List.mem_of_getElem? hx);omega)
    refine aei (m:=m) (a:=a) (b:=b) (G:=⟨g3,g4,g5,g6,gP,g⟩) (x:=x) (by simp[hx]) afU bk hW (by simp;omega) r9.1 ig fun T' O' g' ji=>aK.mk (k+1,some g') om ⟨ae0,by simp[take_succ hx]⟩ ?_
    simp only[take_succ hx]
    exact ji
  obtain rfl:k=m.ways.length:=ae0
  simp only[ag9] at r9 ⊢
  clear hk bk
  conv=>whnf
  repeat' (first| intro g| refine st ?_| refine br ?_ ?_<;>intro hc| rfl) <;>conv=>whnf
  clear Q8
  refine aO.by (fun ((k,oe):Nat×Option Nat)=> ⟨Az ⟨g3,g4,g5,g6,gP,g⟩ (.mlit (bI true m.al m.al.length)) [(13,.fn 502 [.ptr 80 g4 0 0,.ptr 96 g5 0 0]),(57,.lit 4 (m.az.map Edge.v)),(58,ar m.az.length),(59,ar k)],
      AA ⟨g3,g4,g5,g6,gP,g⟩ m a b (lV 178 oe (ei m.az a b k).length) .nils (lV 180 og m.ways.length) (lR 178 4 oe ((ei m.az a b k).map Edge.v)++lR 180 8 og (m.ways.map Way.v))⟩)
    (fun (k,oe)=>k≤m.az.length∧(oe=none↔ei m.az a b k=[])) (fun (k,_)=>m.az.length - k) (0,none) ?_ ⟨afU,by simp[ei]⟩ ?_
  ·cases og<;> (refine⟨?_,?_⟩ <;>repeat' (first| exact True.intro| refine And.intro ((by(conv=>whnf);first| rfl| simp)) ?_| refine ai ?_| refine And.intro ?_ ?_))
  rintro⟨k,oe⟩ ⟨hk,Sp⟩
  try dsimp only at hk Sp
  by_cases bk:k<m.az.length
  · obtain⟨x,hx⟩: ∃x,m.az[k]? =some x:=⟨_,aL bk⟩
    have ig:=eE x.line (by have:=hs.el x (List.mem_of_getElem? hx);omega)
    have hl:=tU a b x.left
    have hr:=tU a b x.right
    cases ht:cS a b x with
    | true=>
      have hn:ei m.az a b (k+1)=ei m.az a b k:=by simp[ei,hx,ht]
      rw[y9 Q5] at ht
      simp only[decide_eq_true_eq] at ht
      refine VF (m:=m) (a:=a) (b:=b) (G:=⟨g3,g4,g5,g6,gP,g⟩) (e:=x) (by simp[hx]) afU bk hE (oq ..) ht.1 ht.2.1 ht.2.2 hl hr fun T' O' ji=>aK.mk (k+1,oe) om ⟨ae0,by rw[hn];exact Sp⟩ ?_
      simp only[hn]
      exact ji
    | false=>
      have hn:ei m.az a b (k+1)=ei m.az a b k++[gS a b x]:=by simp[ei,hx,ht]
      refine Sn (m:=m) (a:=a) (b:=b) (G:=⟨g3,g4,g5,g6,gP,g⟩) (e:=x) (by simp[hx]) afU bk hE (oq ..) Sp.1 ig hl hr Q5 ht fun T' O' g' ji=>aK.mk (k+1,some g') om ⟨ae0,by rw[hn];simp⟩ ?_
      simp only[hn]
      exact ji
  obtain rfl:k=m.az.length:=ae0
  clear hk bk
  conv=>whnf
  repeat' (first| intro g| refine wi hlf ?_| refine wi hlg ?_| refine st ?_| refine br ?_ ?_<;>intro hc| rfl) <;>conv=>whnf
  clear hlf hlg
  generalize hEs:ei m.az a b m.az.length=Es at*
  refine aO.by (fun ((k,of):Nat×Option Nat)=> ⟨Az ⟨g3,g4,g5,g6,gP,g⟩ (.mlit (bI true m.al m.al.length)) [(18,.epk i 5 f.v 0),(19,.epk j 5 y.v 0),(109,ar m.al.length),(110,ar k)],
      AA ⟨g3,g4,g5,g6,gP,g⟩ m a b (lV 178 oe Es.length) (lV 179 of (dt m.al i j f k).length) (lV 180 og m.ways.length) (lR 179 5 of ((dt m.al i j f k).map aX.v)++lR 178 4 oe (Es.map Edge.v)++lR 180 8 og (m.ways.map Way.v))⟩)
    (fun (k,of)=>k≤m.al.length∧(of=none↔dt m.al i j f k=[])) (fun (k,_)=>m.al.length - k) (0,none) ?_ ⟨afU,by simp[dt]⟩ ?_
  ·cases og<;>cases oe<;> (refine⟨?_,?_⟩ <;>repeat' (first| exact True.intro| refine And.intro ((by(conv=>whnf);first| rfl| simp)) ?_| refine ai ?_| refine And.intro ?_ ?_))
  rintro⟨k,of⟩ ⟨hk,VH⟩
  try dsimp only at hk VH
  by_cases bk:k<m.al.length
  · obtain⟨x,hx⟩: ∃x,m.al[k]? =some x:=⟨_,aL bk⟩
    by_cases Q6:k=i
    · have hn:dt m.al i j f (k+1)=dt m.al i j f k:=by rw[dt,hx];simp only[if_pos Q6]
      refine OW (m:=m) (a:=a) (b:=b) (G:=⟨g3,g4,g5,g6,gP,g⟩) (x:=x) (by simp[hx]) rfl bk hF (lC ..) VH.1 Q6 fun T' O' ji=>aK.mk (k+1,of) om ⟨ae0,by rw[hn];exact VH⟩ ?_
      simp only[hn]
      exact ji
    by_cases RO:k=j
    · have hn:dt m.al i j f (k+1)=dt m.al i j f k++[BC x f]:=by rw[dt,hx];simp only[if_neg Q6,if_pos RO]
      refine OY (m:=m) (a:=a) (b:=b) (G:=⟨g3,g4,g5,g6,gP,g⟩) (x:=x) (by simp[hx]) rfl bk hF (lC ..) VH.1 Q6 RO (NI _ _) fun T' O' g' ji=>aK.mk (k+1,some g') om ⟨ae0,by rw[hn];simp⟩ ?_
      simp only[hn]
      exact ji
    · have hn:dt m.al i j f (k+1)=dt m.al i j f k++[x]:=by rw[dt,hx];simp only[if_neg Q6,if_neg RO]
      refine OX (m:=m) (a:=a) (b:=b) (G:=⟨g3,g4,g5,g6,gP,g⟩) (x:=x) (by simp[hx]) rfl bk hF (lC ..) VH.1 Q6 RO fun T' O' g' ji=>aK.mk (k+1,some g') om ⟨ae0,by rw[hn];simp⟩ ?_
      simp only[hn]
      exact ji
  obtain rfl:k=m.al.length:=ae0
  clear hk bk
  have cF:=BD hjg VG f m.al.length (af0.1 hjg).1
  try dsimp only
  generalize dt m.al i j f m.al.length=Fs at*
  cases of with
  | none=>exact absurd (VH.1 rfl) cF
  | some g9=>
    have o1:oe=none∧Es=[]∨(∃g,oe=some g)∧oL 4 (Es.map Edge.v)= .own 4 (Es.map Edge.v):=by
      cases oe with
      | none=>exact .inl ⟨rfl,Sp.1 rfl⟩
      | some g=>
        refine .inr ⟨⟨g,rfl⟩,?_⟩
        cases Es with
        | nil=>simp at Sp
        | cons e l=>rfl
    have o2:og=none∧m.ways=[]∨(∃g,og=some g)∧oL 8 (m.ways.map Way.v)= .own 8 (m.ways.map Way.v):=by
      cases og with
      | none=>exact .inl ⟨rfl,r9.1 rfl⟩
      | some g=>
        refine .inr ⟨⟨g,rfl⟩,?_⟩
        cases hw:m.ways with
        | nil=>simp[hw] at r9
        | cons e l=>rfl
    unfold HU
    clear Sp r9 VH cF hs
    rcases o1 with⟨rfl,rfl⟩ | ⟨⟨g1,rfl⟩,e1⟩ <;>rcases o2 with⟨rfl,e2⟩ | ⟨⟨g2,rfl⟩,e2⟩
    · rw[e2]
      conv=>whnf
      repeat' (first| intro g| refine wi (gZ afU) ?_| refine st ?_| refine br ?_ ?_<;>intro hc| rfl) <;>conv=>whnf
      all_goals rfl
    · rw[e2]
      conv=>whnf
      repeat' (first| intro g| refine wi (gZ afU) ?_| refine st ?_| refine br ?_ ?_<;>intro hc| rfl) <;>conv=>whnf
      all_goals rfl
    · rw[e1,e2]
      conv=>whnf
      repeat' (first| intro g| refine wi (gZ afU) ?_| refine st ?_| refine br ?_ ?_<;>intro hc| rfl) <;>conv=>whnf
      all_goals rfl
    · rw[e1,e2]
      conv=>whnf
      repeat' (first| intro g| refine wi (gZ afU) ?_| refine st ?_| refine br ?_ ?_<;>intro hc| rfl) <;>conv=>whnf
      all_goals rfl
  )
 rw[h4] at h3
 simp only[Sm] at h3
 exact h3
end Go.AM
namespace Go.AM
end Go.AM
namespace Go.AM
def OZ (p q:Pt):Int:=jV (jV (jV (q.x - p.x)*jV (q.x - p.x))+jV (jV (q.y - p.y)*jV (q.y - p.y)))
theorem O3 (p q:Pt):OZ p q≤9223372036854775807:=Jr _
noncomputable def HV (l:List Pt):Nat→Int
 | 0=>0
 | k+1=>match l[k]?,l[k+1]? with
   | some p,some q=>jV (HV l k+lA (OZ p q))
   | _,_=>HV l k
noncomputable def tZ (l:List Pt):Int:=HV l (l.length - 1)
theorem Ll {l:List Pt} {k:Nat} {p q:Pt} (hp:l[k]? =some p) (hq:l[k+1]? =some q):HV l (k+1)=jV (HV l k+lA (OZ p q)):=by
 simp only[HV,hp,hq]
theorem iZ: ∀ (ps:List Pt) (i k:Nat),(fa i (ps.map Pt.v))[k]? =match ps[k]?,ps[k+1]? with
   | some p,some q=>some [.int .i64 ((i+k:Nat):Int),.agg [vi p.x,vi p.y,vi q.x,vi q.y]]
   | _,_=>none
 | [],i,k=>by simp[fa]
 | [p],i,k=>by cases k<;>simp[fa]
 | p::q::r,i,0=>by simp[fa,Pt.v,V.cells]
 | p::q::r,i,k+1=>by
   have ih:=iZ (q::r) (i+1) k
   simp only[List.map_cons,fa,ahb] at ih ⊢
   rw[ih]
   have:i+1+k=i+(k+1):=ae0
   rw[this]
theorem pG: ∀ (ps:List Pt) (i:Nat),(fa i (ps.map Pt.v)).length=ps.length - 1
 | [],i=>by simp[fa]
 | [p],i=>by simp[fa]
 | p::q::r,i=>by
   have ih:=pG (q::r) (i+1)
   simp only[List.map_cons,fa,agb] at ih ⊢
   omega
theorem nv: ∀ (ps:List V) (i:Nat),∀x ∈ fa i ps,x.length=2
 | [],i,x,h=>by simp[fa] at h
 | [p],i,x,h=>by simp[fa] at h
 | p::q::r,i,x,h=>by
   rw[fa] at h
   rcases af7.1 h with rfl| h
   ·rfl
   ·exact nv (q::r) (i+1) x h
theorem mn (l:List Pt):Ev E 182 [iy l] ⟨.fn 221 [.eptr (iy l) 0],[]⟩:=by
 refine Ev.aI rfl rfl rfl ?_
 exact dr
theorem VI {l:List Pt} (hl:l.length< 1000000):Ev E 496 [iy l] ⟨vi (tZ l),[]⟩:=by
 have R3:=mn l
 refine Ev.aI rfl rfl rfl ?_
 conv=>whnf
 repeat' (first| intro g| apply ca R3| refine st ?_| refine br ?_ ?_<;>intro hc| rfl) <;>conv=>whnf
 have hi:E.iter 221 [(iy l).eptr 0]=some (fa 0 (l.map Pt.v)):=by
  show (if (l.map Pt.v).length< 4611686018427387904 then some (fa 0 (l.map Pt.v)) else none)=_
  rw[if_pos (by simp;omega)]
 refine r7.by (fa 0 (l.map Pt.v)) rfl hi (fun x hx=>nv _ _ x hx) (fun (k:Nat)=> [(48,⟨g,1,false,false,some [vi (HV l k)]⟩)]) (fun k a=>a=k) 0 ?_ rfl ?_ ?_
 ·(repeat' (first| exact True.intro| refine ai ?_| refine And.intro ?_ ?_))
 ·rintro _ x k hx rfl
  rw[iZ] at hx
  cases hp:l[k]? with
  | none=>rw[hp] at hx;cases hx
  | some p=>
  cases hq:l[k+1]? with
  | none=>rw[hp,hq] at hx;cases hx
  | some q=>
  rw[hp,hq] at hx
  injection hx with hx;subst hx
  have eJ:=Ll hp hq
  have Q3:=xI (O3 p q)
  conv=>whnf
  repeat' (first| intro g| apply ca (sg q p) | apply ca (NC _ _) | apply ca Q3| refine st ?_| refine br ?_ ?_<;>intro hc| rfl) <;>conv=>whnf
  refine Nf.mk (k+1) rfl ?_
  simp only[eJ]
  (repeat' (first| exact True.intro| refine ai ?_| refine And.intro ?_ ?_))
 ·rintro a rfl
  rw[pG]
  exact dr
end Go.AM
