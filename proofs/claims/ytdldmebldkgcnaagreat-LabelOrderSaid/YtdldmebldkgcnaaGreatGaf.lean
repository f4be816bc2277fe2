/- Texts of the proof. -/
import Derived.Test.YtdldmebldkgcnaaGreatGae
set_option maxRecDepth 20000
set_option maxHeartbeats 4000000
set_option linter.unusedSimpArgs false
set_option linter.unusedVariables false
namespace Go.AM
theorem RI (l:List Int): (J3 l).length=0↔l=[]:=by
 constructor
 ·intro h
  cases l with
  | nil=>rfl
  | cons a l=>
    have:0 < (ew (a::l)).length:=by rw[dG];simp
    have:=Dh (ew (a::l)) _ this
    unfold J3 jH at h
    omega
 ·rintro rfl;rfl
theorem vw (es:List Edge) (a b:Int): (cg es a b).length=0↔es.any (cZ a b)=false:=by
 unfold cg
 rw[RI]
 simp[qu,List.any_eq_false]
theorem sQ {es:List Edge} {a b:Int} (h:es.any (cZ a b)=false): ((cg es a b).map vi).length=0:=by
 rw[List.length_map];exact(vw es a b).2 h
theorem eJ {es:List Edge} {a b:Int} (h:es.any (cZ a b)=true): ¬ ((cg es a b).map vi).length=0:=by
 rw[List.length_map];intro h0;rw[(vw es a b).1 h0] at h;simp at h
def qz (m:aI):Prop:=m.aB.length< 1000000∧m.an.length< 1000000
inductive il (m:aI) (a b:Int):Int→Prop
 | RJ (h:findF m.an a=none) (h2:findF m.an b=none):il m a b 5
 | RK {j g} (h:findF m.an a=none) (h2:findF m.an b=some j) (h3:m.an[j]? =some g):il m a b 5
 | RL {i f} (h:findF m.an a=some i) (h1:m.an[i]? =some f) (h2:findF m.an b=none):il m a b 5
 | arg {i f} (h:findF m.an a=some i) (h1:m.an[i]? =some f) (h2:a=b):il m a b 1
 | bG {i f j g} (h:findF m.an a=some i) (h1:m.an[i]? =some f) (h2:findF m.an b=some j) (h3:m.an[j]? =some g) (h4:a≠b) (h5:f.bG≠g.bG):il m a b 25
 | RM {i f j g} (h:findF m.an a=some i) (h1:m.an[i]? =some f) (h2:findF m.an b=some j) (h3:m.an[j]? =some g) (h4:a≠b) (h5:f.bG=g.bG) (h6:f.bG< 1):il m a b 25
 | Y0 {i f j g} (h:findF m.an a=some i) (h1:m.an[i]? =some f) (h2:findF m.an b=some j) (h3:m.an[j]? =some g) (h4:a≠b) (h5:f.bG=g.bG) (h6: ¬f.bG< 1) (h7:m.aB.any (cZ a b)=false):il m a b 13
 | Y1 {i f j g} (h:findF m.an a=some i) (h1:m.an[i]? =some f) (h2:findF m.an b=some j) (h3:m.an[j]? =some g) (h4:a≠b) (h5:f.bG=g.bG) (h6: ¬f.bG< 1) (h7:m.aB.any (cZ a b)=true) (h8:f.name≠[]) (h9:g.name≠[]) (Gj:f.name≠g.name):il m a b 24
 | ok1 {i f j g} (h:findF m.an a=some i) (h1:m.an[i]? =some f) (h2:findF m.an b=some j) (h3:m.an[j]? =some g) (h4:a≠b) (h5:f.bG=g.bG) (h6: ¬f.bG< 1) (h7:m.aB.any (cZ a b)=true) (h8:f.name=[]):il m a b 0
 | ok2 {i f j g} (h:findF m.an a=some i) (h1:m.an[i]? =some f) (h2:findF m.an b=some j) (h3:m.an[j]? =some g) (h4:a≠b) (h5:f.bG=g.bG) (h6: ¬f.bG< 1) (h7:m.aB.any (cZ a b)=true) (h8:f.name≠[]) (h9:g.name=[]):il m a b 0
 | ok3 {i f j g} (h:findF m.an a=some i) (h1:m.an[i]? =some f) (h2:findF m.an b=some j) (h3:m.an[j]? =some g) (h4:a≠b) (h5:f.bG=g.bG) (h6: ¬f.bG< 1) (h7:m.aB.any (cZ a b)=true) (h8:f.name≠[]) (h9:g.name≠[]) (Gj:f.name=g.name):il m a b 0
theorem Vu (m:aI) (a b:Int):il m a b (tM m a b):=by
 unfold tM
 cases h:findF m.an a with
 | none=>
   cases h2:findF m.an b with
   | none=>exact .RJ h h2
   | some j=>obtain⟨g,hg,_⟩:=ej h2;exact .RK h h2 hg
 | some i=>
   obtain⟨f,hf,JY,_⟩:=ej h
   cases h2:findF m.an b with
   | none=>exact .RL h hf h2
   | some j=>
     obtain⟨g,hg,_⟩:=ej h2
     simp only[hf,hg,Xm]
     by_cases h4:a=b
     ·rw[if_pos h4];exact .arg h hf h4
     rw[if_neg h4]
     by_cases h5:f.bG=g.bG
     ·by_cases h6:f.bG< 1
      ·rw[if_pos (.inr h6)];exact .RM h hf h2 hg h4 h5 h6
      rw[if_neg (by rintro(h| h);exact h h5;exact h6 h)]
      cases h7:m.aB.any (cZ a b) with
      | false=>rw[if_pos rfl];exact .Y0 h hf h2 hg h4 h5 h6 h7
      | true=>
        rw[if_neg abW]
        by_cases h8:f.name=[]
        ·rw[if_neg (fun h=>h.1 h8)];exact .ok1 h hf h2 hg h4 h5 h6 h7 h8
        by_cases h9:g.name=[]
        ·rw[if_neg (fun h=>h.2.1 h9)];exact .ok2 h hf h2 hg h4 h5 h6 h7 h8 h9
        by_cases Gj:f.name=g.name
        ·rw[if_neg (fun h=>h.2.2 Gj)];exact .ok3 h hf h2 hg h4 h5 h6 h7 h8 h9 Gj
        ·rw[if_pos ⟨h8,h9,Gj⟩];exact .Y1 h hf h2 hg h4 h5 h6 h7 h8 h9 Gj
     ·rw[if_pos (.inl h5)];exact .bG h hf h2 hg h4 h5
theorem AP {m:aI} {a b c:Int} (h:tM m a b=c):il m a b c:=h ▸ Vu m a b
theorem lF {k:Bool} {fs:List aW} {id:Int} (h:findF fs id=none):cW false .nilp (bK k fs fs.length) (vi id)= .done .nilp:=
 xa _ (by rw[ajP];exact h)
theorem bN {k:Bool} {fs:List aW} {id:Int} {i:Nat} {f:aW} (h:findF fs id=some i) (hf:fs[i]? =some f):cW false .nilp (bK k fs fs.length) (vi id)= .done (E3 k i f):=
 xb _ (by rw[ajP];exact h) hf
theorem Hy {m:aI} {a b:Int} (hb:Ev E 495 [.lit 4 (m.aB.map Edge.v),vi a,vi b] ⟨.own 1 ((cg m.aB a b).map vi),[]⟩) (h:findF m.an a=none) (h2:findF m.an b=none):Ev E 501 [m.kv false,.mlit (bK false m.an m.an.length),vi a,vi b] ⟨vi 5,[]⟩:=by
 refine Ev.aD rfl rfl rfl ?_
 conv=>whnf
 repeat' (first| intro g| refine wi (lF h) ?_| refine wi (lF h2) ?_| refine st ?_| refine br ?_ ?_<;>intro hc| rfl) <;>conv=>whnf
theorem Hz {m:aI} {a b:Int} (hb:Ev E 495 [.lit 4 (m.aB.map Edge.v),vi a,vi b] ⟨.own 1 ((cg m.aB a b).map vi),[]⟩) {j:Nat} {g:aW} (h:findF m.an a=none) (h2:findF m.an b=some j) (h3:m.an[j]? =some g):Ev E 501 [m.kv false,.mlit (bK false m.an m.an.length),vi a,vi b] ⟨vi 5,[]⟩:=by
 refine Ev.aD rfl rfl rfl ?_
 conv=>whnf
 repeat' (first| intro g| refine wi (lF h) ?_| refine wi (bN h2 h3) ?_| refine st ?_| refine br ?_ ?_<;>intro hc| rfl) <;>conv=>whnf
theorem HA {m:aI} {a b:Int} (hb:Ev E 495 [.lit 4 (m.aB.map Edge.v),vi a,vi b] ⟨.own 1 ((cg m.aB a b).map vi),[]⟩) {i:Nat} {f:aW} (h:findF m.an a=some i) (h1:m.an[i]? =some f) (h2:findF m.an b=none):Ev E 501 [m.kv false,.mlit (bK false m.an m.an.length),vi a,vi b] ⟨vi 5,[]⟩:=by
 refine Ev.aD rfl rfl rfl ?_
 conv=>whnf
 repeat' (first| intro g| refine wi (bN h h1) ?_| refine wi (lF h2) ?_| refine st ?_| refine br ?_ ?_<;>intro hc| rfl) <;>conv=>whnf
theorem NV {m:aI} {a b:Int} (hb:Ev E 495 [.lit 4 (m.aB.map Edge.v),vi a,vi b] ⟨.own 1 ((cg m.aB a b).map vi),[]⟩) {i:Nat} {f:aW} (h:findF m.an a=some i) (h1:m.an[i]? =some f) (h2:a=b):Ev E 501 [m.kv false,.mlit (bK false m.an m.an.length),vi a,vi b] ⟨vi 1,[]⟩:=by
 subst h2
 refine Ev.aD rfl rfl rfl ?_
 conv=>whnf
 repeat' (first| intro g| refine wi (bN h h1) ?_| refine st ?_| refine br ?_ ?_<;>intro hc| rfl) <;>conv=>whnf
theorem Kn {m:aI} {a b:Int} (hb:Ev E 495 [.lit 4 (m.aB.map Edge.v),vi a,vi b] ⟨.own 1 ((cg m.aB a b).map vi),[]⟩) {i j:Nat} {f g:aW} (h:findF m.an a=some i) (h1:m.an[i]? =some f) (h2:findF m.an b=some j) (h3:m.an[j]? =some g) (h4:a≠b) (h5:f.bG≠g.bG):Ev E 501 [m.kv false,.mlit (bK false m.an m.an.length),vi a,vi b] ⟨vi 25,[]⟩:=by
 refine Ev.aD rfl rfl rfl ?_
 conv=>whnf
 repeat' (first| intro g| refine wi (bN h h1) ?_| refine wi (bN h2 h3) ?_| refine st ?_| refine br ?_ ?_<;>intro hc| rfl) <;>conv=>whnf
theorem HB {m:aI} {a b:Int} (hb:Ev E 495 [.lit 4 (m.aB.map Edge.v),vi a,vi b] ⟨.own 1 ((cg m.aB a b).map vi),[]⟩) {i j:Nat} {f g:aW} (h:findF m.an a=some i) (h1:m.an[i]? =some f) (h2:findF m.an b=some j) (h3:m.an[j]? =some g) (h4:a≠b) (h5:f.bG=g.bG) (h6:f.bG< 1):Ev E 501 [m.kv false,.mlit (bK false m.an m.an.length),vi a,vi b] ⟨vi 25,[]⟩:=by
 refine Ev.aD rfl rfl rfl ?_
 conv=>whnf
 repeat' (first| intro g| refine wi (bN h h1) ?_| refine wi (bN h2 h3) ?_| refine st ?_| refine br ?_ ?_<;>intro hc| rfl) <;>conv=>whnf
theorem Ko {m:aI} {a b:Int} (hb:Ev E 495 [.lit 4 (m.aB.map Edge.v),vi a,vi b] ⟨.own 1 ((cg m.aB a b).map vi),[]⟩) {i j:Nat} {f g:aW} (h:findF m.an a=some i) (h1:m.an[i]? =some f) (h2:findF m.an b=some j) (h3:m.an[j]? =some g) (h4:a≠b) (h5:f.bG=g.bG) (h6: ¬f.bG< 1) (h7:m.aB.any (cZ a b)=false):Ev E 501 [m.kv false,.mlit (bK false m.an m.an.length),vi a,vi b] ⟨vi 13,[]⟩:=by
 have hz:=sQ h7
 clear h7
 refine Ev.aD rfl rfl rfl ?_
 conv=>whnf
 repeat' (first| intro g| refine wi (bN h h1) ?_| refine wi (bN h2 h3) ?_| apply ca hb| refine st ?_| refine br ?_ ?_<;>intro hc| rfl) <;>conv=>whnf
theorem Kq {m:aI} {a b:Int} (hb:Ev E 495 [.lit 4 (m.aB.map Edge.v),vi a,vi b] ⟨.own 1 ((cg m.aB a b).map vi),[]⟩) {i j:Nat} {f g:aW} (h:findF m.an a=some i) (h1:m.an[i]? =some f) (h2:findF m.an b=some j) (h3:m.an[j]? =some g) (h4:a≠b) (h5:f.bG=g.bG) (h6: ¬f.bG< 1) (h7:m.aB.any (cZ a b)=true) (h8:f.name≠[]) (h9:g.name≠[]) (Gj:f.name≠g.name):Ev E 501 [m.kv false,.mlit (bK false m.an m.an.length),vi a,vi b] ⟨vi 24,[]⟩:=by
 have hz:=eJ h7
 clear h7
 refine Ev.aD rfl rfl rfl ?_
 conv=>whnf
 repeat' (first| intro g| refine wi (bN h h1) ?_| refine wi (bN h2 h3) ?_| apply ca hb| refine st ?_| refine br ?_ ?_<;>intro hc| rfl) <;>conv=>whnf
theorem NW {m:aI} {a b:Int} (hb:Ev E 495 [.lit 4 (m.aB.map Edge.v),vi a,vi b] ⟨.own 1 ((cg m.aB a b).map vi),[]⟩) {i j:Nat} {f g:aW} (h:findF m.an a=some i) (h1:m.an[i]? =some f) (h2:findF m.an b=some j) (h3:m.an[j]? =some g) (h4:a≠b) (h5:f.bG=g.bG) (h6: ¬f.bG< 1) (h7:m.aB.any (cZ a b)=true) (h8:f.name=[]):Ev E 501 [m.kv false,.mlit (bK false m.an m.an.length),vi a,vi b] ⟨vi 0,[]⟩:=by
 have hz:=eJ h7
 clear h7
 refine Ev.aD rfl rfl rfl ?_
 conv=>whnf
 repeat' (first| intro g| refine wi (bN h h1) ?_| refine wi (bN h2 h3) ?_| apply ca hb| refine st ?_| refine br ?_ ?_<;>intro hc| rfl) <;>conv=>whnf
theorem NX {m:aI} {a b:Int} (hb:Ev E 495 [.lit 4 (m.aB.map Edge.v),vi a,vi b] ⟨.own 1 ((cg m.aB a b).map vi),[]⟩) {i j:Nat} {f g:aW} (h:findF m.an a=some i) (h1:m.an[i]? =some f) (h2:findF m.an b=some j) (h3:m.an[j]? =some g) (h4:a≠b) (h5:f.bG=g.bG) (h6: ¬f.bG< 1) (h7:m.aB.any (cZ a b)=true) (h8:f.name≠[]) (h9:g.name=[]):Ev E 501 [m.kv false,.mlit (bK false m.an m.an.length),vi a,vi b] ⟨vi 0,[]⟩:=by
 have hz:=eJ h7
 clear h7
 refine Ev.aD rfl rfl rfl ?_
 conv=>whnf
 repeat' (first| intro g| refine wi (bN h h1) ?_| refine wi (bN h2 h3) ?_| apply ca hb| refine st ?_| refine br ?_ ?_<;>intro hc| rfl) <;>conv=>whnf
theorem NY {m:aI} {a b:Int} (hb:Ev E 495 [.lit 4 (m.aB.map Edge.v),vi a,vi b] ⟨.own 1 ((cg m.aB a b).map vi),[]⟩) {i j:Nat} {f g:aW} (h:findF m.an a=some i) (h1:m.an[i]? =some f) (h2:findF m.an b=some j) (h3:m.an[j]? =some g) (h4:a≠b) (h5:f.bG=g.bG) (h6: ¬f.bG< 1) (h7:m.aB.any (cZ a b)=true) (h8:f.name≠[]) (h9:g.name≠[]) (Gj:f.name=g.name):Ev E 501 [m.kv false,.mlit (bK false m.an m.an.length),vi a,vi b] ⟨vi 0,[]⟩:=by
 have hz:=eJ h7
 clear h7
 refine Ev.aD rfl rfl rfl ?_
 conv=>whnf
 repeat' (first| intro g| refine wi (bN h h1) ?_| refine wi (bN h2 h3) ?_| apply ca hb| refine st ?_| refine br ?_ ?_<;>intro hc| rfl) <;>conv=>whnf
theorem HC {m:aI} {a b:Int} (hb:Ev E 495 [.lit 4 (m.aB.map Edge.v),vi a,vi b] ⟨.own 1 ((cg m.aB a b).map vi),[]⟩) (h:findF m.an a=none) (h2:findF m.an b=none):Ev E 501 [m.kv true,.mlit (bK true m.an m.an.length),vi a,vi b] ⟨vi 5,[]⟩:=by
 refine Ev.aD rfl rfl rfl ?_
 conv=>whnf
 repeat' (first| intro g| refine wi (lF h) ?_| refine wi (lF h2) ?_| refine st ?_| refine br ?_ ?_<;>intro hc| rfl) <;>conv=>whnf
theorem HD {m:aI} {a b:Int} (hb:Ev E 495 [.lit 4 (m.aB.map Edge.v),vi a,vi b] ⟨.own 1 ((cg m.aB a b).map vi),[]⟩) {j:Nat} {g:aW} (h:findF m.an a=none) (h2:findF m.an b=some j) (h3:m.an[j]? =some g):Ev E 501 [m.kv true,.mlit (bK true m.an m.an.length),vi a,vi b] ⟨vi 5,[]⟩:=by
 refine Ev.aD rfl rfl rfl ?_
 conv=>whnf
 repeat' (first| intro g| refine wi (lF h) ?_| refine wi (bN h2 h3) ?_| refine st ?_| refine br ?_ ?_<;>intro hc| rfl) <;>conv=>whnf
theorem HE {m:aI} {a b:Int} (hb:Ev E 495 [.lit 4 (m.aB.map Edge.v),vi a,vi b] ⟨.own 1 ((cg m.aB a b).map vi),[]⟩) {i:Nat} {f:aW} (h:findF m.an a=some i) (h1:m.an[i]? =some f) (h2:findF m.an b=none):Ev E 501 [m.kv true,.mlit (bK true m.an m.an.length),vi a,vi b] ⟨vi 5,[]⟩:=by
 refine Ev.aD rfl rfl rfl ?_
 conv=>whnf
 repeat' (first| intro g| refine wi (bN h h1) ?_| refine wi (lF h2) ?_| refine st ?_| refine br ?_ ?_<;>intro hc| rfl) <;>conv=>whnf
theorem NZ {m:aI} {a b:Int} (hb:Ev E 495 [.lit 4 (m.aB.map Edge.v),vi a,vi b] ⟨.own 1 ((cg m.aB a b).map vi),[]⟩) {i:Nat} {f:aW} (h:findF m.an a=some i) (h1:m.an[i]? =some f) (h2:a=b):Ev E 501 [m.kv true,.mlit (bK true m.an m.an.length),vi a,vi b] ⟨vi 1,[]⟩:=by
 subst h2
 refine Ev.aD rfl rfl rfl ?_
 conv=>whnf
 repeat' (first| intro g| refine wi (bN h h1) ?_| refine st ?_| refine br ?_ ?_<;>intro hc| rfl) <;>conv=>whnf
theorem Kr {m:aI} {a b:Int} (hb:Ev E 495 [.lit 4 (m.aB.map Edge.v),vi a,vi b] ⟨.own 1 ((cg m.aB a b).map vi),[]⟩) {i j:Nat} {f g:aW} (h:findF m.an a=some i) (h1:m.an[i]? =some f) (h2:findF m.an b=some j) (h3:m.an[j]? =some g) (h4:a≠b) (h5:f.bG≠g.bG):Ev E 501 [m.kv true,.mlit (bK true m.an m.an.length),vi a,vi b] ⟨vi 25,[]⟩:=by
 refine Ev.aD rfl rfl rfl ?_
 conv=>whnf
 repeat' (first| intro g| refine wi (bN h h1) ?_| refine wi (bN h2 h3) ?_| refine st ?_| refine br ?_ ?_<;>intro hc| rfl) <;>conv=>whnf
theorem HF {m:aI} {a b:Int} (hb:Ev E 495 [.lit 4 (m.aB.map Edge.v),vi a,vi b] ⟨.own 1 ((cg m.aB a b).map vi),[]⟩) {i j:Nat} {f g:aW} (h:findF m.an a=some i) (h1:m.an[i]? =some f) (h2:findF m.an b=some j) (h3:m.an[j]? =some g) (h4:a≠b) (h5:f.bG=g.bG) (h6:f.bG< 1):Ev E 501 [m.kv true,.mlit (bK true m.an m.an.length),vi a,vi b] ⟨vi 25,[]⟩:=by
 refine Ev.aD rfl rfl rfl ?_
 conv=>whnf
 repeat' (first| intro g| refine wi (bN h h1) ?_| refine wi (bN h2 h3) ?_| refine st ?_| refine br ?_ ?_<;>intro hc| rfl) <;>conv=>whnf
theorem Ks {m:aI} {a b:Int} (hb:Ev E 495 [.lit 4 (m.aB.map Edge.v),vi a,vi b] ⟨.own 1 ((cg m.aB a b).map vi),[]⟩) {i j:Nat} {f g:aW} (h:findF m.an a=some i) (h1:m.an[i]? =some f) (h2:findF m.an b=some j) (h3:m.an[j]? =some g) (h4:a≠b) (h5:f.bG=g.bG) (h6: ¬f.bG< 1) (h7:m.aB.any (cZ a b)=false):Ev E 501 [m.kv true,.mlit (bK true m.an m.an.length),vi a,vi b] ⟨vi 13,[]⟩:=by
 have hz:=sQ h7
 clear h7
 refine Ev.aD rfl rfl rfl ?_
 conv=>whnf
 repeat' (first| intro g| refine wi (bN h h1) ?_| refine wi (bN h2 h3) ?_| apply ca hb| refine st ?_| refine br ?_ ?_<;>intro hc| rfl) <;>conv=>whnf
theorem Kt {m:aI} {a b:Int} (hb:Ev E 495 [.lit 4 (m.aB.map Edge.v),vi a,vi b] ⟨.own 1 ((cg m.aB a b).map vi),[]⟩) {i j:Nat} {f g:aW} (h:findF m.an a=some i) (h1:m.an[i]? =some f) (h2:findF m.an b=some j) (h3:m.an[j]? =some g) (h4:a≠b) (h5:f.bG=g.bG) (h6: ¬f.bG< 1) (h7:m.aB.any (cZ a b)=true) (h8:f.name≠[]) (h9:g.name≠[]) (Gj:f.name≠g.name):Ev E 501 [m.kv true,.mlit (bK true m.an m.an.length),vi a,vi b] ⟨vi 24,[]⟩:=by
 have hz:=eJ h7
 clear h7
 refine Ev.aD rfl rfl rfl ?_
 conv=>whnf
 repeat' (first| intro g| refine wi (bN h h1) ?_| refine wi (bN h2 h3) ?_| apply ca hb| refine st ?_| refine br ?_ ?_<;>intro hc| rfl) <;>conv=>whnf
theorem N3 {m:aI} {a b:Int} (hb:Ev E 495 [.lit 4 (m.aB.map Edge.v),vi a,vi b] ⟨.own 1 ((cg m.aB a b).map vi),[]⟩) {i j:Nat} {f g:aW} (h:findF m.an a=some i) (h1:m.an[i]? =some f) (h2:findF m.an b=some j) (h3:m.an[j]? =some g) (h4:a≠b) (h5:f.bG=g.bG) (h6: ¬f.bG< 1) (h7:m.aB.any (cZ a b)=true) (h8:f.name=[]):Ev E 501 [m.kv true,.mlit (bK true m.an m.an.length),vi a,vi b] ⟨vi 0,[]⟩:=by
 have hz:=eJ h7
 clear h7
 refine Ev.aD rfl rfl rfl ?_
 conv=>whnf
 repeat' (first| intro g| refine wi (bN h h1) ?_| refine wi (bN h2 h3) ?_| apply ca hb| refine st ?_| refine br ?_ ?_<;>intro hc| rfl) <;>conv=>whnf
theorem N4 {m:aI} {a b:Int} (hb:Ev E 495 [.lit 4 (m.aB.map Edge.v),vi a,vi b] ⟨.own 1 ((cg m.aB a b).map vi),[]⟩) {i j:Nat} {f g:aW} (h:findF m.an a=some i) (h1:m.an[i]? =some f) (h2:findF m.an b=some j) (h3:m.an[j]? =some g) (h4:a≠b) (h5:f.bG=g.bG) (h6: ¬f.bG< 1) (h7:m.aB.any (cZ a b)=true) (h8:f.name≠[]) (h9:g.name=[]):Ev E 501 [m.kv true,.mlit (bK true m.an m.an.length),vi a,vi b] ⟨vi 0,[]⟩:=by
 have hz:=eJ h7
 clear h7
 refine Ev.aD rfl rfl rfl ?_
 conv=>whnf
 repeat' (first| intro g| refine wi (bN h h1) ?_| refine wi (bN h2 h3) ?_| apply ca hb| refine st ?_| refine br ?_ ?_<;>intro hc| rfl) <;>conv=>whnf
theorem N6 {m:aI} {a b:Int} (hb:Ev E 495 [.lit 4 (m.aB.map Edge.v),vi a,vi b] ⟨.own 1 ((cg m.aB a b).map vi),[]⟩) {i j:Nat} {f g:aW} (h:findF m.an a=some i) (h1:m.an[i]? =some f) (h2:findF m.an b=some j) (h3:m.an[j]? =some g) (h4:a≠b) (h5:f.bG=g.bG) (h6: ¬f.bG< 1) (h7:m.aB.any (cZ a b)=true) (h8:f.name≠[]) (h9:g.name≠[]) (Gj:f.name=g.name):Ev E 501 [m.kv true,.mlit (bK true m.an m.an.length),vi a,vi b] ⟨vi 0,[]⟩:=by
 have hz:=eJ h7
 clear h7
 refine Ev.aD rfl rfl rfl ?_
 conv=>whnf
 repeat' (first| intro g| refine wi (bN h h1) ?_| refine wi (bN h2 h3) ?_| apply ca hb| refine st ?_| refine br ?_ ?_<;>intro hc| rfl) <;>conv=>whnf
theorem zw (k:Bool) {m:aI} (hs:qz m) (a b:Int):Ev E 501 [m.kv k,.mlit (bK k m.an m.an.length),vi a,vi b] ⟨vi (tM m a b),[]⟩:=by
 have hb:=J4 hs.1 a b
 generalize hr:tM m a b=r
 have hc:=AP hr
 clear hr hs
 cases k
 ·cases hc with
  | RJ h h2=>exact Hy hb h h2
  | RK h h2 h3=>exact Hz hb h h2 h3
  | RL h h1 h2=>exact HA hb h h1 h2
  | arg h h1 h2=>exact NV hb h h1 h2
  | bG h h1 h2 h3 h4 h5=>exact Kn hb h h1 h2 h3 h4 h5
  | RM h h1 h2 h3 h4 h5 h6=>exact HB hb h h1 h2 h3 h4 h5 h6
  | Y0 h h1 h2 h3 h4 h5 h6 h7=>exact Ko hb h h1 h2 h3 h4 h5 h6 h7
  | Y1 h h1 h2 h3 h4 h5 h6 h7 h8 h9 Gj=>exact Kq hb h h1 h2 h3 h4 h5 h6 h7 h8 h9 Gj
  | ok1 h h1 h2 h3 h4 h5 h6 h7 h8=>exact NW hb h h1 h2 h3 h4 h5 h6 h7 h8
  | ok2 h h1 h2 h3 h4 h5 h6 h7 h8 h9=>exact NX hb h h1 h2 h3 h4 h5 h6 h7 h8 h9
  | ok3 h h1 h2 h3 h4 h5 h6 h7 h8 h9 Gj=>exact NY hb h h1 h2 h3 h4 h5 h6 h7 h8 h9 Gj
 ·cases hc with
  | RJ h h2=>exact HC hb h h2
  | RK h h2 h3=>exact HD hb h h2 h3
  | RL h h1 h2=>exact HE hb h h1 h2
  | arg h h1 h2=>exact NZ hb h h1 h2
  | bG h h1 h2 h3 h4 h5=>exact Kr hb h h1 h2 h3 h4 h5
  | RM h h1 h2 h3 h4 h5 h6=>exact HF hb h h1 h2 h3 h4 h5 h6
  | Y0 h h1 h2 h3 h4 h5 h6 h7=>exact Ks hb h h1 h2 h3 h4 h5 h6 h7
  | Y1 h h1 h2 h3 h4 h5 h6 h7 h8 h9 Gj=>exact Kt hb h h1 h2 h3 h4 h5 h6 h7 h8 h9 Gj
  | ok1 h h1 h2 h3 h4 h5 h6 h7 h8=>exact N3 hb h h1 h2 h3 h4 h5 h6 h7 h8
  | ok2 h h1 h2 h3 h4 h5 h6 h7 h8 h9=>exact N4 hb h h1 h2 h3 h4 h5 h6 h7 h8 h9
  | ok3 h h1 h2 h3 h4 h5 h6 h7 h8 h9 Gj=>exact N6 hb h h1 h2 h3 h4 h5 h6 h7 h8 h9 Gj
end Go.AM
namespace Go.AM
theorem aI.qA (k:Bool) (m:aI): (m.kv k).aw=true:=by
 cases k<;>simp only[aI.kv,E4,V.aw,V.al,Edge.aN,aW.aN,Way.aN,Place.aN,ajD]
theorem Vv {m:aI} (hs:qz m) (a b:Int):Ev E 487 [m.v,vi a,vi b] ⟨vi (tM m a b),[]⟩:=by
 have h1:=qy false hs.2
 have h2:=zw false hs a b
 have NU:=ki false m.an m.an.length
 have Jk:bz E 500=[]:=rfl
 have Xj:bz E 501=[]:=rfl
 have Ku:V.al [m.v]=true:=by
  have h0:V.aw m.v=true:=aI.qA false m
  simp only[V.al,h0];rfl
 have RN:V.al [m.v,.mlit (bK false m.an m.an.length),vi a,vi b]=true:=by
  have h0:V.aw m.v=true:=aI.qA false m
  simp only[V.al,NU,h0];rfl
 refine Ev.aD rfl rfl rfl ?_
 conv=>whnf
 repeat' (first| refine fB Jk Ku h1 NU ?_| refine fB Xj RN h2 rfl ?_| intro g| refine st ?_| refine br ?_ ?_<;>intro hc| rfl) <;>conv=>whnf
end Go.AM
namespace Go.AM
structure Y2 (m:aI):Prop where
 e:m.aB.length< 1000
 f:m.an.length< 1000
 w:m.ways.length< 1000
 p:m.az.length< 1000
 el: ∀e ∈ m.aB,e.line.length< 1000
 wl: ∀w ∈ m.ways,w.line.length< 1000
def dX (a b x:Int):Int:=if x=a then b else x
theorem vt (a b x:Int):Ev E 502 [vi x,.eptr (vi a) 0,.eptr (vi b) 0] ⟨vi (dX a b x),[]⟩:=by
 unfold dX
 refine Ev.aD rfl rfl rfl ?_
 conv=>whnf
 repeat' (first| intro g| refine st ?_| refine br ?_ ?_<;>intro hc| rfl) <;>conv=>whnf
 ·rw[if_pos hc]
 ·rw[if_neg hc]
def iy (a b:Int) (e:Edge):Edge:=⟨e.id,e.line,dX a b e.left,dX a b e.right⟩
def eB (es:List Edge) (a b:Int):Nat→List Edge
 | 0=> []
 | n+1=>match es[n]? with
   | some e=>if cZ a b e then eB es a b n else eB es a b n++[iy a b e]
   | none=>eB es a b n
def DG (x f:aW):aW:=⟨x.id,x.cls,Xk x.name f.name,if 255 <gC (x.weight+f.weight) then 255 else gC (x.weight+f.weight),x.bG⟩
def dx (fs:List aW) (i j:Nat) (f:aW):Nat→List aW
 | 0=> []
 | n+1=>match fs[n]? with
   | some x=>if n=i then dx fs i j f n else if n=j then dx fs i j f n++[DG x f] else dx fs i j f n++[x]
   | none=>dx fs i j f n
theorem pc (es:List Edge) (a b:Int): ∀n,(eB es a b n).length≤n
 | 0=>aiZ _
 | n+1=>by
   have:=pc es a b n
   unfold eB;split
   ·split
    ·omega
    ·simp;omega
   ·omega
theorem mq (fs:List aW) (i j:Nat) (f:aW): ∀n,(dx fs i j f n).length≤n
 | 0=>aiZ _
 | n+1=>by
   have:=mq fs i j f n
   unfold dx;split
   ·split
    ·omega
    ·split<;> (simp;omega)
   ·omega
theorem AQ {a b:Int} (h:a≠b) (e:Edge):cZ a b e=decide (dX a b e.left=b∧dX a b e.right=b∧e.left≠e.right):=by
 unfold cZ dX
 rw[decide_eq_decide]
 by_cases h1:e.left=a<;>by_cases h2:e.right=a<;>by_cases h3:e.left=b<;>by_cases h4:e.right=b<;>simp_all
theorem fS {α:Type} {f:α→V} (h: ∀x,(f x).erase=f x): ∀l:List α,V.erases (l.map f)=l.map f
 | []=>rfl
 | x::l=>by simp only[List.map_cons,V.erases,h x,fS h l]
theorem Pt.er (p:Pt):p.v.erase=p.v:=rfl
theorem Edge.er (e:Edge):e.v.erase=e.v:=by simp only[Edge.v,iP,V.erase,V.erases,vi,fS Pt.er]
theorem aW.er (e:aW):e.v.erase=e.v:=rfl
theorem Way.er (e:Way):e.v.erase=e.v:=by simp only[Way.v,iP,V.erase,V.erases,vi,fS Pt.er]
theorem Place.er (e:Place):e.v.erase=e.v:=rfl
theorem HG (m:aI) (a b:Int):cH (0,1) [m.v,vi a,vi b]=[m.kv true,vi a,vi b]:=by
 simp only[cH,V.erases,V.erase,aI.v,vi,fS Edge.er,fS aW.er,fS Way.er,fS Place.er]
 rfl
def oL (sz:Nat):List V→V
 | []=> .lit sz []
 | x::l=> .own sz (x::l)
theorem Xq {α:Type} {f:α→V} (h: ∀x,(f x).erase=f x) (sz:Nat) (l:List α): (oL sz (l.map f)).erase=oL sz (l.map f):=by
 cases l with
 | nil=>rfl
 | cons x l=>simp only[List.map_cons,oL,V.erase,V.erases,h x,fS h]
def Kv (m:aI) (es:List Edge) (fs:List aW):V:= .tuple [.agg [oL 4 (es.map Edge.v),.own 5 (fs.map aW.v),oL 8 (m.ways.map Way.v),.own 7 (m.az.map Place.v)],vi 0]
theorem Vw (m:aI) (es:List Edge) (fs:List aW): (Kv m es fs).erase=Kv m es fs:=by
 simp only[Kv,V.erase,V.erases,vi,Xq Edge.er,Xq Way.er,fS aW.er,fS Place.er]
end Go.AM
namespace Go.AM
theorem Kw {m:aI} (hs:Y2 m) (a b:Int) (hc:tM m a b≠0):Ev E 485 [m.v,vi a,vi b] ⟨.tuple [aI.zero.v,vi (tM m a b)],[]⟩:=by
 have h1:=qy true (m:=m) (by have:=hs.f;omega)
 have h2:=zw true (m:=m) ⟨by have:=hs.e;omega,by have:=hs.f;omega⟩ a b
 have NU:=ki true m.an m.an.length
 have h0:=aI.qA true m
 have Jk:bz E 500=[]:=rfl
 have Xj:bz E 501=[]:=rfl
 have Ku:V.al [m.kv true]=true:=by simp only[V.al,h0];rfl
 have RN:V.al [m.kv true,.mlit (bK true m.an m.an.length),vi a,vi b]=true:=by simp only[V.al,NU,h0];rfl
 generalize tM m a b=c at*
 obtain⟨res,h3,h4⟩:=Ev.Xd (R:=fun r=>r=⟨.tuple [aI.zero.v,vi c],[]⟩) Xf (Xg _) rfl rfl (by simp only[V.al,show V.aw m.v=true from aI.qA false m];rfl) (HG m a b) (by
  conv=>whnf
  repeat' (first| refine fB Jk Ku h1 NU ?_| refine fB Xj RN h2 rfl ?_| intro g| refine st ?_| refine br ?_ ?_<;>intro hc| rfl) <;>conv=>whnf
  )
 rw[h4] at h3
 exact h3
end Go.AM
namespace Go.AM
structure RO where
 g3:Nat
 g4:Nat
 g5:Nat
 g6:Nat
 gP:Nat
 g10:Nat
abbrev CB (G:RO) (M:V) (x:List (Nat×V)):List (Nat×V):=(3,.ptr 64 G.g3 0 0):: (4,.ptr 80 G.g4 0 0):: (5,.ptr 96 G.g5 0 0):: (6,.ptr 112 G.g6 0 0):: (8,M):: (10,.ptr 176 G.g10 0 0)::x
abbrev CC (G:RO) (m:aI) (a b:Int) (E' F W:V) (x:List (Nat×Obj)):List (Nat×Obj):=
 (64,⟨G.g3,4,false,false,some [m.kv true]⟩):: (80,⟨G.g4,1,false,false,some [vi a]⟩):: (96,⟨G.g5,1,false,false,some [vi b]⟩):: (112,⟨G.g6,4,false,false,some [aI.zero.v]⟩)::
 (576,⟨G.gP,7,true,false,some (m.az.map Place.v)⟩):: (176,⟨G.g10,4,false,false,some [.agg [E',F,W,.sl 576 G.gP 0 (m.az.map Place.v).length]]⟩)::x
abbrev lV (r:Nat) (og:Option Nat) (n:Nat):V:=match og with
 | none=> .nils
 | some g=> .sl r g 0 n
abbrev lR (r sz:Nat) (og:Option Nat) (l:List V):List (Nat×Obj):=match og with
 | none=> []
 | some g=> [(r,⟨g,sz,true,false,some l⟩)]
theorem ag6 {m:aI} {a b:Int} {G:RO} {M:V} {n k:Nat} {og:Option Nat} {x:Way} {ws:List V} {L:List Way} {Q:aR→SS→Prop} (hx:ws[k]? =some x.v) (hn:ws.length=n) (hk:k<n) (hb:n< 1000) (hL:L.length=k) (tK:og=none→L=[])
   (iB:Ev E 32 [iP x.line] ⟨.own 2 (x.line.map Pt.v),[]⟩)
   (hQ: ∀T' O' g',SS.Sub ⟨CB G M [(38,.lit 8 ws),(39,av n),(40,av (k+1))],CC G m a b .nils .nils (.sl 180 g' 0 (L++[x]).length) [(180,⟨g',8,true,false,some ((L++[x]).map Way.v)⟩)]⟩ ⟨T',O'⟩→Q .normal ⟨T',O'⟩):
   kW E U1 ⟨CB G M [(38,.lit 8 ws),(39,av n),(40,av k)],CC G m a b .nils .nils (lV 180 og L.length) (lR 180 8 og (L.map Way.v))⟩ Q:=by
 cases og with
 | none=>
   have:=tK rfl
   subst this
   conv=>whnf
   repeat' (first| intro g| refine wi hx ?_| apply ca iB| refine st ?_| refine br ?_ ?_<;>intro hc| rfl) <;>conv=>whnf
   exact hQ _ _ _ su
 | some g0=>
   conv=>whnf
   repeat' (first| intro g| refine wi hx ?_| apply ca iB| refine st ?_| refine br ?_ ?_<;>intro hc| rfl) <;>conv=>whnf
   exact hQ _ _ _ su
theorem Y3 {m:aI} {a b:Int} {G:RO} {M:V} {n k nw:Nat} {og ow:Option Nat} {e:Edge} {es ws:List V} {L:List Edge} {Q:aR→SS→Prop} (hx:es[k]? =some e.v) (hn:es.length=n) (hk:k<n) (hb:n< 1000) (hL:L.length≤k)
  (h1:dX a b e.left=b) (h2:dX a b e.right=b) (h3: ¬e.left=e.right) (hl:Ev E 502 [vi e.left,.eptr (vi a) 0,.eptr (vi b) 0] ⟨vi (dX a b e.left),[]⟩) (hr:Ev E 502 [vi e.right,.eptr (vi a) 0,.eptr (vi b) 0] ⟨vi (dX a b e.right),[]⟩)
  (hQ: ∀T' O',SS.Sub ⟨CB G M [(13,.fn 502 [.ptr 80 G.g4 0 0,.ptr 96 G.g5 0 0]),(57,.lit 4 es),(58,av n),(59,av (k+1))],CC G m a b (lV 178 og L.length) .nils (lV 180 ow nw) (lR 178 4 og (L.map Edge.v)++lR 180 8 ow ws)⟩ ⟨T',O'⟩→Q .normal ⟨T',O'⟩):
  kW E uY ⟨CB G M [(13,.fn 502 [.ptr 80 G.g4 0 0,.ptr 96 G.g5 0 0]),(57,.lit 4 es),(58,av n),(59,av k)],CC G m a b (lV 178 og L.length) .nils (lV 180 ow nw) (lR 178 4 og (L.map Edge.v)++lR 180 8 ow ws)⟩ Q:=by
 rw[h1] at hl
 rw[h2] at hr
 cases og<;>cases ow
 all_goals
  conv=>whnf
  repeat' (first| intro g| refine wi hx ?_| apply ca hl| apply ca hr| refine st ?_| refine br ?_ ?_<;>intro hc| rfl) <;>conv=>whnf
  exact hQ _ _ su
theorem acL {m:aI} {a b:Int} {G:RO} {M:V} {n k nw:Nat} {og ow:Option Nat} {e:Edge} {es ws:List V} {L:List Edge} {Q:aR→SS→Prop} (hx:es[k]? =some e.v) (hn:es.length=n) (hk:k<n) (hb:n< 1000) (hL:L.length≤k) (tK:og=none→L=[])
  (iB:Ev E 32 [iP e.line] ⟨.own 2 (e.line.map Pt.v),[]⟩) (hl:Ev E 502 [vi e.left,.eptr (vi a) 0,.eptr (vi b) 0] ⟨vi (dX a b e.left),[]⟩) (hr:Ev E 502 [vi e.right,.eptr (vi a) 0,.eptr (vi b) 0] ⟨vi (dX a b e.right),[]⟩)
  (h1:dX a b e.left=b) (h2:dX a b e.right=b) (h3:e.left=e.right)
  (hQ: ∀T' O' g',SS.Sub ⟨CB G M [(13,.fn 502 [.ptr 80 G.g4 0 0,.ptr 96 G.g5 0 0]),(57,.lit 4 es),(58,av n),(59,av (k+1))],CC G m a b (.sl 178 g' 0 (L++[iy a b e]).length) .nils (lV 180 ow nw) ([(178,⟨g',4,true,false,some ((L++[iy a b e]).map Edge.v)⟩)]++lR 180 8 ow ws)⟩ ⟨T',O'⟩→Q .normal ⟨T',O'⟩):
  kW E uY ⟨CB G M [(13,.fn 502 [.ptr 80 G.g4 0 0,.ptr 96 G.g5 0 0]),(57,.lit 4 es),(58,av n),(59,av k)],CC G m a b (lV 178 og L.length) .nils (lV 180 ow nw) (lR 178 4 og (L.map Edge.v)++lR 180 8 ow ws)⟩ Q:=by
 rw[h1] at hl
 rw[h2] at hr
 have Fa:iy a b e=⟨e.id,e.line,b,b⟩:=by simp only[iy,h1,h2]
 rw[Fa] at hQ
 clear Fa
 clear h1 h2
 cases og<;>cases ow
 all_goals
  try (have:=tK rfl;subst this)
  conv=>whnf
  repeat' (first| intro g| refine wi hx ?_| apply ca hl| apply ca hr| apply ca iB| refine st ?_| refine br ?_ ?_<;>intro hc| rfl) <;>conv=>whnf
  exact hQ _ _ _ su
theorem acM {m:aI} {a b:Int} {G:RO} {M:V} {n k nw:Nat} {og ow:Option Nat} {e:Edge} {es ws:List V} {L:List Edge} {Q:aR→SS→Prop} (hx:es[k]? =some e.v) (hn:es.length=n) (hk:k<n) (hb:n< 1000) (hL:L.length≤k) (tK:og=none→L=[])
  (iB:Ev E 32 [iP e.line] ⟨.own 2 (e.line.map Pt.v),[]⟩) (hl:Ev E 502 [vi e.left,.eptr (vi a) 0,.eptr (vi b) 0] ⟨vi (dX a b e.left),[]⟩) (hr:Ev E 502 [vi e.right,.eptr (vi a) 0,.eptr (vi b) 0] ⟨vi (dX a b e.right),[]⟩)
  (h1:dX a b e.left=b) (h2: ¬dX a b e.right=b)
  (hQ: ∀T' O' g',SS.Sub ⟨CB G M [(13,.fn 502 [.ptr 80 G.g4 0 0,.ptr 96 G.g5 0 0]),(57,.lit 4 es),(58,av n),(59,av (k+1))],CC G m a b (.sl 178 g' 0 (L++[iy a b e]).length) .nils (lV 180 ow nw) ([(178,⟨g',4,true,false,some ((L++[iy a b e]).map Edge.v)⟩)]++lR 180 8 ow ws)⟩ ⟨T',O'⟩→Q .normal ⟨T',O'⟩):
  kW E uY ⟨CB G M [(13,.fn 502 [.ptr 80 G.g4 0 0,.ptr 96 G.g5 0 0]),(57,.lit 4 es),(58,av n),(59,av k)],CC G m a b (lV 178 og L.length) .nils (lV 180 ow nw) (lR 178 4 og (L.map Edge.v)++lR 180 8 ow ws)⟩ Q:=by
 rw[h1] at hl
 have Fa:iy a b e=⟨e.id,e.line,b,dX a b e.right⟩:=by simp only[iy,h1]
 rw[Fa] at hQ
 clear Fa
 generalize dX a b e.right=r at*
 clear h1
 cases og<;>cases ow
 all_goals
  try (have:=tK rfl;subst this)
  conv=>whnf
  repeat' (first| intro g| refine wi hx ?_| apply ca hl| apply ca hr| apply ca iB| refine st ?_| refine br ?_ ?_<;>intro hc| rfl) <;>conv=>whnf
  exact hQ _ _ _ su
theorem acN {m:aI} {a b:Int} {G:RO} {M:V} {n k nw:Nat} {og ow:Option Nat} {e:Edge} {es ws:List V} {L:List Edge} {Q:aR→SS→Prop} (hx:es[k]? =some e.v) (hn:es.length=n) (hk:k<n) (hb:n< 1000) (hL:L.length≤k) (tK:og=none→L=[])
  (iB:Ev E 32 [iP e.line] ⟨.own 2 (e.line.map Pt.v),[]⟩) (hl:Ev E 502 [vi e.left,.eptr (vi a) 0,.eptr (vi b) 0] ⟨vi (dX a b e.left),[]⟩) (hr:Ev E 502 [vi e.right,.eptr (vi a) 0,.eptr (vi b) 0] ⟨vi (dX a b e.right),[]⟩)
  (h1: ¬dX a b e.left=b)
  (hQ: ∀T' O' g',SS.Sub ⟨CB G M [(13,.fn 502 [.ptr 80 G.g4 0 0,.ptr 96 G.g5 0 0]),(57,.lit 4 es),(58,av n),(59,av (k+1))],CC G m a b (.sl 178 g' 0 (L++[iy a b e]).length) .nils (lV 180 ow nw) ([(178,⟨g',4,true,false,some ((L++[iy a b e]).map Edge.v)⟩)]++lR 180 8 ow ws)⟩ ⟨T',O'⟩→Q .normal ⟨T',O'⟩):
  kW E uY ⟨CB G M [(13,.fn 502 [.ptr 80 G.g4 0 0,.ptr 96 G.g5 0 0]),(57,.lit 4 es),(58,av n),(59,av k)],CC G m a b (lV 178 og L.length) .nils (lV 180 ow nw) (lR 178 4 og (L.map Edge.v)++lR 180 8 ow ws)⟩ Q:=by
 have Fa:iy a b e=⟨e.id,e.line,dX a b e.left,dX a b e.right⟩:=rfl
 rw[Fa] at hQ
 clear Fa
 generalize dX a b e.left=l at*
 generalize dX a b e.right=r at*
 cases og<;>cases ow
 all_goals
  try (have:=tK rfl;subst this)
  conv=>whnf
  repeat' (first| intro g| refine wi hx ?_| apply ca hl| apply ca hr| apply ca iB| refine st ?_| refine br ?_ ?_<;>intro hc| rfl) <;>conv=>whnf
  exact hQ _ _ _ su
theorem Vx {m:aI} {a b:Int} {G:RO} {M:V} {n k nw:Nat} {og ow:Option Nat} {e:Edge} {es ws:List V} {L:List Edge} {Q:aR→SS→Prop} (hx:es[k]? =some e.v) (hn:es.length=n) (hk:k<n) (hb:n< 1000) (hL:L.length≤k) (tK:og=none→L=[])
  (iB:Ev E 32 [iP e.line] ⟨.own 2 (e.line.map Pt.v),[]⟩) (hl:Ev E 502 [vi e.left,.eptr (vi a) 0,.eptr (vi b) 0] ⟨vi (dX a b e.left),[]⟩) (hr:Ev E 502 [vi e.right,.eptr (vi a) 0,.eptr (vi b) 0] ⟨vi (dX a b e.right),[]⟩) (Gh:a≠b) (ht:cZ a b e=false)
  (hQ: ∀T' O' g',SS.Sub ⟨CB G M [(13,.fn 502 [.ptr 80 G.g4 0 0,.ptr 96 G.g5 0 0]),(57,.lit 4 es),(58,av n),(59,av (k+1))],CC G m a b (.sl 178 g' 0 (L++[iy a b e]).length) .nils (lV 180 ow nw) ([(178,⟨g',4,true,false,some ((L++[iy a b e]).map Edge.v)⟩)]++lR 180 8 ow ws)⟩ ⟨T',O'⟩→Q .normal ⟨T',O'⟩):
  kW E uY ⟨CB G M [(13,.fn 502 [.ptr 80 G.g4 0 0,.ptr 96 G.g5 0 0]),(57,.lit 4 es),(58,av n),(59,av k)],CC G m a b (lV 178 og L.length) .nils (lV 180 ow nw) (lR 178 4 og (L.map Edge.v)++lR 180 8 ow ws)⟩ Q:=by
 rw[AQ Gh] at ht
 by_cases h1:dX a b e.left=b
 ·by_cases h2:dX a b e.right=b
  ·by_cases h3:e.left=e.right
   ·exact acL hx hn hk hb hL tK iB hl hr h1 h2 h3 hQ
   ·simp[h1,h2,h3] at ht
  ·exact acM hx hn hk hb hL tK iB hl hr h1 h2 hQ
 ·exact acN hx hn hk hb hL tK iB hl hr h1 hQ
end Go.AM
namespace Go.AM
theorem RP {m:aI} {a b:Int} {G:RO} {M:V} {n k i j ne nw:Nat} {f g x:aW} {og oe ow:Option Nat} {es ws:List V} {L:List aW} {Q:aR→SS→Prop} (hx: (m.an.map aW.v)[k]? =some x.v) (hn:m.an.length=n) (hk:k<n) (hb:n< 1000) (hL:L.length≤k) (tK:og=none→L=[]) (h1:k=i)
  (hQ: ∀T' O',SS.Sub ⟨CB G M [(18,.epk i 5 f.v 0),(19,.epk j 5 g.v 0),(109,av n),(110,av (k+1))],CC G m a b (lV 178 oe ne) (lV 179 og L.length) (lV 180 ow nw) (lR 179 5 og (L.map aW.v)++lR 178 4 oe es++lR 180 8 ow ws)⟩ ⟨T',O'⟩→Q .normal ⟨T',O'⟩):
  kW E EO ⟨CB G M [(18,.epk i 5 f.v 0),(19,.epk j 5 g.v 0),(109,av n),(110,av k)],CC G m a b (lV 178 oe ne) (lV 179 og L.length) (lV 180 ow nw) (lR 179 5 og (L.map aW.v)++lR 178 4 oe es++lR 180 8 ow ws)⟩ Q:=by
 subst h1
 have Cm: (((k:Int).toNat==k) !=false)=true:=abW
 cases og<;>cases oe<;>cases ow
 all_goals
  conv=>whnf
  repeat' (first| intro g| refine wi hx ?_| refine st ?_| refine br ?_ ?_<;>intro hc| rfl) <;>conv=>whnf
  exact hQ _ _ su
theorem RQ {m:aI} {a b:Int} {G:RO} {M:V} {n k i j ne nw:Nat} {f g x:aW} {og oe ow:Option Nat} {es ws:List V} {L:List aW} {Q:aR→SS→Prop} (hx: (m.an.map aW.v)[k]? =some x.v) (hn:m.an.length=n) (hk:k<n) (hb:n< 1000) (hL:L.length≤k) (tK:og=none→L=[]) (h1: ¬k=i) (h2: ¬k=j)
  (hQ: ∀T' O' g',SS.Sub ⟨CB G M [(18,.epk i 5 f.v 0),(19,.epk j 5 g.v 0),(109,av n),(110,av (k+1))],CC G m a b (lV 178 oe ne) (.sl 179 g' 0 (L++[x]).length) (lV 180 ow nw) ([(179,⟨g',5,true,false,some ((L++[x]).map aW.v)⟩)]++lR 178 4 oe es++lR 180 8 ow ws)⟩ ⟨T',O'⟩→Q .normal ⟨T',O'⟩):
  kW E EO ⟨CB G M [(18,.epk i 5 f.v 0),(19,.epk j 5 g.v 0),(109,av n),(110,av k)],CC G m a b (lV 178 oe ne) (lV 179 og L.length) (lV 180 ow nw) (lR 179 5 og (L.map aW.v)++lR 178 4 oe es++lR 180 8 ow ws)⟩ Q:=by
 have Cm: (((k:Int).toNat==i) !=false)=false:=by simpa using h1
 have tO: (((k:Int).toNat==j) !=false)=false:=by simpa using h2
 cases og<;>cases oe<;>cases ow
 all_goals
  try (have:=tK rfl;subst this)
  conv=>whnf
  repeat' (first| intro g| refine wi hx ?_| refine st ?_| refine br ?_ ?_<;>intro hc| rfl) <;>conv=>whnf
  exact hQ _ _ _ su
theorem RR {m:aI} {a b:Int} {G:RO} {M:V} {n k i j ne nw:Nat} {f g x:aW} {og oe ow:Option Nat} {es ws:List V} {L:List aW} {Q:aR→SS→Prop} (hx: (m.an.map aW.v)[k]? =some x.v) (hn:m.an.length=n) (hk:k<n) (hb:n< 1000) (hL:L.length≤k) (tK:og=none→L=[]) (h1: ¬k=i) (h2:k=j) (ho:Ev E 17 [.lit 1 [.str x.name,.str f.name]] ⟨.str (Xk x.name f.name),[]⟩)
  (hQ: ∀T' O' g',SS.Sub ⟨CB G M [(18,.epk i 5 f.v 0),(19,.epk j 5 g.v 0),(109,av n),(110,av (k+1))],CC G m a b (lV 178 oe ne) (.sl 179 g' 0 (L++[DG x f]).length) (lV 180 ow nw) ([(179,⟨g',5,true,false,some ((L++[DG x f]).map aW.v)⟩)]++lR 178 4 oe es++lR 180 8 ow ws)⟩ ⟨T',O'⟩→Q .normal ⟨T',O'⟩):
  kW E EO ⟨CB G M [(18,.epk i 5 f.v 0),(19,.epk j 5 g.v 0),(109,av n),(110,av k)],CC G m a b (lV 178 oe ne) (lV 179 og L.length) (lV 180 ow nw) (lR 179 5 og (L.map aW.v)++lR 178 4 oe es++lR 180 8 ow ws)⟩ Q:=by
 subst h2
 generalize hy:DG x f=y at*
 unfold DG gC at hy
 generalize Xk x.name f.name=nm at*
 have Cm: (((k:Int).toNat==i) !=false)=false:=by simpa using h1
 have tO: (((k:Int).toNat==k) !=false)=true:=abW
 cases og<;>cases oe<;>cases ow
 all_goals
  try (have:=tK rfl;subst this)
  conv=>whnf
  repeat' (first| intro g| refine wi hx ?_| apply ca ho| refine st ?_| refine br ?_ ?_<;>intro hc| rfl) <;>conv=>whnf
  subst hy
  exact hQ _ _ _ su
end Go.AM
namespace Go.AM
theorem take_succ {α:Type} {l:List α} {n:Nat} {x:α} (h:l[n]? =some x):l.take (n+1)=l.take n++[x]:=by
 rw[ajt,h];rfl
theorem DH {fs:List aW} {i j:Nat} {y:aW} (hy:fs[j]? =some y) (Jm:i≠j) (f:aW): ∀n,j<n→dx fs i j f n≠[]
 | 0,h=>abV
 | n+1,h=>by
   by_cases hn:n=j
   ·subst hn
    simp[dx,hy,aj4 Jm]
   ·have ih:=DH hy Jm f n abV
    cases hx:fs[n]? with
    | none=>rw[dx,hx];exact ih
    | some x=>
      rw[dx,hx]
      by_cases hi:n=i
      ·simp only[if_pos hi];exact ih
      ·simp only[if_neg hi,if_neg hn];simp
theorem N7 {m:aI} (hs:Y2 m) (a b:Int) (hc:tM m a b=0) {i j:Nat} {f y:aW} (hi:findF m.an a=some i) (hif:m.an[i]? =some f) (hj:findF m.an b=some j) (hjg:m.an[j]? =some y) (Jm:i≠j) (Gh:a≠b):
  Ev E 485 [m.v,vi a,vi b] ⟨Kv m (eB m.aB a b m.aB.length) (dx m.an i j f m.an.length),[]⟩:=by
 have h1:=qy true (m:=m) (by have:=hs.f;omega)
 have h2:=zw true (m:=m) ⟨by have:=hs.e;omega,by have:=hs.f;omega⟩ a b
 rw[hc] at h2
 have NU:=ki true m.an m.an.length
 have h0:=aI.qA true m
 have Jk:bz E 500=[]:=rfl
 have Xj:bz E 501=[]:=rfl
 have Ku:V.al [m.kv true]=true:=by simp only[V.al,h0];rfl
 have RN:V.al [m.kv true,.mlit (bK true m.an m.an.length),vi a,vi b]=true:=by simp only[V.al,NU,h0];rfl
 have hcp:=lP m.az (by have:=hs.p;omega)
 have hlf:=bN (k:=true) hi hif
 have hlg:=bN (k:=true) hj hjg
 have hE:m.aB.length< 1000:=hs.e
 have hF:m.an.length< 1000:=hs.f
 have hW:m.ways.length< 1000:=hs.w
 obtain⟨res,h3,h4⟩:=Ev.Xd (R:=fun r=>r=⟨Kv m (eB m.aB a b m.aB.length) (dx m.an i j f m.an.length),[]⟩) Xf (Xg _) rfl rfl (by simp only[V.al,show V.aw m.v=true from aI.qA false m];rfl) (HG m a b) (by
  conv=>whnf
  repeat' (first| refine fB Jk Ku h1 NU ?_| refine fB Xj RN h2 rfl ?_| intro g| apply ca hcp| refine st ?_| refine br ?_ ?_<;>intro hc| rfl) <;>conv=>whnf
  rename_i g3 g4 g5 g6 gP
  clear h1 h2 hcp Ku RN h0
  refine aL.by (fun ((k,og):Nat×Option Nat)=> ⟨CB ⟨g3,g4,g5,g6,gP,g⟩ (.mlit (bK true m.an m.an.length)) [(38,.lit 8 (m.ways.map Way.v)),(39,av m.ways.length),(40,av k)],
      CC ⟨g3,g4,g5,g6,gP,g⟩ m a b .nils .nils (lV 180 og (m.ways.take k).length) (lR 180 8 og ((m.ways.take k).map Way.v))⟩)
    (fun (k,og)=>k≤m.ways.length∧(og=none↔m.ways.take k=[])) (fun (k,_)=>m.ways.length - k) (0,none) ?_ ⟨abW,abW⟩ ?_
  ·(refine⟨?_,?_⟩ <;>repeat' (first| exact True.intro| refine And.intro ((by(conv=>whnf);first| rfl| simp)) ?_| refine ai ?_| refine And.intro ?_ ?_))
  rintro⟨k,og⟩ ⟨hk,tK⟩
  try dsimp only at hk tK
  by_cases bl:k<m.ways.length
  · obtain⟨x,hx⟩: ∃x,m.ways[k]? =some x:=⟨_,aH bl⟩
    have iB:=eR x.line (by have:=hs.wl x (List.mem_of_getElem? hx);omega)
    refine ag6 (m:=m) (a:=a) (b:=b) (G:=⟨g3,g4,g5,g6,gP,g⟩) (x:=x) (by simp[hx]) abW bl hW (by simp;omega) tK.1 iB fun T' O' g' jE=>aK.mk (k+1,some g') om ⟨abV,by simp[take_succ hx]⟩ ?_
    simp only[take_succ hx]
    exact jE
  obtain rfl:k=m.ways.length:=abV
  simp only[ajP] at tK ⊢
  clear hk bl
  conv=>whnf
  repeat' (first| intro g| refine st ?_| refine br ?_ ?_<;>intro hc| rfl) <;>conv=>whnf
  clear NU
  refine aL.by (fun ((k,oe):Nat×Option Nat)=> ⟨CB ⟨g3,g4,g5,g6,gP,g⟩ (.mlit (bK true m.an m.an.length)) [(13,.fn 502 [.ptr 80 g4 0 0,.ptr 96 g5 0 0]),(57,.lit 4 (m.aB.map Edge.v)),(58,av m.aB.length),(59,av k)],
      CC ⟨g3,g4,g5,g6,gP,g⟩ m a b (lV 178 oe (eB m.aB a b k).length) .nils (lV 180 og m.ways.length) (lR 178 4 oe ((eB m.aB a b k).map Edge.v)++lR 180 8 og (m.ways.map Way.v))⟩)
    (fun (k,oe)=>k≤m.aB.length∧(oe=none↔eB m.aB a b k=[])) (fun (k,_)=>m.aB.length - k) (0,none) ?_ ⟨abW,by simp[eB]⟩ ?_
  ·cases og<;> (refine⟨?_,?_⟩ <;>repeat' (first| exact True.intro| refine And.intro ((by(conv=>whnf);first| rfl| simp)) ?_| refine ai ?_| refine And.intro ?_ ?_))
  rintro⟨k,oe⟩ ⟨hk,Vy⟩
  try dsimp only at hk Vy
  by_cases bl:k<m.aB.length
  · obtain⟨x,hx⟩: ∃x,m.aB[k]? =some x:=⟨_,aH bl⟩
    have iB:=eR x.line (by have:=hs.el x (List.mem_of_getElem? hx);omega)
    have hl:=vt a b x.left
    have hr:=vt a b x.right
    cases ht:cZ a b x with
    | true=>
      have hn:eB m.aB a b (k+1)=eB m.aB a b k:=by simp[eB,hx,ht]
      rw[AQ Gh] at ht
      simp only[decide_eq_true_eq] at ht
      refine Y3 (m:=m) (a:=a) (b:=b) (G:=⟨g3,g4,g5,g6,gP,g⟩) (e:=x) (by simp[hx]) abW bl hE (pc ..) ht.1 ht.2.1 ht.2.2 hl hr fun T' O' jE=>aK.mk (k+1,oe) om ⟨abV,by rw[hn];exact Vy⟩ ?_
      simp only[hn]
      exact jE
    | false=>
      have hn:eB m.aB a b (k+1)=eB m.aB a b k++[iy a b x]:=by simp[eB,hx,ht]
      refine Vx (m:=m) (a:=a) (b:=b) (G:=⟨g3,g4,g5,g6,gP,g⟩) (e:=x) (by simp[hx]) abW bl hE (pc ..) Vy.1 iB hl hr Gh ht fun T' O' g' jE=>aK.mk (k+1,some g') om ⟨abV,by rw[hn];simp⟩ ?_
      simp only[hn]
      exact jE
  obtain rfl:k=m.aB.length:=abV
  clear hk bl
  conv=>whnf
  repeat' (first| intro g| refine wi hlf ?_| refine wi hlg ?_| refine st ?_| refine br ?_ ?_<;>intro hc| rfl) <;>conv=>whnf
  clear hlf hlg
  generalize hEs:eB m.aB a b m.aB.length=Es at*
  refine aL.by (fun ((k,of):Nat×Option Nat)=> ⟨CB ⟨g3,g4,g5,g6,gP,g⟩ (.mlit (bK true m.an m.an.length)) [(18,.epk i 5 f.v 0),(19,.epk j 5 y.v 0),(109,av m.an.length),(110,av k)],
      CC ⟨g3,g4,g5,g6,gP,g⟩ m a b (lV 178 oe Es.length) (lV 179 of (dx m.an i j f k).length) (lV 180 og m.ways.length) (lR 179 5 of ((dx m.an i j f k).map aW.v)++lR 178 4 oe (Es.map Edge.v)++lR 180 8 og (m.ways.map Way.v))⟩)
    (fun (k,of)=>k≤m.an.length∧(of=none↔dx m.an i j f k=[])) (fun (k,_)=>m.an.length - k) (0,none) ?_ ⟨abW,by simp[dx]⟩ ?_
  ·cases og<;>cases oe<;> (refine⟨?_,?_⟩ <;>repeat' (first| exact True.intro| refine And.intro ((by(conv=>whnf);first| rfl| simp)) ?_| refine ai ?_| refine And.intro ?_ ?_))
  rintro⟨k,of⟩ ⟨hk,Y4⟩
  try dsimp only at hk Y4
  by_cases bl:k<m.an.length
  · obtain⟨x,hx⟩: ∃x,m.an[k]? =some x:=⟨_,aH bl⟩
    by_cases NC:k=i
    · have hn:dx m.an i j f (k+1)=dx m.an i j f k:=by rw[dx,hx];simp only[if_pos NC]
      refine RP (m:=m) (a:=a) (b:=b) (G:=⟨g3,g4,g5,g6,gP,g⟩) (x:=x) (by simp[hx]) rfl bl hF (mq ..) Y4.1 NC fun T' O' jE=>aK.mk (k+1,of) om ⟨abV,by rw[hn];exact Y4⟩ ?_
      simp only[hn]
      exact jE
    by_cases U6:k=j
    · have hn:dx m.an i j f (k+1)=dx m.an i j f k++[DG x f]:=by rw[dx,hx];simp only[if_neg NC,if_pos U6]
      refine RR (m:=m) (a:=a) (b:=b) (G:=⟨g3,g4,g5,g6,gP,g⟩) (x:=x) (by simp[hx]) rfl bl hF (mq ..) Y4.1 NC U6 (QP _ _) fun T' O' g' jE=>aK.mk (k+1,some g') om ⟨abV,by rw[hn];simp⟩ ?_
      simp only[hn]
      exact jE
    · have hn:dx m.an i j f (k+1)=dx m.an i j f k++[x]:=by rw[dx,hx];simp only[if_neg NC,if_neg U6]
      refine RQ (m:=m) (a:=a) (b:=b) (G:=⟨g3,g4,g5,g6,gP,g⟩) (x:=x) (by simp[hx]) rfl bl hF (mq ..) Y4.1 NC U6 fun T' O' g' jE=>aK.mk (k+1,some g') om ⟨abV,by rw[hn];simp⟩ ?_
      simp only[hn]
      exact jE
  obtain rfl:k=m.an.length:=abV
  clear hk bl
  have cL:=DH hjg Jm f m.an.length (aiS.1 hjg).1
  try dsimp only
  generalize dx m.an i j f m.an.length=Fs at*
  cases of with
  | none=>exact absurd (Y4.1 rfl) cL
  | some g9=>
    have o1:oe=none∧Es=[]∨(∃g,oe=some g)∧oL 4 (Es.map Edge.v)= .own 4 (Es.map Edge.v):=by
      cases oe with
      | none=>exact .inl ⟨rfl,Vy.1 rfl⟩
      | some g=>
        refine .inr ⟨⟨g,rfl⟩,?_⟩
        cases Es with
        | nil=>simp at Vy
        | cons e l=>rfl
    have o2:og=none∧m.ways=[]∨(∃g,og=some g)∧oL 8 (m.ways.map Way.v)= .own 8 (m.ways.map Way.v):=by
      cases og with
      | none=>exact .inl ⟨rfl,tK.1 rfl⟩
      | some g=>
        refine .inr ⟨⟨g,rfl⟩,?_⟩
        cases hw:m.ways with
        | nil=>simp[hw] at tK
        | cons e l=>rfl
    unfold Kv
    clear Vy tK Y4 cL hs
    rcases o1 with⟨rfl,rfl⟩ | ⟨⟨g1,rfl⟩,e1⟩ <;>rcases o2 with⟨rfl,e2⟩ | ⟨⟨g2,rfl⟩,e2⟩
    · rw[e2]
      conv=>whnf
      repeat' (first| intro g| refine wi (gI abW) ?_| refine st ?_| refine br ?_ ?_<;>intro hc| rfl) <;>conv=>whnf
      all_goals rfl
    · rw[e2]
      conv=>whnf
      repeat' (first| intro g| refine wi (gI abW) ?_| refine st ?_| refine br ?_ ?_<;>intro hc| rfl) <;>conv=>whnf
      all_goals rfl
    · rw[e1,e2]
      conv=>whnf
      repeat' (first| intro g| refine wi (gI abW) ?_| refine st ?_| refine br ?_ ?_<;>intro hc| rfl) <;>conv=>whnf
      all_goals rfl
    · rw[e1,e2]
      conv=>whnf
      repeat' (first| intro g| refine wi (gI abW) ?_| refine st ?_| refine br ?_ ?_<;>intro hc| rfl) <;>conv=>whnf
      all_goals rfl
  )
 rw[h4] at h3
 simp only[Vw] at h3
 exact h3
end Go.AM
namespace Go.AM
end Go.AM
namespace Go.AM
def RS (p q:Pt):Int:=gC (gC (gC (q.x - p.x)*gC (q.x - p.x))+gC (gC (q.y - p.y)*gC (q.y - p.y)))
theorem RT (p q:Pt):RS p q≤9223372036854775807:=Ma _
noncomputable def Kx (l:List Pt):Nat→Int
 | 0=>0
 | k+1=>match l[k]?,l[k+1]? with
   | some p,some q=>gC (Kx l k+jG (RS p q))
   | _,_=>Kx l k
noncomputable def vx (l:List Pt):Int:=Kx l (l.length - 1)
theorem N8 {l:List Pt} {k:Nat} {p q:Pt} (hp:l[k]? =some p) (hq:l[k+1]? =some q):Kx l (k+1)=gC (Kx l k+jG (RS p q)):=by
 simp only[Kx,hp,hq]
theorem js: ∀ (ps:List Pt) (i k:Nat),(fu i (ps.map Pt.v))[k]? =match ps[k]?,ps[k+1]? with
   | some p,some q=>some [.int .i64 ((i+k:Nat):Int),.agg [vi p.x,vi p.y,vi q.x,vi q.y]]
   | _,_=>none
 | [],i,k=>by simp[fu]
 | [p],i,k=>by cases k<;>simp[fu]
 | p::q::r,i,0=>by simp[fu,Pt.v,V.cells]
 | p::q::r,i,k+1=>by
   have ih:=js (q::r) (i+1) k
   simp only[List.map_cons,fu,aj8] at ih ⊢
   rw[ih]
   have:i+1+k=i+(k+1):=abV
   rw[this]
theorem qB: ∀ (ps:List Pt) (i:Nat),(fu i (ps.map Pt.v)).length=ps.length - 1
 | [],i=>by simp[fu]
 | [p],i=>by simp[fu]
 | p::q::r,i=>by
   have ih:=qB (q::r) (i+1)
   simp only[List.map_cons,fu,ai5] at ih ⊢
   omega
theorem ot: ∀ (ps:List V) (i:Nat),∀x ∈ fu i ps,x.length=2
 | [],i,x,h=>by simp[fu] at h
 | [p],i,x,h=>by simp[fu] at h
 | p::q::r,i,x,h=>by
   rw[fu] at h
   rcases ai0.1 h with rfl| h
   ·rfl
   ·exact ot (q::r) (i+1) x h
theorem nc (l:List Pt):Ev E 182 [iP l] ⟨.fn 221 [.eptr (iP l) 0],[]⟩:=by
 refine Ev.aD rfl rfl rfl ?_
 exact aiN
theorem Y5 {l:List Pt} (hl:l.length< 1000000):Ev E 496 [iP l] ⟨vi (vx l),[]⟩:=by
 have Vi:=nc l
 refine Ev.aD rfl rfl rfl ?_
 conv=>whnf
 repeat' (first| intro g| apply ca Vi| refine st ?_| refine br ?_ ?_<;>intro hc| rfl) <;>conv=>whnf
 have hi:E.iter 221 [(iP l).eptr 0]=some (fu 0 (l.map Pt.v)):=by
  show (if (l.map Pt.v).length< 4611686018427387904 then some (fu 0 (l.map Pt.v)) else none)=_
  rw[if_pos (by simp;omega)]
 refine tH.by (fu 0 (l.map Pt.v)) rfl hi (fun x hx=>ot _ _ x hx) (fun (k:Nat)=> [(48,⟨g,1,false,false,some [vi (Kx l k)]⟩)]) (fun k a=>a=k) 0 ?_ rfl ?_ ?_
 ·(repeat' (first| exact True.intro| refine ai ?_| refine And.intro ?_ ?_))
 ·rintro _ x k hx rfl
  rw[js] at hx
  cases hp:l[k]? with
  | none=>rw[hp] at hx;cases hx
  | some p=>
  cases hq:l[k+1]? with
  | none=>rw[hp,hq] at hx;cases hx
  | some q=>
  rw[hp,hq] at hx
  injection hx with hx;subst hx
  have eW:=N8 hp hq
  have Ao:=vb (RT p q)
  conv=>whnf
  repeat' (first| intro g| apply ca (qn q p) | apply ca (JU _ _) | apply ca Ao| refine st ?_| refine br ?_ ?_<;>intro hc| rfl) <;>conv=>whnf
  refine Qo.mk (k+1) rfl ?_
  simp only[eW]
  (repeat' (first| exact True.intro| refine ai ?_| refine And.intro ?_ ?_))
 ·rintro a rfl
  rw[qB]
  exact aiN
end Go.AM
