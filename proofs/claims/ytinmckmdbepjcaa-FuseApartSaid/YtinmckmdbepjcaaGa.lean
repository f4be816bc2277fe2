/-
  Texts of the proof, joined by program: FuG. Own work.
-/
import Derived.Test.YtinmckmdbepjcaaLa
import Derived.Test.YtinmckmdbepjcaaLb
set_option linter.unusedSimpArgs false
set_option linter.unusedVariables false
set_option maxRecDepth 20000
namespace Go.AM
theorem EO (l:List Int): (Hr l).length=0↔l=[]:=by
 constructor
 · intro h
   cases l with
   | nil=>rfl
   | cons a l=>
     have:0 < (kH (a::l)).length:=by rw[nU];simp
     have:=vW (kH (a::l)) _ this
     unfold Hr jb at h
     omega
 · rintro rfl;rfl
theorem qt (es:List Edge) (a b:Int): (b4 es a b).length=0↔es.any (b9 a b)=false:=by
 unfold b4
 rw[EO]
 simp[mZ,List.any_eq_false]
theorem oJ {es:List Edge} {a b:Int} (h:es.any (b9 a b)=false): ((b4 es a b).map vi).length=0:=by
 rw[List.length_map];exact(qt es a b).2 h
theorem dV {es:List Edge} {a b:Int} (h:es.any (b9 a b)=true): ¬ ((b4 es a b).map vi).length=0:=by
 rw[List.length_map];intro h0;rw[(qt es a b).1 h0] at h;simp at h
def EP (m:aG):Prop:=m.an.length< 1000000∧m.ah.length< 1000000
inductive fu (m:aG) (a b:Int):Int→Prop
 | BC (h:findF m.ah a=none) (h2:findF m.ah b=none):fu m a b 5
 | BD {j g} (h:findF m.ah a=none) (h2:findF m.ah b=some j) (h3:m.ah[j]? =some g):fu m a b 5
 | BE {i f} (h:findF m.ah a=some i) (h1:m.ah[i]? =some f) (h2:findF m.ah b=none):fu m a b 5
 | arg {i f} (h:findF m.ah a=some i) (h1:m.ah[i]? =some f) (h2:a=b):fu m a b 1
 | bg {i f j g} (h:findF m.ah a=some i) (h1:m.ah[i]? =some f) (h2:findF m.ah b=some j) (h3:m.ah[j]? =some g) (h4:a≠b) (h5:f.bg≠g.bg):fu m a b 25
 | BF {i f j g} (h:findF m.ah a=some i) (h1:m.ah[i]? =some f) (h2:findF m.ah b=some j) (h3:m.ah[j]? =some g) (h4:a≠b) (h5:f.bg=g.bg) (h6:f.bg< 1):fu m a b 25
 | Hs {i f j g} (h:findF m.ah a=some i) (h1:m.ah[i]? =some f) (h2:findF m.ah b=some j) (h3:m.ah[j]? =some g) (h4:a≠b) (h5:f.bg=g.bg) (h6: ¬f.bg< 1) (h7:m.an.any (b9 a b)=false):fu m a b 13
 | Ht {i f j g} (h:findF m.ah a=some i) (h1:m.ah[i]? =some f) (h2:findF m.ah b=some j) (h3:m.ah[j]? =some g) (h4:a≠b) (h5:f.bg=g.bg) (h6: ¬f.bg< 1) (h7:m.an.any (b9 a b)=true) (h8:f.name≠[]) (h9:g.name≠[]) (tk:f.name≠g.name):fu m a b 24
 | Pk {i f j g} (h:findF m.ah a=some i) (h1:m.ah[i]? =some f) (h2:findF m.ah b=some j) (h3:m.ah[j]? =some g) (h4:a≠b) (h5:f.bg=g.bg) (h6: ¬f.bg< 1) (h7:m.an.any (b9 a b)=true) (h8:f.name=[]):fu m a b 0
 | Pl {i f j g} (h:findF m.ah a=some i) (h1:m.ah[i]? =some f) (h2:findF m.ah b=some j) (h3:m.ah[j]? =some g) (h4:a≠b) (h5:f.bg=g.bg) (h6: ¬f.bg< 1) (h7:m.an.any (b9 a b)=true) (h8:f.name≠[]) (h9:g.name=[]):fu m a b 0
 | Pm {i f j g} (h:findF m.ah a=some i) (h1:m.ah[i]? =some f) (h2:findF m.ah b=some j) (h3:m.ah[j]? =some g) (h4:a≠b) (h5:f.bg=g.bg) (h6: ¬f.bg< 1) (h7:m.an.any (b9 a b)=true) (h8:f.name≠[]) (h9:g.name≠[]) (tk:f.name=g.name):fu m a b 0
theorem Hu (m:aG) (a b:Int):fu m a b (jX m a b):=by
 unfold jX
 cases h:findF m.ah a with
 | none=>
   cases h2:findF m.ah b with
   | none=>exact .BC h h2
   | some j=>obtain⟨g,hg,_⟩:=cu h2;exact .BD h h2 hg
 | some i=>
   obtain⟨f,hf,GA,_⟩:=cu h
   cases h2:findF m.ah b with
   | none=>exact .BE h hf h2
   | some j=>
     obtain⟨g,hg,_⟩:=cu h2
     simp only[hf,hg,IG]
     by_cases h4:a=b
     · rw[if_pos h4];exact .arg h hf h4
     rw[if_neg h4]
     by_cases h5:f.bg=g.bg
     · by_cases h6:f.bg< 1
       · rw[if_pos (.inr h6)];exact .BF h hf h2 hg h4 h5 h6
       rw[if_neg (by rintro(h| h);exact h h5;exact h6 h)]
       cases h7:m.an.any (b9 a b) with
       | false=>rw[if_pos rfl];exact .Hs h hf h2 hg h4 h5 h6 h7
       | true=>
         rw[if_neg (by simp)]
         by_cases h8:f.name=[]
         · rw[if_neg (fun h=>h.1 h8)];exact .Pk h hf h2 hg h4 h5 h6 h7 h8
         by_cases h9:g.name=[]
         · rw[if_neg (fun h=>h.2.1 h9)];exact .Pl h hf h2 hg h4 h5 h6 h7 h8 h9
         by_cases tk:f.name=g.name
         · rw[if_neg (fun h=>h.2.2 tk)];exact .Pm h hf h2 hg h4 h5 h6 h7 h8 h9 tk
         · rw[if_pos ⟨h8,h9,tk⟩];exact .Ht h hf h2 hg h4 h5 h6 h7 h8 h9 tk
     · rw[if_pos (.inl h5)];exact .bg h hf h2 hg h4 h5
theorem px {m:aG} {a b c:Int} (h:jX m a b=c):fu m a b c:=h ▸ Hu m a b
theorem kc {k:Bool} {fs:List ar} {id:Int} (h:findF fs id=none):eE false .nilp (b5 k fs fs.length) (vi id)= .done .nilp:=
 rH _ (by rw[List.take_length];exact h)
theorem bO {k:Bool} {fs:List ar} {id:Int} {i:Nat} {f:ar} (h:findF fs id=some i) (hf:fs[i]? =some f):eE false .nilp (b5 k fs fs.length) (vi id)= .done (Af k i f):=
 rI _ (by rw[List.take_length];exact h) hf
set_option maxHeartbeats 4000000 in
theorem yi {m:aG} {a b:Int} (hb:Ev E 495 [.lit 4 (m.an.map Edge.v),vi a,vi b] ⟨.own 1 ((b4 m.an a b).map vi),[]⟩) (h:findF m.ah a=none) (h2:findF m.ah b=none):Ev E 501 [m.kv false,.mlit (b5 false m.ah m.ah.length),vi a,vi b] ⟨vi 5,[]⟩:=by
 refine Ev.bU fB (fC _) rfl ?_
 (conv=>whnf);repeat' ((first| intro g| refine aH.mk _ (kc h) ?_| refine aH.mk _ (kc h2) ?_| refine st ?_| (first| refine b1 ?_ ?_| refine b2 ?_ ?_| refine Br.mk ?_ ?_) <;>intro hc| exact rfl) <;>conv=>whnf)
set_option maxHeartbeats 4000000 in
theorem yj {m:aG} {a b:Int} (hb:Ev E 495 [.lit 4 (m.an.map Edge.v),vi a,vi b] ⟨.own 1 ((b4 m.an a b).map vi),[]⟩) {j:Nat} {g:ar} (h:findF m.ah a=none) (h2:findF m.ah b=some j) (h3:m.ah[j]? =some g):Ev E 501 [m.kv false,.mlit (b5 false m.ah m.ah.length),vi a,vi b] ⟨vi 5,[]⟩:=by
 refine Ev.bU fB (fC _) rfl ?_
 (conv=>whnf);repeat' ((first| intro g| refine aH.mk _ (kc h) ?_| refine aH.mk _ (bO h2 h3) ?_| refine st ?_| (first| refine b1 ?_ ?_| refine b2 ?_ ?_| refine Br.mk ?_ ?_) <;>intro hc| exact rfl) <;>conv=>whnf)
set_option maxHeartbeats 4000000 in
theorem yk {m:aG} {a b:Int} (hb:Ev E 495 [.lit 4 (m.an.map Edge.v),vi a,vi b] ⟨.own 1 ((b4 m.an a b).map vi),[]⟩) {i:Nat} {f:ar} (h:findF m.ah a=some i) (h1:m.ah[i]? =some f) (h2:findF m.ah b=none):Ev E 501 [m.kv false,.mlit (b5 false m.ah m.ah.length),vi a,vi b] ⟨vi 5,[]⟩:=by
 refine Ev.bU fB (fC _) rfl ?_
 (conv=>whnf);repeat' ((first| intro g| refine aH.mk _ (bO h h1) ?_| refine aH.mk _ (kc h2) ?_| refine st ?_| (first| refine b1 ?_ ?_| refine b2 ?_ ?_| refine Br.mk ?_ ?_) <;>intro hc| exact rfl) <;>conv=>whnf)
set_option maxHeartbeats 4000000 in
theorem CO {m:aG} {a b:Int} (hb:Ev E 495 [.lit 4 (m.an.map Edge.v),vi a,vi b] ⟨.own 1 ((b4 m.an a b).map vi),[]⟩) {i:Nat} {f:ar} (h:findF m.ah a=some i) (h1:m.ah[i]? =some f) (h2:a=b):Ev E 501 [m.kv false,.mlit (b5 false m.ah m.ah.length),vi a,vi b] ⟨vi 1,[]⟩:=by
 subst h2
 refine Ev.bU fB (fC _) rfl ?_
 (conv=>whnf);repeat' ((first| intro g| refine aH.mk _ (bO h h1) ?_| refine st ?_| (first| refine b1 ?_ ?_| refine b2 ?_ ?_| refine Br.mk ?_ ?_) <;>intro hc| exact rfl) <;>conv=>whnf)
set_option maxHeartbeats 4000000 in
theorem Ag {m:aG} {a b:Int} (hb:Ev E 495 [.lit 4 (m.an.map Edge.v),vi a,vi b] ⟨.own 1 ((b4 m.an a b).map vi),[]⟩) {i j:Nat} {f g:ar} (h:findF m.ah a=some i) (h1:m.ah[i]? =some f) (h2:findF m.ah b=some j) (h3:m.ah[j]? =some g) (h4:a≠b) (h5:f.bg≠g.bg):Ev E 501 [m.kv false,.mlit (b5 false m.ah m.ah.length),vi a,vi b] ⟨vi 25,[]⟩:=by
 refine Ev.bU fB (fC _) rfl ?_
 (conv=>whnf);repeat' ((first| intro g| refine aH.mk _ (bO h h1) ?_| refine aH.mk _ (bO h2 h3) ?_| refine st ?_| (first| refine b1 ?_ ?_| refine b2 ?_ ?_| refine Br.mk ?_ ?_) <;>intro hc| exact rfl) <;>conv=>whnf)
set_option maxHeartbeats 4000000 in
theorem yl {m:aG} {a b:Int} (hb:Ev E 495 [.lit 4 (m.an.map Edge.v),vi a,vi b] ⟨.own 1 ((b4 m.an a b).map vi),[]⟩) {i j:Nat} {f g:ar} (h:findF m.ah a=some i) (h1:m.ah[i]? =some f) (h2:findF m.ah b=some j) (h3:m.ah[j]? =some g) (h4:a≠b) (h5:f.bg=g.bg) (h6:f.bg< 1):Ev E 501 [m.kv false,.mlit (b5 false m.ah m.ah.length),vi a,vi b] ⟨vi 25,[]⟩:=by
 refine Ev.bU fB (fC _) rfl ?_
 (conv=>whnf);repeat' ((first| intro g| refine aH.mk _ (bO h h1) ?_| refine aH.mk _ (bO h2 h3) ?_| refine st ?_| (first| refine b1 ?_ ?_| refine b2 ?_ ?_| refine Br.mk ?_ ?_) <;>intro hc| exact rfl) <;>conv=>whnf)
set_option maxHeartbeats 4000000 in
theorem Ah {m:aG} {a b:Int} (hb:Ev E 495 [.lit 4 (m.an.map Edge.v),vi a,vi b] ⟨.own 1 ((b4 m.an a b).map vi),[]⟩) {i j:Nat} {f g:ar} (h:findF m.ah a=some i) (h1:m.ah[i]? =some f) (h2:findF m.ah b=some j) (h3:m.ah[j]? =some g) (h4:a≠b) (h5:f.bg=g.bg) (h6: ¬f.bg< 1) (h7:m.an.any (b9 a b)=false):Ev E 501 [m.kv false,.mlit (b5 false m.ah m.ah.length),vi a,vi b] ⟨vi 13,[]⟩:=by
 have hz:=oJ h7
 clear h7
 refine Ev.bU fB (fC _) rfl ?_
 (conv=>whnf);repeat' ((first| intro g| refine aH.mk _ (bO h h1) ?_| refine aH.mk _ (bO h2 h3) ?_| refine ag.mk _ (hb) ?_| refine st ?_| (first| refine b1 ?_ ?_| refine b2 ?_ ?_| refine Br.mk ?_ ?_) <;>intro hc| exact rfl) <;>conv=>whnf)
set_option maxHeartbeats 4000000 in
theorem Ai {m:aG} {a b:Int} (hb:Ev E 495 [.lit 4 (m.an.map Edge.v),vi a,vi b] ⟨.own 1 ((b4 m.an a b).map vi),[]⟩) {i j:Nat} {f g:ar} (h:findF m.ah a=some i) (h1:m.ah[i]? =some f) (h2:findF m.ah b=some j) (h3:m.ah[j]? =some g) (h4:a≠b) (h5:f.bg=g.bg) (h6: ¬f.bg< 1) (h7:m.an.any (b9 a b)=true) (h8:f.name≠[]) (h9:g.name≠[]) (tk:f.name≠g.name):Ev E 501 [m.kv false,.mlit (b5 false m.ah m.ah.length),vi a,vi b] ⟨vi 24,[]⟩:=by
 have hz:=dV h7
 clear h7
 refine Ev.bU fB (fC _) rfl ?_
 (conv=>whnf);repeat' ((first| intro g| refine aH.mk _ (bO h h1) ?_| refine aH.mk _ (bO h2 h3) ?_| refine ag.mk _ (hb) ?_| refine st ?_| (first| refine b1 ?_ ?_| refine b2 ?_ ?_| refine Br.mk ?_ ?_) <;>intro hc| exact rfl) <;>conv=>whnf)
set_option maxHeartbeats 4000000 in
theorem CP {m:aG} {a b:Int} (hb:Ev E 495 [.lit 4 (m.an.map Edge.v),vi a,vi b] ⟨.own 1 ((b4 m.an a b).map vi),[]⟩) {i j:Nat} {f g:ar} (h:findF m.ah a=some i) (h1:m.ah[i]? =some f) (h2:findF m.ah b=some j) (h3:m.ah[j]? =some g) (h4:a≠b) (h5:f.bg=g.bg) (h6: ¬f.bg< 1) (h7:m.an.any (b9 a b)=true) (h8:f.name=[]):Ev E 501 [m.kv false,.mlit (b5 false m.ah m.ah.length),vi a,vi b] ⟨vi 0,[]⟩:=by
 have hz:=dV h7
 clear h7
 refine Ev.bU fB (fC _) rfl ?_
 (conv=>whnf);repeat' ((first| intro g| refine aH.mk _ (bO h h1) ?_| refine aH.mk _ (bO h2 h3) ?_| refine ag.mk _ (hb) ?_| refine st ?_| (first| refine b1 ?_ ?_| refine b2 ?_ ?_| refine Br.mk ?_ ?_) <;>intro hc| exact rfl) <;>conv=>whnf)
set_option maxHeartbeats 4000000 in
theorem CQ {m:aG} {a b:Int} (hb:Ev E 495 [.lit 4 (m.an.map Edge.v),vi a,vi b] ⟨.own 1 ((b4 m.an a b).map vi),[]⟩) {i j:Nat} {f g:ar} (h:findF m.ah a=some i) (h1:m.ah[i]? =some f) (h2:findF m.ah b=some j) (h3:m.ah[j]? =some g) (h4:a≠b) (h5:f.bg=g.bg) (h6: ¬f.bg< 1) (h7:m.an.any (b9 a b)=true) (h8:f.name≠[]) (h9:g.name=[]):Ev E 501 [m.kv false,.mlit (b5 false m.ah m.ah.length),vi a,vi b] ⟨vi 0,[]⟩:=by
 have hz:=dV h7
 clear h7
 refine Ev.bU fB (fC _) rfl ?_
 (conv=>whnf);repeat' ((first| intro g| refine aH.mk _ (bO h h1) ?_| refine aH.mk _ (bO h2 h3) ?_| refine ag.mk _ (hb) ?_| refine st ?_| (first| refine b1 ?_ ?_| refine b2 ?_ ?_| refine Br.mk ?_ ?_) <;>intro hc| exact rfl) <;>conv=>whnf)
set_option maxHeartbeats 4000000 in
theorem CR {m:aG} {a b:Int} (hb:Ev E 495 [.lit 4 (m.an.map Edge.v),vi a,vi b] ⟨.own 1 ((b4 m.an a b).map vi),[]⟩) {i j:Nat} {f g:ar} (h:findF m.ah a=some i) (h1:m.ah[i]? =some f) (h2:findF m.ah b=some j) (h3:m.ah[j]? =some g) (h4:a≠b) (h5:f.bg=g.bg) (h6: ¬f.bg< 1) (h7:m.an.any (b9 a b)=true) (h8:f.name≠[]) (h9:g.name≠[]) (tk:f.name=g.name):Ev E 501 [m.kv false,.mlit (b5 false m.ah m.ah.length),vi a,vi b] ⟨vi 0,[]⟩:=by
 have hz:=dV h7
 clear h7
 refine Ev.bU fB (fC _) rfl ?_
 (conv=>whnf);repeat' ((first| intro g| refine aH.mk _ (bO h h1) ?_| refine aH.mk _ (bO h2 h3) ?_| refine ag.mk _ (hb) ?_| refine st ?_| (first| refine b1 ?_ ?_| refine b2 ?_ ?_| refine Br.mk ?_ ?_) <;>intro hc| exact rfl) <;>conv=>whnf)
set_option maxHeartbeats 4000000 in
theorem ym {m:aG} {a b:Int} (hb:Ev E 495 [.lit 4 (m.an.map Edge.v),vi a,vi b] ⟨.own 1 ((b4 m.an a b).map vi),[]⟩) (h:findF m.ah a=none) (h2:findF m.ah b=none):Ev E 501 [m.kv true,.mlit (b5 true m.ah m.ah.length),vi a,vi b] ⟨vi 5,[]⟩:=by
 refine Ev.bU fB (fC _) rfl ?_
 (conv=>whnf);repeat' ((first| intro g| refine aH.mk _ (kc h) ?_| refine aH.mk _ (kc h2) ?_| refine st ?_| (first| refine b1 ?_ ?_| refine b2 ?_ ?_| refine Br.mk ?_ ?_) <;>intro hc| exact rfl) <;>conv=>whnf)
set_option maxHeartbeats 4000000 in
theorem yn {m:aG} {a b:Int} (hb:Ev E 495 [.lit 4 (m.an.map Edge.v),vi a,vi b] ⟨.own 1 ((b4 m.an a b).map vi),[]⟩) {j:Nat} {g:ar} (h:findF m.ah a=none) (h2:findF m.ah b=some j) (h3:m.ah[j]? =some g):Ev E 501 [m.kv true,.mlit (b5 true m.ah m.ah.length),vi a,vi b] ⟨vi 5,[]⟩:=by
 refine Ev.bU fB (fC _) rfl ?_
 (conv=>whnf);repeat' ((first| intro g| refine aH.mk _ (kc h) ?_| refine aH.mk _ (bO h2 h3) ?_| refine st ?_| (first| refine b1 ?_ ?_| refine b2 ?_ ?_| refine Br.mk ?_ ?_) <;>intro hc| exact rfl) <;>conv=>whnf)
set_option maxHeartbeats 4000000 in
theorem yo {m:aG} {a b:Int} (hb:Ev E 495 [.lit 4 (m.an.map Edge.v),vi a,vi b] ⟨.own 1 ((b4 m.an a b).map vi),[]⟩) {i:Nat} {f:ar} (h:findF m.ah a=some i) (h1:m.ah[i]? =some f) (h2:findF m.ah b=none):Ev E 501 [m.kv true,.mlit (b5 true m.ah m.ah.length),vi a,vi b] ⟨vi 5,[]⟩:=by
 refine Ev.bU fB (fC _) rfl ?_
 (conv=>whnf);repeat' ((first| intro g| refine aH.mk _ (bO h h1) ?_| refine aH.mk _ (kc h2) ?_| refine st ?_| (first| refine b1 ?_ ?_| refine b2 ?_ ?_| refine Br.mk ?_ ?_) <;>intro hc| exact rfl) <;>conv=>whnf)
set_option maxHeartbeats 4000000 in
theorem CS {m:aG} {a b:Int} (hb:Ev E 495 [.lit 4 (m.an.map Edge.v),vi a,vi b] ⟨.own 1 ((b4 m.an a b).map vi),[]⟩) {i:Nat} {f:ar} (h:findF m.ah a=some i) (h1:m.ah[i]? =some f) (h2:a=b):Ev E 501 [m.kv true,.mlit (b5 true m.ah m.ah.length),vi a,vi b] ⟨vi 1,[]⟩:=by
 subst h2
 refine Ev.bU fB (fC _) rfl ?_
 (conv=>whnf);repeat' ((first| intro g| refine aH.mk _ (bO h h1) ?_| refine st ?_| (first| refine b1 ?_ ?_| refine b2 ?_ ?_| refine Br.mk ?_ ?_) <;>intro hc| exact rfl) <;>conv=>whnf)
set_option maxHeartbeats 4000000 in
theorem Aj {m:aG} {a b:Int} (hb:Ev E 495 [.lit 4 (m.an.map Edge.v),vi a,vi b] ⟨.own 1 ((b4 m.an a b).map vi),[]⟩) {i j:Nat} {f g:ar} (h:findF m.ah a=some i) (h1:m.ah[i]? =some f) (h2:findF m.ah b=some j) (h3:m.ah[j]? =some g) (h4:a≠b) (h5:f.bg≠g.bg):Ev E 501 [m.kv true,.mlit (b5 true m.ah m.ah.length),vi a,vi b] ⟨vi 25,[]⟩:=by
 refine Ev.bU fB (fC _) rfl ?_
 (conv=>whnf);repeat' ((first| intro g| refine aH.mk _ (bO h h1) ?_| refine aH.mk _ (bO h2 h3) ?_| refine st ?_| (first| refine b1 ?_ ?_| refine b2 ?_ ?_| refine Br.mk ?_ ?_) <;>intro hc| exact rfl) <;>conv=>whnf)
set_option maxHeartbeats 4000000 in
theorem yp {m:aG} {a b:Int} (hb:Ev E 495 [.lit 4 (m.an.map Edge.v),vi a,vi b] ⟨.own 1 ((b4 m.an a b).map vi),[]⟩) {i j:Nat} {f g:ar} (h:findF m.ah a=some i) (h1:m.ah[i]? =some f) (h2:findF m.ah b=some j) (h3:m.ah[j]? =some g) (h4:a≠b) (h5:f.bg=g.bg) (h6:f.bg< 1):Ev E 501 [m.kv true,.mlit (b5 true m.ah m.ah.length),vi a,vi b] ⟨vi 25,[]⟩:=by
 refine Ev.bU fB (fC _) rfl ?_
 (conv=>whnf);repeat' ((first| intro g| refine aH.mk _ (bO h h1) ?_| refine aH.mk _ (bO h2 h3) ?_| refine st ?_| (first| refine b1 ?_ ?_| refine b2 ?_ ?_| refine Br.mk ?_ ?_) <;>intro hc| exact rfl) <;>conv=>whnf)
set_option maxHeartbeats 4000000 in
theorem Ak {m:aG} {a b:Int} (hb:Ev E 495 [.lit 4 (m.an.map Edge.v),vi a,vi b] ⟨.own 1 ((b4 m.an a b).map vi),[]⟩) {i j:Nat} {f g:ar} (h:findF m.ah a=some i) (h1:m.ah[i]? =some f) (h2:findF m.ah b=some j) (h3:m.ah[j]? =some g) (h4:a≠b) (h5:f.bg=g.bg) (h6: ¬f.bg< 1) (h7:m.an.any (b9 a b)=false):Ev E 501 [m.kv true,.mlit (b5 true m.ah m.ah.length),vi a,vi b] ⟨vi 13,[]⟩:=by
 have hz:=oJ h7
 clear h7
 refine Ev.bU fB (fC _) rfl ?_
 (conv=>whnf);repeat' ((first| intro g| refine aH.mk _ (bO h h1) ?_| refine aH.mk _ (bO h2 h3) ?_| refine ag.mk _ (hb) ?_| refine st ?_| (first| refine b1 ?_ ?_| refine b2 ?_ ?_| refine Br.mk ?_ ?_) <;>intro hc| exact rfl) <;>conv=>whnf)
set_option maxHeartbeats 4000000 in
theorem Al {m:aG} {a b:Int} (hb:Ev E 495 [.lit 4 (m.an.map Edge.v),vi a,vi b] ⟨.own 1 ((b4 m.an a b).map vi),[]⟩) {i j:Nat} {f g:ar} (h:findF m.ah a=some i) (h1:m.ah[i]? =some f) (h2:findF m.ah b=some j) (h3:m.ah[j]? =some g) (h4:a≠b) (h5:f.bg=g.bg) (h6: ¬f.bg< 1) (h7:m.an.any (b9 a b)=true) (h8:f.name≠[]) (h9:g.name≠[]) (tk:f.name≠g.name):Ev E 501 [m.kv true,.mlit (b5 true m.ah m.ah.length),vi a,vi b] ⟨vi 24,[]⟩:=by
 have hz:=dV h7
 clear h7
 refine Ev.bU fB (fC _) rfl ?_
 (conv=>whnf);repeat' ((first| intro g| refine aH.mk _ (bO h h1) ?_| refine aH.mk _ (bO h2 h3) ?_| refine ag.mk _ (hb) ?_| refine st ?_| (first| refine b1 ?_ ?_| refine b2 ?_ ?_| refine Br.mk ?_ ?_) <;>intro hc| exact rfl) <;>conv=>whnf)
set_option maxHeartbeats 4000000 in
theorem CT {m:aG} {a b:Int} (hb:Ev E 495 [.lit 4 (m.an.map Edge.v),vi a,vi b] ⟨.own 1 ((b4 m.an a b).map vi),[]⟩) {i j:Nat} {f g:ar} (h:findF m.ah a=some i) (h1:m.ah[i]? =some f) (h2:findF m.ah b=some j) (h3:m.ah[j]? =some g) (h4:a≠b) (h5:f.bg=g.bg) (h6: ¬f.bg< 1) (h7:m.an.any (b9 a b)=true) (h8:f.name=[]):Ev E 501 [m.kv true,.mlit (b5 true m.ah m.ah.length),vi a,vi b] ⟨vi 0,[]⟩:=by
 have hz:=dV h7
 clear h7
 refine Ev.bU fB (fC _) rfl ?_
 (conv=>whnf);repeat' ((first| intro g| refine aH.mk _ (bO h h1) ?_| refine aH.mk _ (bO h2 h3) ?_| refine ag.mk _ (hb) ?_| refine st ?_| (first| refine b1 ?_ ?_| refine b2 ?_ ?_| refine Br.mk ?_ ?_) <;>intro hc| exact rfl) <;>conv=>whnf)
set_option maxHeartbeats 4000000 in
theorem CU {m:aG} {a b:Int} (hb:Ev E 495 [.lit 4 (m.an.map Edge.v),vi a,vi b] ⟨.own 1 ((b4 m.an a b).map vi),[]⟩) {i j:Nat} {f g:ar} (h:findF m.ah a=some i) (h1:m.ah[i]? =some f) (h2:findF m.ah b=some j) (h3:m.ah[j]? =some g) (h4:a≠b) (h5:f.bg=g.bg) (h6: ¬f.bg< 1) (h7:m.an.any (b9 a b)=true) (h8:f.name≠[]) (h9:g.name=[]):Ev E 501 [m.kv true,.mlit (b5 true m.ah m.ah.length),vi a,vi b] ⟨vi 0,[]⟩:=by
 have hz:=dV h7
 clear h7
 refine Ev.bU fB (fC _) rfl ?_
 (conv=>whnf);repeat' ((first| intro g| refine aH.mk _ (bO h h1) ?_| refine aH.mk _ (bO h2 h3) ?_| refine ag.mk _ (hb) ?_| refine st ?_| (first| refine b1 ?_ ?_| refine b2 ?_ ?_| refine Br.mk ?_ ?_) <;>intro hc| exact rfl) <;>conv=>whnf)
set_option maxHeartbeats 4000000 in
theorem CV {m:aG} {a b:Int} (hb:Ev E 495 [.lit 4 (m.an.map Edge.v),vi a,vi b] ⟨.own 1 ((b4 m.an a b).map vi),[]⟩) {i j:Nat} {f g:ar} (h:findF m.ah a=some i) (h1:m.ah[i]? =some f) (h2:findF m.ah b=some j) (h3:m.ah[j]? =some g) (h4:a≠b) (h5:f.bg=g.bg) (h6: ¬f.bg< 1) (h7:m.an.any (b9 a b)=true) (h8:f.name≠[]) (h9:g.name≠[]) (tk:f.name=g.name):Ev E 501 [m.kv true,.mlit (b5 true m.ah m.ah.length),vi a,vi b] ⟨vi 0,[]⟩:=by
 have hz:=dV h7
 clear h7
 refine Ev.bU fB (fC _) rfl ?_
 (conv=>whnf);repeat' ((first| intro g| refine aH.mk _ (bO h h1) ?_| refine aH.mk _ (bO h2 h3) ?_| refine ag.mk _ (hb) ?_| refine st ?_| (first| refine b1 ?_ ?_| refine b2 ?_ ?_| refine Br.mk ?_ ?_) <;>intro hc| exact rfl) <;>conv=>whnf)
theorem ER (k:Bool) {m:aG} (hs:EP m) (a b:Int):Ev E 501 [m.kv k,.mlit (b5 k m.ah m.ah.length),vi a,vi b] ⟨vi (jX m a b),[]⟩:=by
 have hb:=Am hs.1 a b
 generalize hr:jX m a b=r
 have hc:=px hr
 clear hr hs
 cases k
 · cases hc with
   | BC h h2=>exact yi hb h h2
   | BD h h2 h3=>exact yj hb h h2 h3
   | BE h h1 h2=>exact yk hb h h1 h2
   | arg h h1 h2=>exact CO hb h h1 h2
   | bg h h1 h2 h3 h4 h5=>exact Ag hb h h1 h2 h3 h4 h5
   | BF h h1 h2 h3 h4 h5 h6=>exact yl hb h h1 h2 h3 h4 h5 h6
   | Hs h h1 h2 h3 h4 h5 h6 h7=>exact Ah hb h h1 h2 h3 h4 h5 h6 h7
   | Ht h h1 h2 h3 h4 h5 h6 h7 h8 h9 tk=>exact Ai hb h h1 h2 h3 h4 h5 h6 h7 h8 h9 tk
   | Pk h h1 h2 h3 h4 h5 h6 h7 h8=>exact CP hb h h1 h2 h3 h4 h5 h6 h7 h8
   | Pl h h1 h2 h3 h4 h5 h6 h7 h8 h9=>exact CQ hb h h1 h2 h3 h4 h5 h6 h7 h8 h9
   | Pm h h1 h2 h3 h4 h5 h6 h7 h8 h9 tk=>exact CR hb h h1 h2 h3 h4 h5 h6 h7 h8 h9 tk
 · cases hc with
   | BC h h2=>exact ym hb h h2
   | BD h h2 h3=>exact yn hb h h2 h3
   | BE h h1 h2=>exact yo hb h h1 h2
   | arg h h1 h2=>exact CS hb h h1 h2
   | bg h h1 h2 h3 h4 h5=>exact Aj hb h h1 h2 h3 h4 h5
   | BF h h1 h2 h3 h4 h5 h6=>exact yp hb h h1 h2 h3 h4 h5 h6
   | Hs h h1 h2 h3 h4 h5 h6 h7=>exact Ak hb h h1 h2 h3 h4 h5 h6 h7
   | Ht h h1 h2 h3 h4 h5 h6 h7 h8 h9 tk=>exact Al hb h h1 h2 h3 h4 h5 h6 h7 h8 h9 tk
   | Pk h h1 h2 h3 h4 h5 h6 h7 h8=>exact CT hb h h1 h2 h3 h4 h5 h6 h7 h8
   | Pl h h1 h2 h3 h4 h5 h6 h7 h8 h9=>exact CU hb h h1 h2 h3 h4 h5 h6 h7 h8 h9
   | Pm h h1 h2 h3 h4 h5 h6 h7 h8 h9 tk=>exact CV hb h h1 h2 h3 h4 h5 h6 h7 h8 h9 tk
end Go.AM
