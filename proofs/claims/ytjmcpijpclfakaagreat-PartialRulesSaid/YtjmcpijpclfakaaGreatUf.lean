/-
  Texts of the proof: PRuG.
-/
import Derived.Test.YtjmcpijpclfakaaGreatUe
import Derived.Test.YtjmcpijpclfakaaGreatUa
set_option maxRecDepth 20000
set_option maxHeartbeats 8000000
set_option linter.unusedSimpArgs false
set_option linter.unusedVariables false
namespace Go.AM
def afj (v:V) (e:Ex):Prop:= ∀ (n:Nat) (gs:List (Nat×Nat×Nat)) (k:V→bR),bC false n gs v k=k e.g
theorem wj {e:Ex} {r:V} (h:MR e.v r):afj r e:=by
 obtain⟨a,b,c,d,x,f,ys,hv,hr⟩:=h
 intro n gs k
 rw[←Ex.vg,hv]
 rcases hr with rfl| rfl<;>rfl
theorem nA {n:Nat} {gs:List (Nat×Nat×Nat)} {v:V} {e:Ex} {k:V→bR} {S:SS} {Q:KK} (hi:afj v e) (h:eR E (k e.g) S Q):eR E (bC false n gs v k) S Q:=by
 rw[hi];exact h
theorem Mk.ok {t:Int} {n:Nat} {e:Ex} (h:Mk t n e) (hn:n≤60):e.size≤60∧e.b4=t:=⟨Nat.le_trans h.size hn,h.b4⟩
theorem Mk.fits {t:Int} {n:Nat} {e:Ex} (h:Mk t n e) (hn:n≤60):e.size< 1000000∧e.Fit:=⟨by have:=h.size;omega,h.fit⟩
def sR:List dE:=[[97,108,108],[114,49],[110,105,103,104,116],[98,105,103,32,119,97,121,115]]
def Ye:List dE:=[[114,49],[110,105,103,104,116],[98,105,103,32,119,97,121,115]]
theorem Qf {R:List aP} {k:Nat} (hk:k≤4) (hn:R.map aP.name=sR.take k) (ho: ∀r ∈ R,r.Ok):aiZ R:=by
 have hl:R.length≤4:=by
  have:=congrArg List.length hn
  simp at this;omega
 refine⟨by omega,ho,?_⟩
 have hp: (sR.take k).Pairwise fun a b=>a≠b:=(show sR.Pairwise fun a b=>a≠b by decide).sublist (List.take_sublist _ _)
 rw[←hn,List.pairwise_map] at hp
 exact hp
theorem M6 {l:List Int} (hl:l.length< 9223372036854775808): ∃R:List aP,R≠[]∧R.length≤4∧aiZ R∧(∀r ∈ R,r.Fit)∧Ev E 324 [.lit 1 (l.map vi)] ⟨.own 30 (R.map aP.v),[]⟩:=by
 have key:=Ev.jC (R:=fun res=> ∃R:List aP,R≠[]∧R.length≤4∧aiZ R∧(∀r ∈ R,r.Fit)∧res=⟨.own 30 (R.map aP.v),[]⟩) aaE (aaF [.lit 1 (l.map vi)]) rfl ?_
 · obtain⟨r,h1,R,h2,h3,h4,h5,rfl⟩:=key
   exact⟨R,h2,h3,h4,h5,h1⟩
 have hd0:aW l 0= .agg [.lit 1 (l.map vi),.int .i64 0]:=rfl
 obtain⟨e1,u1,a1,m1,i1,k1⟩:=zU hl 1 (by decide) 0
 replace i1:=wj i1
 rw[hd0] at k1
 obtain⟨r1,a2,b1,n1⟩:=BI hl 3 a1 (by decide) (by decide)
 obtain⟨r2,a3,b2,n2⟩:=BI hl 4 a2 (by decide) (by decide)
 obtain⟨r3,a4,b3,n3⟩:=BI hl 4 a3 (by decide) (by decide)
 have w1: ∀r:Nat,r< 4→IntKind.i64.wrap (1+((r:Nat):Int))=1+r:=fun r h=>wrap64 (by omega) (by omega)
 obtain⟨R0,hR0,o0,f0,nm0⟩: ∃R0:aP,R0.v= .agg [.str [97,108,108],vi 0,vi 1,vi 0,vi 2,vi 0,.bool true,.str [],.lit 7 [],vi e1.po,vi e1.pv,vi e1.pt,vi e1.pn,.bool e1.pb,.str e1.ps,e1.pl,
     vi 1,vi 0,vi 1,vi (IntKind.i64.wrap (1+((r1:Nat):Int))),.bool false,.str [],.lit 7 [],vi 1,vi 0,vi 1,vi (IntKind.i64.wrap (1+((r2:Nat):Int))),.bool false,.str [],.lit 7 []]∧R0.Ok∧R0.Fit∧R0.name=[97,108,108]:=by
   have q1:=mQ (n:=IntKind.i64.wrap (1+((r1:Nat):Int))) (by rw[w1 r1 (by omega)];omega)
   have q2:=mQ (n:=IntKind.i64.wrap (1+((r2:Nat):Int))) (by rw[w1 r2 b2];omega)
   have q0:=uR (v:=⟨2,0,true,[]⟩) (by simp[Va.right]) (by simp)
   exact⟨⟨[97,108,108],0,.mk 1 0 ⟨2,0,true,[]⟩ false [],e1,.mk 1 0 ⟨1,_,false,[]⟩ false [],.mk 1 0 ⟨1,_,false,[]⟩ false []⟩,rfl,
     ⟨show mP [97,108,108]=true by decide,show (0:Int)≤0 by decide,show (0:Int)≤1000 by decide,q0.ok (by decide),m1.ok (by decide),q1.ok (by decide),q2.ok (by decide)⟩,
     ⟨show [97,108,108].length< 1000000 by decide,q0.fits (by decide),m1.fits (by decide),q1.fits (by decide),q2.fits (by decide)⟩,rfl⟩
 have fY:=R0.pure
 rw[hR0] at fY
 (conv=>whnf);repeat' ((first| refine nA i1 ?_| refine fg fY ?_| intro g| refine av.mk _ (k1) ?_| refine av.mk _ (n1) ?_| refine av.mk _ (n2) ?_| refine av.mk _ (n3) ?_| refine av.mk _ (kD _) ?_| refine st ?_| (first| refine b1 ?_ ?_| refine b2 ?_ ?_| refine Br.mk ?_ ?_) <;>intro hc| exact rfl) <;>conv=>whnf)
 rename_i agt gj agC
 refine bj.by (fun ((k,R,a,gd,xN):Nat×List aP×Nat×Nat×Nat)=> ⟨[(3,.ptr 192 gd 0 0),(5,.sl 97 xN 0 R.length),(6,aO r3),(7,aO k)],[(97,⟨xN,30,true,false,some (R.map aP.v)⟩),(192,⟨gd,2,false,false,some [aW l a]⟩)]⟩)
   (fun (k,R,a,gd,xN)=>k≤r3∧R.length=k+1∧R.map aP.name=sR.take (k+1)∧(∀r ∈ R,r.Ok)∧ ∀r ∈ R,r.Fit) (fun (k,_,_,_,_)=>r3 - k) (0,[R0],a4,agt,g) ?_ ?_ ?_
 · simp only[List.map_cons,List.map_nil,hR0]
   (refine⟨?_,?_⟩ <;>repeat' (first| exact True.intro| refine ai ?_| refine And.intro ?_ ?_))
 · exact⟨by omega,rfl,by simp[nm0,sR],by simpa using o0,by simpa using f0⟩
 clear k1 n1 n2 n3 i1 hR0 fY
 rintro⟨k,R,a,gd,xN⟩ ⟨hk,hR,NV,CE,Ac⟩
 try dsimp only at hk hR NV CE Ac
 have Na: (R.map aP.v).length=R.length:=List.length_map ..
 by_cases bY:k<r3
 · obtain⟨s,hs,hsn,Ct,Xq⟩: ∃s,Ye[k]? =some s∧sR.take (k+2)=sR.take (k+1)++[s]∧mP s=true∧s.length< 1000000:=by
     have:k=0∨k=1∨k=2:=by omega
     rcases this with rfl| rfl| rfl
     · exact⟨_,rfl,rfl,by decide,by decide⟩
     · exact⟨_,rfl,rfl,by decide,by decide⟩
     · exact⟨_,rfl,rfl,by decide,by decide⟩
   have hk3: ((k:Nat):Int) < 3:=by omega
   obtain⟨q,c1,b1,n1⟩:=BI hl 3 a (by decide) (by decide)
   obtain⟨x1,v1,c2,m1,j1,k1⟩:=Iq hl 2 (by decide) c1
   obtain⟨x2,v2,c3,m2,j2,k2⟩:=zU hl 2 (by decide) c2
   obtain⟨x3,v3,c4,m3,j3,k3⟩:=zU hl 1 (by decide) c3
   obtain⟨x4,v4,c5,m4,j4,k4⟩:=zU hl 1 (by decide) c4
   replace j1:=wj j1
   replace j2:=wj j2
   replace j3:=wj j3
   replace j4:=wj j4
   obtain⟨y,hy,oy,fy,nmy⟩: ∃y:aP,y.v= .agg [.str s,vi (IntKind.i64.wrap (1+((q:Nat):Int))),vi x1.po,vi x1.pv,vi x1.pt,vi x1.pn,.bool x1.pb,.str x1.ps,x1.pl,vi x2.po,vi x2.pv,vi x2.pt,vi x2.pn,.bool x2.pb,.str x2.ps,x2.pl,
      vi x3.po,vi x3.pv,vi x3.pt,vi x3.pn,.bool x3.pb,.str x3.ps,x3.pl,vi x4.po,vi x4.pv,vi x4.pt,vi x4.pn,.bool x4.pb,.str x4.ps,x4.pl]∧y.Ok∧y.Fit∧y.name=s:=by
     have hw:=w1 q (by omega)
     exact⟨⟨s,_,x1,x2,x3,x4⟩,rfl,
      ⟨Ct,show 0≤IntKind.i64.wrap (1+((q:Nat):Int)) by omega,show IntKind.i64.wrap (1+((q:Nat):Int))≤1000 by omega,m1.ok (by decide),m2.ok (by decide),m3.ok (by decide),m4.ok (by decide)⟩,
      ⟨Xq,m1.fits (by decide),m2.fits (by decide),m3.fits (by decide),m4.fits (by decide)⟩,rfl⟩
   have kR:=y.pure
   rw[hy] at kR
   clear m1 m2 m3 m4
   (conv=>whnf);repeat' ((first| refine nA j1 ?_| refine nA j2 ?_| refine nA j3 ?_| refine nA j4 ?_| refine fg kR ?_| intro g| refine bD.mk _ (eL hs rfl) ?_| refine av.mk _ (n1) ?_| refine av.mk _ (k1) ?_| refine av.mk _ (k2) ?_| refine av.mk _ (k3) ?_| refine av.mk _ (k4) ?_| refine st ?_| (first| refine b1 ?_ ?_| refine b2 ?_ ?_| refine Br.mk ?_ ?_) <;>intro hc| exact rfl) <;>conv=>whnf)
   refine bk.mk (k+1,R++[y],c5,gd,g) (by first| omega| (dsimp only;omega)) ⟨by omega,by simp;omega,by rw[List.map_append,NV,hsn];simp[nmy],fun r hr=> ?_,fun r hr=> ?_⟩ (by simp only[List.map_append,List.map_cons,List.map_nil,List.length_append,List.length_cons,List.length_nil,hy]; (refine⟨?_,?_⟩ <;>repeat' (first| exact True.intro| refine ai ?_| refine And.intro ?_ ?_)))
   · rcases List.mem_append.1 hr with h| h
     · exact CE r h
     · rw[List.mem_singleton.1 h];exact oy
   · rcases List.mem_append.1 hr with h| h
     · exact Ac r h
     · rw[List.mem_singleton.1 h];exact fy
 · obtain rfl:k=r3:=by omega
   have gT:0+R.length≤(R.map aP.v).length∧V.ae (R.map aP.v)=true:=⟨by omega,aP.bq _⟩
   (conv=>whnf);repeat' ((first| intro g| refine bU.mk (aP.bq _) ?_| refine bU.mk (gT) ?_| refine st ?_| (first| refine b1 ?_ ?_| refine b2 ?_ ?_| refine Br.mk ?_ ?_) <;>intro hc| exact rfl) <;>conv=>whnf)
   exact⟨R,by intro h;rw[h] at hR;simp at hR,by omega,Qf (by omega) NV CE,Ac,rfl⟩
end Go.AM
