/-
  Texts of the proof: LtD, LtC, LtE.
-/
import Derived.Test.YtjkmpppkkhbjkaaGreatTa
import Derived.Test.YtjkmpppkkhbjkaaGreatBase
set_option maxRecDepth 20000
set_option linter.unusedSimpArgs false
set_option linter.unusedVariables false
set_option maxHeartbeats 4000000
namespace Go.AM
theorem De {α:Type} {f:α→V} {l:List α} {p:Nat}:aJ (l.map f) 0 ((p:Int).toNat - 0)=(l.take p).map f:=by
 unfold aJ;simp
theorem Df {α:Type} {f:α→V} {l:List α} {p:Nat} {n:Int} (hn:n=((p:Nat):Int)):aJ (l.map f) n.toNat ((l.map f).length - n.toNat)=(l.drop p).map f:=by
 subst hn;unfold aJ;rw[Int.toNat_natCast,←List.map_drop,List.take_of_length_le (by simp)]
theorem o9 {ws:List Way} {n:Nat} (hn:n<ws.length) (h:ws.length< 1000):Ev E 653 [.lit 8 (ws.map Way.v),aC n] ⟨.own 8 ((ws.eraseIdx n).map Way.v),[]⟩:=by
 have w1:IntKind.i64.wrap ((n:Int)+1)=((n+1:Nat):Int):=(wrap64 (by omega) (by omega)).trans (by omega)
 rw[List.eraseIdx_eq_take_drop_succ]
 refine Ev.aT Wn (Wo _) rfl ?_
 (conv=>whnf);repeat' ((first| intro g| refine aN.mk _ (De) ?_| refine aN.mk _ (Df w1) ?_| refine aN.mk _ (jg rfl) ?_| refine st ?_| (first| refine b1 ?_ ?_| refine b2 ?_ ?_| refine Br.mk ?_ ?_) <;>intro hc| exact rfl) <;>conv=>whnf)
 simp only[List.nil_append,List.map_append]
theorem JX {ws:List Way} {at_:Nat} (gv:at_<ws.length) (h:ws.length< 1000): ∃ (l:List Way) (n:Nat),(∀w ∈ l,w ∈ ws)∧n<l.length∧l.length≤ws.length∧Ev E 662 [.lit 8 (ws.map Way.v),aC at_] ⟨.tuple [.own 8 (l.map Way.v),aC n],[]⟩:=by
 suffices hh: ∃res,Ev E 662 [.lit 8 (ws.map Way.v),aC at_] res∧ ∃ (l:List Way) (n:Nat),(∀w ∈ l,w ∈ ws)∧n<l.length∧l.length≤ws.length∧res=⟨.tuple [.own 8 (l.map Way.v),aC n],[]⟩ by
   obtain⟨_,h1,l,n,h2,h3,h4,rfl⟩:=hh
   exact⟨l,n,h2,h3,h4,h1⟩
 obtain⟨a,ha⟩: ∃w,ws[at_]? =some w:=⟨_,aD gv⟩
 refine Ev.bz WO (WQ _) rfl ?_
 (conv=>whnf);repeat' ((first| intro g| refine st ?_| (first| refine b1 ?_ ?_| refine b2 ?_ ?_| refine Br.mk ?_ ?_) <;>intro hc| exact rfl) <;>conv=>whnf)
 refine aI.by (fun ((i,l,n,g):Nat×List Way×Nat×Nat)=> ⟨[(0,.lit 8 (ws.map Way.v)),(1,aC at_),(6,.sl 113 g 0 l.length),(7,aC n),(8,aC i)],[(113,⟨g,8,true,false,some (l.map Way.v)⟩)]⟩)
   (fun (i,l,n,g)=>i≤ws.length∧l.length≤i∧(∀w ∈ l,w ∈ ws)∧n≤l.length∧(at_<i→n<l.length)) (fun (i,_)=>ws.length - i) (0,[],0,g) (by(refine⟨?_,?_⟩ <;>repeat' (first| exact True.intro| refine ai ?_| refine And.intro ?_ ?_))) ⟨by omega,by simp,by simp,by simp,by omega⟩ ?_
 clear g
 rintro⟨i,l,n,g⟩ ⟨hi,hl,hm,hn,hd⟩
 try dsimp only at hi hl hm hn hd
 by_cases bp:i<ws.length
 case neg=>
   (conv=>whnf);repeat' ((first| intro g| refine st ?_| (first| refine b1 ?_ ?_| refine b2 ?_ ?_| refine Br.mk ?_ ?_) <;>intro hc| exact rfl) <;>conv=>whnf)
   exact⟨l,n,hm,hd (by omega),by omega,rfl⟩
 obtain⟨w,hw⟩: ∃w,ws[i]? =some w:=⟨_,aD bp⟩
 have BN: ∀u ∈ l++[w],u ∈ ws:=fun u hu=>by
   rcases List.mem_append.1 hu with hu| hu
   · exact hm u hu
   · rw[List.mem_singleton.1 hu];exact List.mem_of_getElem? hw
 by_cases CR:w.eM=a.eM
 · by_cases Ph:i<at_
   · (conv=>whnf);repeat' ((first| contradiction| intro g| refine aN.mk _ (al ha rfl) ?_| refine aN.mk _ (al hw rfl) ?_| refine st ?_| (first| refine b1 ?_ ?_| refine b2 ?_ ?_| refine Br.mk ?_ ?_) <;>intro hc| exact rfl) <;>conv=>whnf)
     exact aE.mk (i+1,l++[w],n+1,g) (by first| omega| (dsimp only;omega)) ⟨by omega,by simp;omega,BN,by simp;omega,fun hx=>by simp;omega⟩ (by(refine⟨?_,?_⟩ <;>repeat' (first| exact True.intro| refine ai ?_| refine And.intro ?_ ?_)))
   · (conv=>whnf);repeat' ((first| contradiction| intro g| refine aN.mk _ (al ha rfl) ?_| refine aN.mk _ (al hw rfl) ?_| refine st ?_| (first| refine b1 ?_ ?_| refine b2 ?_ ?_| refine Br.mk ?_ ?_) <;>intro hc| exact rfl) <;>conv=>whnf)
     exact aE.mk (i+1,l++[w],n,g) (by first| omega| (dsimp only;omega)) ⟨by omega,by simp;omega,BN,by simp;omega,fun hx=>by simp;omega⟩ (by(refine⟨?_,?_⟩ <;>repeat' (first| exact True.intro| refine ai ?_| refine And.intro ?_ ?_)))
 · have cO:i≠at_:=fun e=>by subst e;rw[ha] at hw;injection hw with hw;exact CR (by rw[hw])
   (conv=>whnf);repeat' ((first| contradiction| intro g| refine aN.mk _ (al ha rfl) ?_| refine aN.mk _ (al hw rfl) ?_| refine st ?_| (first| refine b1 ?_ ?_| refine b2 ?_ ?_| refine Br.mk ?_ ?_) <;>intro hc| exact rfl) <;>conv=>whnf)
   exact aE.mk (i+1,l,n,g) (by first| omega| (dsimp only;omega)) ⟨by omega,by omega,hm,hn,fun hx=>hd (by omega)⟩ (by(refine⟨?_,?_⟩ <;>repeat' (first| exact True.intro| refine ai ?_| refine And.intro ?_ ?_)))
end Go.AM
set_option maxHeartbeats 4000000
namespace Go.AM
theorem vx: ∀ {L:List Nat} {i a x:Nat},L[i]? =some a→x<a→(L.set i x).sum<L.sum
 | [],i,a,x,h,_=>by simp at h
 | b::L,0,a,x,h,k=>by simp at h;subst h;simp;omega
 | b::L,i+1,a,x,h,k=>by
   have:=vx (L:=L) (i:=i) (a:=a) (x:=x) (by simpa using h) k
   simp;omega
theorem vy {ws:List Way} (h:ws.length< 1000) (hl: ∀w ∈ ws,w.line.length< 1000): ∃L:List Nat,L.length=ws.length∧Ev E 670 [.lit 8 (ws.map Way.v)] ⟨.own 1 (L.map aC),[]⟩:=by
 obtain⟨n,hn⟩: ∃n,ws.length=n:=⟨_,rfl⟩
 suffices hh: ∃res,Ev E 670 [.lit 8 (ws.map Way.v)] res∧ ∃L:List Nat,L.length=n∧res=⟨.own 1 (L.map aC),[]⟩ by
   obtain⟨_,h1,L,h2,rfl⟩:=hh
   exact⟨L,h2.trans hn.symm,h1⟩
 refine Ev.bz W3 (W4 _) rfl ?_
 (conv=>whnf);repeat' ((first| intro g| refine st ?_| (first| refine b1 ?_ ?_| refine b2 ?_ ?_| refine Br.mk ?_ ?_) <;>intro hc| exact rfl) <;>conv=>whnf)
 refine aI.by (fun ((i,L,g):Nat×List Nat×Nat)=> ⟨[(0,.lit 8 (ws.map Way.v)),(3,.sl 65 g 0 i),(4,aC i)],[(65,⟨g,1,true,false,some (L.map aC)⟩)]⟩) (fun (i,L,g)=>i≤n∧L.length=i) (fun (i,_)=>n - i) (0,[],g) (by(refine⟨?_,?_⟩ <;>repeat' (first| exact True.intro| refine ai ?_| refine And.intro ?_ ?_))) ⟨by omega,rfl⟩ ?_
 rintro⟨i,L,g⟩ ⟨hi,hL⟩
 try dsimp only at hi hL
 by_cases bp:i<n
 · (conv=>whnf);repeat' ((first| intro g| refine st ?_| (first| refine b1 ?_ ?_| refine b2 ?_ ?_| refine Br.mk ?_ ?_) <;>intro hc| exact rfl) <;>conv=>whnf)
   exact aE.mk (i+1,L++[i],g) (by first| omega| (dsimp only;omega)) ⟨(by first| omega| (dsimp only;omega)),by simp[hL]⟩ (by(refine⟨?_,?_⟩ <;>repeat' (first| exact True.intro| refine ai ?_| refine And.intro ?_ ?_)))
 obtain rfl:i=n:=by omega
 (conv=>whnf);repeat' ((first| intro g| refine st ?_| (first| refine b1 ?_ ?_| refine b2 ?_ ?_| refine Br.mk ?_ ?_) <;>intro hc| exact rfl) <;>conv=>whnf)
 refine aI.by (fun ((b,L):Bool×List Nat)=> ⟨[(0,.lit 8 (ws.map Way.v)),(3,.sl 65 g 0 i),(5,.bool b)],[(65,⟨g,1,true,false,some (L.map aC)⟩)]⟩) (fun (b,L)=>L.length=i) (fun (b,L)=>2*L.sum+(if b then 1 else 0)) (true,L) (by(refine⟨?_,?_⟩ <;>repeat' (first| exact True.intro| refine ai ?_| refine And.intro ?_ ?_))) hL ?_
 clear hL L
 rintro⟨b,L⟩ hL
 try dsimp only at hL
 cases b with
 | false=>
   (conv=>whnf);repeat' ((first| intro g| refine st ?_| (first| refine b1 ?_ ?_| refine b2 ?_ ?_| refine Br.mk ?_ ?_) <;>intro hc| exact rfl) <;>conv=>whnf)
   exact⟨L,hL,rfl⟩
 | true=>
 (conv=>whnf);repeat' ((first| intro g| refine st ?_| (first| refine b1 ?_ ?_| refine b2 ?_ ?_| refine Br.mk ?_ ?_) <;>intro hc| exact rfl) <;>conv=>whnf)
 refine aI.by (fun ((j,b,M):Nat×Bool×List Nat)=> ⟨[(0,.lit 8 (ws.map Way.v)),(3,.sl 65 g 0 i),(5,.bool b),(6,aC j)],[(65,⟨g,1,true,false,some (M.map aC)⟩)]⟩) (fun (j,b,M)=>j≤i∧M.length=i∧M.sum≤L.sum∧(b=true→M.sum<L.sum)) (fun (j,_)=>i - j) (0,false,L) (by(refine⟨?_,?_⟩ <;>repeat' (first| exact True.intro| refine ai ?_| refine And.intro ?_ ?_))) ⟨by omega,hL,by omega,by simp⟩ ?_
 rintro⟨j,b,M⟩ ⟨hj,hM,hs,hb⟩
 try dsimp only at hj hM hs hb
 by_cases YM:j<i
 case neg=>
   (conv=>whnf);repeat' ((first| intro g| refine st ?_| (first| refine b1 ?_ ?_| refine b2 ?_ ?_| refine Br.mk ?_ ?_) <;>intro hc| exact rfl) <;>conv=>whnf)
   refine aE.mk (b,M) ?_ hM (by(refine⟨?_,?_⟩ <;>repeat' (first| exact True.intro| refine ai ?_| refine And.intro ?_ ?_)))
   dsimp only
   cases b
   · simp;omega
   · have:=hb rfl;simp;omega
 obtain⟨w,hw⟩: ∃w,ws[j]? =some w:=⟨_,aD (by omega)⟩
 (conv=>whnf);repeat' ((first| intro g| refine st ?_| (first| refine b1 ?_ ?_| refine b2 ?_ ?_| refine Br.mk ?_ ?_) <;>intro hc| exact rfl) <;>conv=>whnf)
 refine aI.by (fun ((k,b,M):Nat×Bool×List Nat)=> ⟨[(0,.lit 8 (ws.map Way.v)),(3,.sl 65 g 0 i),(5,.bool b),(6,aC j),(7,aC k)],[(65,⟨g,1,true,false,some (M.map aC)⟩)]⟩) (fun (k,b,M)=>k≤i∧M.length=i∧M.sum≤L.sum∧(b=true→M.sum<L.sum)) (fun (k,_)=>i - k) (0,b,M) (by(refine⟨?_,?_⟩ <;>repeat' (first| exact True.intro| refine ai ?_| refine And.intro ?_ ?_))) ⟨by omega,hM,hs,hb⟩ ?_
 clear hM hs hb
 rintro⟨k,b2,M2⟩ ⟨hk,hM,hs,hb⟩
 try dsimp only at hk hM hs hb
 by_cases Ib:k<i
 case neg=>
   (conv=>whnf);repeat' ((first| intro g| refine st ?_| (first| refine b1 ?_ ?_| refine b2 ?_ ?_| refine Br.mk ?_ ?_) <;>intro hc| exact rfl) <;>conv=>whnf)
   exact aE.mk (j+1,b2,M2) (by first| omega| (dsimp only;omega)) ⟨by omega,hM,hs,hb⟩ (by(refine⟨?_,?_⟩ <;>repeat' (first| exact True.intro| refine ai ?_| refine And.intro ?_ ?_)))
 obtain⟨u,hu⟩: ∃w,ws[k]? =some w:=⟨_,aD (by omega)⟩
 obtain⟨x,hx⟩: ∃w,M2[k]? =some w:=⟨_,aD (by omega)⟩
 obtain⟨y,hy⟩: ∃w,M2[j]? =some w:=⟨_,aD (by omega)⟩
 obtain⟨c,hc⟩:=vw w u (hl _ (List.mem_of_getElem? hw)) (hl _ (List.mem_of_getElem? hu))
 have nR: (M2.map aC).set ((j:Int)).toNat (aC x)=(M2.set j x).map aC:=by rw[List.map_set,Int.toNat_natCast]
 by_cases Y3:x<y
 · cases c
   · (conv=>whnf);repeat' ((first| intro g| refine aN.mk _ (al hx rfl) ?_| refine aN.mk _ (al hy rfl) ?_| refine aN.mk _ (al hw rfl) ?_| refine aN.mk _ (al hu rfl) ?_| refine ah.mk _ (hc) ?_| refine st ?_| (first| refine b1 ?_ ?_| refine b2 ?_ ?_| refine Br.mk ?_ ?_) <;>intro hc| exact rfl) <;>conv=>whnf)
     exact aE.mk (k+1,b2,M2) (by first| omega| (dsimp only;omega)) ⟨by omega,hM,hs,hb⟩ (by(refine⟨?_,?_⟩ <;>repeat' (first| exact True.intro| refine ai ?_| refine And.intro ?_ ?_)))
   · have bp:=vx hy Y3
     (conv=>whnf);repeat' ((first| intro g| refine aN.mk _ (al hx rfl) ?_| refine aN.mk _ (al hy rfl) ?_| refine aN.mk _ (al hw rfl) ?_| refine aN.mk _ (al hu rfl) ?_| refine ah.mk _ (hc) ?_| refine st ?_| (first| refine b1 ?_ ?_| refine b2 ?_ ?_| refine Br.mk ?_ ?_) <;>intro hc| exact rfl) <;>conv=>whnf)
     rw[nR]
     exact aE.mk (k+1,true,M2.set j x) (by first| omega| (dsimp only;omega)) ⟨by omega,by simpa using hM,by omega,fun _=>by omega⟩ (by(refine⟨?_,?_⟩ <;>repeat' (first| exact True.intro| refine ai ?_| refine And.intro ?_ ?_)))
 · (conv=>whnf);repeat' ((first| intro g| refine aN.mk _ (al hx rfl) ?_| refine aN.mk _ (al hy rfl) ?_| refine aN.mk _ (al hw rfl) ?_| refine aN.mk _ (al hu rfl) ?_| refine ah.mk _ (hc) ?_| refine st ?_| (first| refine b1 ?_ ?_| refine b2 ?_ ?_| refine Br.mk ?_ ?_) <;>intro hc| exact rfl) <;>conv=>whnf)
   exact aE.mk (k+1,b2,M2) (by first| omega| (dsimp only;omega)) ⟨by omega,hM,hs,hb⟩ (by(refine⟨?_,?_⟩ <;>repeat' (first| exact True.intro| refine ai ?_| refine And.intro ?_ ?_)))
end Go.AM
set_option maxHeartbeats 4000000
namespace Go.AM
theorem Cc {ws:List Way} {at_:Nat} (gv:at_<ws.length) (h:ws.length< 1000) (hl: ∀w ∈ ws,w.line.length< 1000): ∃b:Bool,Ev E 663 [.lit 8 (ws.map Way.v),aC at_] ⟨.bool b,[]⟩:=by
 obtain⟨L,hL,h1⟩:=vy h hl
 have h2:=o9 gv h
 have he: (ws.eraseIdx at_).length=ws.length - 1:=by rw[List.length_eraseIdx];simp[gv]
 obtain⟨M,hM,h3⟩:=vy (ws:=ws.eraseIdx at_) (by omega) (fun w hw=>hl w (List.mem_of_mem_eraseIdx hw))
 rw[he] at hM
 obtain⟨os,E3⟩: ∃x,ws.eraseIdx at_=x:=⟨_,rfl⟩
 rw[E3] at h2 h3 he
 refine cj (Ev.bz WR (WT _) rfl ?_)
 (conv=>whnf);repeat' ((first| intro g| refine ah.mk _ (h1) ?_| refine ah.mk _ (h2) ?_| refine ah.mk _ (h3) ?_| refine st ?_| (first| refine b1 ?_ ?_| refine b2 ?_ ?_| refine Br.mk ?_ ?_) <;>intro hc| exact rfl) <;>conv=>whnf)
 refine aI.by (fun i:Nat=> ⟨[(1,aC at_),(5,.lit 1 (L.map aC)),(6,.lit 8 (os.map Way.v)),(7,.lit 1 (M.map aC)),(8,aC i)],[]⟩) (fun i=>i≤os.length) (fun i=>os.length - i) 0 (by(refine⟨?_,?_⟩ <;>repeat' (first| exact True.intro| refine ai ?_| refine And.intro ?_ ?_))) (by omega) ?_
 rintro i hi
 by_cases bp:i<os.length
 case neg=>
  (conv=>whnf);repeat' ((first| intro g| refine st ?_| (first| refine b1 ?_ ?_| refine b2 ?_ ?_| refine Br.mk ?_ ?_) <;>intro hc| exact rfl) <;>conv=>whnf)
  exact⟨_,rfl⟩
 (conv=>whnf);repeat' ((first| intro g| refine st ?_| (first| refine b1 ?_ ?_| refine b2 ?_ ?_| refine Br.mk ?_ ?_) <;>intro hc| exact rfl) <;>conv=>whnf)
 refine aI.by (fun k:Nat=> ⟨[(1,aC at_),(5,.lit 1 (L.map aC)),(6,.lit 8 (os.map Way.v)),(7,.lit 1 (M.map aC)),(8,aC i),(9,aC k)],[]⟩) (fun k=>k≤i) (fun k=>i - k) 0 (by(refine⟨?_,?_⟩ <;>repeat' (first| exact True.intro| refine ai ?_| refine And.intro ?_ ?_))) (by omega) ?_
 rintro k hk
 by_cases Ib:k<i
 case neg=>
  (conv=>whnf);repeat' ((first| intro g| refine st ?_| (first| refine b1 ?_ ?_| refine b2 ?_ ?_| refine Br.mk ?_ ?_) <;>intro hc| exact rfl) <;>conv=>whnf)
  exact aE.mk (i+1) (by first| omega| (dsimp only;omega)) (by omega) (by(refine⟨?_,?_⟩ <;>repeat' (first| exact True.intro| refine ai ?_| refine And.intro ?_ ?_)))
 obtain⟨a,ha⟩: ∃x,L[i]? =some x:=⟨_,aD (by omega)⟩
 obtain⟨a1,kK⟩: ∃x,L[i+1]? =some x:=⟨_,aD (by omega)⟩
 obtain⟨b,hb⟩: ∃x,L[k]? =some x:=⟨_,aD (by omega)⟩
 obtain⟨b1,tq⟩: ∃x,L[k+1]? =some x:=⟨_,aD (by omega)⟩
 obtain⟨c,hc⟩: ∃x,M[i]? =some x:=⟨_,aD (by omega)⟩
 obtain⟨d,hd⟩: ∃x,M[k]? =some x:=⟨_,aD (by omega)⟩
 have w1:IntKind.i64.wrap ((i:Int)+1)=((i+1:Nat):Int):=(wrap64 (by omega) (by omega)).trans (by omega)
 have w2:IntKind.i64.wrap ((k:Int)+1)=((k+1:Nat):Int):=(wrap64 (by omega) (by omega)).trans (by omega)
 by_cases Ph:at_≤i<;>by_cases hka:at_≤k
 all_goals
  (conv=>whnf);repeat' ((first| ((exfalso;omega)) | intro g| refine aN.mk _ (al ha rfl) ?_| refine aN.mk _ (al kK w1) ?_| refine aN.mk _ (al hb rfl) ?_| refine aN.mk _ (al tq w2) ?_| refine aN.mk _ (al hc rfl) ?_| refine aN.mk _ (al hd rfl) ?_| refine st ?_| (first| refine b1 ?_ ?_| refine b2 ?_ ?_| refine Br.mk ?_ ?_) <;>intro hc| exact rfl) <;>conv=>whnf)
  all_goals first| exact⟨_,rfl⟩ | exact aE.mk (k+1) (by first| omega| (dsimp only;omega)) (by omega) (by(refine⟨?_,?_⟩ <;>repeat' (first| exact True.intro| refine ai ?_| refine And.intro ?_ ?_)))
theorem sG {m:bk} (h:m.ways.length< 1000) {id:Int} (hf:oB m.ways id= -1):Ev E 651 [m.v,vi id] ⟨vi 5,[]⟩:=by
 have h1:=kH h id
 rw[hf] at h1
 refine Ev.aT KH (KI _) rfl ?_
 (conv=>whnf);repeat' ((first| intro g| refine ah.mk _ (h1) ?_| refine st ?_| (first| refine b1 ?_ ?_| refine b2 ?_ ?_| refine Br.mk ?_ ?_) <;>intro hc| exact rfl) <;>conv=>whnf)
theorem pb {m:bk} (h:m.Sm) {id:Int} {k:Nat} {w:Way} (hf:oB m.ways id=k) (hw:m.ways[k]? =some w): ∃c:Int,Ev E 651 [m.v,vi id] ⟨vi c,[]⟩:=by
 have h1:=kH h.w id
 rw[hf] at h1
 have hk:=(List.getElem?_eq_some_iff.1 hw).1
 have h3:=h.w
 obtain⟨l,n,hm,hn,hle,h2⟩:=JX hk h.w
 obtain⟨b,hb⟩:=Cc hn (by omega) (fun u hu=>h.wl u (hm u hu))
 have ho:=o9 hn (by omega)
 have he: (l.eraseIdx n).length=l.length - 1:=by rw[List.length_eraseIdx];simp[hn]
 obtain⟨os,E3⟩: ∃x,l.eraseIdx n=x:=⟨_,rfl⟩
 rw[E3] at ho he
 refine cj (g:=vi) (Ev.bz KH (KI _) rfl ?_)
 (conv=>whnf);repeat' ((first| ((exfalso;omega)) | intro g| refine aN.mk _ (al hw rfl) ?_| refine ah.mk _ (h1) ?_| refine st ?_| (first| refine b1 ?_ ?_| refine b2 ?_ ?_| refine Br.mk ?_ ?_) <;>intro hc| exact rfl) <;>conv=>whnf)
 · exact⟨_,rfl⟩
 rename_i fc
 refine aI.by (fun i:Nat=> ⟨[(2,.ptr 48 fc 0 0),(5,aC k),(6,.ptr 112 g 0 0),(7,aC i)],[(48,⟨fc,4,false,false,some [m.v]⟩),(112,⟨g,8,false,false,some [w.v]⟩)]⟩) (fun i=>i≤m.ways.length) (fun i=>m.ways.length - i) 0 (by(refine⟨?_,?_⟩ <;>repeat' (first| exact True.intro| refine ai ?_| refine And.intro ?_ ?_))) (by omega) ?_
 rintro i hi
 by_cases bp:i<m.ways.length
 · obtain⟨u,hu⟩: ∃x,m.ways[i]? =some x:=⟨_,aD bp⟩
   obtain⟨j,hj⟩:=vw u w (h.wl _ (List.mem_of_getElem? hu)) (h.wl _ (List.mem_of_getElem? hw))
   (conv=>whnf);repeat' ((first| intro g| refine aN.mk _ (al hu rfl) ?_| refine ah.mk _ (hj) ?_| refine st ?_| (first| refine b1 ?_ ?_| refine b2 ?_ ?_| refine Br.mk ?_ ?_) <;>intro hc| exact rfl) <;>conv=>whnf)
   all_goals first| exact⟨_,rfl⟩ | exact aE.mk (i+1) (by first| omega| (dsimp only;omega)) (by omega) (by(refine⟨?_,?_⟩ <;>repeat' (first| exact True.intro| refine ai ?_| refine And.intro ?_ ?_)))
 (conv=>whnf);repeat' ((first| intro g| refine ah.mk _ (h2) ?_| refine ah.mk _ (hb) ?_| refine ah.mk _ (ho) ?_| refine st ?_| (first| refine b1 ?_ ?_| refine b2 ?_ ?_| refine Br.mk ?_ ?_) <;>intro hc| exact rfl) <;>conv=>whnf)
 all_goals first| exact⟨_,rfl⟩ | skip
 refine aI.by (fun i:Nat=> ⟨[(6,.ptr 112 g 0 0),(10,.lit 8 (os.map Way.v)),(11,aC i)],[(112,⟨g,8,false,false,some [w.v]⟩)]⟩) (fun i=>i≤os.length) (fun i=>os.length - i) 0 (by(refine⟨?_,?_⟩ <;>repeat' (first| exact True.intro| refine ai ?_| refine And.intro ?_ ?_))) (by omega) ?_
 clear bp hi i
 rintro i hi
 by_cases bp:i<os.length
 · obtain⟨u,hu⟩: ∃x,os[i]? =some x:=⟨_,aD bp⟩
   (conv=>whnf);repeat' ((first| intro g| refine aN.mk _ (al hu rfl) ?_| refine st ?_| (first| refine b1 ?_ ?_| refine b2 ?_ ?_| refine Br.mk ?_ ?_) <;>intro hc| exact rfl) <;>conv=>whnf)
   all_goals first| exact⟨_,rfl⟩ | exact aE.mk (i+1) (by first| omega| (dsimp only;omega)) (by omega) (by(refine⟨?_,?_⟩ <;>repeat' (first| exact True.intro| refine ai ?_| refine And.intro ?_ ?_)))
 · (conv=>whnf);repeat' ((first| intro g| refine st ?_| (first| refine b1 ?_ ?_| refine b2 ?_ ?_| refine Br.mk ?_ ?_) <;>intro hc| exact rfl) <;>conv=>whnf)
   exact⟨_,rfl⟩
theorem sH {m:bk} (h:m.Sm) (id:Int): ∃c:Int,Ev E 660 [m.v,vi id] ⟨vi c,[]⟩:=by
 have h1:=kH h.w id
 rcases bV (fun w:Way=>decide (w.id=id)) m.ways with⟨hf,_⟩ | ⟨k,w,hf,hw,_⟩
 · have hf:oB m.ways id= -1:=hf
   rw[hf] at h1
   refine cj (g:=vi) (Ev.bz KJ (KL _) rfl ?_)
   (conv=>whnf);repeat' ((first| intro g| refine ah.mk _ (h1) ?_| refine st ?_| (first| refine b1 ?_ ?_| refine b2 ?_ ?_| refine Br.mk ?_ ?_) <;>intro hc| exact rfl) <;>conv=>whnf)
   exact⟨_,rfl⟩
 · have hf:oB m.ways id=k:=hf
   rw[hf] at h1
   have h3:=h.w
   have hk:=(List.getElem?_eq_some_iff.1 hw).1
   refine cj (g:=vi) (Ev.bz KJ (KL _) rfl ?_)
   (conv=>whnf);repeat' ((first| ((exfalso;omega)) | intro g| refine aN.mk _ (al hw rfl) ?_| refine ah.mk _ (h1) ?_| refine st ?_| (first| refine b1 ?_ ?_| refine b2 ?_ ?_| refine Br.mk ?_ ?_) <;>intro hc| exact rfl) <;>conv=>whnf)
   exact⟨_,rfl⟩
end Go.AM
