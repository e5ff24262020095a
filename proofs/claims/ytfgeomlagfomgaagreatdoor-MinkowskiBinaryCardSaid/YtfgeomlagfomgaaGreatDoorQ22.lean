/-
  Part 23 of a proof (walks and plain facts).
-/
import Derived.Test.YtfgeomlagfomgaaGreatDoorQ21
set_option linter.all false
set_option maxRecDepth 100000
set_option maxHeartbeats 64000000
open Nat renaming reduceAdd → aa
open Nat renaming reduceEqDiff → ab
open List renaming replicate → ae
open Nat renaming reduceBEq → af
open Nat renaming reduceLeDiff → ah
open List renaming mem_map → ak
open List renaming getElem?_append_left → ao
open List renaming getElem?_eq_none → aq
open List renaming length_map → aw
open List renaming length_replicate → ax
open List renaming getElem?_map → ay
namespace Go.Proofs.YtfgeomlagfomgaaGreatDoor
open Go.RowKit
/-! Inner products of rows. -/
theorem qS {n:Nat} {h:FF} (hn1:1<=n) (hn:n<=8) (hr:RedR h n):b6 (bs n n h)=true:=
 (ik _).2 ((Az hn1).2 ⟨rfl,hn,hr⟩)
theorem lk {n:Nat} {X:Nat->Int} (hx: ∀j,j<n-> -1099511627776<=X j/\X j<=1099511627776):FitB n (bE n X)=true:=by
 refine iZ.2 ⟨bv n X,?_⟩;unfold Iw;rw[List.all_eq_true];intro c hc;obtain⟨j,hj⟩:=List.mem_iff_getElem?.1 hc;have hjn:j<n:=by
  have:=(List.getElem?_eq_some_iff.1 hj).1;rwa[bv]at this
 rw[aU _ hjn]at hj;injection hj with hj
 have:=hx j hjn;rw[hj]at this;simp[this]
theorem oV (n:Nat) (X:Nat->Int):(bE n X).take n=bE n X:=List.take_of_length_le (by rw[bv];omega)
theorem Fk {n:Nat} {h:FF} {X Y:Nat->Int} (hn1:1<=n) (hn:n<=8) (hr:RedR h n) (hx: ∀j,j<n-> -1099511627776<=X j/\X j<=1099511627776) (hy: ∀j,j<n-> -1099511627776<=Y j/\Y j<=1099511627776):
  fk (bE n X) (dM (bs n n h) (bE n Y)) (bE n X).length=BF n h X Y:=by
 have e:=DA (x:=bE n X) (y:=bE n Y) (qS hn1 hn hr) (by rw[aW];exact lk hx) (by rw[aW];exact lk hy);rw[e,aW];exact eJ (fun i j hi hj=>oB h hi hj) (fun i hi=>yg X hi) (fun i hi=>yg Y hi)
theorem vn {n:Nat} {h:FF} {X Y:Nat->Int} (hn1:1<=n) (hn:n<=8) (hr:RedR h n) (hx: ∀j,j<n-> -1099511627776<=X j/\X j<=1099511627776) (hy: ∀j,j<n-> -1099511627776<=Y j/\Y j<=1099511627776)
  (hb: -4611686018427387904<=BF n h X Y/\BF n h X Y<=4611686018427387904):GZ (bs n n h) (bE n X) (bE n Y)=Ij (BF n h X Y) true:=by
 unfold GZ;rw[if_pos ⟨by unfold kX;rw[qS hn1 hn hr,aW,lk hx];rfl,by rw[aW];exact lk hy⟩,Fk hn1 hn hr hx hy];exact if_pos hb
def GdR (n:Nat) (h:FF) (x:Nat->Int):Prop:=nrm n h x<=262144
theorem GdR.co {n:Nat} {h:FF} {x:Nat->Int} (hn1:1<=n) (hn:n<=4) (hr:RedR h n) (hg:GdR n h x): ∀j,j<n-> -1099511627776<=x j/\x j<=1099511627776:=fun j hj=>by
 have:=D0 hn1 hn hr hg j hj;omega
theorem GdR.nn {n:Nat} {h:FF} {x:Nat->Int} (hr:RedR h n):0<=nrm n h x:=(hr.pd.pos x).1
abbrev jw (M:List (List Int)):List PV:=[.sl (ls (fR fI) M)]
theorem Pg {n:Nat} {h:FF} {X Y:Nat->Int} (hn1:1<=n) (hn:n<=4) (hr:RedR h n) (hx:GdR n h X) (hy:GdR n h Y):
  CallC Tryz.prog 92 [jW (bE n X),jW (bE n Y),.one (.p (.ptr (jw (bs n n h))))] ⟨[],.raw (.int .i64 (nrm n h X-nrm n h Y))⟩:=by
 have a0:0<=nrm n h X:=GdR.nn hr;have b0:0<=nrm n h Y:=GdR.nn hr;have a1:nrm n h X<=262144:=hx;have b1:nrm n h Y<=262144:=hy;have c1:=FL (bs n n h) (bE n X);have c2:=FL (bs n n h) (bE n Y);rw[vn hn1 (by omega) hr (hx.co hn1 hn hr) (hx.co hn1 hn hr) (by show _<=nrm n h X/\nrm n h X<=_;omega),show BF n h X X=nrm n h X from rfl]at c1;rw[vn hn1 (by omega) hr (hy.co hn1 hn hr) (hy.co hn1 hn hr) (by show _<=nrm n h Y/\nrm n h Y<=_;omega),show BF n h Y Y=nrm n h Y from rfl]at c2;refine aI Tryz.func92 rfl (by kernel_rfl) ?_;rw[Tryz.ntmps92];refine aD fun _ K=>?_;simp only[kd,jW,aa,ae];apply K
 refine aG [⟨2,_,_,_,c1⟩] [] fun _ K=>?_;simp only[kd,bx,jW,Ij,aa];apply K
 refine aG [⟨2,_,_,_,c2⟩] [] fun _ K=>?_;simp only[kd,bx,jW,Ij,aa];apply K
 refine aD fun _ K=>?_;simp(disch:=omega) only[kd,km,aa,aP];apply K
 (refine aH ⟨.inr rfl,aJ rfl ?_ rfl⟩;simp(disch:=omega) only[kd,km,Tryz.results92])
/-! Rows that change their places. -/
theorem J5 {d n p k:Nat} (g:FF) (hp:p<n) (hk:k<n) (hne:k≠p) (r:Nat):(df d n n (swp p k g))[r]?=
  (((⟨27,1,((gC d (ae n n)).set p [.sl d (k+1) 0 n]).set k [.sl d (p+1) 0 n]⟩::(bs n n g).map jI:List OObj))[sw (p+1) (k+1) r]?).map (wR d (p+1) (k+1)):=by
 cases r with
 |zero=>
  rw[show sw (p+1) (k+1) 0=0 by simp[sw]];simp only[List.getElem?_cons_zero,Option.map_some,wR]
  congr 2
  apply List.ext_getElem?;intro i;rw[ay,List.getElem?_set,List.getElem?_set,List.length_set,cw,ax];by_cases hi:i<n
  ·rw[bO d n hi];by_cases h1:k=i
   ·subst h1;simp[hi,jY,o6,sw]
   by_cases h2:p=i
   ·subst h2;simp[h1,hi,jY,o6,sw]
   have h1': ¬i=k:=fun e=>h1 e.symm
   have h2': ¬i=p:=fun e=>h2 e.symm
   simp[h1,h2,h1',h2',jY,o6,sw]
  have h1: ¬k=i:=by omega
  have h2: ¬p=i:=by omega
  rw[if_neg h1,if_neg h2,aq (by rw[cw,ax];omega)];rfl
 |succ r=>
  have hsw:sw (p+1) (k+1) (r+1)=sw p k r+1:=by
   unfold sw;by_cases h1:r=p
   ·simp[h1]
   by_cases h2:r=k
   ·simp[h1,h2,hne]
   simp[h1,h2]
  have hO: ∀l:List Int,wR d (p+1) (k+1) (jI l)=jI l:=fun l=>by
   simp only[wR,jI,lc,List.map_map]
   congr 1
  rw[hsw,List.getElem?_cons_succ,List.getElem?_cons_succ,ay,ay];by_cases hr:r<n
  ·have hs:sw p k r<n:=by unfold sw;split<;>(try split)<;>omega
   rw[bC _ _ hr,bC _ _ hs];simp only[Option.map_some,hO]
   congr 3
   unfold swp sw;by_cases h1:r=p
   ·simp[h1]
   by_cases h2:r=k
   ·simp[h1,h2,hne]
   simp[h1,h2]
  have hs: ¬sw p k r<n:=by unfold sw;rw[if_neg (by omega),if_neg (by omega)];exact hr
  rw[aq (by rw[aW];omega),aq (by rw[aW];omega)];rfl
theorem lC (n c:Nat) (f:FF): ∀o∈df 0 n c f,selfO 0 o:=fun o ho e he x hx=>by
 simp only[List.mem_cons,ak]at ho;rcases ho with rfl|⟨r,_,rfl⟩
 ·obtain⟨k,hk⟩:=List.mem_iff_getElem?.1 he;have hkn:k<n:=by
   have:=(List.getElem?_eq_some_iff.1 hk).1;simpa[cw] using this
  simp only at hk;rw[bO 0 c hkn]at hk;injection hk with hk
  subst hk;simp at hx;subst hx;rfl
 exact dD (fb _ _ _) e he x hx
theorem vD (n c:Nat) (f g:FF): ∃o o',(df 0 n c f)[0]?=some o/\(df 0 n c g)[0]?=some o'/\o.elems.length=n/\o'.elems.length=n/\o'.es=o.es:=
 ⟨_,_,rfl,rfl,by simp[cw],by simp[cw],rfl⟩
structure Rq (n:Nat) (h:FF) (i:Nat) (T:FF) where
 j:Nat
 C:Nat->Nat->Int
 hj:j<=i
 he:insB (nrm n h) C j=T
 ok: ∀a,a<n->GdR n h (C a)
structure Rz (n:Nat) where
 i:Nat
 h1:1<=i
 hi:i<=n
theorem G0 (n:Nat) (h B:FF) (hn1:1<=n) (hn:n<=4) (hr:RedR h n) (hB: ∀a,a<n->GdR n h (B a)):
  sQ Tryz.prog 151 [jk,.raw (.int .i64 0),.raw (.int .i64 (n:Int)),.fn 92 [.p (.ptr (jw (bs n n h)))]] 0 n (df 0 n n B) (df 0 n n (lN (nrm n h) B n)) .undef:=by
 have hall:=fun i hi=>re (n:=n) (nrm n h) (Q:=GdR n h) (B:=B) hB i hi
 refine uI Tryz.func151 rfl (by kernel_rfl) (by simp) hn1 (vD _ _ _ _) rfl ?_;rw[Tryz.ntmps151];refine fG.weak (aE (tm:=(.one (.sl 0 0 0 n)::.raw (.int .i64 0)::rN n::.fn 92 [.p (.ptr (jw (bs n n h)))]::j16 (j16 (j16 (jk::[]))))) (l:=[(0,df 0 n n B)]) ⟨rfl,trivial⟩ (by simp[wk,ae])) ?_;refine bf (by kernel_rfl) fun _ K=>?_;simp(disch:=omega) only[kd,km,aa,aP];apply K
 refine ic (G:=Rz n) (fun g=>⟨(.one (.sl 0 0 0 n)::.raw (.int .i64 0)::rN n::.fn 92 [.p (.ptr (jw (bs n n h)))]::j4 (.raw (.int .i64 (g.i:Int))::j16 (j16 (j4 (j4 (j4 ([]))))))),Hm [(0,df 0 n n (lN (nrm n h) B g.i))]⟩) (fun g=>n-g.i) ⟨1,by omega,hn1⟩ ?_ ?_
 ·refine aE ⟨rfl,trivial⟩ ?_;simp[wk]
 rintro⟨i,hi1,hi⟩;simp only;by_cases hm:i<n
 ·refine cy (bf (by kernel_rfl) fun _ K=>?_);simp(disch:=omega) only[kd,km,aa];apply K;refine kJ rfl (gF ?_);refine cy (fE ?_);refine bf (by kernel_rfl) fun _ K=>?_;simp only[kd];apply K
  refine ic (G:=Rq n h i (lN (nrm n h) B (i+1))) (fun g=>⟨(.one (.sl 0 0 0 n)::.raw (.int .i64 0)::rN n::.fn 92 [.p (.ptr (jw (bs n n h)))]::j4 (.raw (.int .i64 (i:Int))::rN g.j::j16 (j16 (j4 (j4 (jk::jk::jk::[])))))),Hm [(0,df 0 n n g.C)]⟩) (fun g=>g.j) ⟨i,lN (nrm n h) B i,Nat.le_refl _,rfl,hall i (by omega)⟩ ?_ ?_
  ·refine aE ⟨rfl,trivial⟩ ?_;simp[wk]
  rintro⟨j,C,hj,he,ok⟩;simp only;cases j with
  |zero=>
   have he:C=lN (nrm n h) B (i+1):=he;refine cy (gR be (by kernel_rfl) (by kernel_rfl) fun _ K=>?_);simp(disch:=omega) only[kd,km,aa];apply K;refine jl rfl (gE ?_);show fG _ _ _ _ _;refine dS (by kernel_rfl) fun _ K=>?_;simp(disch:=omega) only[kd,km,aa,aP];apply K
   refine⟨⟨i+1,by omega,by omega⟩,by simp only;omega,aE ⟨?_,trivial⟩ ?_⟩
   ·rw[<- he];rfl
   simp[wk]
  |succ j=>
   have hC:=Pg hn1 hn hr (ok (j+1) (by omega)) (ok j (by omega));have e0:IntKind.i64.wrap (((j+1:Nat):Int)-1)=(j:Int):=by rw[show((j+1:Nat):Int)-1=(j:Int) by omega];exact aP (by omega) (by omega)
   have g1:=bO (n:=n) (i:=j+1) 0 n (by omega);have g2:=bO (n:=n) (i:=j) 0 n (by omega);have r1:=cx n C (i:=j+1) (show j+1<n by omega);have r2:=cx n C (i:=j) (show j<n by omega);have gt:(0:Int)<((j+1:Nat):Int):=by omega
   by_cases hlt:nrm n h (C (j+1))<nrm n h (C j)
   ·rw[insB,if_pos hlt]at he;have hneg:nrm n h (C (j+1))-nrm n h (C j)<0:=by omega
    refine cy (oo be [⟨14,_,_,_,hC⟩] [] (by kernel_rfl) (by kernel_rfl) fun _ K=>?_);simp(disch:=omega) only[kd,km,jW,aa,gt,g1,e0,g2,r1,oV,r2,hneg];apply K;refine kJ rfl (gF ?_);refine cy (fE ?_);have hsw:=J5 (d:=0) C (show j+1<n by omega) (show j<n by omega) (by omega);have g4:((gC 0 (ae n n)).set (j+1) [.sl 0 (j+1) 0 n])[j]?=some [.sl 0 (j+1) 0 n]:=by
     rw[List.getElem?_set_ne (by omega),g2]
    refine CT be (by kernel_rfl) (by kernel_rfl) fun _ K=>?_;simp(disch:=omega) only[kd,km,aa,e0,g2,g1,g4,ah,reduceCtorEq];apply K
    show fG _ _ _ _ _;refine fG.weak ((qa 0 (j+1+1) (j+1) (df 0 n n (swp (j+1) j C)) hsw).trans (aE (tm:=(.one (.sl 0 0 0 n)::.raw (.int .i64 0)::rN n::.fn 92 [.p (.ptr (jw (bs n n h)))]::j4 (.raw (.int .i64 (i:Int))::.raw (.int .i64 ((j+1:Nat):Int))::j16 (j16 (j4 (j4 (jk::jk::jk::[]))))))) (l:=[(0,df 0 n n (swp (j+1) j C))]) ⟨rfl,trivial⟩ (by simp[wk,Ee,jY,o6,sw]))) ?_;refine dS (by kernel_rfl) fun _ K=>?_;simp only[kd,aa,e0];apply K
    refine⟨⟨j,swp (j+1) j C,by omega,he,fun a ha=>?_⟩,by simp only;omega,aE ⟨rfl,trivial⟩ ?_⟩
    ·unfold swp;split
     ·exact ok j (by omega)
     split
     ·exact ok (j+1) (by omega)
     exact ok a ha
    simp[wk]
   rw[insB,if_neg hlt]at he;have hneg: ¬nrm n h (C (j+1))-nrm n h (C j)<0:=by omega
   refine cy (oo be [⟨14,_,_,_,hC⟩] [] (by kernel_rfl) (by kernel_rfl) fun _ K=>?_);simp(disch:=omega) only[kd,km,jW,aa,gt,g1,e0,g2,r1,oV,r2,hneg];apply K;refine jl rfl (gE ?_);show fG _ _ _ _ _;refine dS (by kernel_rfl) fun _ K=>?_;simp(disch:=omega) only[kd,km,aa,aP];apply K
   refine⟨⟨i+1,by omega,by omega⟩,by simp only;omega,aE ⟨?_,trivial⟩ ?_⟩
   ·rw[<- he];rfl
   simp[wk]
 have hin:i=n:=by omega
 subst hin;refine cy (bf (by kernel_rfl) fun _ K=>?_);simp(disch:=omega) only[kd,km,aa];apply K;refine jl rfl (gE ?_);refine⟨.inl rfl,_,ce.refl _,rfl,pD _,rfl⟩
theorem La (n:Nat) (h B:FF) (hn1:1<=n) (hn:n<=4) (hr:RedR h n) (hB: ∀a,a<n->GdR n h (B a)):
  sQ Tryz.prog 123 [jk,.raw (.int .i64 (n:Int)),.fn 92 [.p (.ptr (jw (bs n n h)))]] 0 n (df 0 n n B) (df 0 n n (lN (nrm n h) B n)) .undef:=by
 have hI:=G0 n h B hn1 hn hr hB;refine uI Tryz.func123 rfl (by kernel_rfl) (by simp) hn1 (vD _ _ _ _) rfl ?_;rw[Tryz.ntmps123];refine fG.weak (aE (tm:=(.one (.sl 0 0 0 n)::rN n::.fn 92 [.p (.ptr (jw (bs n n h)))]::j16 (j16 (j16 (j4 (j4 (j4 ([])))))))) (l:=[(0,df 0 n n B)]) ⟨rfl,trivial⟩ (by simp[wk,ae])) ?_;refine bf (by kernel_rfl) fun _ K=>?_;simp only[kd];apply K
 refine bf (by kernel_rfl) fun _ K=>?_;simp only[kd,aa];apply K
 refine cy (ic (G:=Unit) (fun _=>⟨(.one (.sl 0 0 0 n)::rN n::.fn 92 [.p (.ptr (jw (bs n n h)))]::jk::jk::jk::.raw (.int .i64 20)::.raw (.int .i64 0)::.raw (.int .i64 20)::j16 (j16 (j16 (j4 (jk::jk::[]))))),Hm [(0,df 0 n n B)]⟩) (fun _=>0) () ?_ ?_)
 ·refine aE ⟨rfl,trivial⟩ ?_;simp[wk]
 intro _;refine cy (bf (by kernel_rfl) fun _ K=>?_);simp(disch:=omega) only[kd,km,aa];apply K;refine jl rfl (gE ?_);show fG _ _ _ _ _;refine CU 4 hI 0 [] [] (by kernel_rfl) (by simp[wk]) hn1 rfl (lC _ _ _) (lC _ _ _) (by decide) (by simp[wk]) (by decide) fun K hK=>?_
 simp only[kd,aa];apply hK;clear hK K;refine⟨⟨rfl,(cB 0 0 _ _ _).symm⟩,by simp,?_⟩;intro K hK;simp only[kd,aa,Pf,cwD,kM];apply hK;clear hK K;refine ic (G:=Unit) (fun _=>⟨(.one (.sl 0 0 0 n)::rN n::.fn 92 [.p (.ptr (jw (bs n n h)))]::jk::jk::jk::.raw (.int .i64 20)::j16 (j16 (j16 (j4 (j4 ([])))))),Hm [(0,df 0 n n (lN (nrm n h) B n))]⟩) (fun _=>0) () ?_ ?_
 ·refine aE ⟨cB 0 0 n n _,trivial⟩ ?_;simp[wk]
 intro _;refine cy (bf (by kernel_rfl) fun _ K=>?_);simp(disch:=omega) only[kd,km,aa];apply K;refine jl rfl (gE ?_);refine⟨.inl rfl,_,ce.refl _,rfl,pD _,rfl⟩
theorem Aa (n:Nat) (h B:FF) (hn1:1<=n) (hn:n<=4) (hr:RedR h n) (hB: ∀a,a<n->GdR n h (B a)):
  sQ Tryz.prog 91 [jk,.fn 92 [.p (.ptr (jw (bs n n h)))]] 0 n (df 0 n n B) (df 0 n n (lN (nrm n h) B n)) .undef:=by
 have hI:=La n h B hn1 hn hr hB;refine uI Tryz.func91 rfl (by kernel_rfl) (by simp) hn1 (vD _ _ _ _) rfl ?_;rw[Tryz.ntmps91];refine fG.weak (aE (tm:=(.one (.sl 0 0 0 n)::.fn 92 [.p (.ptr (jw (bs n n h)))]::j4 (jk::jk::jk::[]))) (l:=[(0,df 0 n n B)]) ⟨rfl,trivial⟩ (by simp[wk,ae])) ?_;refine uw 4 hI 0 [] [] (by kernel_rfl) (by simp[wk]) hn1 rfl (lC _ _ _) (lC _ _ _) (by decide) (by simp[wk]) (by decide) fun K hK=>?_
 simp only[kd,aa];apply hK;clear hK K;refine⟨⟨rfl,(cB 0 0 _ _ _).symm⟩,by simp,?_⟩;intro K hK;simp only[kd,aa,Pf,cwD,kM];apply hK;clear hK K;refine⟨.inl rfl,_,aE (tm:=(.one (.sl 0 0 0 n)::j4 (j4 ([])))) (l:=[(0,df 0 n n (lN (nrm n h) B n))]) ⟨cB 0 0 n n _,trivial⟩ (by simp[wk]),rfl,pD _,rfl⟩
open Classical in
noncomputable def vg (M l:List (List Int)):CallRes:=if Qj M l then⟨df 0 l.length l.length (vG M l),mj l.length true⟩else⟨df 0 0 0 (vG M l),mj 0 false⟩
theorem vh {M l:List (List Int)} (h: ¬Qj M l):vg M l=⟨df 0 0 0 (vG M l),mj 0 false⟩:=if_neg h
theorem oD {M l:List (List Int)} (h:Qj M l):vg M l=⟨df 0 l.length l.length (vG M l),mj l.length true⟩:=if_pos h
theorem v8 {fn:Func} {c:Nat} {F:FF} {b:Bool} {s:AS} (hd:s.H 500=[]) (hk:s.tmps[4]?=some (.raw (.slice none 0 0)))
  (hres:tp Tryz.prog ⟨s.tmps.set 4 (.one (.sl 500 0 0 0)),bi s.H 500 [⟨27,1,[]⟩]⟩ fn.results.toList=some (.tup [(false,[.sl 500 0 0 0]),(false,[.p (.raw (.bool b))])])):
  ∃s',ce s s'/\oY Tryz.prog fn ⟨df 0 0 c F,mj 0 b⟩ s':=
 ⟨_,fz (k:=4) (d:=500) 27 1 (by omega) hd hk,_,500,hres,wq (by simp[jq,d9]) (by decide),by simp only[bF];rfl,rfl⟩
theorem FK (M l:List (List Int)) (hl:l.length<=16):CallC Tryz.prog 48 [bx M,bx l] (vg M l):=by
 have hno:=vh (M:=M) (l:=l);have hyes:=oD (M:=M) (l:=l);generalize vg M l=r at*
 have cR:=mB M;cases hred:b6 M with
 |false=>
  rw[hred]at cR;rw[hno (fun h=>by rw[h.1]at hred;cases hred)];refine aI Tryz.func48 rfl (by kernel_rfl) ?_;rw[Tryz.ntmps48];refine aD fun _ K=>?_;simp only[kd,bx,aa,ae];apply K
  refine aF (aG [⟨1,_,_,_,cR⟩] [] fun _ K=>?_);simp only[kd,bx,aa];apply K;refine aX rfl ?_;refine aD fun _ K=>?_;simp only[kd];apply K
  refine aH ⟨.inr rfl,v8 rfl rfl ?_⟩;simp(disch:=omega) only[kd,km,Tryz.results48]
 |true=>
  rw[hred]at cR;obtain⟨n,hn⟩: ∃n,n=l.length:=⟨_,rfl⟩;rw[<- hn]at hyes hl;have hln:=hn.symm;refine aI Tryz.func48 rfl (by kernel_rfl) ?_;rw[Tryz.ntmps48];refine aD fun _ K=>?_;simp only[kd,bx,aa,ae];apply K
  refine aF (aG [⟨1,_,_,_,cR⟩] [] fun _ K=>?_);simp only[kd,bx,aa];apply K;refine aR rfl (aM ?_);show bo _ _ _ _;refine aF (aD fun _ K=>?_);simp only[kd,aa,hln];apply K;refine aY (G:=Rp n (fun a=>FitB M.length (l.getD a [])=true)) (fun g=>⟨(bx M::bx l::j16 (jk::bx l::rN n::rN g.i::j16 (j16 (j16 (j16 (jk::jk::jk::[])))))),Hm []⟩) (fun g=>n-g.i) ⟨0,by omega,fun a h=>by omega⟩ ?_ ?_
  ·refine aE trivial ?_;simp[wk]
  rintro⟨i,hi,hg⟩;simp only;by_cases hm:i<n
  ·have hli:=y6 (l:=l) (i:=i) (by omega);have cF:=Nd M.length (l.getD i []);cases hf:FitB M.length (l.getD i [])with
   |true=>
    rw[hf]at cF;have hg': ∀a,a<i+1->FitB M.length (l.getD a [])=true:=fun a ha=>by
     by_cases h:a=i
     ·subst h;exact hf
     exact hg a (by omega)
    generalize l.getD i []=xi at*
    refine aD fun _ K=>?_;simp(disch:=omega) only[kd,km,bx];apply K
    refine bG rfl ?_;refine aF (aK ?_);refine aD fun _ K=>?_;simp(disch:=omega) only[kd,km,aa,hli,fR];apply K
    refine aG [⟨3,_,_,_,cF⟩] [] fun _ K=>?_;simp only[kd,jW,aa];apply K
    refine aR rfl (aM ?_);show bo _ _ _ _;refine aL fun _ K=>?_;simp(disch:=omega) only[kd,km,aP];apply K
    refine⟨⟨i+1,by omega,hg'⟩,by simp only;omega,aE trivial ?_⟩;simp[wk]
   |false=>
    rw[hf]at cF;have hr:=hno (fun h=>by rw[(h.2 i (by omega) i (by omega)).x]at hf;cases hf);generalize l.getD i []=xi at*
    refine aD fun _ K=>?_;simp(disch:=omega) only[kd,km,bx];apply K
    refine bG rfl ?_;refine aF (aK ?_);refine aD fun _ K=>?_;simp(disch:=omega) only[kd,km,aa,hli,fR];apply K
    refine aG [⟨3,_,_,_,cF⟩] [] fun _ K=>?_;simp only[kd,jW,aa];apply K
    refine aX rfl ?_;refine aD fun _ K=>?_;simp only[kd];apply K
    rw[hr];refine aH ⟨.inr rfl,v8 rfl rfl ?_⟩;simp(disch:=omega) only[kd,km,Tryz.results48]
  have hin:i=n:=by omega
  subst hin;refine aD fun _ K=>?_;simp(disch:=omega) only[kd,km,bx];apply K
  refine bT rfl ?_;show bo _ _ _ _;have hfit: ∀a,a<i->FitB M.length (l.getD a [])=true:=hg;clear hg;obtain⟨n,hni⟩: ∃n,n=i:=⟨_,rfl⟩;subst hni;refine aD fun _ K=>?_;simp(disch:=omega) only[kd,km,aa,hln];apply K
  refine aF (aD fun _ K=>?_);simp only[kd,aa,hln];apply K;refine aY (G:=j6 n) (fun g=>⟨(bx M::bx l::j4 (jk::jk::.one (.sl 33 0 0 n)::j16 (j4 (j4 (jk::jk::rN n::rN g.i::j16 (j16 (j16 (j4 ([]))))))))),Hm [(33,kI 33 n n g.i (fun _ _=>0))]⟩) (fun g=>n-g.i) ⟨0,by omega⟩ ?_ ?_
  ·refine aE ⟨?_,trivial⟩ ?_
   ·show[_]=_;simp[kI,gC,bs]
   simp[wk]
  rintro⟨i,hi⟩;simp only;by_cases hm:i<n
  ·have k1:=pG (i:=i) (n:=n) 33 n hm;have k2:=iL (i:=i) (n:=n) 33 n hi;have k3:=aW i n (fun _ _=>(0:Int));have k4:=mn (i:=i) (n:=n) (c:=n) 33 (fun _ _=>(0:Int)) hm (fun j hj=>rfl);refine aD fun _ K=>?_;simp(disch:=omega) only[kd,km,bx];apply K
   refine bG rfl ?_;refine aF (aK ?_);refine aD fun _ K=>?_;simp only[kd];apply K
   refine aL fun _ K=>?_;simp(disch:=omega) only[kd,km,aa,hln,ab,k1,ah,ax,List.all_replicate,k3,k4,af];apply K
   show bo _ _ _ _;refine aL fun _ K=>?_;simp(disch:=omega) only[kd,km,aP];apply K
   refine⟨⟨i+1,by omega⟩,by simp only;omega,aE ⟨?_,trivial⟩ ?_⟩
   ·first|exact k4|rfl
   simp[wk]
  have hin:i=n:=by omega
  subst hin;refine aD fun _ K=>?_;simp(disch:=omega) only[kd,km,bx];apply K
  refine bT rfl ?_;show bo _ _ _ _;rw[mm];obtain⟨n,hni⟩: ∃n,n=i:=⟨_,rfl⟩;subst hni;refine aF (aD fun _ K=>?_);simp only[kd,aa,hln];apply K;refine aY (G:=Rp n (fun a=> ∀b,b<=a->PG M l a b)) (fun g=>⟨(bx M::bx l::j4 (jk::jk::.one (.sl 33 0 0 n)::j16 (j16 (j4 (jk::bx l::rN n::rN g.i::j16 (j16 (j4 (j4 ([]))))))))),Hm [(33,df 33 n n (Dw (vG M l) g.i 0))]⟩) (fun g=>n-g.i) ⟨0,by omega,fun a h=>by omega⟩ ?_ ?_
  ·refine aE ⟨?_,trivial⟩ ?_
   ·show _::_=_::_;rw[bL fun a b _ _=>(JH (vG M l) a b).symm]
   simp[wk]
  rintro⟨i,hi,hg⟩;simp only;by_cases hm:i<n
  ·have hli:=y6 (l:=l) (i:=i) (by omega);have cA:=Kr M (l.getD i []) hred (hfit i hm);refine aD fun _ K=>?_;simp(disch:=omega) only[kd,km,bx];apply K
   refine bG rfl ?_;refine aF (aK ?_);refine aD fun _ K=>?_;simp(disch:=omega) only[kd,km,aa,hli,fR];apply K
   refine aG [⟨2,_,_,_,cA⟩] [] fun _ K=>?_;simp only[kd,bx,jW,aa];apply K
   refine aD fun _ K=>?_;simp(disch:=omega) only[kd,km,aa,aP];apply K
   refine aY (G:=Rp (i+1) (fun b=>PG M l i b)) (fun g=>⟨(bx M::bx l::j4 (jk::jk::.one (.sl 33 0 0 n)::jk::rN i::jk::jW (dM M (l.getD i []))::j16 (j16 (jk::bx l::rN n::rN i::j4 (j4 (.raw (.int .i64 ((i+1:Nat):Int))::rN g.i::j16 (j4 (j4 (j4 (jk::jk::[])))))))))),Hm [(33,df 33 n n (Dw (vG M l) i g.i))]⟩) (fun g=>i+1-g.i) ⟨0,by omega,fun a h=>by omega⟩ ?_ ?_
   ·refine aE ⟨rfl,trivial⟩ ?_;simp[wk]
   rintro⟨j,hj,hh⟩;simp only;by_cases hm2:j<i+1
   ·have hlj:=y6 (l:=l) (i:=j) (by omega);have cD:=PJ M (l.getD j []) (l.getD i []) hred (hfit j (by omega)) (hfit i hm);have hsy:=LH (i:=i) (j:=j) hred (hfit i hm) (hfit j (by omega));rw[show fk (l.getD j []) (dM M (l.getD i [])) (l.getD j []).length=vG M l j i from rfl,<- hsy]at cD;by_cases hp:PG M l i j
    ·rw[show Qn (vG M l i j)=Ij (vG M l i j) true from if_pos ⟨hp.lo,hp.hi⟩]at cD;have g1:=bO (n:=n) (i:=i) 33 n hm;have g2:=bO (n:=n) (i:=j) 33 n (by omega);have g3:=cx (n:=n) n (Dw (vG M l) i j) (i:=i) hm;have g4:=aU (Dw (vG M l) i j i) (show j<n by omega);have g5:=cx (n:=n) n (upd (Dw (vG M l) i j) i j (vG M l i j)) (i:=j) (show j<n by omega);have g6:=aU (upd (Dw (vG M l) i j) i j (vG M l i j) j) hm;refine aD fun _ K=>?_;simp(disch:=omega) only[kd,km,bx,jW];apply K
     refine bG rfl ?_;refine aF (aK ?_);refine aD fun _ K=>?_;simp only[kd];apply K
     refine aG [⟨5,_,_,_,cD⟩] [] fun _ K=>?_;simp(disch:=omega) only[kd,km,jW,Ij,aa,hlj,fR];apply K
     refine aF (aD fun _ K=>?_);simp only[kd];apply K;refine aR rfl (aM ?_);show bo _ _ _ _;refine iF be (by kernel_rfl) fun _ K=>?_;simp(disch:=omega) only[kd,km,aa,g1,g2,g3,g4,dC,g5,g6];apply K
     show bo _ _ _ _;refine aL fun _ K=>?_;simp(disch:=omega) only[kd,km,aP];apply K
     refine⟨⟨j+1,by omega,fun a ha=>?_⟩,by simp only;omega,aE ⟨?_,trivial⟩ ?_⟩
     ·by_cases h:a=j
      ·subst h;exact hp
      exact hh a (by omega)
     ·show _::_=_::_;rw[bL fun a b _ _=>JG (f:=vG M l) rfl hsy.symm a b]
     simp[wk]
    have hw:Qn (vG M l i j)=Ij 0 false:=if_neg fun h=>hp ⟨hfit i hm,hfit j (by omega),h.1,h.2⟩
    rw[hw]at cD;have hr:=hno (fun h=>hp (h.2 i (by omega) j (by omega)));refine aD fun _ K=>?_;simp(disch:=omega) only[kd,km,bx,jW];apply K
    refine bG rfl ?_;refine aF (aK ?_);refine aD fun _ K=>?_;simp only[kd];apply K
    refine aG [⟨5,_,_,_,cD⟩] [] fun _ K=>?_;simp(disch:=omega) only[kd,km,jW,Ij,aa,hlj,fR];apply K
    refine aF (aD fun _ K=>?_);simp only[kd];apply K;refine aX rfl ?_;refine aD fun _ K=>?_;simp only[kd];apply K
    rw[hr];refine aH ⟨.inr rfl,v8 rfl rfl ?_⟩;simp(disch:=omega) only[kd,km,Tryz.results48]
   have hjc:j=i+1:=by omega
   subst hjc;refine aD fun _ K=>?_;simp(disch:=omega) only[kd,km,bx,jW];apply K
   refine bT rfl ?_;show bo _ _ _ _;refine aL fun _ K=>?_;simp(disch:=omega) only[kd,km,aP];apply K
   refine⟨⟨i+1,by omega,fun a ha b hb=>?_⟩,by simp only;omega,aE ⟨?_,trivial⟩ ?_⟩
   ·by_cases h:a=i
    ·subst h;exact hh b (by omega)
    exact hg a (by omega) b hb
   ·show _::_=_::_;rw[bL fun a b _ _=>ML (vG M l) i a b]
   simp[wk]
  have hin:i=n:=by omega
  subst hin;have hr:=hyes ⟨hred,fun a ha b hb=>by
   by_cases h:b<=a
   ·exact hg a (by omega) b h
   have h1:=hg b (by omega) a (by omega);have hs:=LH (i:=a) (j:=b) hred (hfit a (by omega)) (hfit b (by omega));exact⟨h1.y,h1.x,by rw[hs];exact h1.lo,by rw[hs];exact h1.hi⟩⟩
  refine aD fun _ K=>?_;simp(disch:=omega) only[kd,km,bx];apply K
  refine bT rfl ?_;show bo _ _ _ _;have e:df 33 i i (Dw (vG M l) i 0)=df 33 i i (vG M l):=by
   show _::_=_::_;rw[bL fun a b ha hb=>MK ha hb]
  rw[e];rw[hr];refine aD fun _ K=>?_;simp only[kd,aa];apply K
  refine aH ⟨.inr rfl,DZ (d:=33) rfl ?_ (by decide)⟩;simp(disch:=omega) only[kd,km,Tryz.results48]
theorem FR (k c:Nat) (F:FF) (b:Bool):tV ⟨df 0 k c F,mj k b⟩:=by
 refine⟨rfl,fun o ho e he x hx=>?_⟩;rcases List.mem_cons.1 ho with rfl|ho
 ·simp only[gC,List.mem_mapIdx]at he;obtain⟨i,_,rfl⟩:=he;simp at hx;subst hx;rfl
 obtain⟨r,_,rfl⟩:=List.mem_map.1 ho;simp only[jI,lc,ak]at he;obtain⟨z,_,rfl⟩:=he;simp[fI]at hx;subst hx;rfl
theorem Ji {ops:Array Oper} {m d k c:Nat} {F:FF} {b:Bool} {s:AS} (hd:cwD ops m=some d):QJ ops m ⟨df 0 k c F,mj k b⟩ s=AS.put ⟨s.tmps,bi s.H d (df d k c F)⟩ (some d) (.tup [(false,[.sl d 0 0 k]),(false,[.p (.raw (.bool b))])]):=by
 unfold QJ;rw[hd];simp only[cB];rfl
/-! The Gram matrix of short rows. -/
theorem Ak {n:Nat} {h S:FF} (hn1:1<=n) (hn:n<=4) (hr:RedR h n) (hS: ∀a,a<n->GdR n h (S a)) {a b:Nat} (ha:a<n) (hb:b<n):
  vG (bs n n h) (bs n n S) a b=gmB n h S a b:=by
 unfold vG;rw[qz S ha,qz S hb];exact Fk hn1 (by omega) hr ((hS a ha).co hn1 hn hr) ((hS b hb).co hn1 hn hr)
theorem Fj {n:Nat} {h S:FF} (hn1:1<=n) (hn:n<=4) (hr:RedR h n) (hS:InB2 n h 262144 S):Qj (bs n n h) (bs n n S):=by
 refine⟨qS hn1 (by omega) hr,fun i hi j hj=>?_⟩;rw[aW]at hi hj;have g:=qr hr.pd hS hi hj 262144 (by decide);refine⟨?_,?_,?_,?_⟩
 ·rw[aW,qz S hi];exact lk ((show GdR n h (S i)from hS.nr i hi).co hn1 hn hr)
 ·rw[aW,qz S hj];exact lk ((show GdR n h (S j)from hS.nr j hj).co hn1 hn hr)
 ·rw[Ak hn1 hn hr hS.nr hi hj];omega
 rw[Ak hn1 hn hr hS.nr hi hj];omega
theorem JL {n:Nat} {h S:FF} (hn1:1<=n) (hn:n<=4) (hr:RedR h n) (hS:InB2 n h 262144 S):
  CallC Tryz.prog 48 [bx (bs n n h),bx (bs n n S)] ⟨df 0 n n (gmB n h S),mj n true⟩:=by
 have c:=FK (bs n n h) (bs n n S) (by rw[aW];omega);rw[oD (Fj hn1 hn hr hS),aW]at c;have e:df 0 n n (vG (bs n n h) (bs n n S))=df 0 n n (gmB n h S):=by
  show _::_=_::_;rw[bL fun a b ha hb=>Ak hn1 hn hr hS.nr ha hb]
 rwa[e]at c
/-! The sum of rows. -/
def sR (n:Nat) (c:Nat->Int) (S:FF) (r:Nat):Nat->Int:=fun j=>bY (fun a=>c a*S a j) r
def Iz (n:Nat) (c:Nat->Int) (S:FF) (r j:Nat):Nat->Int:=fun b=>if b<j then sR n c S (r+1) b else sR n c S r b
theorem KO {n:Nat} {c:Nat->Int} {S:FF} (hc: ∀j,-1<=c j/\c j<=1) (hS: ∀a,a<n-> ∀j,j<n-> -1099511627776<=S a j/\S a j<=1099511627776) (j:Nat) (hj:j<n):
  ∀r,r<=n-> -((r:Int)*1099511627776)<=sR n c S r j/\sR n c S r j<=(r:Int)*1099511627776
 |0,_=>by simp[sR,bY]
 |r+1,h=>by
  have ih:=KO hc hS j hj r (by omega);have h1:=hS r (by omega) j hj;have h2:=hc r;have e:sR n c S (r+1) j=sR n c S r j+c r*S r j:=rfl;have h3:c r= -1\/c r=0\/c r=1:=by omega
  rw[e];have h4:((r+1:Nat):Int)*1099511627776=(r:Int)*1099511627776+1099511627776:=by omega
  rw[h4];rcases h3 with h3|h3|h3<;>rw[h3]<;>omega
theorem KQ (n:Nat) (c:Nat->Int) (S:FF) (r:Nat):Iz n c S r 0=sR n c S r:=by
 funext b;unfold Iz;rw[if_neg (by omega)]
theorem Nz (n:Nat) (c:Nat->Int) (S:FF) (r:Nat):bE n (Iz n c S r n)=bE n (sR n c S (r+1)):=fc fun b hb=>by unfold Iz;rw[if_pos hb]
theorem PO (n:Nat) (c:Nat->Int) (S:FF) (r j:Nat):Iz n c S r j j=sR n c S r j:=by unfold Iz;rw[if_neg (by omega)]
theorem Fv (n j:Nat) (g:Nat->Int) (v:Int):(lc fI (bE n g)).set j [.p (.raw (.int .i64 v))]=lc fI (bE n (fun b=>if b=j then v else g b)):=by
 rw[<- qX,<- zi];rfl
theorem KP (n:Nat) (c:Nat->Int) (S:FF) (r j:Nat):(fun b=>if b=j then sR n c S r j+c r*S r j else Iz n c S r j b)=Iz n c S r (j+1):=by
 funext b;unfold Iz;by_cases h:b=j
 ·subst h;rw[if_pos rfl,if_pos (by omega)];rfl
 by_cases h2:b<j
 ·rw[if_neg h,if_pos h2,if_pos (by omega)]
 rw[if_neg h,if_neg h2,if_neg (by omega)]
theorem RN (n:Nat) (c:Nat->Int) (S:FF):jI (bE n (sR n c S 0))=⟨2,1,ae n [.p (.raw (.int .i64 0))]⟩:=by
 have e:bE n (sR n c S 0)=ae n 0:=by
  apply List.ext_getElem?;intro j;by_cases hj:j<n
  ·rw[aU _ hj,List.getElem?_replicate,if_pos hj];rfl
  rw[aq (by rw[bv];omega),aq (by simp;omega)]
 rw[jI,e,lc,List.map_replicate];rfl
theorem KF (n:Nat) (h S:FF) (i:Nat):jV n h S i i=sR n (kV n (gmB n h S) i (3^i)) S n:=by
 unfold jV;rw[if_pos rfl];rfl
def Rg (d n i:Nat) (S:FF) (X:Nat->Int):List OObj:=⟨27,1,(gC d (ae n n)).set i [.sl d (n+1) 0 n]⟩::((bs n n S).map jI++[jI (bE n X)])
theorem Pz {d n i:Nat} (S S':FF) (hi:i<n) (hS': ∀k,k≠i->S' k=S k) (r:Nat):
  (df d n n S'++[jI (bE n (S i))])[r]?=((Rg d n i S (S' i))[sw (i+1) (n+1) r]?).map (wR d (i+1) (n+1)):=by
 have hO: ∀l:List Int,wR d (i+1) (n+1) (jI l)=jI l:=fun l=>by
  simp only[wR,jI,lc,List.map_map]
  congr 1
 have hlen:((bs n n S).map jI).length=n:=by rw[aw,aW]
 cases r with
 |zero=>
  rw[show sw (i+1) (n+1) 0=0 by simp[sw]];unfold Rg;simp only[List.cons_append,List.getElem?_cons_zero,Option.map_some,wR]
  congr 2
  apply List.ext_getElem?;intro k;rw[ay,List.getElem?_set,cw,ax];by_cases hk:k<n
  ·rw[bO d n hk];by_cases h1:i=k
   ·subst h1;have hin: ¬n=i:=by omega
    simp[hi,hin,jY,o6,sw]
   have h1': ¬k=i:=fun e=>h1 e.symm
   have h2: ¬k=n:=by omega
   simp[h1,h1',h2,jY,o6,sw]
  rw[if_neg (by omega),aq (by rw[cw,ax];omega)];rfl
 |succ r=>
  have hsw:sw (i+1) (n+1) (r+1)=sw i n r+1:=by
   unfold sw;by_cases h1:r=i
   ·simp[h1]
   by_cases h2:r=n
   ·simp[h2,show ¬n=i by omega]
   simp[h1,h2]
  rw[hsw];unfold Rg;rw[List.cons_append,List.getElem?_cons_succ,List.getElem?_cons_succ];by_cases h1:r=i
  ·subst h1;rw[show sw r n r=n by simp[sw],ao (by rw[aw,aW];exact hi),List.getElem?_append_right (by rw[hlen];omega),hlen,Nat.sub_self];rw[ay,bC _ _ hi];simp[hO]
  by_cases h2:r=n
  ·subst h2;rw[show sw i r r=i by simp[sw,h1],List.getElem?_append_right (by rw[aw,aW];omega),ao (by rw[hlen];exact hi),aw,aW,Nat.sub_self];rw[ay,bC _ _ hi];simp[hO]
  rw[show sw i n r=r by simp[sw,h1,h2]];by_cases hr:r<n
  ·rw[ao (by rw[aw,aW];exact hr),ao (by rw[hlen];exact hr),ay,ay,bC _ _ hr,bC _ _ hr,hS' r h1];simp[hO]
  rw[aq (by simp[aW];omega),aq (by simp[aW];omega)];rfl
theorem He (d n c:Nat) (f:FF): ∀q∈df d n c f,∀e∈q.elems,∀x∈e,yM (df d n c f).length x:=fun q hq e he x hx=>by
 have hl:(df d n c f).length=n+1:=by simp[aW]
 rw[hl];simp only[List.mem_cons,ak]at hq;rcases hq with rfl|⟨r,_,rfl⟩
 ·obtain⟨k,hk⟩:=List.mem_iff_getElem?.1 he;have hkn:k<n:=by
   have:=(List.getElem?_eq_some_iff.1 hk).1;simpa[cw] using this
  simp only at hk;rw[bO d c hkn]at hk;injection hk with hk
  subst hk;simp at hx;subst hx;show k+1<n+1;omega
 simp only[jI,lc,ak]at he;obtain⟨z,_,rfl⟩:=he;simp[fI]at hx;subst hx;trivial
structure Rv (n:Nat) (h R:FF) where
 B:Nat->Nat->Int
 rch:RchB n h B R
 inb:InB2 n h 262144 B
theorem DI (n:Nat) (h R:FF) (hn1:1<=n) (hn:n<=4) (hr:RedR h n) (hR:RchB n h idF R):
  CallG Tryz.prog 0 138 46 [bx (bs n n h)] iA ⟨df 0 n n R,.one (.sl 0 0 0 n)⟩:=by
 have hml:=aW n n h;refine dB Tryz.func46 rfl (by kernel_rfl) ?_;rw[Tryz.ntmps46];refine aN fun _ K=>?_;simp(disch:=omega) only[kd,km,bx,ae];apply K
 refine d7.weak ((p9 1 1 (cs:=jw (bs n n h)) rfl rfl).trans (aE (tm:=(jk::.one (.p (.ptr (jw (bs n n h))))::j16 (j16 (j16 (j16 (j16 (j4 (jk::jk::[])))))))) (l:=[]) trivial (by simp[wk,ij,fH]))) ?_;refine aN fun _ K=>?_;simp(disch:=omega) only[kd,km,aa,hml];apply K
 refine bH (aN fun _ K=>?_);simp only[kd,aa];apply K;refine fA (G:=j6 n) (fun g=>⟨(jk::.one (.p (.ptr (jw (bs n n h))))::jk::.one (.sl 17 0 0 n)::j4 (j4 (j4 (jk::jk::jk::rN n::rN g.i::j16 (j16 (j16 (j16 (jk::jk::jk::[])))))))),Hm [(17,kI 17 n n g.i (mZ g.i))]⟩) (fun _=>iA) (fun g=>n-g.i) ⟨0,by omega⟩ ?_ rfl ?_
 ·refine aE ⟨?_,trivial⟩ ?_
  ·show[_]=_;simp[kI,gC,bs]
  simp[wk]
 rintro⟨i,hi⟩;simp only;by_cases hm:i<n
 ·have k1:=pG (i:=i) (n:=n) 17 n hm;have k2:=iL (i:=i) (n:=n) 17 n hi;have k3:=aW i n (mZ i);have k4:=mn (i:=i) (n:=n) (c:=n) 17 (mZ i) hm (fun j hj=>by unfold mZ;rw[if_neg (by omega)]);have k5:=pF (i:=i+1) (k:=i) (n:=n) 17 n (by omega);have k6:=iL (i:=i+1) (n:=n) 17 n (by omega);have k7:=cx (n:=i+1) n (mZ i) (i:=i) (by omega);have k8:=aU (mZ i i) hm;refine aN fun _ K=>?_;simp(disch:=omega) only[kd,km];apply K
  refine iG rfl ?_;refine bH (cK ?_);refine aN fun _ K=>?_;simp only[kd];apply K
  refine aN fun _ K=>?_;simp(disch:=omega) only[kd,km,aa,hml,ab,k1,ah,ax,List.all_replicate,k3,k4,af];apply K
  refine d7.weak (aE (tm:=(jk::.one (.p (.ptr (jw (bs n n h))))::jk::.one (.sl 17 0 0 n)::rN i::j4 (j4 (j4 (jk::jk::rN n::rN i::j16 (j16 (j16 (j16 (jk::jk::jk::[]))))))))) (l:=[(17,kI 17 n n (i+1) (mZ i))]) ⟨?_,trivial⟩ (by simp[wk])) ?_
  ·first|exact k4|rfl
  refine dn fun _ K=>?_;simp(disch:=omega) only[kd,km,aa,k5,k7,k8,dC];apply K
  show d7 _ _ _ _ _ _ _;refine dn fun _ K=>?_;simp(disch:=omega) only[kd,km,aP];apply K
  refine⟨⟨i+1,by omega⟩,by simp only;omega,aE ⟨?_,trivial⟩ ?_,rfl⟩
  ·show _::_=_::_;rw[bL fun x y _ _=>qJ i x y]
  simp[wk]
 have hin:i=n:=by omega
 subst hin;refine aN fun _ K=>?_;simp(disch:=omega) only[kd,km];apply K
 refine kH rfl ?_;show d7 _ _ _ _ _ _ _;have e:kI 17 i i i (mZ i)=df 17 i i idF:=by
  rw[mm];show _::_=_::_;rw[bL fun x y hx _=>tP x y hx]
 rw[e];obtain⟨n,hni⟩: ∃n,n=i:=⟨_,rfl⟩;subst hni;clear e hm hi;refine fA (G:=Rv n h R) (fun g=>⟨(jk::.one (.p (.ptr (jw (bs n n h))))::jk::.one (.sl 17 0 0 n)::j16 (j16 (j16 (j16 (j16 (j4 ([]))))))),Hm [(17,df 17 n n g.B)]⟩) (fun _=>iA) (fun g=>(CH (nrm n h) g.B n).toNat) ⟨idF,hR,InB2.one hn1 (by omega) hr⟩ ?_ rfl ?_
 ·refine aE ⟨rfl,trivial⟩ ?_;simp[wk]
 rintro⟨B,rch,inb⟩;simp only;refine cK ?_
 -- the rows in order
 have hS:=inb.ord;have cM:=Aa n h B hn1 hn hr inb.nr;rw[show lN (nrm n h) B n=nM n h B from rfl]at cM;have hso:CH (nrm n h) (nM n h B) n=CH (nrm n h) B n:=wF _ _ n (Nat.le_refl n);have hnx: ∀i,xg n (gmB n h (nM n h B))=some i->RchB n h (jV n h (nM n h B) i) R:=fun i hv=>by
  cases rch with
  |done B hv'=>rw[hv]at hv';cases hv'
  |step B R j hv' hk=>rw[hv]at hv';cases hv';exact hk
 have hdn:xg n (gmB n h (nM n h B))=none->R=nM n h B:=fun hv=>by
  cases rch with
  |done B hv'=>rfl
  |step B R j hv' hk=>rw[hv]at hv';cases hv'
 have hnn: ∀B',0<=CH (nrm n h) B' n:=fun B'=>mK n fun a _=>(hr.pd.pos (B' a)).1
 generalize nM n h B=S at*
 have c1:=JL hn1 hn hr hS;have cV:=s6 n (gmB n h S) hn1 hn fun i j hi hj=>by
  have:=qr hr.pd hS hi hj 262144 (by decide);omega
 refine bH (pk (IM (k:=0) (by simp[wk]) (uw 2 cM 17 [] [] (by kernel_rfl) (by simp[wk]) hn1 rfl (lC _ _ _) (lC _ _ _) (by decide) (by simp[wk]) (by decide) fun K hK=>?_)));simp only[kd];apply hK;clear hK K;refine⟨⟨rfl,(cB 0 17 _ _ _).symm⟩,by simp,?_⟩;intro K hK;simp only[kd,aa,Pf,cwD,kM];apply hK;clear hK K;show d7 _ _ _ _ _ _ _;refine d7.weak (aE (tm:=(jk::.one (.p (.ptr (jw (bs n n h))))::jk::.one (.sl 17 0 0 n)::j16 (j16 (j16 (j16 (j16 (j4 ([])))))))) (l:=[(17,df 17 n n S)]) ⟨cB 0 17 n n _,trivial⟩ (by simp[wk])) ?_
 -- the Gram matrix
 refine bH (pk (uq 2 c1 (FR _ _ _ _) [] [] (by simp[wk]) (by decide) fun K hK=>?_));simp only[kd];apply hK;clear hK K;refine⟨⟨⟨_,rfl,.inl ⟨rfl,rfl⟩,.inr ⟨17,0,0,n,rfl,dG (d:=17) (n:=n) (c:=n) (f:=S) rfl,mU (d:=17) (n:=n) (c:=n) (f:=S) rfl⟩,trivial⟩,⟨42,rfl,fun _=>rfl⟩⟩,by simp,?_⟩;intro K hK;rw[Ji (d:=42) rfl];simp only[kd,aa];apply hK;clear hK K;show d7 _ _ _ _ _ _ _;refine d7.weak (aE (tm:=(jk::.one (.p (.ptr (jw (bs n n h))))::jk::.one (.sl 17 0 0 n)::jk::.one (.sl 42 0 0 n)::j16 (j16 (j16 (j16 (j16 (jk::jk::[]))))))) (l:=[(17,df 17 n n S),(42,df 42 n n (gmB n h S))]) ⟨rfl,rfl,trivial⟩ (by simp[wk])) ?_;refine d7.weak ((bZ 42 (dG (d:=42) (n:=n) (c:=n) (f:=gmB n h S) rfl)).trans (aE (tm:=(jk::.one (.p (.ptr (jw (bs n n h))))::jk::.one (.sl 17 0 0 n)::jk::bx (bs n n (gmB n h S))::j16 (j16 (j16 (j16 (j16 (jk::jk::[]))))))) (l:=[(17,df 17 n n S)]) ⟨rfl,trivial⟩ (by
  simp[wk]
  (repeat' apply And.intro)<;>first|rfl|exact(mU (H:=Hm [(17,df 17 n n S),(42,df 42 n n (gmB n h S))]) (d:=42) (n:=n) (c:=n) (f:=gmB n h S) rfl).symm))) ?_
 cases hv:xg n (gmB n h S)with
 |none=>
  have eT:sN n (gmB n h S)= .tup [(false,[.p (.raw (.int .i64 0))]),(true,a4 fun _=>0),(false,[.p (.raw (.bool false))])]:=by unfold sN;rw[hv]
  rw[eT]at cV;rw[hdn hv];refine bz [⟨1,_,_,_,cV,rfl⟩] [] [] fun _ K=>?_;simp(disch:=omega) only[kd,km,bx,da.a,aa,k9,rJ,ab,eu,f4];apply K
  refine bH (aN fun _ K=>?_);simp only[kd];apply K;refine fO rfl ?_;refine aN fun _ K=>?_;simp only[kd];apply K
  refine dj ⟨.inr rfl,rfl,_,ce.refl _,?_⟩;refine⟨.one (.sl 17 0 0 n),17,?_,rfl,?_,rfl⟩
  ·simp(disch:=omega) only[kd,km,Tryz.results46]
  exact(cB 17 0 _ _ _).symm
 |some i=>
  obtain⟨_,hi1,hi2,_⟩:=jL n 0 i hv;have hi:i<n:=by omega
  have hi4:i<4:=by omega
  have eT:sN n (gmB n h S)= .tup [(false,[.p (.raw (.int .i64 (i:Int)))]),(true,a4 (kV n (gmB n h S) i (3^i))),(false,[.p (.raw (.bool true))])]:=by unfold sN;rw[hv]
  rw[eT]at cV;have hc:=(wu n (gmB n h S) i (3^i)).2.2;have hrow:=KF n h S i;have hsum:=B4 hi hi2;have hin2:=hS.rep hi hi2;have hnext:=hnx i hv;have hSb: ∀a,a<n-> ∀j,j<n-> -1099511627776<=S a j/\S a j<=1099511627776:=fun a ha=>(show GdR n h (S a)from hS.nr a ha).co hn1 hn hr
  have hoth: ∀k,k≠i->jV n h S i k=S k:=fun k hk=>by unfold jV;rw[if_neg hk]
  generalize kV n (gmB n h S) i (3^i)=c at*
  refine bz [⟨1,_,_,_,cV,rfl⟩] [] [] fun _ K=>?_;simp(disch:=omega) only[kd,km,bx,da.a,aa,k9,rJ,ab,eu,f4];apply K
  refine bH (aN fun _ K=>?_);simp only[kd];apply K;refine eh rfl (eK ?_);show d7 _ _ _ _ _ _ _;refine aN fun _ K=>?_;simp(disch:=omega) only[kd,km,aa,hml,ab];apply K
  refine d7.weak (aE (tm:=(jk::.one (.p (.ptr (jw (bs n n h))))::jk::.one (.sl 17 0 0 n)::jk::jk::jk::rN i::.one (.ptr 8 0 0 0)::jk::.one (.sl 56 0 0 n)::j16 (j16 (j16 (j16 (j4 (j4 (j4 (jk::[]))))))))) (l:=[(17,df 17 n n S),(8,CE c),(56,[jI (bE n (sR n c S 0))])]) ⟨rfl,rfl,?_,trivial⟩ (by simp[wk])) ?_
  ·rw[RN];rfl
  refine bH (aN fun _ K=>?_);simp only[kd,aa];apply K;refine fA (G:=j6 n) (fun g=>⟨(jk::.one (.p (.ptr (jw (bs n n h))))::jk::.one (.sl 17 0 0 n)::jk::jk::jk::rN i::.one (.ptr 8 0 0 0)::jk::.one (.sl 56 0 0 n)::j16 (j16 (j4 (j4 (j4 (jk::jk::.one (.sl 17 0 0 n)::rN n::rN g.i::j16 (j4 (j4 (j4 ([])))))))))),Hm [(17,df 17 n n S),(8,CE c),(56,[jI (bE n (sR n c S g.i))])]⟩) (fun _=>iA) (fun g=>n-g.i) ⟨0,by omega⟩ ?_ rfl ?_
  ·refine aE ⟨rfl,rfl,rfl,trivial⟩ ?_;simp[wk]
  rintro⟨r,hr'⟩;simp only;by_cases hm:r<n
  ·have g1:=bO (n:=n) (i:=r) 17 n hm;have r1:=cx n S (i:=r) hm;have hr4:r<4:=by omega
   refine aN fun _ K=>?_;simp(disch:=omega) only[kd,km];apply K
   refine iG rfl ?_;refine bH (cK ?_);refine aN fun _ K=>?_;simp(disch:=omega) only[kd,km,aa,ab,g1];apply K
   refine aN fun _ K=>?_;simp only[kd,aa];apply K
   refine fA (G:=j6 n) (fun g=>⟨(jk::.one (.p (.ptr (jw (bs n n h))))::jk::.one (.sl 17 0 0 n)::jk::jk::jk::rN i::.one (.ptr 8 0 0 0)::jk::.one (.sl 56 0 0 n)::rN r::j16 (j16 (j4 (j4 (j4 (jk::.one (.sl 17 0 0 n)::rN n::rN r::j4 (.one (.sl 17 (r+1) 0 n)::rN n::rN g.i::j16 (j4 (jk::[]))))))))),Hm [(17,df 17 n n S),(8,CE c),(56,[jI (bE n (Iz n c S r g.i))])]⟩) (fun _=>iA) (fun g=>n-g.i) ⟨0,by omega⟩ ?_ rfl ?_
   ·refine aE ⟨rfl,rfl,?_,trivial⟩ ?_
    ·simp only[KQ];rfl
    simp[wk]
   rintro⟨j,hj⟩;simp only;by_cases hjn:j<n
   ·have q1:=aU (S r) hjn;have q2:=aU (Iz n c S r j) hjn;rw[PO]at q2;have d1:=yD c hr4;have b1:=KO hc hSb j hjn r (by omega);have b2:=KO hc hSb j hjn (r+1) (by omega);have b3:=hSb r hm j hjn;have b4:c r*S r j= -(S r j)\/c r*S r j=0\/c r*S r j=S r j:=by
     have:=hc r;have h3:c r= -1\/c r=0\/c r=1:=by omega
     rcases h3 with h3|h3|h3<;>rw[h3]<;>omega
    have e0:sR n c S (r+1) j=sR n c S r j+c r*S r j:=rfl;have e1:IntKind.i64.wrap (c r*S r j)=c r*S r j:=aP (by omega) (by omega);have e2:IntKind.i64.wrap (sR n c S r j+c r*S r j)=sR n c S r j+c r*S r j:=aP (by omega) (by omega);have e3:=Fv n j (Iz n c S r j) (sR n c S r j+c r*S r j);rw[KP]at e3;refine aN fun _ K=>?_;simp(disch:=omega) only[kd,km];apply K
    refine iG rfl ?_;refine bH (cK ?_);refine aN fun _ K=>?_;simp(disch:=omega) only[kd,km,aa,ab,r1,q1];apply K
    refine lZ be (by kernel_rfl) fun _ K=>?_;simp(disch:=omega) only[kd,km,aa,jI,ab,q2,hr4,d1,e1,e2,e3];apply K
    show d7 _ _ _ _ _ _ _;refine dn fun _ K=>?_;simp(disch:=omega) only[kd,km,aP];apply K
    refine⟨⟨j+1,by omega⟩,by simp only;omega,aE ⟨rfl,rfl,?_,trivial⟩ ?_,rfl⟩
    ·first|rfl|simp[jI]
    simp[wk]
   have hjn:j=n:=by omega
   subst hjn;refine aN fun _ K=>?_;simp(disch:=omega) only[kd,km];apply K
   refine kH rfl ?_;show d7 _ _ _ _ _ _ _;refine dn fun _ K=>?_;simp(disch:=omega) only[kd,km,aP];apply K
   refine⟨⟨r+1,by omega⟩,by simp only;omega,aE ⟨rfl,rfl,?_,trivial⟩ ?_,rfl⟩
   ·simp only[Nz];rfl
   simp[wk]
  have hrn:r=n:=by omega
  subst hrn;have g1:=bO (n:=r) (i:=i) 17 r hi;have hjx:=Pz (d:=17) S (jV r h S i) hi hoth;rw[hrow]at hjx;refine aN fun _ K=>?_;simp(disch:=omega) only[kd,km];apply K
  refine kH rfl ?_;show d7 _ _ _ _ _ _ _;refine dn fun _ K=>?_;simp(disch:=omega) only[kd,km,aa,jI,ab,g1,ah,bv,aW,af];apply K
  refine⟨⟨jV r h S i,hnext,hin2⟩,by have:=hnn (jV r h S i);have:=hnn B;simp only;omega,?_,rfl⟩;refine(aE (tm:=(jk::.one (.p (.ptr (jw (bs r r h))))::jk::.one (.sl 17 0 0 r)::j16 (j16 (j16 (j16 (j16 (j4 ([])))))))) (l:=[(17,Rg 17 r i S (sR r c S r))]) ⟨?_,trivial⟩ (by simp[wk])).trans ?_
  ·rfl
  refine(qa 17 (i+1) (r+1) (df 17 r r (jV r h S i)++[jI (bE r (S i))]) hjx).trans ?_;refine(Gi 17 (F:=df 17 r r (jV r h S i)) rfl (He _ _ _ _)).trans ?_;refine aE ⟨rfl,trivial⟩ ?_;simp[wk,Ee,jY,o6,sw,bK,bD,aW]
abbrev CG (G T:List (List Int)) (e:Int):TV:= .tup [(false,[.p (.sl (ls (fR fI) G))]),(false,[.p (.sl (ls (fR fI) T))]),(false,[.p (.raw (.int .i64 e))])]
def td (g R:FF) (m:Nat):Nat->Nat->Int:=fun a b=>if a<m then mG g a*R a b else R a b
def IA (g R:FF) (m j:Nat):Nat->Nat->Int:=fun a b=>if a=m/\b<j then 0-R m b else td g R m a b
theorem D6 {g R:FF} {m a:Nat} (h:a<m):td g R m a=j7 g R a:=by
 funext b;unfold td;rw[if_pos h];rfl
theorem KZ {g R:FF} {m a:Nat} (h: ¬a<m):td g R m a=R a:=by
 funext b;unfold td;rw[if_neg h]
theorem KY (g R:FF) (m:Nat):IA g R m 0=td g R m:=by
 funext a b;unfold IA;rw[if_neg (by omega)]
theorem PR (g R:FF) (m j:Nat):IA g R m j m j=R m j:=by
 unfold IA td;rw[if_neg (by omega),if_neg (by omega)]
theorem KX (g R:FF) (m j a b:Nat):upd (IA g R m j) m j (0-R m j) a b=IA g R m (j+1) a b:=by
 unfold upd IA;by_cases h1:a=m
 ·subst h1;by_cases h2:b=j
  ·subst h2;simp
  by_cases h3:b<j
  ·simp[h2,h3,show b<j+1 by omega]
  simp[h2,h3,show ¬b<j+1 by omega]
 simp[h1]
theorem NE {g R:FF} {m n:Nat} (hs:mG g m= -1) (a b:Nat) (hb:b<n):IA g R m n a b=td g R (m+1) a b:=by
 unfold IA td;by_cases h1:a=m
 ·subst h1;rw[if_pos ⟨rfl,hb⟩,if_pos (by omega),hs];omega
 have:a<m+1↔a<m:=by omega
 simp[h1,this]
theorem K0 {g R:FF} {m:Nat} (hs:mG g m=1) (a b:Nat):td g R m a b=td g R (m+1) a b:=by
 unfold td;by_cases h1:a=m
 ·subst h1;rw[if_neg (by omega),if_pos (by omega),hs];omega
 have:a<m+1↔a<m:=by omega
 simp[this]
theorem NG (g R:FF) (a b:Nat):R a b=td g R 1 a b:=by
 unfold td;split
 ·rename_i h;have:a=0:=by omega
  subst this;rw[mG];omega
 rfl
theorem NF {g R:FF} {n a:Nat} (ha:a<n) (b:Nat):td g R n a b=j7 g R a b:=by rw[D6 ha]
theorem OQ {n:Nat} {h:FF} {s:Int} (hs:s=1\/s= -1) (x y:Nat->Int):BF n h (fun j=>s*x j) y=s*BF n h x y:=by
 rcases hs with rfl|rfl
 ·rw[eJ (fun _ _ _ _=>rfl) (fun i _=>Int.one_mul (x i)) (fun _ _=>rfl)];omega
 rw[eJ (x':=fun r=> - x r) (fun _ _ _ _=>rfl) (fun i _=>by omega) (fun _ _=>rfl),tw];omega
theorem PT {n:Nat} {h g R:FF} (k:Nat):BF n h (td g R (k+1) k) (td g R (k+1) (k+1))=mG g k*gmB n h R k (k+1):=by
 rw[D6 (by omega),KZ (by omega)];exact OQ (mH g k) _ _
structure Rx (n:Nat) where
 k:Nat
 hk:k+1<=n
theorem vu (n:Nat) (h R:FF) (hn1:1<=n) (hn:n<=4) (hr:RedR h n) (hR:RchB n h idF R):
  CallG Tryz.prog 0 138 18 [bx (bs n n h)] iA ⟨[],CG (bs n n (gmB n h (j7 (gmB n h R) R))) (bs n n (trF (j7 (gmB n h R) R))) 0⟩:=by
 have hml:=aW n n h;have c1:=mB (bs n n h);rw[qS hn1 (by omega) hr]at c1;have cS:=DI n h R hn1 hn hr hR;have inb:=(vV hR (InB2.one hn1 (by omega) hr)).1;have inq:=inb.sg (gmB n h R);have cG:=JL hn1 hn hr inq;obtain⟨g,hg⟩: ∃g,g=gmB n h R:=⟨_,rfl⟩;rw[<- hg]at inq cG⊢;have gd: ∀m a,a<n->GdR n h (td g R m a):=fun m a ha=>by
  by_cases hm:a<m
  ·rw[D6 hm];exact inq.nr a ha
  rw[KZ hm];exact inb.nr a ha
 refine dB Tryz.func18 rfl (by kernel_rfl) ?_;rw[Tryz.ntmps18];refine aN fun _ K=>?_;simp only[kd,aa,bx,ae];apply K
 refine bH (cK ?_);refine dL [⟨1,_,_,_,c1⟩] [] fun _ K=>?_;simp only[kd,bx,aa];apply K
 refine eh rfl ?_;refine aN fun _ K=>?_;simp(disch:=omega) only[kd,km,aa,hml];apply K
 refine eh rfl (eK ?_);show d7 _ _ _ _ _ _ _;refine bz [⟨1,_,_,_,cS,rfl⟩] [] [] fun _ K=>?_;simp(disch:=omega) only[kd,km,bx,da.a,aa];apply K
 refine d7.weak (aE (tm:=(bx (bs n n h)::j4 (.one (.sl 25 0 0 n)::j16 (j16 (j16 (j16 (j16 (j16 (j4 (jk::jk::[])))))))))) (l:=[(25,df 25 n n R)]) ⟨cB 0 25 _ _ _,trivial⟩ (by simp[wk])) ?_;refine bH (aN fun _ K=>?_);simp only[kd,bx];apply K;refine fA (G:=Rx n) (fun q=>⟨(bx (bs n n h)::j4 (.one (.sl 25 0 0 n)::.raw (.int .i64 ((q.k+1:Nat):Int))::j16 (j16 (j16 (j16 (j16 (j16 (j4 (jk::[]))))))))),Hm [(25,df 25 n n (td g R (q.k+1)))]⟩) (fun _=>iA) (fun q=>n-q.k) ⟨0,by omega⟩ ?_ rfl ?_
 ·refine aE ⟨?_,trivial⟩ ?_
  ·show _::_=_::_;rw[bL fun a b _ _=>NG g R a b]
  simp[wk]
 rintro⟨k,hk⟩;simp only;by_cases hm:k+1<n
 ·have e0:IntKind.i64.wrap (((k+1:Nat):Int)-1)=(k:Int):=by rw[show((k+1:Nat):Int)-1=(k:Int) by omega];exact aP (by omega) (by omega)
  have e1:IntKind.i64.wrap (((k+1:Nat):Int)+1)=((k+1+1:Nat):Int):=by rw[show((k+1:Nat):Int)+1=((k+1+1:Nat):Int) by omega];exact aP (by omega) (by omega)
  have hv:BF n h (td g R (k+1) k) (td g R (k+1) (k+1))=mG g k*g k (k+1):=by rw[PT,hg]
  have hgb:=qr hr.pd inb (show k<n by omega) hm 262144 (by decide);rw[<- hg]at hgb;have hsb:=mH g k;have hsv: -262144<=mG g k*g k (k+1)/\mG g k*g k (k+1)<=262144:=by
   rcases hsb with e|e<;>rw[e]<;>omega
  have cI:=Ks (bs n n h) (bE n (td g R (k+1) k)) (bE n (td g R (k+1) (k+1)));rw[vn hn1 (by omega) hr ((gd _ _ (by omega)).co hn1 hn hr) ((gd _ _ hm).co hn1 hn hr) (by rw[hv];omega),hv]at cI;have g1:=bO (n:=n) (i:=k) 25 n (by omega);have g2:=bO (n:=n) (i:=k+1) 25 n hm;have r1:=cx (n:=n) n (td g R (k+1)) (i:=k) (by omega);have r2:=cx (n:=n) n (td g R (k+1)) (i:=k+1) hm;have sgk:mG g (k+1)=if mG g k*g k (k+1)<0 then -1 else 1:=rfl
  refine bH (aN fun _ K=>?_);simp(disch:=omega) only[kd,km,aa,bx];apply K;refine fO rfl (eK ?_);refine bH (cK ?_);refine gX be [⟨10,_,_,_,cI⟩] [] (by kernel_rfl) fun _ K=>?_;simp(disch:=omega) only[kd,km,bx,jW,Ij,aa,e0,g1,g2,r1,oV,r2];apply K
  generalize hvv:mG g k*g k (k+1)=v at*
  by_cases hneg:v<0
  ·rw[if_pos hneg]at sgk;refine aN fun _ K=>?_;simp(disch:=omega) only[kd,km];apply K
   refine fO rfl ?_;refine aN fun _ K=>?_;simp(disch:=omega) only[kd,km,aa,g2];apply K
   refine fA (G:=j6 n) (fun q=>⟨(bx (bs n n h)::j4 (.one (.sl 25 0 0 n)::.raw (.int .i64 ((k+1:Nat):Int))::j16 (j16 (j4 (j4 (j4 (jk::rN n::rN q.i::j16 (j16 (j16 (j4 (jk::jk::[]))))))))))),Hm [(25,df 25 n n (IA g R (k+1) q.i))]⟩) (fun _=>iA) (fun q=>n-q.i) ⟨0,by omega⟩ ?_ rfl ?_
   ·refine aE ⟨?_,trivial⟩ ?_
    ·show _::_=_::_;rw[KY]
    simp[wk]
   rintro⟨j,hj⟩;simp only;by_cases hjn:j<n
   ·have r3:=cx (n:=n) n (IA g R (k+1) j) (i:=k+1) hm;have r4:(bE n (IA g R (k+1) j (k+1)))[j]?=some (R (k+1) j):=by rw[aU _ hjn,PR]
    have b1:=(show GdR n h (R (k+1))from inb.nr (k+1) hm).co hn1 hn hr j hjn;have e2:IntKind.i64.wrap (0-R (k+1) j)=0-R (k+1) j:=aP (by omega) (by omega);refine aN fun _ K=>?_;simp(disch:=omega) only[kd,km,bx];apply K
    refine iG rfl ?_;refine bH (cK ?_);refine aN fun _ K=>?_;simp only[kd];apply K
    refine lZ be (by kernel_rfl) fun _ K=>?_;simp(disch:=omega) only[kd,km,aa,g2,r3,r4,e2,dC];apply K
    show d7 _ _ _ _ _ _ _;refine dn fun _ K=>?_;simp(disch:=omega) only[kd,km,aP];apply K
    refine⟨⟨j+1,by omega⟩,by simp only;omega,aE ⟨?_,trivial⟩ ?_,rfl⟩
    ·show _::_=_::_;rw[bL fun a b _ _=>KX g R (k+1) j a b]
    simp[wk]
   have hjn:j=n:=by omega
   refine aN fun _ K=>?_;simp(disch:=omega) only[kd,km,bx];apply K
   refine kH rfl ?_;show d7 _ _ _ _ _ _ _;refine dn fun _ K=>?_;simp only[kd,aa,e1];apply K
   refine⟨⟨k+1,by omega⟩,by simp only;omega,aE ⟨?_,trivial⟩ ?_,rfl⟩
   ·show _::_=_::_;rw[bL fun a b _ hb=>NE (n:=j) sgk a b (by omega)]
   simp[wk]
  rw[if_neg hneg]at sgk;refine aN fun _ K=>?_;simp(disch:=omega) only[kd,km];apply K
  refine eh rfl (eK ?_);show d7 _ _ _ _ _ _ _;refine dn fun _ K=>?_;simp only[kd,aa,e1];apply K
  refine⟨⟨k+1,by omega⟩,by simp only;omega,aE ⟨?_,trivial⟩ ?_,rfl⟩
  ·show _::_=_::_;rw[bL fun a b _ _=>K0 sgk a b]
  simp[wk]
 have hkn:k+1=n:=by omega
 refine bH (aN fun _ K=>?_);simp(disch:=omega) only[kd,km,aa,bx];apply K;refine eh rfl (AH ?_);show d7 _ _ _ _ _ _ _;have e:df 25 n n (td g R (k+1))=df 25 n n (j7 g R):=by
  show _::_=_::_;rw[hkn,bL fun a b ha _=>NF ha b]
 rw[e];generalize j7 g R=Q at*
 clear gd inq inb e hm hk hkn
 -- the Gram matrix
 refine bH (pk (uq 2 cG (FR _ _ _ _) [] [] (by simp[wk]) (by decide) fun K hK=>?_));simp only[kd];apply hK;clear hK K;refine⟨⟨⟨_,rfl,.inl ⟨rfl,rfl⟩,.inr ⟨25,0,0,n,rfl,dG (d:=25) (n:=n) (c:=n) (f:=Q) rfl,mU (d:=25) (n:=n) (c:=n) (f:=Q) rfl⟩,trivial⟩,⟨74,rfl,fun _=>rfl⟩⟩,by simp,?_⟩;intro K hK;rw[Ji (d:=74) rfl];simp only[kd,aa];apply hK;clear hK K;show d7 _ _ _ _ _ _ _;refine d7.weak (aE (tm:=(bx (bs n n h)::j4 (.one (.sl 25 0 0 n)::j4 (.one (.sl 74 0 0 n)::j16 (j16 (j16 (j16 (j16 (j16 (jk::[])))))))))) (l:=[(25,df 25 n n Q),(74,df 74 n n (gmB n h Q))]) ⟨rfl,rfl,trivial⟩ (by simp[wk])) ?_;refine d7.weak ((bZ 74 (dG (d:=74) (n:=n) (c:=n) (f:=gmB n h Q) rfl)).trans (aE (tm:=(bx (bs n n h)::j4 (.one (.sl 25 0 0 n)::j4 (bx (bs n n (gmB n h Q))::j16 (j16 (j16 (j16 (j16 (j16 (jk::[])))))))))) (l:=[(25,df 25 n n Q)]) ⟨rfl,trivial⟩ (by
  simp[wk]
  (repeat' apply And.intro)<;>first|rfl|exact(mU (H:=Hm [(25,df 25 n n Q),(74,df 74 n n (gmB n h Q))]) (d:=74) (n:=n) (c:=n) (f:=gmB n h Q) rfl).symm))) ?_
 generalize bs n n (gmB n h Q)=GM at*
 refine aN fun _ K=>?_;simp(disch:=omega) only[kd,km,aa,bx,hml,ab];apply K
 refine bH (aN fun _ K=>?_);simp only[kd,aa];apply K;refine fA (G:=j6 n) (fun q=>⟨(j4 (jk::.one (.sl 25 0 0 n)::j4 (bx GM::jk::.one (.sl 79 0 0 n)::j16 (j16 (j16 (j16 (j4 (.raw (.int .i64 (n:Int))::rN q.i::j16 (j4 (j4 (jk::[]))))))))))),Hm [(25,df 25 n n Q),(79,kI 79 n n q.i (trF Q))]⟩) (fun _=>iA) (fun q=>n-q.i) ⟨0,by omega⟩ ?_ rfl ?_
 ·refine aE ⟨rfl,?_,trivial⟩ ?_
  ·show[_]=_;simp[kI,gC,bs]
  simp[wk]
 rintro⟨i,hi⟩;simp only;by_cases hm:i<n
 ·have hmi:=aW i n (trF Q);have hsl:(gC 79 (ae i n)).length=i:=by rw[cw,ax]
  have hrl:((bs i n (trF Q)).map jI).length=i:=by rw[aw,hmi]
  refine aN fun _ K=>?_;simp(disch:=omega) only[kd,km,bx];apply K
  refine iG rfl ?_;refine bH (cK ?_);refine aN fun _ K=>?_;simp only[kd];apply K
  refine aN fun _ K=>?_;simp only[kd,aa];apply K
  refine fA (G:=j6 n) (fun q=>⟨(j4 (jk::.one (.sl 25 0 0 n)::j4 (bx GM::jk::.one (.sl 79 0 0 n)::rN i::j16 (j16 (j16 (j16 (jk::jk::jk::rN n::rN i::jk::jk::.one (.sl 25 0 0 n)::rN n::rN q.i::j16 (j4 ([]))))))))),Hm [(25,df 25 n n Q),(79,Pr 79 n n (trF Q) i q.i)]⟩) (fun _=>iA) (fun q=>n-q.i) ⟨0,by omega⟩ ?_ rfl ?_
  ·refine aE ⟨rfl,rfl,trivial⟩ ?_;simp[wk]
  rintro⟨j,hj⟩;simp only;by_cases hm2:j<n
  ·have g1:=bO (n:=n) (i:=j) 25 n hm2;have hr1:=cx n Q (i:=j) hm2;have hjr:=aU (Q j) hm;cases j with
   |zero=>
    rw[Pr,Fi (trF Q) hm];refine aN fun _ K=>?_;simp(disch:=omega) only[kd,km,bx];apply K
    refine iG rfl ?_;refine bH (cK ?_);refine aN fun _ K=>?_;simp(disch:=omega) only[kd,km,aa,ab,g1];apply K
    refine lZ be (by kernel_rfl) fun _ K=>?_;simp(disch:=omega) only[kd,km,aa,ab,jy hsl,hr1,hjr,Nat.reduceMul,ah,jz hsl,hmi,af];apply K
    show d7 _ _ _ _ _ _ _;refine dn fun _ K=>?_;simp(disch:=omega) only[kd,km,aP];apply K
    refine⟨⟨1,by omega⟩,by simp only;omega,aE ⟨rfl,?_,trivial⟩ ?_,rfl⟩
    ·rfl
    simp[wk]
   |succ j=>
    have h01:(0==i+1)=false:=by simp
    rw[Pr,MM];refine aN fun _ K=>?_;simp(disch:=omega) only[kd,km,bx];apply K
    refine iG rfl ?_;refine bH (cK ?_);refine aN fun _ K=>?_;simp(disch:=omega) only[kd,km,aa,ab,g1];apply K
    refine lZ be (by kernel_rfl) fun _ K=>?_;simp(disch:=omega) only[kd,km,aa,jI,ab,jy hsl,hr1,hjr,Nat.reduceMul,ah,jy hrl,bv,List.map_append,wz,List.map_replicate,Cb,Bu,jz hrl,af,h01,jz hsl,reduceCtorEq,List.length_append,hrl];apply K
    show d7 _ _ _ _ _ _ _;refine dn fun _ K=>?_;simp(disch:=omega) only[kd,km,aP];apply K
    refine⟨⟨j+1+1,by omega⟩,by simp only;omega,aE ⟨rfl,?_,trivial⟩ ?_,rfl⟩
    ·show _=MM 79 n n (trF Q) i (j+1);rw[MM,jI,oU (j+1)];rfl
    simp[wk]
  have hjc:j=n:=by omega
  subst hjc;refine aN fun _ K=>?_;simp(disch:=omega) only[kd,km,bx];apply K
  refine kH rfl ?_;show d7 _ _ _ _ _ _ _;rw[JK _ (by omega) hm];refine dn fun _ K=>?_;simp(disch:=omega) only[kd,km,aP];apply K
  refine⟨⟨i+1,by omega⟩,by simp only;omega,aE ⟨rfl,rfl,trivial⟩ ?_,rfl⟩;simp[wk]
 have hin:i=n:=by omega
 subst hin;refine aN fun _ K=>?_;simp(disch:=omega) only[kd,km,bx];apply K
 refine kH rfl ?_;show d7 _ _ _ _ _ _ _;rw[mm];refine d7.weak ((bZ 79 (dG (d:=79) (n:=i) (c:=i) (f:=trF Q) rfl)).trans (aE (tm:=(j4 (j4 (jk::jk::bx GM::jk::bx (bs i i (trF Q))::j16 (j16 (j16 (j16 (j16 (j4 (j4 (j4 (jk::jk::jk::[])))))))))))) (l:=[]) trivial (by
  simp[wk]
  (repeat' apply And.intro)<;>first|rfl|exact(mU (H:=Hm [(25,df 25 i i Q),(79,df 79 i i (trF Q))]) (d:=79) (n:=i) (c:=i) (f:=trF Q) rfl).symm))) ?_
 refine aN fun _ K=>?_;simp only[kd,aa,bx];apply K
 (refine dj ⟨.inr rfl,rfl,aJ rfl ?_ rfl⟩;simp(disch:=omega) only[kd,km,Tryz.results18,CG])
end Go.Proofs.YtfgeomlagfomgaaGreatDoor
