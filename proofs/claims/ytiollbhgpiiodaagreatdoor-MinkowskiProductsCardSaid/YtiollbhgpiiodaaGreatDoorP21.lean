/-
  Part 22 of a proof (walks and plain facts).
-/
import Derived.Test.YtiollbhgpiiodaaGreatDoorP20
set_option linter.all false
set_option maxRecDepth 100000
set_option maxHeartbeats 64000000
open Nat renaming reduceAdd → aa
open Nat renaming reduceEqDiff → ae
open List renaming replicate → ag
open Nat renaming reduceBEq → ah
open Nat renaming reduceLeDiff → aj
open List renaming mem_map → an
open List renaming getElem?_append_left → aq
open List renaming getElem?_eq_none → au
open List renaming length_map → ay
open List renaming length_replicate → az
open List renaming getElem?_map → aA
namespace Go.Proofs.YtiollbhgpiiodaaGreatDoor
open Go.RowKit
/-! Inner products of rows. -/
theorem rQ {n:Nat} {h:FF} (hn1:1<=n) (hn:n<=8) (hr:RedR h n):cb (bx n n h)=true:=
 (gE _).2 ((yo hn1).2 ⟨rfl,hn,hr⟩)
theorem ko {n:Nat} {X:Nat->Int} (hx: ∀j,j<n-> -1099511627776<=X j/\X j<=1099511627776):FitB n (bT n X)=true:=by
 refine ij.2 ⟨bE n X,?_⟩;unfold FY;rw[List.all_eq_true];intro c hc;obtain⟨j,hj⟩:=List.mem_iff_getElem?.1 hc;have hjn:j<n:=by
  have:=(List.getElem?_eq_some_iff.1 hj).1;rwa[bE]at this
 rw[aY _ hjn]at hj;injection hj with hj
 have:=hx j hjn;rw[hj]at this;simp[this]
theorem qC (n:Nat) (X:Nat->Int):(bT n X).take n=bT n X:=List.take_of_length_le (by rw[bE];omega)
theorem Dg {n:Nat} {h:FF} {X Y:Nat->Int} (hn1:1<=n) (hn:n<=8) (hr:RedR h n) (hx: ∀j,j<n-> -1099511627776<=X j/\X j<=1099511627776) (hy: ∀j,j<n-> -1099511627776<=Y j/\Y j<=1099511627776):
  ew (bT n X) (dy (bx n n h) (bT n Y)) (bT n X).length=BF n h X Y:=by
 have e:=Bv (x:=bT n X) (y:=bT n Y) (rQ hn1 hn hr) (by rw[bi];exact ko hx) (by rw[bi];exact ko hy);rw[e,bi];exact dx (fun i j hi hj=>xh h hi hj) (fun i hi=>wm X hi) (fun i hi=>wm Y hi)
theorem tn {n:Nat} {h:FF} {X Y:Nat->Int} (hn1:1<=n) (hn:n<=8) (hr:RedR h n) (hx: ∀j,j<n-> -1099511627776<=X j/\X j<=1099511627776) (hy: ∀j,j<n-> -1099511627776<=Y j/\Y j<=1099511627776)
  (hb: -4611686018427387904<=BF n h X Y/\BF n h X Y<=4611686018427387904):EQ (bx n n h) (bT n X) (bT n Y)=FL (BF n h X Y) true:=by
 unfold EQ;rw[if_pos ⟨by unfold j9;rw[rQ hn1 hn hr,bi,ko hx];rfl,by rw[bi];exact ko hy⟩,Dg hn1 hn hr hx hy];exact if_pos hb
def GdR (n:Nat) (h:FF) (x:Nat->Int):Prop:=nrm n h x<=262144
theorem GdR.co {n:Nat} {h:FF} {x:Nat->Int} (hn1:1<=n) (hn:n<=4) (hr:RedR h n) (hg:GdR n h x): ∀j,j<n-> -1099511627776<=x j/\x j<=1099511627776:=fun j hj=>by
 have:=B5 hn1 hn hr hg j hj;omega
theorem GdR.nn {n:Nat} {h:FF} {x:Nat->Int} (hr:RedR h n):0<=nrm n h x:=(hr.pd.pos x).1
abbrev fi (M:List (List Int)):List PV:=[.sl (ls (fR fI) M)]
abbrev NA (n:Nat) (h:FF):TV:= .fn 54 [.p (.ptr (fi (bx n n h)))]
theorem GN {n:Nat} {h:FF} {X Y:Nat->Int} (hn1:1<=n) (hn:n<=4) (hr:RedR h n) (hx:GdR n h X) (hy:GdR n h Y):
  CallC Tryz.prog 54 [pO (bT n X),pO (bT n Y),.one (.p (.ptr (fi (bx n n h))))] ⟨[],.raw (.int .i64 (nrm n h X-nrm n h Y))⟩:=by
 have a0:0<=nrm n h X:=GdR.nn hr;have b0:0<=nrm n h Y:=GdR.nn hr;have a1:nrm n h X<=262144:=hx;have b1:nrm n h Y<=262144:=hy;have c1:=DF (bx n n h) (bT n X);have c2:=DF (bx n n h) (bT n Y);rw[tn hn1 (by omega) hr (hx.co hn1 hn hr) (hx.co hn1 hn hr) (by show _<=nrm n h X/\nrm n h X<=_;omega),show BF n h X X=nrm n h X from rfl]at c1;rw[tn hn1 (by omega) hr (hy.co hn1 hn hr) (hy.co hn1 hn hr) (by show _<=nrm n h Y/\nrm n h Y<=_;omega),show BF n h Y Y=nrm n h Y from rfl]at c2;refine aJ Tryz.func54 rfl (by kernel_rfl) ?_;rw[Tryz.ntmps54];refine aF fun _ K=>?_;simp only[kd,pO,aa,ag];apply K
 refine aI [⟨2,_,_,_,c1⟩] [] fun _ K=>?_;simp only[kd,bS,pO,FL,aa];apply K
 refine aI [⟨2,_,_,_,c2⟩] [] fun _ K=>?_;simp only[kd,bS,pO,FL,aa];apply K
 refine aF fun _ K=>?_;simp(disch:=omega) only[kd,aa,aT];apply K
 (refine aK ⟨.inr rfl,aL rfl ?_ rfl⟩;simp(disch:=omega) only[kd,Tryz.results54])
/-! Rows that change their places. -/
theorem H6 {d n p k:Nat} (g:FF) (hp:p<n) (hk:k<n) (hne:k≠p) (r:Nat):(dc d n n (swp p k g))[r]?=
  (((⟨34,1,((gk d (ag n n)).set p [.sl d (k+1) 0 n]).set k [.sl d (p+1) 0 n]⟩::(bx n n g).map jz:List OObj))[sw (p+1) (k+1) r]?).map (uP d (p+1) (k+1)):=by
 cases r with
 |zero=>
  rw[show sw (p+1) (k+1) 0=0 by simp[sw]];simp only[List.getElem?_cons_zero,Option.map_some,uP]
  congr 2
  apply List.ext_getElem?;intro i;rw[aA,List.getElem?_set,List.getElem?_set,List.length_set,ch,az];by_cases hi:i<n
  ·rw[bZ d n hi];by_cases h1:k=i
   ·subst h1;simp[hi,jA,ot,sw]
   by_cases h2:p=i
   ·subst h2;simp[h1,hi,jA,ot,sw]
   have h1': ¬i=k:=fun e=>h1 e.symm
   have h2': ¬i=p:=fun e=>h2 e.symm
   simp[h1,h2,h1',h2',jA,ot,sw]
  have h1: ¬k=i:=by omega
  have h2: ¬p=i:=by omega
  rw[if_neg h1,if_neg h2,au (by rw[ch,az];omega)];rfl
 |succ r=>
  have hsw:sw (p+1) (k+1) (r+1)=sw p k r+1:=by
   unfold sw;by_cases h1:r=p
   ·simp[h1]
   by_cases h2:r=k
   ·simp[h1,h2,hne]
   simp[h1,h2]
  have hO: ∀l:List Int,uP d (p+1) (k+1) (jz l)=jz l:=fun l=>by
   simp only[uP,jz,lc,List.map_map]
   congr 1
  rw[hsw,List.getElem?_cons_succ,List.getElem?_cons_succ,aA,aA];by_cases hr:r<n
  ·have hs:sw p k r<n:=by unfold sw;split<;>(try split)<;>omega
   rw[bD _ _ hr,bD _ _ hs];simp only[Option.map_some,hO]
   congr 3
   unfold swp sw;by_cases h1:r=p
   ·simp[h1]
   by_cases h2:r=k
   ·simp[h1,h2,hne]
   simp[h1,h2]
  have hs: ¬sw p k r<n:=by unfold sw;rw[if_neg (by omega),if_neg (by omega)];exact hr
  rw[au (by rw[bi];omega),au (by rw[bi];omega)];rfl
theorem ku (n c:Nat) (f:FF): ∀o∈dc 0 n c f,selfO 0 o:=fun o ho e he x hx=>by
 simp only[List.mem_cons,an]at ho;rcases ho with rfl|⟨r,_,rfl⟩
 ·obtain⟨k,hk⟩:=List.mem_iff_getElem?.1 he;have hkn:k<n:=by
   have:=(List.getElem?_eq_some_iff.1 hk).1;simpa[ch] using this
  simp only at hk;rw[bZ 0 c hkn]at hk;injection hk with hk
  subst hk;simp at hx;subst hx;rfl
 exact dw (d6 _ _ _) e he x hx
theorem tE (n c:Nat) (f g:FF): ∃o o',(dc 0 n c f)[0]?=some o/\(dc 0 n c g)[0]?=some o'/\o.elems.length=n/\o'.elems.length=n/\o'.es=o.es:=
 ⟨_,_,rfl,rfl,by simp[ch],by simp[ch],rfl⟩
structure P5 (n:Nat) (h:FF) (i:Nat) (T:FF) where
 j:Nat
 C:Nat->Nat->Int
 hj:j<=i
 he:insB (nrm n h) C j=T
 ok: ∀a,a<n->GdR n h (C a)
structure O9 (n:Nat) where
 i:Nat
 h1:1<=i
 hi:i<=n
theorem ES (n:Nat) (h B:FF) (hn1:1<=n) (hn:n<=4) (hr:RedR h n) (hB: ∀a,a<n->GdR n h (B a)):
  qS Tryz.prog 118 [jk,.raw (.int .i64 0),.raw (.int .i64 (n:Int)),.fn 54 [.p (.ptr (fi (bx n n h)))]] 0 n (dc 0 n n B) (dc 0 n n (kH (nrm n h) B n)) .undef:=by
 have hall:=fun i hi=>pR (n:=n) (nrm n h) (Q:=GdR n h) (B:=B) hB i hi
 refine sQ Tryz.func118 rfl (by kernel_rfl) (by simp) hn1 (tE _ _ _ _) rfl ?_;rw[Tryz.ntmps118];refine fc.weak (aG (tm:=(.one (.sl 0 0 0 n)::.raw (.int .i64 0)::rN n::.fn 54 [.p (.ptr (fi (bx n n h)))]::j16 (j16 (j16 (jk::[]))))) (l:=[(0,dc 0 n n B)]) ⟨rfl,trivial⟩ (by simp[wk,ag])) ?_;refine be (by kernel_rfl) fun _ K=>?_;simp(disch:=omega) only[kd,aa,aT];apply K
 refine gB (G:=O9 n) (fun g=>⟨(.one (.sl 0 0 0 n)::.raw (.int .i64 0)::rN n::.fn 54 [.p (.ptr (fi (bx n n h)))]::j4 (.raw (.int .i64 (g.i:Int))::j16 (j16 (j4 (j4 (j4 ([]))))))),Hm [(0,dc 0 n n (kH (nrm n h) B g.i))]⟩) (fun g=>n-g.i) ⟨1,by omega,hn1⟩ ?_ ?_
 ·refine aG ⟨rfl,trivial⟩ ?_;simp[wk]
 rintro⟨i,hi1,hi⟩;simp only;by_cases hm:i<n
 ·refine ce (be (by kernel_rfl) fun _ K=>?_);simp(disch:=omega) only[kd,aa];apply K;refine jS rfl (fH ?_);refine ce (eY ?_);refine be (by kernel_rfl) fun _ K=>?_;simp only[kd];apply K
  refine gB (G:=P5 n h i (kH (nrm n h) B (i+1))) (fun g=>⟨(.one (.sl 0 0 0 n)::.raw (.int .i64 0)::rN n::.fn 54 [.p (.ptr (fi (bx n n h)))]::j4 (.raw (.int .i64 (i:Int))::rN g.j::j16 (j16 (j4 (j4 (jk::jk::jk::[])))))),Hm [(0,dc 0 n n g.C)]⟩) (fun g=>g.j) ⟨i,kH (nrm n h) B i,Nat.le_refl _,rfl,hall i (by omega)⟩ ?_ ?_
  ·refine aG ⟨rfl,trivial⟩ ?_;simp[wk]
  rintro⟨j,C,hj,he,ok⟩;simp only;cases j with
  |zero=>
   have he:C=kH (nrm n h) B (i+1):=he;refine ce (fX bj (by kernel_rfl) (by kernel_rfl) fun _ K=>?_);simp(disch:=omega) only[kd,aa];apply K;refine iI rfl (fG ?_);show fc _ _ _ _ _;refine dD (by kernel_rfl) fun _ K=>?_;simp(disch:=omega) only[kd,aa,aT];apply K
   refine⟨⟨i+1,by omega,by omega⟩,by simp only;omega,aG ⟨?_,trivial⟩ ?_⟩
   ·rw[<- he];rfl
   simp[wk]
  |succ j=>
   have hC:=GN hn1 hn hr (ok (j+1) (by omega)) (ok j (by omega));have e0:IntKind.i64.wrap (((j+1:Nat):Int)-1)=(j:Int):=by rw[show((j+1:Nat):Int)-1=(j:Int) by omega];exact aT (by omega) (by omega)
   have g1:=bZ (n:=n) (i:=j+1) 0 n (by omega);have g2:=bZ (n:=n) (i:=j) 0 n (by omega);have r1:=cH n C (i:=j+1) (show j+1<n by omega);have r2:=cH n C (i:=j) (show j<n by omega);have gt:(0:Int)<((j+1:Nat):Int):=by omega
   by_cases hlt:nrm n h (C (j+1))<nrm n h (C j)
   ·rw[insB,if_pos hlt]at he;have hneg:nrm n h (C (j+1))-nrm n h (C j)<0:=by omega
    refine ce (m8 bj [⟨14,_,_,_,hC⟩] [] (by kernel_rfl) (by kernel_rfl) fun _ K=>?_);simp(disch:=omega) only[kd,pO,aa,gt,g1,e0,g2,r1,qC,r2,hneg];apply K;refine jS rfl (fH ?_);refine ce (eY ?_);have hsw:=H6 (d:=0) C (show j+1<n by omega) (show j<n by omega) (by omega);have g4:((gk 0 (ag n n)).set (j+1) [.sl 0 (j+1) 0 n])[j]?=some [.sl 0 (j+1) 0 n]:=by
     rw[List.getElem?_set_ne (by omega),g2]
    refine AJ bj (by kernel_rfl) (by kernel_rfl) fun _ K=>?_;simp(disch:=omega) only[kd,aa,e0,g2,g1,g4,aj,reduceCtorEq];apply K
    show fc _ _ _ _ _;refine fc.weak ((rD 0 (j+1+1) (j+1) (dc 0 n n (swp (j+1) j C)) hsw).trans (aG (tm:=(.one (.sl 0 0 0 n)::.raw (.int .i64 0)::rN n::.fn 54 [.p (.ptr (fi (bx n n h)))]::j4 (.raw (.int .i64 (i:Int))::.raw (.int .i64 ((j+1:Nat):Int))::j16 (j16 (j4 (j4 (jk::jk::jk::[]))))))) (l:=[(0,dc 0 n n (swp (j+1) j C))]) ⟨rfl,trivial⟩ (by simp[wk,FI,jA,ot,sw]))) ?_;refine dD (by kernel_rfl) fun _ K=>?_;simp only[kd,aa,e0];apply K
    refine⟨⟨j,swp (j+1) j C,by omega,he,fun a ha=>?_⟩,by simp only;omega,aG ⟨rfl,trivial⟩ ?_⟩
    ·unfold swp;split
     ·exact ok j (by omega)
     split
     ·exact ok (j+1) (by omega)
     exact ok a ha
    simp[wk]
   rw[insB,if_neg hlt]at he;have hneg: ¬nrm n h (C (j+1))-nrm n h (C j)<0:=by omega
   refine ce (m8 bj [⟨14,_,_,_,hC⟩] [] (by kernel_rfl) (by kernel_rfl) fun _ K=>?_);simp(disch:=omega) only[kd,pO,aa,gt,g1,e0,g2,r1,qC,r2,hneg];apply K;refine iI rfl (fG ?_);show fc _ _ _ _ _;refine dD (by kernel_rfl) fun _ K=>?_;simp(disch:=omega) only[kd,aa,aT];apply K
   refine⟨⟨i+1,by omega,by omega⟩,by simp only;omega,aG ⟨?_,trivial⟩ ?_⟩
   ·rw[<- he];rfl
   simp[wk]
 have hin:i=n:=by omega
 subst hin;refine ce (be (by kernel_rfl) fun _ K=>?_);simp(disch:=omega) only[kd,aa];apply K;refine iI rfl (fG ?_);refine⟨.inl rfl,_,cj.refl _,rfl,oo _,rfl⟩
theorem Jf (n:Nat) (h B:FF) (hn1:1<=n) (hn:n<=4) (hr:RedR h n) (hB: ∀a,a<n->GdR n h (B a)):
  qS Tryz.prog 90 [jk,.raw (.int .i64 (n:Int)),.fn 54 [.p (.ptr (fi (bx n n h)))]] 0 n (dc 0 n n B) (dc 0 n n (kH (nrm n h) B n)) .undef:=by
 have hI:=ES n h B hn1 hn hr hB;refine sQ Tryz.func90 rfl (by kernel_rfl) (by simp) hn1 (tE _ _ _ _) rfl ?_;rw[Tryz.ntmps90];refine fc.weak (aG (tm:=(.one (.sl 0 0 0 n)::rN n::.fn 54 [.p (.ptr (fi (bx n n h)))]::j16 (j16 (j16 (j4 (j4 (j4 ([])))))))) (l:=[(0,dc 0 n n B)]) ⟨rfl,trivial⟩ (by simp[wk,ag])) ?_;refine be (by kernel_rfl) fun _ K=>?_;simp only[kd];apply K
 refine be (by kernel_rfl) fun _ K=>?_;simp only[kd,aa];apply K
 refine ce (gB (G:=Unit) (fun _=>⟨(.one (.sl 0 0 0 n)::rN n::.fn 54 [.p (.ptr (fi (bx n n h)))]::jk::jk::jk::.raw (.int .i64 20)::.raw (.int .i64 0)::.raw (.int .i64 20)::j16 (j16 (j16 (j4 (jk::jk::[]))))),Hm [(0,dc 0 n n B)]⟩) (fun _=>0) () ?_ ?_)
 ·refine aG ⟨rfl,trivial⟩ ?_;simp[wk]
 intro _;refine ce (be (by kernel_rfl) fun _ K=>?_);simp(disch:=omega) only[kd,aa];apply K;refine iI rfl (fG ?_);show fc _ _ _ _ _;refine AK 4 hI 0 [] [] (by kernel_rfl) (by simp[wk]) hn1 rfl (ku _ _ _) (ku _ _ _) (by decide) (by simp[wk]) (by decide) fun K hK=>?_
 simp only[kd,aa];apply hK;clear hK K;refine⟨⟨rfl,(cE 0 0 _ _ _).symm⟩,by simp[wk],?_⟩;intro K hK;simp only[kd,aa,Nz,cwD,kM];apply hK;clear hK K;refine gB (G:=Unit) (fun _=>⟨(.one (.sl 0 0 0 n)::rN n::.fn 54 [.p (.ptr (fi (bx n n h)))]::jk::jk::jk::.raw (.int .i64 20)::j16 (j16 (j16 (j4 (j4 ([])))))),Hm [(0,dc 0 n n (kH (nrm n h) B n))]⟩) (fun _=>0) () ?_ ?_
 ·refine aG ⟨cE 0 0 n n _,trivial⟩ ?_;simp[wk]
 intro _;refine ce (be (by kernel_rfl) fun _ K=>?_);simp(disch:=omega) only[kd,aa];apply K;refine iI rfl (fG ?_);refine⟨.inl rfl,_,cj.refl _,rfl,oo _,rfl⟩
theorem x6 (n:Nat) (h B:FF) (hn1:1<=n) (hn:n<=4) (hr:RedR h n) (hB: ∀a,a<n->GdR n h (B a)):
  qS Tryz.prog 53 [jk,.fn 54 [.p (.ptr (fi (bx n n h)))]] 0 n (dc 0 n n B) (dc 0 n n (kH (nrm n h) B n)) .undef:=by
 have hI:=Jf n h B hn1 hn hr hB;refine sQ Tryz.func53 rfl (by kernel_rfl) (by simp) hn1 (tE _ _ _ _) rfl ?_;rw[Tryz.ntmps53];refine fc.weak (aG (tm:=(.one (.sl 0 0 0 n)::.fn 54 [.p (.ptr (fi (bx n n h)))]::j4 (jk::jk::jk::[]))) (l:=[(0,dc 0 n n B)]) ⟨rfl,trivial⟩ (by simp[wk,ag])) ?_;refine sB 4 hI 0 [] [] (by kernel_rfl) (by simp[wk]) hn1 rfl (ku _ _ _) (ku _ _ _) (by decide) (by simp[wk]) (by decide) fun K hK=>?_
 simp only[kd,aa];apply hK;clear hK K;refine⟨⟨rfl,(cE 0 0 _ _ _).symm⟩,by simp[wk],?_⟩;intro K hK;simp only[kd,aa,Nz,cwD,kM];apply hK;clear hK K;refine⟨.inl rfl,_,aG (tm:=(.one (.sl 0 0 0 n)::j4 (j4 ([])))) (l:=[(0,dc 0 n n (kH (nrm n h) B n))]) ⟨cE 0 0 n n _,trivial⟩ (by simp[wk]),rfl,oo _,rfl⟩
open Classical in
noncomputable def Df (M l:List (List Int)):CallRes:=if PJ M l then⟨dc 0 l.length l.length (vG M l),th l.length true⟩else⟨dc 0 0 0 (vG M l),th 0 false⟩
theorem Hk {M l:List (List Int)} (h: ¬PJ M l):Df M l=⟨dc 0 0 0 (vG M l),th 0 false⟩:=if_neg h
theorem vK {M l:List (List Int)} (h:PJ M l):Df M l=⟨dc 0 l.length l.length (vG M l),th l.length true⟩:=if_pos h
theorem B4 {fn:Func} {c:Nat} {F:FF} {b:Bool} {s:AS} (hd:s.H 500=[]) (hk:s.tmps[4]?=some (.raw (.slice none 0 0)))
  (hres:rt Tryz.prog ⟨s.tmps.set 4 (.one (.sl 500 0 0 0)),bs s.H 500 [⟨34,1,[]⟩]⟩ fn.results.toList=some (.tup [(false,[.sl 500 0 0 0]),(false,[.p (.raw (.bool b))])])):
  ∃s',cj s s'/\nP Tryz.prog fn ⟨dc 0 0 c F,th 0 b⟩ s':=
 ⟨_,eK (k:=4) (d:=500) 34 1 (by omega) hd hk,_,500,hres,uz (by simp[iM,dK]) (by decide),by simp only[bF];rfl,rfl⟩
theorem Ln (M l:List (List Int)) (hl:l.length<=16):CallC Tryz.prog 21 [bS M,bS l] (Df M l):=by
 have hno:=Hk (M:=M) (l:=l);have hyes:=vK (M:=M) (l:=l);generalize Df M l=r at*
 have cR:=pu M;cases hred:cb M with
 |false=>
  rw[hred]at cR;rw[hno (fun h=>by rw[h.1]at hred;cases hred)];refine aJ Tryz.func21 rfl (by kernel_rfl) ?_;rw[Tryz.ntmps21];refine aF fun _ K=>?_;simp only[kd,bS,aa,ag];apply K
  refine aH (aI [⟨1,_,_,_,cR⟩] [] fun _ K=>?_);simp only[kd,bS,aa];apply K;refine bf rfl ?_;refine aF fun _ K=>?_;simp only[kd];apply K
  refine aK ⟨.inr rfl,B4 rfl rfl ?_⟩;simp(disch:=omega) only[kd,Tryz.results21]
 |true=>
  rw[hred]at cR;obtain⟨n,hn⟩: ∃n,n=l.length:=⟨_,rfl⟩;rw[<- hn]at hyes hl;have hln:=hn.symm;refine aJ Tryz.func21 rfl (by kernel_rfl) ?_;rw[Tryz.ntmps21];refine aF fun _ K=>?_;simp only[kd,bS,aa,ag];apply K
  refine aH (aI [⟨1,_,_,_,cR⟩] [] fun _ K=>?_);simp only[kd,bS,aa];apply K;refine aU rfl (aO ?_);show bu _ _ _ _;refine aH (aF fun _ K=>?_);simp only[kd,aa,hln];apply K;refine aZ (G:=P4 n (fun a=>FitB M.length (l.getD a [])=true)) (fun g=>⟨(bS M::bS l::j16 (jk::bS l::rN n::rN g.i::j16 (j16 (j16 (j16 (jk::jk::jk::[])))))),Hm []⟩) (fun g=>n-g.i) ⟨0,by omega,fun a h=>by omega⟩ ?_ ?_
  ·refine aG trivial ?_;simp[wk]
  rintro⟨i,hi,hg⟩;simp only;by_cases hm:i<n
  ·have hli:=xk (l:=l) (i:=i) (by omega);have cF:=Lm M.length (l.getD i []);cases hf:FitB M.length (l.getD i [])with
   |true=>
    rw[hf]at cF;have hg': ∀a,a<i+1->FitB M.length (l.getD a [])=true:=fun a ha=>by
     by_cases h:a=i
     ·subst h;exact hf
     exact hg a (by omega)
    generalize l.getD i []=xi at*
    refine aF fun _ K=>?_;simp(disch:=omega) only[kd,bS];apply K
    refine bM rfl ?_;refine aH (aM ?_);refine aF fun _ K=>?_;simp(disch:=omega) only[kd,aa,hli,fR];apply K
    refine aI [⟨3,_,_,_,cF⟩] [] fun _ K=>?_;simp only[kd,pO,aa];apply K
    refine aU rfl (aO ?_);show bu _ _ _ _;refine aN fun _ K=>?_;simp(disch:=omega) only[kd,aT];apply K
    refine⟨⟨i+1,by omega,hg'⟩,by simp only;omega,aG trivial ?_⟩;simp[wk]
   |false=>
    rw[hf]at cF;have hr:=hno (fun h=>by rw[(h.2 i (by omega) i (by omega)).x]at hf;cases hf);generalize l.getD i []=xi at*
    refine aF fun _ K=>?_;simp(disch:=omega) only[kd,bS];apply K
    refine bM rfl ?_;refine aH (aM ?_);refine aF fun _ K=>?_;simp(disch:=omega) only[kd,aa,hli,fR];apply K
    refine aI [⟨3,_,_,_,cF⟩] [] fun _ K=>?_;simp only[kd,pO,aa];apply K
    refine bf rfl ?_;refine aF fun _ K=>?_;simp only[kd];apply K
    rw[hr];refine aK ⟨.inr rfl,B4 rfl rfl ?_⟩;simp(disch:=omega) only[kd,Tryz.results21]
  have hin:i=n:=by omega
  subst hin;refine aF fun _ K=>?_;simp(disch:=omega) only[kd,bS];apply K
  refine bV rfl ?_;show bu _ _ _ _;have hfit: ∀a,a<i->FitB M.length (l.getD a [])=true:=hg;clear hg;obtain⟨n,hni⟩: ∃n,n=i:=⟨_,rfl⟩;subst hni;refine aF fun _ K=>?_;simp(disch:=omega) only[kd,aa,hln];apply K
  refine aH (aF fun _ K=>?_);simp only[kd,aa,hln];apply K;refine aZ (G:=kK n) (fun g=>⟨(bS M::bS l::j4 (jk::jk::.one (.sl 33 0 0 n)::j16 (j4 (j4 (jk::jk::rN n::rN g.i::j16 (j16 (j16 (j4 ([]))))))))),Hm [(33,kI 33 n n g.i (fun _ _=>0))]⟩) (fun g=>n-g.i) ⟨0,by omega⟩ ?_ ?_
  ·refine aG ⟨?_,trivial⟩ ?_
   ·show[_]=_;simp[kI,gk,bx]
   simp[wk]
  rintro⟨i,hi⟩;simp only;by_cases hm:i<n
  ·have k1:=qr (i:=i) (n:=n) 33 n hm;have k2:=jj (i:=i) (n:=n) 33 n hi;have k3:=bi i n (fun _ _=>(0:Int));have k4:=nk (i:=i) (n:=n) (c:=n) 33 (fun _ _=>(0:Int)) hm (fun j hj=>rfl);refine aF fun _ K=>?_;simp(disch:=omega) only[kd,bS];apply K
   refine bM rfl ?_;refine aH (aM ?_);refine aF fun _ K=>?_;simp only[kd];apply K
   refine aN fun _ K=>?_;simp(disch:=omega) only[kd,aa,hln,ae,k1,aj,az,List.all_replicate,k3,k4,ah];apply K
   show bu _ _ _ _;refine aN fun _ K=>?_;simp(disch:=omega) only[kd,aT];apply K
   refine⟨⟨i+1,by omega⟩,by simp only;omega,aG ⟨?_,trivial⟩ ?_⟩
   ·first|exact k4|rfl
   simp[wk]
  have hin:i=n:=by omega
  subst hin;refine aF fun _ K=>?_;simp(disch:=omega) only[kd,bS];apply K
  refine bV rfl ?_;show bu _ _ _ _;rw[ou];obtain⟨n,hni⟩: ∃n,n=i:=⟨_,rfl⟩;subst hni;refine aH (aF fun _ K=>?_);simp only[kd,aa,hln];apply K;refine aZ (G:=P4 n (fun a=> ∀b,b<=a->PG M l a b)) (fun g=>⟨(bS M::bS l::j4 (jk::jk::.one (.sl 33 0 0 n)::j16 (j16 (j4 (jk::bS l::rN n::rN g.i::j16 (j16 (j4 (j4 ([]))))))))),Hm [(33,dc 33 n n (Bq (vG M l) g.i 0))]⟩) (fun g=>n-g.i) ⟨0,by omega,fun a h=>by omega⟩ ?_ ?_
  ·refine aG ⟨?_,trivial⟩ ?_
   ·show _::_=_::_;rw[cn fun a b _ _=>(Hh (vG M l) a b).symm]
   simp[wk]
  rintro⟨i,hi,hg⟩;simp only;by_cases hm:i<n
  ·have hli:=xk (l:=l) (i:=i) (by omega);have cA:=In M (l.getD i []) hred (hfit i hm);refine aF fun _ K=>?_;simp(disch:=omega) only[kd,bS];apply K
   refine bM rfl ?_;refine aH (aM ?_);refine aF fun _ K=>?_;simp(disch:=omega) only[kd,aa,hli,fR];apply K
   refine aI [⟨2,_,_,_,cA⟩] [] fun _ K=>?_;simp only[kd,bS,pO,aa];apply K
   refine aF fun _ K=>?_;simp(disch:=omega) only[kd,aa,aT];apply K
   refine aZ (G:=P4 (i+1) (fun b=>PG M l i b)) (fun g=>⟨(bS M::bS l::j4 (jk::jk::.one (.sl 33 0 0 n)::jk::rN i::jk::pO (dy M (l.getD i []))::j16 (j16 (jk::bS l::rN n::rN i::j4 (j4 (.raw (.int .i64 ((i+1:Nat):Int))::rN g.i::j16 (j4 (j4 (j4 (jk::jk::[])))))))))),Hm [(33,dc 33 n n (Bq (vG M l) i g.i))]⟩) (fun g=>i+1-g.i) ⟨0,by omega,fun a h=>by omega⟩ ?_ ?_
   ·refine aG ⟨rfl,trivial⟩ ?_;simp[wk]
   rintro⟨j,hj,hh⟩;simp only;by_cases hm2:j<i+1
   ·have hlj:=xk (l:=l) (i:=j) (by omega);have cD:=Oe M (l.getD j []) (l.getD i []) hred (hfit j (by omega)) (hfit i hm);have hsy:=JP (i:=i) (j:=j) hred (hfit i hm) (hfit j (by omega));rw[show ew (l.getD j []) (dy M (l.getD i [])) (l.getD j []).length=vG M l j i from rfl,<- hsy]at cD;by_cases hp:PG M l i j
    ·rw[show OW (vG M l i j)=FL (vG M l i j) true from if_pos ⟨hp.lo,hp.hi⟩]at cD;have g1:=bZ (n:=n) (i:=i) 33 n hm;have g2:=bZ (n:=n) (i:=j) 33 n (by omega);have g3:=cH (n:=n) n (Bq (vG M l) i j) (i:=i) hm;have g4:=aY (Bq (vG M l) i j i) (show j<n by omega);have g5:=cH (n:=n) n (upd (Bq (vG M l) i j) i j (vG M l i j)) (i:=j) (show j<n by omega);have g6:=aY (upd (Bq (vG M l) i j) i j (vG M l i j) j) hm;refine aF fun _ K=>?_;simp(disch:=omega) only[kd,bS,pO];apply K
     refine bM rfl ?_;refine aH (aM ?_);refine aF fun _ K=>?_;simp only[kd];apply K
     refine aI [⟨5,_,_,_,cD⟩] [] fun _ K=>?_;simp(disch:=omega) only[kd,pO,FL,aa,hlj,fR];apply K
     refine aH (aF fun _ K=>?_);simp only[kd];apply K;refine aU rfl (aO ?_);show bu _ _ _ _;refine kS bj (by kernel_rfl) fun _ K=>?_;simp(disch:=omega) only[kd,aa,g1,g2,g3,g4,eP,g5,g6];apply K
     show bu _ _ _ _;refine aN fun _ K=>?_;simp(disch:=omega) only[kd,aT];apply K
     refine⟨⟨j+1,by omega,fun a ha=>?_⟩,by simp only;omega,aG ⟨?_,trivial⟩ ?_⟩
     ·by_cases h:a=j
      ·subst h;exact hp
      exact hh a (by omega)
     ·show _::_=_::_;rw[cn fun a b _ _=>Hg (f:=vG M l) rfl hsy.symm a b]
     simp[wk]
    have hw:OW (vG M l i j)=FL 0 false:=if_neg fun h=>hp ⟨hfit i hm,hfit j (by omega),h.1,h.2⟩
    rw[hw]at cD;have hr:=hno (fun h=>hp (h.2 i (by omega) j (by omega)));refine aF fun _ K=>?_;simp(disch:=omega) only[kd,bS,pO];apply K
    refine bM rfl ?_;refine aH (aM ?_);refine aF fun _ K=>?_;simp only[kd];apply K
    refine aI [⟨5,_,_,_,cD⟩] [] fun _ K=>?_;simp(disch:=omega) only[kd,pO,FL,aa,hlj,fR];apply K
    refine aH (aF fun _ K=>?_);simp only[kd];apply K;refine bf rfl ?_;refine aF fun _ K=>?_;simp only[kd];apply K
    rw[hr];refine aK ⟨.inr rfl,B4 rfl rfl ?_⟩;simp(disch:=omega) only[kd,Tryz.results21]
   have hjc:j=i+1:=by omega
   subst hjc;refine aF fun _ K=>?_;simp(disch:=omega) only[kd,bS,pO];apply K
   refine bV rfl ?_;show bu _ _ _ _;refine aN fun _ K=>?_;simp(disch:=omega) only[kd,aT];apply K
   refine⟨⟨i+1,by omega,fun a ha b hb=>?_⟩,by simp only;omega,aG ⟨?_,trivial⟩ ?_⟩
   ·by_cases h:a=i
    ·subst h;exact hh b (by omega)
    exact hg a (by omega) b hb
   ·show _::_=_::_;rw[cn fun a b _ _=>KR (vG M l) i a b]
   simp[wk]
  have hin:i=n:=by omega
  subst hin;have hr:=hyes ⟨hred,fun a ha b hb=>by
   by_cases h:b<=a
   ·exact hg a (by omega) b h
   have h1:=hg b (by omega) a (by omega);have hs:=JP (i:=a) (j:=b) hred (hfit a (by omega)) (hfit b (by omega));exact⟨h1.y,h1.x,by rw[hs];exact h1.lo,by rw[hs];exact h1.hi⟩⟩
  refine aF fun _ K=>?_;simp(disch:=omega) only[kd,bS];apply K
  refine bV rfl ?_;show bu _ _ _ _;have e:dc 33 i i (Bq (vG M l) i 0)=dc 33 i i (vG M l):=by
   show _::_=_::_;rw[cn fun a b ha hb=>KQ ha hb]
  rw[e];rw[hr];refine aF fun _ K=>?_;simp only[kd,aa];apply K
  refine aK ⟨.inr rfl,IF (d:=33) rfl ?_ (by decide)⟩;simp(disch:=omega) only[kd,Tryz.results21]
theorem xR (k c:Nat) (F:FF) (b:Bool):pL ⟨dc 0 k c F,th k b⟩:=by
 refine⟨rfl,fun o ho e he x hx=>?_⟩;rcases List.mem_cons.1 ho with rfl|ho
 ·simp only[gk,List.mem_mapIdx]at he;obtain⟨i,_,rfl⟩:=he;simp at hx;subst hx;rfl
 obtain⟨r,_,rfl⟩:=List.mem_map.1 ho;simp only[jz,lc,an]at he;obtain⟨z,_,rfl⟩:=he;simp[fI]at hx;subst hx;rfl
theorem AX {ops:Array Oper} {m d k c:Nat} {F:FF} {b:Bool} {s:AS} (hd:cwD ops m=some d):NG ops m ⟨dc 0 k c F,th k b⟩ s=AS.put ⟨s.tmps,bs s.H d (dc d k c F)⟩ (some d) (.tup [(false,[.sl d 0 0 k]),(false,[.p (.raw (.bool b))])]):=by
 unfold NG;rw[hd];simp only[cE];rfl
/-! The Gram matrix of short rows. -/
theorem CA {n:Nat} {h S:FF} (hn1:1<=n) (hn:n<=4) (hr:RedR h n) (hS: ∀a,a<n->GdR n h (S a)) {a b:Nat} (ha:a<n) (hb:b<n):
  vG (bx n n h) (bx n n S) a b=gmB n h S a b:=by
 unfold vG;rw[pi S ha,pi S hb];exact Dg hn1 (by omega) hr ((hS a ha).co hn1 hn hr) ((hS b hb).co hn1 hn hr)
theorem KT {n:Nat} {h S:FF} (hn1:1<=n) (hn:n<=4) (hr:RedR h n) (hS:InB2 n h 262144 S):PJ (bx n n h) (bx n n S):=by
 refine⟨rQ hn1 (by omega) hr,fun i hi j hj=>?_⟩;rw[bi]at hi hj;have g:=mr hr.pd hS hi hj 262144 (by decide);refine⟨?_,?_,?_,?_⟩
 ·rw[bi,pi S hi];exact ko ((show GdR n h (S i)from hS.nr i hi).co hn1 hn hr)
 ·rw[bi,pi S hj];exact ko ((show GdR n h (S j)from hS.nr j hj).co hn1 hn hr)
 ·rw[CA hn1 hn hr hS.nr hi hj];omega
 rw[CA hn1 hn hr hS.nr hi hj];omega
theorem Br {n:Nat} {h S:FF} (hn1:1<=n) (hn:n<=4) (hr:RedR h n) (hS:InB2 n h 262144 S):
  CallC Tryz.prog 21 [bS (bx n n h),bS (bx n n S)] ⟨dc 0 n n (gmB n h S),th n true⟩:=by
 have c:=Ln (bx n n h) (bx n n S) (by rw[bi];omega);rw[vK (KT hn1 hn hr hS),bi]at c;have e:dc 0 n n (vG (bx n n h) (bx n n S))=dc 0 n n (gmB n h S):=by
  show _::_=_::_;rw[cn fun a b ha hb=>CA hn1 hn hr hS.nr ha hb]
 rwa[e]at c
/-! The sum of rows. -/
def sR (n:Nat) (c:Nat->Int) (S:FF) (r:Nat):Nat->Int:=fun j=>b9 (fun a=>c a*S a j) r
def F3 (n:Nat) (c:Nat->Int) (S:FF) (r j:Nat):Nat->Int:=fun b=>if b<j then sR n c S (r+1) b else sR n c S r b
theorem IQ {n:Nat} {c:Nat->Int} {S:FF} (hc: ∀j,-1<=c j/\c j<=1) (hS: ∀a,a<n-> ∀j,j<n-> -1099511627776<=S a j/\S a j<=1099511627776) (j:Nat) (hj:j<n):
  ∀r,r<=n-> -((r:Int)*1099511627776)<=sR n c S r j/\sR n c S r j<=(r:Int)*1099511627776
 |0,_=>by simp[sR,b9]
 |r+1,h=>by
  have ih:=IQ hc hS j hj r (by omega);have h1:=hS r (by omega) j hj;have h2:=hc r;have e:sR n c S (r+1) j=sR n c S r j+c r*S r j:=rfl;have h3:c r= -1\/c r=0\/c r=1:=by omega
  rw[e];have h4:((r+1:Nat):Int)*1099511627776=(r:Int)*1099511627776+1099511627776:=by omega
  rw[h4];rcases h3 with h3|h3|h3<;>rw[h3]<;>omega
theorem IS (n:Nat) (c:Nat->Int) (S:FF) (r:Nat):F3 n c S r 0=sR n c S r:=by
 funext b;unfold F3;rw[if_neg (by omega)]
theorem LI (n:Nat) (c:Nat->Int) (S:FF) (r:Nat):bT n (F3 n c S r n)=bT n (sR n c S (r+1)):=f7 fun b hb=>by unfold F3;rw[if_pos hb]
theorem Oi (n:Nat) (c:Nat->Int) (S:FF) (r j:Nat):F3 n c S r j j=sR n c S r j:=by unfold F3;rw[if_neg (by omega)]
theorem K0 (n j:Nat) (g:Nat->Int) (v:Int):(lc fI (bT n g)).set j [.p (.raw (.int .i64 v))]=lc fI (bT n (fun b=>if b=j then v else g b)):=by
 rw[<- pJ,<- xu];rfl
theorem IR (n:Nat) (c:Nat->Int) (S:FF) (r j:Nat):(fun b=>if b=j then sR n c S r j+c r*S r j else F3 n c S r j b)=F3 n c S r (j+1):=by
 funext b;unfold F3;by_cases h:b=j
 ·subst h;rw[if_pos rfl,if_pos (by omega)];rfl
 by_cases h2:b<j
 ·rw[if_neg h,if_pos h2,if_pos (by omega)]
 rw[if_neg h,if_neg h2,if_neg (by omega)]
theorem Qq (n:Nat) (c:Nat->Int) (S:FF):jz (bT n (sR n c S 0))=⟨2,1,ag n [.p (.raw (.int .i64 0))]⟩:=by
 have e:bT n (sR n c S 0)=ag n 0:=by
  apply List.ext_getElem?;intro j;by_cases hj:j<n
  ·rw[aY _ hj,List.getElem?_replicate,if_pos hj];rfl
  rw[au (by rw[bE];omega),au (by simp;omega)]
 rw[jz,e,lc,List.map_replicate];rfl
theorem IE (n:Nat) (h S:FF) (i:Nat):js n h S i i=sR n (j7 n (gmB n h S) i (3^i)) S n:=by
 unfold js;rw[if_pos rfl];rfl
def PR (d n i:Nat) (S:FF) (X:Nat->Int):List OObj:=⟨34,1,(gk d (ag n n)).set i [.sl d (n+1) 0 n]⟩::((bx n n S).map jz++[jz (bT n X)])
theorem N4 {d n i:Nat} (S S':FF) (hi:i<n) (hS': ∀k,k≠i->S' k=S k) (r:Nat):
  (dc d n n S'++[jz (bT n (S i))])[r]?=((PR d n i S (S' i))[sw (i+1) (n+1) r]?).map (uP d (i+1) (n+1)):=by
 have hO: ∀l:List Int,uP d (i+1) (n+1) (jz l)=jz l:=fun l=>by
  simp only[uP,jz,lc,List.map_map]
  congr 1
 have hlen:((bx n n S).map jz).length=n:=by rw[ay,bi]
 cases r with
 |zero=>
  rw[show sw (i+1) (n+1) 0=0 by simp[sw]];unfold PR;simp only[List.cons_append,List.getElem?_cons_zero,Option.map_some,uP]
  congr 2
  apply List.ext_getElem?;intro k;rw[aA,List.getElem?_set,ch,az];by_cases hk:k<n
  ·rw[bZ d n hk];by_cases h1:i=k
   ·subst h1;have hin: ¬n=i:=by omega
    simp[hi,hin,jA,ot,sw]
   have h1': ¬k=i:=fun e=>h1 e.symm
   have h2: ¬k=n:=by omega
   simp[h1,h1',h2,jA,ot,sw]
  rw[if_neg (by omega),au (by rw[ch,az];omega)];rfl
 |succ r=>
  have hsw:sw (i+1) (n+1) (r+1)=sw i n r+1:=by
   unfold sw;by_cases h1:r=i
   ·simp[h1]
   by_cases h2:r=n
   ·simp[h2,show ¬n=i by omega]
   simp[h1,h2]
  rw[hsw];unfold PR;rw[List.cons_append,List.getElem?_cons_succ,List.getElem?_cons_succ];by_cases h1:r=i
  ·subst h1;rw[show sw r n r=n by simp[sw],aq (by rw[ay,bi];exact hi),List.getElem?_append_right (by rw[hlen];omega),hlen,Nat.sub_self];rw[aA,bD _ _ hi];simp[hO]
  by_cases h2:r=n
  ·subst h2;rw[show sw i r r=i by simp[sw,h1],List.getElem?_append_right (by rw[ay,bi];omega),aq (by rw[hlen];exact hi),ay,bi,Nat.sub_self];rw[aA,bD _ _ hi];simp[hO]
  rw[show sw i n r=r by simp[sw,h1,h2]];by_cases hr:r<n
  ·rw[aq (by rw[ay,bi];exact hr),aq (by rw[hlen];exact hr),aA,aA,bD _ _ hr,bD _ _ hr,hS' r h1];simp[hO]
  rw[au (by simp[bi];omega),au (by simp[bi];omega)];rfl
theorem E6 (d n c:Nat) (f:FF): ∀q∈dc d n c f,∀e∈q.elems,∀x∈e,wZ (dc d n c f).length x:=fun q hq e he x hx=>by
 have hl:(dc d n c f).length=n+1:=by simp[bi]
 rw[hl];simp only[List.mem_cons,an]at hq;rcases hq with rfl|⟨r,_,rfl⟩
 ·obtain⟨k,hk⟩:=List.mem_iff_getElem?.1 he;have hkn:k<n:=by
   have:=(List.getElem?_eq_some_iff.1 hk).1;simpa[ch] using this
  simp only at hk;rw[bZ d c hkn]at hk;injection hk with hk
  subst hk;simp at hx;subst hx;show k+1<n+1;omega
 simp only[jz,lc,an]at he;obtain⟨z,_,rfl⟩:=he;simp[fI]at hx;subst hx;trivial
structure Qa (n:Nat) (h R:FF) where
 B:Nat->Nat->Int
 rch:RchB n h B R
 inb:InB2 n h 262144 B
theorem BI (n:Nat) (h R:FF) (hn1:1<=n) (hn:n<=4) (hr:RedR h n) (hR:RchB n h idF R):
  CallG Tryz.prog 0 162 19 [bS (bx n n h)] gN ⟨dc 0 n n R,.one (.sl 0 0 0 n)⟩:=by
 have hml:=bi n n h;refine gD Tryz.func19 rfl (by kernel_rfl) ?_;rw[Tryz.ntmps19];refine aQ fun _ K=>?_;simp(disch:=omega) only[kd,bS,ag];apply K
 refine dG.weak ((l9 1 1 (cs:=fi (bx n n h)) rfl rfl).trans (aG (tm:=(jk::.one (.p (.ptr (fi (bx n n h))))::j16 (j16 (j16 (j16 (j16 (j4 (jk::jk::[])))))))) (l:=[]) trivial (by simp[wk,gO,fj]))) ?_;refine aQ fun _ K=>?_;simp(disch:=omega) only[kd,aa,hml];apply K
 refine bI (aQ fun _ K=>?_);simp only[kd,aa];apply K;refine dO (G:=kK n) (fun g=>⟨(jk::.one (.p (.ptr (fi (bx n n h))))::jk::.one (.sl 17 0 0 n)::j4 (j4 (j4 (jk::jk::jk::rN n::rN g.i::j16 (j16 (j16 (j16 (jk::jk::jk::[])))))))),Hm [(17,kI 17 n n g.i (p8 g.i))]⟩) (fun _=>gN) (fun g=>n-g.i) ⟨0,by omega⟩ ?_ rfl ?_
 ·refine aG ⟨?_,trivial⟩ ?_
  ·show[_]=_;simp[kI,gk,bx]
  simp[wk]
 rintro⟨i,hi⟩;simp only;by_cases hm:i<n
 ·have k1:=qr (i:=i) (n:=n) 17 n hm;have k2:=jj (i:=i) (n:=n) 17 n hi;have k3:=bi i n (p8 i);have k4:=nk (i:=i) (n:=n) (c:=n) 17 (p8 i) hm (fun j hj=>by unfold p8;rw[if_neg (by omega)]);have k5:=qp (i:=i+1) (k:=i) (n:=n) 17 n (by omega);have k6:=jj (i:=i+1) (n:=n) 17 n (by omega);have k7:=cH (n:=i+1) n (p8 i) (i:=i) (by omega);have k8:=aY (p8 i i) hm;refine aQ fun _ K=>?_;simp(disch:=omega) only[kd];apply K
  refine gA rfl ?_;refine bI (cB ?_);refine aQ fun _ K=>?_;simp only[kd];apply K
  refine aQ fun _ K=>?_;simp(disch:=omega) only[kd,aa,hml,ae,k1,aj,az,List.all_replicate,k3,k4,ah];apply K
  refine dG.weak (aG (tm:=(jk::.one (.p (.ptr (fi (bx n n h))))::jk::.one (.sl 17 0 0 n)::rN i::j4 (j4 (j4 (jk::jk::rN n::rN i::j16 (j16 (j16 (j16 (jk::jk::jk::[]))))))))) (l:=[(17,kI 17 n n (i+1) (p8 i))]) ⟨?_,trivial⟩ (by simp[wk])) ?_
  ·first|exact k4|rfl
  refine cC fun _ K=>?_;simp(disch:=omega) only[kd,aa,k5,k7,k8,eP];apply K
  show dG _ _ _ _ _ _ _;refine cC fun _ K=>?_;simp(disch:=omega) only[kd,aT];apply K
  refine⟨⟨i+1,by omega⟩,by simp only;omega,aG ⟨?_,trivial⟩ ?_,rfl⟩
  ·show _::_=_::_;rw[cn fun x y _ _=>tY i x y]
  simp[wk]
 have hin:i=n:=by omega
 subst hin;refine aQ fun _ K=>?_;simp(disch:=omega) only[kd];apply K
 refine jc rfl ?_;show dG _ _ _ _ _ _ _;have e:kI 17 i i i (p8 i)=dc 17 i i idF:=by
  rw[ou];show _::_=_::_;rw[cn fun x y hx _=>xK x y hx]
 rw[e];obtain⟨n,hni⟩: ∃n,n=i:=⟨_,rfl⟩;subst hni;clear e hm hi;refine dO (G:=Qa n h R) (fun g=>⟨(jk::.one (.p (.ptr (fi (bx n n h))))::jk::.one (.sl 17 0 0 n)::j16 (j16 (j16 (j16 (j16 (j4 ([]))))))),Hm [(17,dc 17 n n g.B)]⟩) (fun _=>gN) (fun g=>(Av (nrm n h) g.B n).toNat) ⟨idF,hR,InB2.one hn1 (by omega) hr⟩ ?_ rfl ?_
 ·refine aG ⟨rfl,trivial⟩ ?_;simp[wk]
 rintro⟨B,rch,inb⟩;simp only;refine cB ?_
 -- the rows in order
 have hS:=inb.ord;have cM:=x6 n h B hn1 hn hr inb.nr;rw[show kH (nrm n h) B n=mG n h B from rfl]at cM;have hso:Av (nrm n h) (mG n h B) n=Av (nrm n h) B n:=uF _ _ n (Nat.le_refl n);have hnx: ∀i,rx n (gmB n h (mG n h B))=some i->RchB n h (js n h (mG n h B) i) R:=fun i hv=>by
  cases rch with
  |done B hv'=>rw[hv]at hv';cases hv'
  |step B R j hv' hk=>rw[hv]at hv';cases hv';exact hk
 have hdn:rx n (gmB n h (mG n h B))=none->R=mG n h B:=fun hv=>by
  cases rch with
  |done B hv'=>rfl
  |step B R j hv' hk=>rw[hv]at hv';cases hv'
 have hnn: ∀B',0<=Av (nrm n h) B' n:=fun B'=>lN n fun a _=>(hr.pd.pos (B' a)).1
 generalize mG n h B=S at*
 have c1:=Br hn1 hn hr hS;have cV:=my n (gmB n h S) hn1 hn fun i j hi hj=>by
  have:=mr hr.pd hS hi hj 262144 (by decide);omega
 refine bI (kU (Gi (k:=0) (by simp[wk]) (sB 2 cM 17 [] [] (by kernel_rfl) (by simp[wk]) hn1 rfl (ku _ _ _) (ku _ _ _) (by decide) (by simp[wk]) (by decide) fun K hK=>?_)));simp only[kd,jg];apply hK;clear hK K;refine⟨⟨rfl,(cE 0 17 _ _ _).symm⟩,by simp[wk],?_⟩;intro K hK;simp only[kd,aa,Nz,cwD,kM];apply hK;clear hK K;show dG _ _ _ _ _ _ _;refine dG.weak (aG (tm:=(jk::.one (.p (.ptr (fi (bx n n h))))::jk::.one (.sl 17 0 0 n)::j16 (j16 (j16 (j16 (j16 (j4 ([])))))))) (l:=[(17,dc 17 n n S)]) ⟨cE 0 17 n n _,trivial⟩ (by simp[wk])) ?_
 -- the Gram matrix
 refine bI (kU (kR 2 c1 (xR _ _ _ _) [] [] (by simp[wk]) (by decide) fun K hK=>?_));simp only[kd];apply hK;clear hK K;refine⟨⟨⟨_,rfl,.inl ⟨rfl,rfl⟩,.inr ⟨17,0,0,n,rfl,dm (d:=17) (n:=n) (c:=n) (f:=S) rfl,l5 (d:=17) (n:=n) (c:=n) (f:=S) rfl⟩,trivial⟩,⟨42,rfl,fun _=>rfl⟩⟩,by simp[wk],?_⟩;intro K hK;rw[AX (d:=42) rfl];simp only[kd,aa];apply hK;clear hK K;show dG _ _ _ _ _ _ _;refine dG.weak (aG (tm:=(jk::.one (.p (.ptr (fi (bx n n h))))::jk::.one (.sl 17 0 0 n)::jk::.one (.sl 42 0 0 n)::j16 (j16 (j16 (j16 (j16 (jk::jk::[]))))))) (l:=[(17,dc 17 n n S),(42,dc 42 n n (gmB n h S))]) ⟨rfl,rfl,trivial⟩ (by simp[wk])) ?_;refine dG.weak ((bX 42 (dm (d:=42) (n:=n) (c:=n) (f:=gmB n h S) rfl)).trans (aG (tm:=(jk::.one (.p (.ptr (fi (bx n n h))))::jk::.one (.sl 17 0 0 n)::jk::bS (bx n n (gmB n h S))::j16 (j16 (j16 (j16 (j16 (jk::jk::[]))))))) (l:=[(17,dc 17 n n S)]) ⟨rfl,trivial⟩ (by
  simp[wk]
  (repeat' apply And.intro)<;>first|rfl|exact(l5 (H:=Hm [(17,dc 17 n n S),(42,dc 42 n n (gmB n h S))]) (d:=42) (n:=n) (c:=n) (f:=gmB n h S) rfl).symm))) ?_
 cases hv:rx n (gmB n h S)with
 |none=>
  have eT:oP n (gmB n h S)= .tup [(false,[.p (.raw (.int .i64 0))]),(true,a4 fun _=>0),(false,[.p (.raw (.bool false))])]:=by unfold oP;rw[hv]
  rw[eT]at cV;rw[hdn hv];refine dY [⟨1,_,_,_,cV,rfl⟩] [] [] fun _ K=>?_;simp(disch:=omega) only[kd,bS,dV.a,aa,jd,nZ,ae,dJ,fg];apply K
  refine bI (aQ fun _ K=>?_);simp only[kd];apply K;refine jb rfl ?_;refine aQ fun _ K=>?_;simp only[kd];apply K
  refine fo ⟨.inr rfl,rfl,_,cj.refl _,?_⟩;refine⟨.one (.sl 17 0 0 n),17,?_,rfl,?_,rfl⟩
  ·simp(disch:=omega) only[kd,Tryz.results19]
  exact(cE 17 0 _ _ _).symm
 |some i=>
  obtain⟨_,hi1,hi2,_⟩:=i9 n 0 i hv;have hi:i<n:=by omega
  have hi4:i<4:=by omega
  have eT:oP n (gmB n h S)= .tup [(false,[.p (.raw (.int .i64 (i:Int)))]),(true,a4 (j7 n (gmB n h S) i (3^i))),(false,[.p (.raw (.bool true))])]:=by unfold oP;rw[hv]
  rw[eT]at cV;have hc:=(uC n (gmB n h S) i (3^i)).2.2;have hrow:=IE n h S i;have hsum:=zS hi hi2;have hin2:=hS.rep hi hi2;have hnext:=hnx i hv;have hSb: ∀a,a<n-> ∀j,j<n-> -1099511627776<=S a j/\S a j<=1099511627776:=fun a ha=>(show GdR n h (S a)from hS.nr a ha).co hn1 hn hr
  have hoth: ∀k,k≠i->js n h S i k=S k:=fun k hk=>by unfold js;rw[if_neg hk]
  generalize j7 n (gmB n h S) i (3^i)=c at*
  refine dY [⟨1,_,_,_,cV,rfl⟩] [] [] fun _ K=>?_;simp(disch:=omega) only[kd,bS,dV.a,aa,jd,nZ,ae,dJ,fg];apply K
  refine bI (aQ fun _ K=>?_);simp only[kd];apply K;refine gz rfl (ef ?_);show dG _ _ _ _ _ _ _;refine aQ fun _ K=>?_;simp(disch:=omega) only[kd,aa,hml,ae];apply K
  refine dG.weak (aG (tm:=(jk::.one (.p (.ptr (fi (bx n n h))))::jk::.one (.sl 17 0 0 n)::jk::jk::jk::rN i::.one (.ptr 8 0 0 0)::jk::.one (.sl 56 0 0 n)::j16 (j16 (j16 (j16 (j4 (j4 (j4 (jk::[]))))))))) (l:=[(17,dc 17 n n S),(8,At c),(56,[jz (bT n (sR n c S 0))])]) ⟨rfl,rfl,?_,trivial⟩ (by simp[wk])) ?_
  ·rw[Qq];rfl
  refine bI (aQ fun _ K=>?_);simp only[kd,aa];apply K;refine dO (G:=kK n) (fun g=>⟨(jk::.one (.p (.ptr (fi (bx n n h))))::jk::.one (.sl 17 0 0 n)::jk::jk::jk::rN i::.one (.ptr 8 0 0 0)::jk::.one (.sl 56 0 0 n)::j16 (j16 (j4 (j4 (j4 (jk::jk::.one (.sl 17 0 0 n)::rN n::rN g.i::j16 (j4 (j4 (j4 ([])))))))))),Hm [(17,dc 17 n n S),(8,At c),(56,[jz (bT n (sR n c S g.i))])]⟩) (fun _=>gN) (fun g=>n-g.i) ⟨0,by omega⟩ ?_ rfl ?_
  ·refine aG ⟨rfl,rfl,rfl,trivial⟩ ?_;simp[wk]
  rintro⟨r,hr'⟩;simp only;by_cases hm:r<n
  ·have g1:=bZ (n:=n) (i:=r) 17 n hm;have r1:=cH n S (i:=r) hm;have hr4:r<4:=by omega
   refine aQ fun _ K=>?_;simp(disch:=omega) only[kd];apply K
   refine gA rfl ?_;refine bI (cB ?_);refine aQ fun _ K=>?_;simp(disch:=omega) only[kd,aa,ae,g1];apply K
   refine aQ fun _ K=>?_;simp only[kd,aa];apply K
   refine dO (G:=kK n) (fun g=>⟨(jk::.one (.p (.ptr (fi (bx n n h))))::jk::.one (.sl 17 0 0 n)::jk::jk::jk::rN i::.one (.ptr 8 0 0 0)::jk::.one (.sl 56 0 0 n)::rN r::j16 (j16 (j4 (j4 (j4 (jk::.one (.sl 17 0 0 n)::rN n::rN r::j4 (.one (.sl 17 (r+1) 0 n)::rN n::rN g.i::j16 (j4 (jk::[]))))))))),Hm [(17,dc 17 n n S),(8,At c),(56,[jz (bT n (F3 n c S r g.i))])]⟩) (fun _=>gN) (fun g=>n-g.i) ⟨0,by omega⟩ ?_ rfl ?_
   ·refine aG ⟨rfl,rfl,?_,trivial⟩ ?_
    ·simp only[IS];rfl
    simp[wk]
   rintro⟨j,hj⟩;simp only;by_cases hjn:j<n
   ·have q1:=aY (S r) hjn;have q2:=aY (F3 n c S r j) hjn;rw[Oi]at q2;have d1:=wQ c hr4;have b1:=IQ hc hSb j hjn r (by omega);have b2:=IQ hc hSb j hjn (r+1) (by omega);have b3:=hSb r hm j hjn;have b4:c r*S r j= -(S r j)\/c r*S r j=0\/c r*S r j=S r j:=by
     have:=hc r;have h3:c r= -1\/c r=0\/c r=1:=by omega
     rcases h3 with h3|h3|h3<;>rw[h3]<;>omega
    have e0:sR n c S (r+1) j=sR n c S r j+c r*S r j:=rfl;have e1:IntKind.i64.wrap (c r*S r j)=c r*S r j:=aT (by omega) (by omega);have e2:IntKind.i64.wrap (sR n c S r j+c r*S r j)=sR n c S r j+c r*S r j:=aT (by omega) (by omega);have e3:=K0 n j (F3 n c S r j) (sR n c S r j+c r*S r j);rw[IR]at e3;refine aQ fun _ K=>?_;simp(disch:=omega) only[kd];apply K
    refine gA rfl ?_;refine bI (cB ?_);refine aQ fun _ K=>?_;simp(disch:=omega) only[kd,aa,ae,r1,q1];apply K
    refine kT bj (by kernel_rfl) fun _ K=>?_;simp(disch:=omega) only[kd,aa,jz,ae,q2,hr4,d1,e1,e2,e3];apply K
    show dG _ _ _ _ _ _ _;refine cC fun _ K=>?_;simp(disch:=omega) only[kd,aT];apply K
    refine⟨⟨j+1,by omega⟩,by simp only;omega,aG ⟨rfl,rfl,?_,trivial⟩ ?_,rfl⟩
    ·first|rfl|simp[jz]
    simp[wk]
   have hjn:j=n:=by omega
   subst hjn;refine aQ fun _ K=>?_;simp(disch:=omega) only[kd];apply K
   refine jc rfl ?_;show dG _ _ _ _ _ _ _;refine cC fun _ K=>?_;simp(disch:=omega) only[kd,aT];apply K
   refine⟨⟨r+1,by omega⟩,by simp only;omega,aG ⟨rfl,rfl,?_,trivial⟩ ?_,rfl⟩
   ·simp only[LI];rfl
   simp[wk]
  have hrn:r=n:=by omega
  subst hrn;have g1:=bZ (n:=r) (i:=i) 17 r hi;have hjx:=N4 (d:=17) S (js r h S i) hi hoth;rw[hrow]at hjx;refine aQ fun _ K=>?_;simp(disch:=omega) only[kd];apply K
  refine jc rfl ?_;show dG _ _ _ _ _ _ _;refine cC fun _ K=>?_;simp(disch:=omega) only[kd,aa,jz,ae,g1,aj,bE,bi,ah];apply K
  refine⟨⟨js r h S i,hnext,hin2⟩,by have:=hnn (js r h S i);have:=hnn B;simp only;omega,?_,rfl⟩;refine(aG (tm:=(jk::.one (.p (.ptr (fi (bx r r h))))::jk::.one (.sl 17 0 0 r)::j16 (j16 (j16 (j16 (j16 (j4 ([])))))))) (l:=[(17,PR 17 r i S (sR r c S r))]) ⟨?_,trivial⟩ (by simp[wk])).trans ?_
  ·rfl
  refine(rD 17 (i+1) (r+1) (dc 17 r r (js r h S i)++[jz (bT r (S i))]) hjx).trans ?_;refine(Eb 17 (F:=dc 17 r r (js r h S i)) rfl (E6 _ _ _ _)).trans ?_;refine aG ⟨rfl,trivial⟩ ?_;simp[wk,FI,jA,ot,sw,bv,bA,bi]
abbrev OU (G T:List (List Int)) (e:Int):TV:= .tup [(false,[.p (.sl (ls (fR fI) G))]),(false,[.p (.sl (ls (fR fI) T))]),(false,[.p (.raw (.int .i64 e))])]
def rk (g R:FF) (m:Nat):Nat->Nat->Int:=fun a b=>if a<m then kG g a*R a b else R a b
def F4 (g R:FF) (m j:Nat):Nat->Nat->Int:=fun a b=>if a=m/\b<j then 0-R m b else rk g R m a b
theorem Cb {g R:FF} {m a:Nat} (h:a<m):rk g R m a=p9 g R a:=by
 funext b;unfold rk;rw[if_pos h];rfl
theorem I1 {g R:FF} {m a:Nat} (h: ¬a<m):rk g R m a=R a:=by
 funext b;unfold rk;rw[if_neg h]
theorem I0 (g R:FF) (m:Nat):F4 g R m 0=rk g R m:=by
 funext a b;unfold F4;rw[if_neg (by omega)]
theorem Ol (g R:FF) (m j:Nat):F4 g R m j m j=R m j:=by
 unfold F4 rk;rw[if_neg (by omega),if_neg (by omega)]
theorem IZ (g R:FF) (m j a b:Nat):upd (F4 g R m j) m j (0-R m j) a b=F4 g R m (j+1) a b:=by
 unfold upd F4;by_cases h1:a=m
 ·subst h1;by_cases h2:b=j
  ·subst h2;simp
  by_cases h3:b<j
  ·simp[h2,h3,show b<j+1 by omega]
  simp[h2,h3,show ¬b<j+1 by omega]
 simp[h1]
theorem LN {g R:FF} {m n:Nat} (hs:kG g m= -1) (a b:Nat) (hb:b<n):F4 g R m n a b=rk g R (m+1) a b:=by
 unfold F4 rk;by_cases h1:a=m
 ·subst h1;rw[if_pos ⟨rfl,hb⟩,if_pos (by omega),hs];omega
 have:a<m+1↔a<m:=by omega
 simp[h1,this]
theorem I2 {g R:FF} {m:Nat} (hs:kG g m=1) (a b:Nat):rk g R m a b=rk g R (m+1) a b:=by
 unfold rk;by_cases h1:a=m
 ·subst h1;rw[if_neg (by omega),if_pos (by omega),hs];omega
 have:a<m+1↔a<m:=by omega
 simp[this]
theorem LP (g R:FF) (a b:Nat):R a b=rk g R 1 a b:=by
 unfold rk;split
 ·rename_i h;have:a=0:=by omega
  subst this;rw[kG];omega
 rfl
theorem LO {g R:FF} {n a:Nat} (ha:a<n) (b:Nat):rk g R n a b=p9 g R a b:=by rw[Cb ha]
theorem M5 {n:Nat} {h:FF} {s:Int} (hs:s=1\/s= -1) (x y:Nat->Int):BF n h (fun j=>s*x j) y=s*BF n h x y:=by
 rcases hs with rfl|rfl
 ·rw[dx (fun _ _ _ _=>rfl) (fun i _=>Int.one_mul (x i)) (fun _ _=>rfl)];omega
 rw[dx (x':=fun r=> - x r) (fun _ _ _ _=>rfl) (fun i _=>by omega) (fun _ _=>rfl),rz];omega
theorem On {n:Nat} {h g R:FF} (k:Nat):BF n h (rk g R (k+1) k) (rk g R (k+1) (k+1))=kG g k*gmB n h R k (k+1):=by
 rw[Cb (by omega),I1 (by omega)];exact M5 (nL g k) _ _
structure Qc (n:Nat) where
 k:Nat
 hk:k+1<=n
theorem tB (n:Nat) (h R:FF) (hn1:1<=n) (hn:n<=4) (hr:RedR h n) (inb:InB2 n h 262144 R)
  (cS:CallG Tryz.prog 0 162 19 [bS (bx n n h)] gN ⟨dc 0 n n R,.one (.sl 0 0 0 n)⟩):
  CallG Tryz.prog 0 162 6 [bS (bx n n h)] gN ⟨[],OU (bx n n (gmB n h (p9 (gmB n h R) R))) (bx n n (trF (p9 (gmB n h R) R))) 0⟩:=by
 have hml:=bi n n h;have c1:=pu (bx n n h);rw[rQ hn1 (by omega) hr]at c1;have inq:=inb.sg (gmB n h R);have cG:=Br hn1 hn hr inq;obtain⟨g,hg⟩: ∃g,g=gmB n h R:=⟨_,rfl⟩;rw[<- hg]at inq cG⊢;have gd: ∀m a,a<n->GdR n h (rk g R m a):=fun m a ha=>by
  by_cases hm:a<m
  ·rw[Cb hm];exact inq.nr a ha
  rw[I1 hm];exact inb.nr a ha
 refine gD Tryz.func6 rfl (by kernel_rfl) ?_;rw[Tryz.ntmps6];refine aQ fun _ K=>?_;simp only[kd,aa,bS,ag];apply K
 refine bI (cB ?_);refine ik [⟨1,_,_,_,c1⟩] [] fun _ K=>?_;simp only[kd,bS,aa];apply K
 refine gz rfl ?_;refine aQ fun _ K=>?_;simp(disch:=omega) only[kd,aa,hml];apply K
 refine gz rfl (ef ?_);show dG _ _ _ _ _ _ _;refine dY [⟨1,_,_,_,cS,rfl⟩] [] [] fun _ K=>?_;simp(disch:=omega) only[kd,bS,dV.a,aa];apply K
 refine dG.weak (aG (tm:=(bS (bx n n h)::j4 (.one (.sl 25 0 0 n)::j16 (j16 (j16 (j16 (j16 (j16 (j4 (jk::jk::[])))))))))) (l:=[(25,dc 25 n n R)]) ⟨cE 0 25 _ _ _,trivial⟩ (by simp[wk])) ?_;refine bI (aQ fun _ K=>?_);simp only[kd,bS];apply K;refine dO (G:=Qc n) (fun q=>⟨(bS (bx n n h)::j4 (.one (.sl 25 0 0 n)::.raw (.int .i64 ((q.k+1:Nat):Int))::j16 (j16 (j16 (j16 (j16 (j16 (j4 (jk::[]))))))))),Hm [(25,dc 25 n n (rk g R (q.k+1)))]⟩) (fun _=>gN) (fun q=>n-q.k) ⟨0,by omega⟩ ?_ rfl ?_
 ·refine aG ⟨?_,trivial⟩ ?_
  ·show _::_=_::_;rw[cn fun a b _ _=>LP g R a b]
  simp[wk]
 rintro⟨k,hk⟩;simp only;by_cases hm:k+1<n
 ·have e0:IntKind.i64.wrap (((k+1:Nat):Int)-1)=(k:Int):=by rw[show((k+1:Nat):Int)-1=(k:Int) by omega];exact aT (by omega) (by omega)
  have e1:IntKind.i64.wrap (((k+1:Nat):Int)+1)=((k+1+1:Nat):Int):=by rw[show((k+1:Nat):Int)+1=((k+1+1:Nat):Int) by omega];exact aT (by omega) (by omega)
  have hv:BF n h (rk g R (k+1) k) (rk g R (k+1) (k+1))=kG g k*g k (k+1):=by rw[On,hg]
  have hgb:=mr hr.pd inb (show k<n by omega) hm 262144 (by decide);rw[<- hg]at hgb;have hsb:=nL g k;have hsv: -262144<=kG g k*g k (k+1)/\kG g k*g k (k+1)<=262144:=by
   rcases hsb with e|e<;>rw[e]<;>omega
  have cI:=Io (bx n n h) (bT n (rk g R (k+1) k)) (bT n (rk g R (k+1) (k+1)));rw[tn hn1 (by omega) hr ((gd _ _ (by omega)).co hn1 hn hr) ((gd _ _ hm).co hn1 hn hr) (by rw[hv];omega),hv]at cI;have g1:=bZ (n:=n) (i:=k) 25 n (by omega);have g2:=bZ (n:=n) (i:=k+1) 25 n hm;have r1:=cH (n:=n) n (rk g R (k+1)) (i:=k) (by omega);have r2:=cH (n:=n) n (rk g R (k+1)) (i:=k+1) hm;have sgk:kG g (k+1)=if kG g k*g k (k+1)<0 then -1 else 1:=rfl
  refine bI (aQ fun _ K=>?_);simp(disch:=omega) only[kd,aa,bS];apply K;refine jb rfl (ef ?_);refine bI (cB ?_);refine kf bj [⟨10,_,_,_,cI⟩] [] (by kernel_rfl) fun _ K=>?_;simp(disch:=omega) only[kd,bS,pO,FL,aa,e0,g1,g2,r1,qC,r2];apply K
  generalize hvv:kG g k*g k (k+1)=v at*
  by_cases hneg:v<0
  ·rw[if_pos hneg]at sgk;refine aQ fun _ K=>?_;simp(disch:=omega) only[kd];apply K
   refine jb rfl ?_;refine aQ fun _ K=>?_;simp(disch:=omega) only[kd,aa,g2];apply K
   refine dO (G:=kK n) (fun q=>⟨(bS (bx n n h)::j4 (.one (.sl 25 0 0 n)::.raw (.int .i64 ((k+1:Nat):Int))::j16 (j16 (j4 (j4 (j4 (jk::rN n::rN q.i::j16 (j16 (j16 (j4 (jk::jk::[]))))))))))),Hm [(25,dc 25 n n (F4 g R (k+1) q.i))]⟩) (fun _=>gN) (fun q=>n-q.i) ⟨0,by omega⟩ ?_ rfl ?_
   ·refine aG ⟨?_,trivial⟩ ?_
    ·show _::_=_::_;rw[I0]
    simp[wk]
   rintro⟨j,hj⟩;simp only;by_cases hjn:j<n
   ·have r3:=cH (n:=n) n (F4 g R (k+1) j) (i:=k+1) hm;have r4:(bT n (F4 g R (k+1) j (k+1)))[j]?=some (R (k+1) j):=by rw[aY _ hjn,Ol]
    have b1:=(show GdR n h (R (k+1))from inb.nr (k+1) hm).co hn1 hn hr j hjn;have e2:IntKind.i64.wrap (0-R (k+1) j)=0-R (k+1) j:=aT (by omega) (by omega);refine aQ fun _ K=>?_;simp(disch:=omega) only[kd,bS];apply K
    refine gA rfl ?_;refine bI (cB ?_);refine aQ fun _ K=>?_;simp only[kd];apply K
    refine kT bj (by kernel_rfl) fun _ K=>?_;simp(disch:=omega) only[kd,aa,g2,r3,r4,e2,eP];apply K
    show dG _ _ _ _ _ _ _;refine cC fun _ K=>?_;simp(disch:=omega) only[kd,aT];apply K
    refine⟨⟨j+1,by omega⟩,by simp only;omega,aG ⟨?_,trivial⟩ ?_,rfl⟩
    ·show _::_=_::_;rw[cn fun a b _ _=>IZ g R (k+1) j a b]
    simp[wk]
   have hjn:j=n:=by omega
   refine aQ fun _ K=>?_;simp(disch:=omega) only[kd,bS];apply K
   refine jc rfl ?_;show dG _ _ _ _ _ _ _;refine cC fun _ K=>?_;simp only[kd,aa,e1];apply K
   refine⟨⟨k+1,by omega⟩,by simp only;omega,aG ⟨?_,trivial⟩ ?_,rfl⟩
   ·show _::_=_::_;rw[cn fun a b _ hb=>LN (n:=j) sgk a b (by omega)]
   simp[wk]
  rw[if_neg hneg]at sgk;refine aQ fun _ K=>?_;simp(disch:=omega) only[kd];apply K
  refine gz rfl (ef ?_);show dG _ _ _ _ _ _ _;refine cC fun _ K=>?_;simp only[kd,aa,e1];apply K
  refine⟨⟨k+1,by omega⟩,by simp only;omega,aG ⟨?_,trivial⟩ ?_,rfl⟩
  ·show _::_=_::_;rw[cn fun a b _ _=>I2 sgk a b]
  simp[wk]
 have hkn:k+1=n:=by omega
 refine bI (aQ fun _ K=>?_);simp(disch:=omega) only[kd,aa,bS];apply K;refine gz rfl (sA ?_);show dG _ _ _ _ _ _ _;have e:dc 25 n n (rk g R (k+1))=dc 25 n n (p9 g R):=by
  show _::_=_::_;rw[hkn,cn fun a b ha _=>LO ha b]
 rw[e];generalize p9 g R=Q at*
 clear gd inq inb e hm hk hkn
 -- the Gram matrix
 refine bI (kU (kR 2 cG (xR _ _ _ _) [] [] (by simp[wk]) (by decide) fun K hK=>?_));simp only[kd];apply hK;clear hK K;refine⟨⟨⟨_,rfl,.inl ⟨rfl,rfl⟩,.inr ⟨25,0,0,n,rfl,dm (d:=25) (n:=n) (c:=n) (f:=Q) rfl,l5 (d:=25) (n:=n) (c:=n) (f:=Q) rfl⟩,trivial⟩,⟨74,rfl,fun _=>rfl⟩⟩,by simp[wk],?_⟩;intro K hK;rw[AX (d:=74) rfl];simp only[kd,aa];apply hK;clear hK K;show dG _ _ _ _ _ _ _;refine dG.weak (aG (tm:=(bS (bx n n h)::j4 (.one (.sl 25 0 0 n)::j4 (.one (.sl 74 0 0 n)::j16 (j16 (j16 (j16 (j16 (j16 (jk::[])))))))))) (l:=[(25,dc 25 n n Q),(74,dc 74 n n (gmB n h Q))]) ⟨rfl,rfl,trivial⟩ (by simp[wk])) ?_;refine dG.weak ((bX 74 (dm (d:=74) (n:=n) (c:=n) (f:=gmB n h Q) rfl)).trans (aG (tm:=(bS (bx n n h)::j4 (.one (.sl 25 0 0 n)::j4 (bS (bx n n (gmB n h Q))::j16 (j16 (j16 (j16 (j16 (j16 (jk::[])))))))))) (l:=[(25,dc 25 n n Q)]) ⟨rfl,trivial⟩ (by
  simp[wk]
  (repeat' apply And.intro)<;>first|rfl|exact(l5 (H:=Hm [(25,dc 25 n n Q),(74,dc 74 n n (gmB n h Q))]) (d:=74) (n:=n) (c:=n) (f:=gmB n h Q) rfl).symm))) ?_
 generalize bx n n (gmB n h Q)=GM at*
 refine aQ fun _ K=>?_;simp(disch:=omega) only[kd,aa,bS,hml,ae];apply K
 refine bI (aQ fun _ K=>?_);simp only[kd,aa];apply K;refine dO (G:=kK n) (fun q=>⟨(j4 (jk::.one (.sl 25 0 0 n)::j4 (bS GM::jk::.one (.sl 79 0 0 n)::j16 (j16 (j16 (j16 (j4 (.raw (.int .i64 (n:Int))::rN q.i::j16 (j4 (j4 (jk::[]))))))))))),Hm [(25,dc 25 n n Q),(79,kI 79 n n q.i (trF Q))]⟩) (fun _=>gN) (fun q=>n-q.i) ⟨0,by omega⟩ ?_ rfl ?_
 ·refine aG ⟨rfl,?_,trivial⟩ ?_
  ·show[_]=_;simp[kI,gk,bx]
  simp[wk]
 rintro⟨i,hi⟩;simp only;by_cases hm:i<n
 ·have hmi:=bi i n (trF Q);have hsl:(gk 79 (ag i n)).length=i:=by rw[ch,az]
  have hrl:((bx i n (trF Q)).map jz).length=i:=by rw[ay,hmi]
  refine aQ fun _ K=>?_;simp(disch:=omega) only[kd,bS];apply K
  refine gA rfl ?_;refine bI (cB ?_);refine aQ fun _ K=>?_;simp only[kd];apply K
  refine aQ fun _ K=>?_;simp only[kd,aa];apply K
  refine dO (G:=kK n) (fun q=>⟨(j4 (jk::.one (.sl 25 0 0 n)::j4 (bS GM::jk::.one (.sl 79 0 0 n)::rN i::j16 (j16 (j16 (j16 (jk::jk::jk::rN n::rN i::jk::jk::.one (.sl 25 0 0 n)::rN n::rN q.i::j16 (j4 ([]))))))))),Hm [(25,dc 25 n n Q),(79,PP 79 n n (trF Q) i q.i)]⟩) (fun _=>gN) (fun q=>n-q.i) ⟨0,by omega⟩ ?_ rfl ?_
  ·refine aG ⟨rfl,rfl,trivial⟩ ?_;simp[wk]
  rintro⟨j,hj⟩;simp only;by_cases hm2:j<n
  ·have g1:=bZ (n:=n) (i:=j) 25 n hm2;have hr1:=cH n Q (i:=j) hm2;have hjr:=aY (Q j) hm;cases j with
   |zero=>
    rw[PP,KS (trF Q) hm];refine aQ fun _ K=>?_;simp(disch:=omega) only[kd,bS];apply K
    refine gA rfl ?_;refine bI (cB ?_);refine aQ fun _ K=>?_;simp(disch:=omega) only[kd,aa,ae,g1];apply K
    refine kT bj (by kernel_rfl) fun _ K=>?_;simp(disch:=omega) only[kd,aa,ae,nw hsl,hr1,hjr,Nat.reduceMul,aj,ny hsl,hmi,ah];apply K
    show dG _ _ _ _ _ _ _;refine cC fun _ K=>?_;simp(disch:=omega) only[kd,aT];apply K
    refine⟨⟨1,by omega⟩,by simp only;omega,aG ⟨rfl,?_,trivial⟩ ?_,rfl⟩
    ·rfl
    simp[wk]
   |succ j=>
    have h01:(0==i+1)=false:=by simp
    rw[PP,OS];refine aQ fun _ K=>?_;simp(disch:=omega) only[kd,bS];apply K
    refine gA rfl ?_;refine bI (cB ?_);refine aQ fun _ K=>?_;simp(disch:=omega) only[kd,aa,ae,g1];apply K
    refine kT bj (by kernel_rfl) fun _ K=>?_;simp(disch:=omega) only[kd,aa,jz,ae,nw hsl,hr1,hjr,Nat.reduceMul,aj,nw hrl,bE,List.map_append,Ac,List.map_replicate,IN,Hu,ny hrl,ah,h01,ny hsl,reduceCtorEq,List.length_append,hrl];apply K
    show dG _ _ _ _ _ _ _;refine cC fun _ K=>?_;simp(disch:=omega) only[kd,aT];apply K
    refine⟨⟨j+1+1,by omega⟩,by simp only;omega,aG ⟨rfl,?_,trivial⟩ ?_,rfl⟩
    ·show _=OS 79 n n (trF Q) i (j+1);rw[OS,jz,qB (j+1)];rfl
    simp[wk]
  have hjc:j=n:=by omega
  subst hjc;refine aQ fun _ K=>?_;simp(disch:=omega) only[kd,bS];apply K
  refine jc rfl ?_;show dG _ _ _ _ _ _ _;rw[NS _ (by omega) hm];refine cC fun _ K=>?_;simp(disch:=omega) only[kd,aT];apply K
  refine⟨⟨i+1,by omega⟩,by simp only;omega,aG ⟨rfl,rfl,trivial⟩ ?_,rfl⟩;simp[wk]
 have hin:i=n:=by omega
 subst hin;refine aQ fun _ K=>?_;simp(disch:=omega) only[kd,bS];apply K
 refine jc rfl ?_;show dG _ _ _ _ _ _ _;rw[ou];refine dG.weak ((bX 79 (dm (d:=79) (n:=i) (c:=i) (f:=trF Q) rfl)).trans (aG (tm:=(j4 (j4 (jk::jk::bS GM::jk::bS (bx i i (trF Q))::j16 (j16 (j16 (j16 (j16 (j4 (j4 (j4 (jk::jk::jk::[])))))))))))) (l:=[]) trivial (by
  simp[wk]
  (repeat' apply And.intro)<;>first|rfl|exact(l5 (H:=Hm [(25,dc 25 i i Q),(79,dc 79 i i (trF Q))]) (d:=79) (n:=i) (c:=i) (f:=trF Q) rfl).symm))) ?_
 refine aQ fun _ K=>?_;simp only[kd,aa,bS];apply K
 (refine fo ⟨.inr rfl,rfl,aL rfl ?_ rfl⟩;simp(disch:=omega) only[kd,Tryz.results6,OU])
theorem BG (n:Nat) (h R:FF) (hn1:1<=n) (hn:n<=4) (hr:RedR h n) (hR:RchB n h idF R):
  CallG Tryz.prog 0 162 6 [bS (bx n n h)] gN ⟨[],OU (bx n n (gmB n h (p9 (gmB n h R) R))) (bx n n (trF (p9 (gmB n h R) R))) 0⟩:=
 tB n h R hn1 hn hr (zN hR (InB2.one hn1 (by omega) hr)).1 (BI n h R hn1 hn hr hR)
end Go.Proofs.YtiollbhgpiiodaaGreatDoor
