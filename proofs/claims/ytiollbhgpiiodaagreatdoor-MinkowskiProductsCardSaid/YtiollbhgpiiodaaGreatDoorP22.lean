/-
  Part 23 of a proof (walks and plain facts).
-/
import Derived.Test.YtiollbhgpiiodaaGreatDoorP21
set_option linter.all false
set_option maxRecDepth 100000
set_option maxHeartbeats 64000000
open Nat renaming reduceAdd → aa
open Nat renaming le_refl → af
open List renaming replicate → ag
namespace Go.Proofs.YtiollbhgpiiodaaGreatDoor
open Go.RowKit
section
section
variable (n:Nat) (h B:FF) (hn1:1<=n) (hn:n<=4) (hr:RedR h n) (hB: ∀a,a<n->GdR n h (B a)) (hs: ∀k,k+1<n->nrm n h (B k)<=nrm n h (B (k+1)))
include hn1 hn hr hB hs
theorem ER:CallC Tryz.prog 118 [bS (bx n n B),.raw (.int .i64 0),.raw (.int .i64 (n:Int)),NA n h] ⟨[],.tup []⟩:=by
 have hml:=bi n n B;refine aJ Tryz.func118 rfl (by kernel_rfl) ?_;rw[Tryz.ntmps118];refine aF fun _ K=>?_;simp(disch:=omega) only[kd,aa,bS,ag,aT];apply K
 refine aZ (G:=O9 n) (fun g=>⟨(bS (bx n n B)::.raw (.int .i64 0)::rN n::.fn 54 [.p (.ptr (fi (bx n n h)))]::j4 (.raw (.int .i64 (g.i:Int))::j16 (j16 (j4 (j4 (j4 ([]))))))),Hm []⟩) (fun g=>n-g.i) ⟨1,by omega,hn1⟩ ?_ ?_
 ·refine aG trivial ?_;simp[wk]
 rintro⟨i,hi1,hi⟩;simp only;by_cases hm:i<n
 ·obtain⟨j,rfl⟩: ∃j,i=j+1:=⟨i-1,by omega⟩;have hC:=GN hn1 hn hr (hB (j+1) hm) (hB j (by omega));have hneg: ¬nrm n h (B (j+1))-nrm n h (B j)<0:=by have:=hs j hm;omega
  have e0:IntKind.i64.wrap (((j+1:Nat):Int)-1)=(j:Int):=by rw[show((j+1:Nat):Int)-1=(j:Int) by omega];exact aT (by omega) (by omega)
  have gt:(0:Int)<((j+1:Nat):Int):=by omega
  have m1:=bD n B hm;have m2:=bD n B (show j<n by omega);refine aH (aF fun _ K=>?_);simp(disch:=omega) only[kd,aa,bS];apply K;refine bf rfl (aO ?_);refine aH (aM ?_);refine aF fun _ K=>?_;simp only[kd];apply K
  refine aZ (G:=Unit) (fun _=>⟨(bS (bx n n B)::.raw (.int .i64 0)::rN n::.fn 54 [.p (.ptr (fi (bx n n h)))]::j4 (.raw (.int .i64 ((j+1:Nat):Int))::.raw (.int .i64 ((j+1:Nat):Int))::j16 (j16 (j4 (j4 (jk::jk::jk::[])))))),Hm []⟩) (fun _=>0) () ?_ ?_
  ·refine aG trivial ?_;simp[wk]
  intro _;refine aH (bz bj [⟨14,_,_,_,hC⟩] [] (by kernel_rfl) fun _ K=>?_);simp(disch:=omega) only[kd,pO,aa,bS,gt,m1,fR,e0,m2,hneg];apply K;refine aU rfl (bK ?_);show bu _ _ _ _;refine aN fun _ K=>?_;simp(disch:=omega) only[kd,aa,aT];apply K
  refine⟨⟨j+1+1,by omega,by omega⟩,by simp only;omega,aG trivial ?_⟩;simp[wk]
 have hin:i=n:=by omega
 subst hin;refine aH (aF fun _ K=>?_);simp(disch:=omega) only[kd,aa,bS];apply K;refine aU rfl (bK ?_);exact⟨.inl rfl,aL rfl rfl rfl⟩
theorem Je:CallC Tryz.prog 90 [bS (bx n n B),.raw (.int .i64 (n:Int)),NA n h] ⟨[],.tup []⟩:=by
 have hI:=ER n h B hn1 hn hr hB hs;refine aJ Tryz.func90 rfl (by kernel_rfl) ?_;rw[Tryz.ntmps90];refine aF fun _ K=>?_;simp only[kd,bS,aa,ag];apply K
 refine aF fun _ K=>?_;simp only[kd,aa];apply K
 refine aH (aZ (G:=Unit) (fun _=>⟨(bS (bx n n B)::rN n::.fn 54 [.p (.ptr (fi (bx n n h)))]::jk::jk::jk::.raw (.int .i64 20)::.raw (.int .i64 0)::.raw (.int .i64 20)::j16 (j16 (j16 (j4 (jk::jk::[]))))),Hm []⟩) (fun _=>0) () ?_ ?_)
 ·refine aG trivial ?_;simp[wk]
 intro _;refine aH (aF fun _ K=>?_);simp(disch:=omega) only[kd,aa,bS];apply K;refine aU rfl (bK ?_);show bu _ _ _ _;refine aI [⟨4,_,_,_,hI⟩] [] fun _ K=>?_;simp only[kd,bS,aa];apply K
 refine aZ (G:=Unit) (fun _=>⟨(jk::rN n::j4 (.raw (.int .i64 20)::j16 (j16 (j16 (j4 (j4 ([]))))))),Hm []⟩) (fun _=>0) () ?_ ?_
 ·refine aG trivial ?_;simp[wk]
 intro _;refine aH (aF fun _ K=>?_);simp(disch:=omega) only[kd,aa];apply K;refine aU rfl (bK ?_);exact⟨.inl rfl,aL rfl rfl rfl⟩
theorem x5:CallC Tryz.prog 53 [bS (bx n n B),NA n h] ⟨[],.tup []⟩:=by
 have hI:=Je n h B hn1 hn hr hB hs;have hml:=bi n n B;refine aJ Tryz.func53 rfl (by kernel_rfl) ?_;rw[Tryz.ntmps53];refine ma [⟨4,_,_,_,hI⟩] [] fun _ K=>?_;simp only[kd,bS,aa,ag,hml];apply K
 exact⟨.inl rfl,aL rfl rfl rfl⟩
end
theorem Fz:pL ⟨[],.tup []⟩:=⟨rfl,fun o ho=>by simp at ho⟩
theorem GR {ops:Array Oper} {m d:Nat} {s:AS} (hd:cwD ops m=some d):NG ops m ⟨[],.tup []⟩ s=s.put (some d) (.tup []):=by
 unfold NG;rw[hd];rfl
theorem BH (n:Nat) (h:FF) (hn1:1<=n) (hn:n<=4) (hr:RedR h n) (hs: ∀k,k+1<n->nrm n h (idF k)<=nrm n h (idF (k+1))) (hv:rx n (gmB n h idF)=none):
  CallG Tryz.prog 0 162 19 [bS (bx n n h)] gN ⟨dc 0 n n idF,.one (.sl 0 0 0 n)⟩:=by
 have hS:InB2 n h 262144 idF:=InB2.one hn1 (by omega) hr;have cM:=x5 n h idF hn1 hn hr hS.nr hs;have cV:=my n (gmB n h idF) hn1 hn fun i j hi hj=>by
  have:=mr hr.pd hS hi hj 262144 (by decide);omega
 have eT:oP n (gmB n h idF)= .tup [(false,[.p (.raw (.int .i64 0))]),(true,a4 fun _=>0),(false,[.p (.raw (.bool false))])]:=by unfold oP;rw[hv]
 rw[eT]at cV;clear hv eT hs;have hml:=bi n n h;refine gD Tryz.func19 rfl (by kernel_rfl) ?_;rw[Tryz.ntmps19];refine aQ fun _ K=>?_;simp(disch:=omega) only[kd,bS,ag];apply K
 refine dG.weak ((l9 1 1 (cs:=fi (bx n n h)) rfl rfl).trans (aG (tm:=(jk::.one (.p (.ptr (fi (bx n n h))))::j16 (j16 (j16 (j16 (j16 (j4 (jk::jk::[])))))))) (l:=[]) trivial (by simp[wk,gO,fj]))) ?_;refine aQ fun _ K=>?_;simp(disch:=omega) only[kd,aa,hml];apply K
 refine bI (aQ fun _ K=>?_);simp only[kd,aa];apply K;refine dO (G:=kK n) (fun g=>⟨(jk::.one (.p (.ptr (fi (bx n n h))))::jk::.one (.sl 17 0 0 n)::j4 (j4 (j4 (jk::jk::jk::rN n::rN g.i::j16 (j16 (j16 (j16 (jk::jk::jk::[])))))))),Hm [(17,kI 17 n n g.i (p8 g.i))]⟩) (fun _=>gN) (fun g=>n-g.i) ⟨0,by omega⟩ ?_ rfl ?_
 ·refine aG ⟨?_,trivial⟩ ?_
  ·show[_]=_;simp[kI,gk,bx]
  simp[wk]
 rintro⟨i,hi⟩;simp only;by_cases hm:i<n
 ·have k1:=qr (i:=i) (n:=n) 17 n hm;have k2:=jj (i:=i) (n:=n) 17 n hi;have k3:=bi i n (p8 i);have k4:=nk (i:=i) (n:=n) (c:=n) 17 (p8 i) hm (fun j hj=>by unfold p8;rw[if_neg (by omega)]);have k5:=qp (i:=i+1) (k:=i) (n:=n) 17 n (by omega);have k6:=jj (i:=i+1) (n:=n) 17 n (by omega);have k7:=cH (n:=i+1) n (p8 i) (i:=i) (by omega);have k8:=aY (p8 i i) hm;refine aQ fun _ K=>?_;simp(disch:=omega) only[kd];apply K
  refine gA rfl ?_;refine bI (cB ?_);refine aQ fun _ K=>?_;simp only[kd];apply K
  refine aQ fun _ K=>?_;simp(disch:=omega) only[kd,aa,hml,Nat.reduceEqDiff,k1,Nat.reduceLeDiff,List.length_replicate,List.all_replicate,k3,k4,Nat.reduceBEq];apply K
  refine dG.weak (aG (tm:=(jk::.one (.p (.ptr (fi (bx n n h))))::jk::.one (.sl 17 0 0 n)::rN i::j4 (j4 (j4 (jk::jk::rN n::rN i::j16 (j16 (j16 (j16 (jk::jk::jk::[]))))))))) (l:=[(17,kI 17 n n (i+1) (p8 i))]) ⟨?_,trivial⟩ (by simp[wk])) ?_
  ·first|exact k4|rfl
  refine cC fun _ K=>?_;simp(disch:=omega) only[kd,aa,k5,k7,k8,eP];apply K
  show dG _ _ _ _ _ _ _;refine cC fun _ K=>?_;simp(disch:=omega) only[kd,aT];apply K
  refine⟨⟨i+1,by omega⟩,by simp only;omega,aG ⟨?_,trivial⟩ ?_,rfl⟩
  ·show _::_=_::_;rw[cn fun x y _ _=>tY i x y]
  simp[wk]
 have hin:i=n:=by omega
 subst hin;refine aQ fun _ K=>?_;simp(disch:=omega) only[kd];apply K
 refine jc rfl ?_;show dG _ _ _ _ _ _ _;have e:kI 17 i i i (p8 i)=dc 17 i i idF:=by
  rw[ou];show _::_=_::_;rw[cn fun x y hx _=>xK x y hx]
 rw[e];obtain⟨n,hni⟩: ∃n,n=i:=⟨_,rfl⟩;subst hni;clear e hm hi;refine dO (G:=Unit) (fun _=>⟨(jk::.one (.p (.ptr (fi (bx n n h))))::jk::.one (.sl 17 0 0 n)::j16 (j16 (j16 (j16 (j16 (j4 ([]))))))),Hm [(17,dc 17 n n idF)]⟩) (fun _=>gN) (fun _=>0) () ?_ rfl ?_
 ·refine aG ⟨rfl,trivial⟩ ?_;simp[wk]
 intro _;refine cB ?_;have c1:=Br hn1 hn hr hS;obtain⟨S,hSe⟩: ∃S,S=idF:=⟨_,rfl⟩;rw[<- hSe]at c1 cV cM⊢;refine bI (kU (kR 2 cM Fz [] [] (by simp[wk]) (by decide) fun K hK=>?_));simp only[kd,jg];apply hK;clear hK K;refine⟨⟨⟨_,rfl,.inr ⟨17,0,0,n,rfl,dm (d:=17) (n:=n) (c:=n) (f:=S) rfl,l5 (d:=17) (n:=n) (c:=n) (f:=S) rfl⟩,.inl ⟨rfl,rfl⟩,trivial⟩,⟨38,rfl,fun h=>(h rfl).elim⟩⟩,by simp[wk],?_⟩;intro K hK;rw[GR (d:=38) rfl];simp only[kd,aa];apply hK;clear hK K;show dG _ _ _ _ _ _ _;refine dG.weak (aG (tm:=(jk::.one (.p (.ptr (fi (bx n n h))))::jk::.one (.sl 17 0 0 n)::j16 (j16 (j16 (j16 (j16 (j4 ([])))))))) (l:=[(17,dc 17 n n S)]) ⟨rfl,trivial⟩ (by simp[wk])) ?_
 -- the Gram matrix
 refine bI (kU (kR 2 c1 (xR _ _ _ _) [] [] (by simp[wk]) (by decide) fun K hK=>?_));simp only[kd];apply hK;clear hK K;refine⟨⟨⟨_,rfl,.inl ⟨rfl,rfl⟩,.inr ⟨17,0,0,n,rfl,dm (d:=17) (n:=n) (c:=n) (f:=S) rfl,l5 (d:=17) (n:=n) (c:=n) (f:=S) rfl⟩,trivial⟩,⟨42,rfl,fun _=>rfl⟩⟩,by simp[wk],?_⟩;intro K hK;rw[AX (d:=42) rfl];simp only[kd,aa];apply hK;clear hK K;show dG _ _ _ _ _ _ _;refine dG.weak (aG (tm:=(jk::.one (.p (.ptr (fi (bx n n h))))::jk::.one (.sl 17 0 0 n)::jk::.one (.sl 42 0 0 n)::j16 (j16 (j16 (j16 (j16 (jk::jk::[]))))))) (l:=[(17,dc 17 n n S),(42,dc 42 n n (gmB n h S))]) ⟨rfl,rfl,trivial⟩ (by simp[wk])) ?_;refine dG.weak ((bX 42 (dm (d:=42) (n:=n) (c:=n) (f:=gmB n h S) rfl)).trans (aG (tm:=(jk::.one (.p (.ptr (fi (bx n n h))))::jk::.one (.sl 17 0 0 n)::jk::bS (bx n n (gmB n h S))::j16 (j16 (j16 (j16 (j16 (jk::jk::[]))))))) (l:=[(17,dc 17 n n S)]) ⟨rfl,trivial⟩ (by
  simp[wk]
  (repeat' apply And.intro)<;>first|rfl|exact(l5 (H:=Hm [(17,dc 17 n n S),(42,dc 42 n n (gmB n h S))]) (d:=42) (n:=n) (c:=n) (f:=gmB n h S) rfl).symm))) ?_
 refine dY [⟨1,_,_,_,cV,rfl⟩] [] [] fun _ K=>?_;simp(disch:=omega) only[kd,bS,dV.a,aa,jd,nZ,Nat.reduceEqDiff,dJ,fg];apply K
 refine bI (aQ fun _ K=>?_);simp only[kd];apply K;refine jb rfl ?_;refine aQ fun _ K=>?_;simp only[kd];apply K
 refine fo ⟨.inr rfl,rfl,_,cj.refl _,?_⟩;refine⟨.one (.sl 17 0 0 n),17,?_,rfl,?_,rfl⟩
 ·simp(disch:=omega) only[kd,Tryz.results19]
 exact(cE 17 0 _ _ _).symm
end
/-! awake -/
abbrev CO:List (List Int):=[[2,-1],[-1,3]]
abbrev Qw:List (List Int):=[[2,-1],[-1,2]]
abbrev Qf:List (List Int):=[[2,1],[1,3]]
theorem No:cb CO=true:=by decide+kernel
theorem CP:CO=bx 2 2 (ent CO):=rfl
theorem wY:RedR (ent CO) 2:=by
 have h:=(gE _).1 No;rw[CP]at h;have:=((yo (by omega)).1 h).2.2;exact this
theorem Ph: ¬O4 Qw:=fun h=>by
 have:=(h.2.1 0 (by decide)).2
 revert this;decide
theorem Qg:bx 2 2 (gmB 2 (ent CO) (p9 (gmB 2 (ent CO) idF) idF))=Qf:=by decide+kernel
theorem Kq (k:Nat) (hk:k+1<2):nrm 2 (ent CO) (idF k)<=nrm 2 (ent CO) (idF (k+1)):=by
 obtain rfl:k=0:=by omega
 decide
theorem Np:rx 2 (gmB 2 (ent CO) idF)=none:=by
 have h: ∀i,i<2-> ¬VioP 2 (gmB 2 (ent CO) idF) i:=fun i hi=>by
  rintro⟨c,h1,h2⟩
  match i,hi with
  |0,_=>
   obtain rfl:c=0:=by simpa using h1
   revert h2;decide
  |1,_=>
   have hc:c=0\/c=1\/c=2:=by omega
   rcases hc with rfl|rfl|rfl<;>revert h2<;>decide
 show qO 2 _ 2 0=none;rw[qO,if_neg (h 0 (by omega)),qO,if_neg (h 1 (by omega))];rfl
theorem Kr:CallG Tryz.prog 0 162 12 [] gN ⟨[],.raw (.bool true)⟩:=by
 have cR:=tB 2 (ent CO) idF (by omega) (by omega) wY (InB2.one (by omega) (by omega) wY) (BH 2 (ent CO) (by omega) (by omega) wY Kq Np);have hTl:=bi 2 2 (trF (p9 (gmB 2 (ent CO) idF) idF));rw[Qg,<- CP]at cR;generalize bx 2 2 (trF (p9 (gmB 2 (ent CO) idF) idF))=T at*
 have hTi:(T.length:Int)=2:=by omega
 have cS:=Oj Qf Qf;rw[decide_eq_true rfl]at cS;have cI:=xy Qw false (by simp[Ph]);simp only[bS,ls,fR,fI,List.map_cons,List.map_nil]at cR cS cI;refine gD Tryz.func12 rfl (by kernel_rfl) ?_;rw[Tryz.ntmps12];refine aQ fun _ K=>?_;simp only[kd,ag];apply K
 refine dY [⟨3,_,_,_,cR,rfl⟩] [] [] fun _ K=>?_;simp(disch:=omega) only[kd,OU,dV.a,aa,Nat.reduceMul,Nat.reduceLeDiff];apply K
 refine dY [⟨18,_,_,_,cI,rfl⟩] [⟨12,_,_,_,cS⟩] [] fun _ K=>?_;simp(disch:=omega) only[kd,dV.a,aa,ls,fR,hTi,Nat.reduceMul,Nat.reduceLeDiff,Nat.reduceBEq];apply K
 (refine fo ⟨.inr rfl,rfl,aL rfl ?_ rfl⟩;simp(disch:=omega) only[kd,Tryz.results12])
/-! Congruence of the conditions. -/
theorem MinkP.congr {f g:FF} {n:Nat} (h: ∀i j,i<n->j<n->f i j=g i j) (hm:MinkP f n):MinkP g n:=by
 refine⟨fun i hi=>?_,fun i hi hv=>hm.2 i hi ?_⟩
 ·rw[<- h i i (by omega) (by omega),<- h (i+1) (i+1) hi hi,<- h i (i+1) (by omega) hi];exact hm.1 i hi
 obtain⟨c,h1,h2⟩:=hv;refine⟨c,h1,?_⟩;rw[h i i hi hi];have e:nrm n f (lZ i c)=nrm n g (lZ i c):=dx h (fun _ _=>rfl) (fun _ _=>rfl);rw[e];exact h2
theorem PD.congr {f g:FF} {n:Nat} (h: ∀i j,i<n->j<n->f i j=g i j) (hp:PD f n):PD g n:=by
 refine⟨fun i hi j hj=>?_,fun k hk=>?_⟩
 ·rw[<- h i j hi hj,<- h j i hj hi];exact hp.1 i hi j hj
 rw[<- eg (f:=f) fun i j hi hj=>h i j (by omega) (by omega)];exact hp.2 k hk
section
structure AE (n:Nat) (h:FF) (Q:FF):Prop where
 n1:1<=n
 n4:n<=4
 red:RedR h n
 inb:InB2 n h 262144 Q
 mink:MinkP (gmB n h Q) n
theorem zQ {n:Nat} {h:FF} (hn1:1<=n) (hn:n<=4) (hr:RedR h n): ∃R,AE n h (p9 (gmB n h R) R)/\RchB n h idF R/\
  CallG Tryz.prog 0 162 6 [bS (bx n n h)] gN ⟨[],OU (bx n n (gmB n h (p9 (gmB n h R) R))) (bx n n (trF (p9 (gmB n h R) R))) 0⟩:=by
 obtain⟨R,h1,h2,h3,h4⟩:=zt hn1 hn hr;exact⟨R,⟨hn1,hn,hr,h3,h4⟩,h1,BG n h R hn1 hn hr h1⟩
section
variable {n:Nat} {h Q:FF}
theorem AE.gb (k:AE n h Q) {i j:Nat} (hi:i<n) (hj:j<n): -262144<=gmB n h Q i j/\gmB n h Q i j<=262144:=mr k.red.pd k.inb hi hj 262144 (by decide)
theorem AE.ent (k:AE n h Q) {i j:Nat} (hi:i<n) (hj:j<n): -1099511627776<=Q i j/\Q i j<=1099511627776:=
 (show GdR n h (Q i)from k.inb.nr i hi).co k.n1 k.n4 k.red j hj
theorem AE.mi (k:AE n h Q):MI (bx n n (trF Q)):=fun r hr z hz=>by
 obtain⟨i,hi,rfl⟩:=List.mem_map.1 hr;obtain⟨j,hj,rfl⟩:=List.mem_map.1 hz;have:=k.ent (List.mem_range.1 hj) (List.mem_range.1 hi);have e:trF Q i j=Q j i:=rfl;constructor<;>omega
end
end
section
variable {n:Nat}
theorem rC.mul {t u:FF} (ht:rC n t) (hu:rC n u):rC n (em n t u):=fun v=>by
 obtain⟨y,hy⟩:=ht v;obtain⟨z,hz⟩:=hu y;refine⟨z,fun j hj=>?_⟩;rw[<- hy j hj];unfold mV;rw[aS n (F:=fun a=>y a*t j a) (G:=fun p=>b9 (fun a=>z a*(t j p*u p a)) n) (fun p hp=>by
  rw[<- hz p hp];unfold mV;rw[<- mR];exact aS n fun a _=>by grind),jt]
 exact aS n fun a _=>by rw[cK,cx]
theorem NC {f f' t:FF} (h: ∀a b,a<n->b<n->f a b=f' a b) (a b:Nat):cngF n f t a b=cngF n f' t a b:=by
 rw[fd,fd];exact dx h (fun _ _=>rfl) fun _ _=>rfl
def D6 (n:Nat) (g h:FF):Prop:= ∃T,rC n T/\ ∀a b,a<n->b<n->cngF n g T a b=h a b
theorem D6.trans {g h p:FF} (h1:D6 n g h) (h2:D6 n h p):D6 n g p:=by
 obtain⟨T,s1,e1⟩:=h1;obtain⟨S,s2,e2⟩:=h2;refine⟨_,s1.mul s2,fun a b ha hb=>?_⟩;rw[<- KD,NC e1];exact e2 a b ha hb
theorem OB:rC n idF:=rC.one.congr fun _ _ _ _=>rfl
theorem NE (h:FF) {a b:Nat} (ha:a<n) (hb:b<n):cngF n h idF a b=h a b:=by
 have e: ∀x y,BF n h x y=b9 (fun i=>x i*b9 (fun j=>h i j*y j) n) n:=fun _ _=>rfl
 rw[fd,e,aS n (G:=fun i=>h i b*idF i a) (fun i _=>by rw[uJ hb];exact Int.mul_comm _ _)];exact uJ (y:=fun i=>h i b) ha
theorem D6.refl (g:FF):D6 n g g:=⟨idF,OB,fun _ _ ha hb=>NE g ha hb⟩
/-! Unimodular of quadformmake. -/
theorem MJ (hn:n<=4) (f:FF):dk (trF f) n=dk f n:=by
 have:n=0\/n=1\/n=2\/n=3\/n=4:=by omega
 rcases this with rfl|rfl|rfl|rfl|rfl
 ·rfl
 ·simp[dk,om,dn,jV,trF]
 ·simp[dk,om,dn,jV,trF];grind
 ·simp[dk,om,dn,jV,trF];grind
 simp[dk,om,dn,jV,trF];grind
end
section
variable {n:Nat}
def qW (n:Nat) (t:FF):Prop:= ∀X,(dk (em n X t) n).natAbs=(dk X n).natAbs
theorem qW.congr {t t':FF} (h:qW n t) (e: ∀i j,i<n->j<n->t' i j=t i j):qW n t':=fun X=>by
 rw[<- h X,eg fun i j _ hj=>?_];rw[cK,cK];exact aS n fun p hp=>by rw[e p j hp hj]
theorem qW.one:qW n (fun i j=>if i=j then 1 else 0):=fun X=>by
 rw[eg (g:=X) fun i j _ hj=>?_];rw[cK];exact uJ (y:=fun p=>X i p) hj
theorem qW.swap {t:FF} (h:qW n t) {p q:Nat} (hp:p<n) (hq:q<n) (hpq:p≠q):qW n (fun i c=>if c=p then t i q else if c=q then t i p else t i c):=fun X=>by
 rw[<- h X,<- Int.natAbs_neg (dk (em n X t) n),<- oh (R:=em n X t) hp hq hpq,eg fun i j _ hj=>?_];rw[cK];by_cases e:j=p
 ·subst e;simp only[if_true,cK]
 simp only[if_neg e];by_cases e2:j=q
 ·subst e2;simp only[if_true,cK]
 simp only[if_neg e2,cK]
theorem qW.comb {t:FF} (h:qW n t) {i:Nat} (hi:i<n) {c:Nat->Int} (hc:c i=1):qW n (di t i (mV n t c)):=fun X=>by
 have e:=xg (t:=em n X t) hi c;rw[hc,Int.one_mul]at e;rw[<- h X,<- e,eg fun a b _ hb=>?_];rw[cK];unfold di;by_cases e:b=i
 ·simp only[if_pos e];unfold mV;rw[aS n (G:=fun p=>b9 (fun a_1=>X a p*(c a_1*t p a_1)) n) (fun p _=>(cx _ _ n).symm),jt];exact aS n fun q _=>by
   rw[cK,<- cx];exact aS n fun p _=>by grind
 simp only[if_neg e,cK]
theorem qW.sg {B:FF} (h:qW n (trF B)) (g:FF):qW n (trF (p9 g B)):=fun X=>by
 have h1:=Cc (g:=g) (B:=trF (em n X (trF B))) n (af n);rw[<- h X];rw[show trF (trF (em n X (trF B)))=em n X (trF B)from rfl]at h1;rw[<- h1,eg fun i j _ hj=>?_];show em n X (trF (p9 g B)) i j=if j<n then kG g j*em n X (trF B) i j else em n X (trF B) i j
 rw[if_pos hj,cK,cK,<- cx];exact aS n fun p _=>by show X i p*(kG g j*B j p)=kG g j*(X i p*B j p);grind
theorem zc (N:(Nat->Int)->Int): ∀j B,j<n->qW n (trF B)->qW n (trF (insB N B j))
 |0,_,_,h=>h
 |j+1,B,hj,h=>by
  rw[insB];split
  ·refine zc N j _ (by omega) ?_;rw[Js];exact h.swap hj (by omega) (by omega)
  exact h
theorem uG (N:(Nat->Int)->Int) {B:FF} (h:qW n (trF B)): ∀i,i<=n->qW n (trF (kH N B i))
 |0,_=>h
 |i+1,hi=>zc N i _ (by omega) (uG N h i (by omega))
theorem IC {h B R:FF} (hr:RchB n h B R) (hB:qW n (trF B)):qW n (trF R):=by
 induction hr with
 |done B hv=>exact uG _ hB n (af n)
 |step B R i hv _ ih=>
  obtain⟨_,h1,h2,_⟩:=i9 n 0 i hv;refine ih ?_;rw[Jr];exact qW.comb (uG _ hB n (af n)) (by omega) (uC n _ i (3^i)).1
theorem qW.cng (hn:n<=4) {t:FF} (h:qW n t) (g:FF):(dk (cngF n g t) n).natAbs=(dk g n).natAbs:=by
 unfold cngF;rw[h,eg (g:=trF (em n (trF g) t)) fun i j _ _=>?_,MJ hn,h,MJ hn];rw[trF,cK,cK];exact aS n fun p _=>Int.mul_comm _ _
theorem IB {h R:FF} (hn:n<=4) (hR:RchB n h idF R):(dk (gmB n h (p9 (gmB n h R) R)) n).natAbs=(dk h n).natAbs:=by
 rw[xl];refine qW.cng hn (qW.sg (IC hR ?_) _) h;exact qW.one.congr fun i j _ _=>by
  show(if j=i then(1:Int)else 0)=if i=j then 1 else 0
  by_cases e:i=j
  ·rw[if_pos e,if_pos e.symm]
  rw[if_neg e,if_neg (Ne.symm e)]
end
theorem AY {A B C l u x:Int} (hA:0<=A) (hl:l<=x) (hu:x<=u) (h1:0<=C+B*l-A*(l*l)) (h2:0<=C+B*u-A*(u*u)):0<=C+B*x-A*(x*x):=by
 rcases Int.lt_or_le l u with h|h
 ·have e:(u-l)*(C+B*x-A*(x*x))=(u-x)*(C+B*l-A*(l*l))+(x-l)*(C+B*u-A*(u*u))+A*((x-l)*(u-x))*(u-l):=by grind
  have p1:=Int.mul_nonneg (show 0<=u-x by omega) h1;have p2:=Int.mul_nonneg (show 0<=x-l by omega) h2;have p3:=Int.mul_nonneg (Int.mul_nonneg hA (Int.mul_nonneg (show 0<=x-l by omega) (show 0<=u-x by omega))) (show 0<=u-l by omega);have p:0<=(u-l)*(C+B*x-A*(x*x)):=by omega
  exact Int.le_of_mul_le_mul_left (a:=u-l) (by simpa using p) (by omega)
 have:x=l:=by omega
 subst this;exact h1
theorem mz {a b c:Int} (ha:0<=a) (h:b<=c):a*b<=a*c:=Int.mul_le_mul_of_nonneg_left h ha
theorem rY {a b c R S T:Int} (ha:0<a) (hab:a<=b) (hbc:b<=c) (hT0:0<=T) (hT:T<=a) (hS0:0<=S) (hS:S<=a) (hR0:0<=R) (hR:R<=b):
  0<=2*(a*b*c)+R*S*T-a*(R*R)-b*(S*S)-c*(T*T):=by
 have hb:0<b:=by omega
 have hc:0<c:=by omega
 have q1:0<=a*b*(2*c-a-b):=Int.mul_nonneg (Int.mul_nonneg (by omega) (by omega)) (by omega);have rr:R*R<=b*b:=Int.mul_le_mul hR hR hR0 (by omega);have ss:S*S<=a*a:=Int.mul_le_mul hS hS hS0 (by omega);have arr:=mz (by omega:0<=a) rr;have bss:=mz (by omega:0<=b) ss;have k0:0<=a*b*(c-a):=Int.mul_nonneg (Int.mul_nonneg (by omega) (by omega)) (by omega);have k1:0<=a*b*(c-b):=Int.mul_nonneg (Int.mul_nonneg (by omega) (by omega)) (by omega);have k2:0<=a*c*(b-a):=Int.mul_nonneg (Int.mul_nonneg (by omega) (by omega)) (by omega);have f0:0<=(2*(a*b*c)-a*(R*R)-b*(S*S))+R*S*0-c*(0*0):=by grind
 have f1:0<=(2*(a*b*c)-a*(R*R)-b*(S*S))+R*S*a-c*(a*a):=by
  have g0:0<=(2*(a*b*c)-a*(R*R)-c*(a*a))+R*a*0-b*(0*0):=by grind
  have g1:0<=(2*(a*b*c)-a*(R*R)-c*(a*a))+R*a*a-b*(a*a):=by
   have m0:0<=(2*(a*b*c)-c*(a*a)-b*(a*a))+a*a*0-a*(0*0):=by grind
   have m1:0<=(2*(a*b*c)-c*(a*a)-b*(a*a))+a*a*b-a*(b*b):=by grind
   have:=AY (by omega) hR0 hR m0 m1;grind
  have:=AY (by omega) hS0 hS g0 g1;grind
 have:=AY (by omega) hT0 hT f0 f1;grind
theorem rX {a b c R S T:Int} (ha:0<a) (hab:a<=b) (hbc:b<=c) (hT0:0<=T) (hT:T<=a) (hS0:0<=S) (hS:S<=a) (hR0:0<=R) (hR:R<=b) (hs:R+S+T<=a+b):
  0<=2*(a*b*c)-R*S*T-a*(R*R)-b*(S*S)-c*(T*T):=by
 have hb:0<b:=by omega
 have hc:0<c:=by omega
 have k0:0<=a*b*(c-a):=Int.mul_nonneg (Int.mul_nonneg (by omega) (by omega)) (by omega);have k1:0<=a*b*(c-b):=Int.mul_nonneg (Int.mul_nonneg (by omega) (by omega)) (by omega);have k2:0<=a*c*(b-a):=Int.mul_nonneg (Int.mul_nonneg (by omega) (by omega)) (by omega);have hST:0<=S*T:=Int.mul_nonneg hS0 hT0
 -- a larger R makes the value smaller
 have mono: ∀Q:Int,R<=Q->0<=2*(a*b*c)-Q*S*T-a*(Q*Q)-b*(S*S)-c*(T*T)->0<=2*(a*b*c)-R*S*T-a*(R*R)-b*(S*S)-c*(T*T):=fun Q hQ h=>by
  have h1:R*(S*T)<=Q*(S*T):=Int.mul_le_mul_of_nonneg_right hQ hST;have h2:R*R<=Q*Q:=Int.mul_le_mul hQ hQ hR0 (by omega);have h3:=mz (by omega:0<=a) h2;grind
 rcases Int.lt_or_le a (S+T)with h|h
 ·refine mono (a+b-S-T) (by omega) ?_
  -- on the line S + T = const the value is concave
  have hw:0<=S+T-a:=by omega
  have E1:0<=(2*(a*b*c)-a*b*b-a*a*b)+a*b*(S+T-a)-c*((S+T-a)*(S+T-a)):=by
   refine AY (l:=0) (u:=a) (by omega) (by omega) (by omega) ?_ ?_
   ·grind
   grind
  have E2:0<=(2*(a*b*c)-a*b*b-c*a*a)+a*b*(S+T-a)-b*((S+T-a)*(S+T-a)):=by
   refine AY (l:=0) (u:=a) (by omega) (by omega) (by omega) ?_ ?_
   ·grind
   grind
  have hsg: ∃g,g=S+T:=⟨_,rfl⟩;obtain⟨g,hg⟩:=hsg;have eS:S=g-T:=by omega
  rw[<- hg]at E1 E2 h hw;have:=AY (A:=b+c-(a+b-g)) (B:=2*b*g-(a+b-g)*g) (C:=2*(a*b*c)-a*((a+b-g)*(a+b-g))-b*(g*g)) (l:=g-a) (u:=a) (x:=T) (by omega) (by omega) (by omega) (by grind) (by grind);subst eS;grind
 refine mono b hR ?_;have hSa:S<=a-T:=by omega
 have h1:S*T<=(a-T)*T:=Int.mul_le_mul_of_nonneg_right hSa hT0;have h2:S*S<=(a-T)*(a-T):=Int.mul_le_mul hSa hSa hS0 (by omega);have h3:=mz (by omega:0<=b) h1;have h4:=mz (by omega:0<=b) h2;have:=AY (A:=c) (B:=b*a) (C:=2*(a*b*c)-a*b*b-b*a*a) (l:=0) (u:=a) (x:=T) (by omega) hT0 hT (by grind) (by grind);grind
theorem iT {a b c R S T:Int} (ha:0<a) (hab:a<=b) (hbc:b<=c) (hT: -a<=T/\T<=a) (hS: -a<=S/\S<=a) (hR: -b<=R/\R<=b)
  (h1:0<=a+b+T+S+R) (h2:0<=a+b+T-S-R) (h3:0<=a+b-T+S-R) (h4:0<=a+b-T-S+R):
  2*(a*b*c)<=4*(a*b*c)+R*S*T-a*(R*R)-b*(S*S)-c*(T*T):=by
 rcases Int.lt_or_le T 0 with t|t<;>rcases Int.lt_or_le S 0 with s|s<;>rcases Int.lt_or_le R 0 with r|r
 ·have:=rX (a:=a) (b:=b) (c:=c) (R:= -R) (S:= -S) (T:= -T) ha hab hbc (by omega) (by omega) (by omega) (by omega) (by omega) (by omega) (by omega);grind
 ·have:=rY (a:=a) (b:=b) (c:=c) (R:=R) (S:= -S) (T:= -T) ha hab hbc (by omega) (by omega) (by omega) (by omega) (by omega) (by omega);grind
 ·have:=rY (a:=a) (b:=b) (c:=c) (R:= -R) (S:=S) (T:= -T) ha hab hbc (by omega) (by omega) (by omega) (by omega) (by omega) (by omega);grind
 ·have:=rX (a:=a) (b:=b) (c:=c) (R:=R) (S:=S) (T:= -T) ha hab hbc (by omega) (by omega) (by omega) (by omega) (by omega) (by omega) (by omega);grind
 ·have:=rY (a:=a) (b:=b) (c:=c) (R:= -R) (S:= -S) (T:=T) ha hab hbc (by omega) (by omega) (by omega) (by omega) (by omega) (by omega);grind
 ·have:=rX (a:=a) (b:=b) (c:=c) (R:=R) (S:= -S) (T:=T) ha hab hbc (by omega) (by omega) (by omega) (by omega) (by omega) (by omega) (by omega);grind
 ·have:=rX (a:=a) (b:=b) (c:=c) (R:= -R) (S:=S) (T:=T) ha hab hbc (by omega) (by omega) (by omega) (by omega) (by omega) (by omega) (by omega);grind
 have:=rY (a:=a) (b:=b) (c:=c) (R:=R) (S:=S) (T:=T) ha hab hbc (by omega) (by omega) (by omega) (by omega) (by omega) (by omega);grind
theorem DZ {a b c x y z:Int} (ha:0<a) (hb:0<b) (hc:0<c) (hx:(-a<=x/\x<=a)/\ -b<=x/\x<=b) (hy:(-a<=y/\y<=a)/\ -c<=y/\y<=c) (hz:(-b<=z/\z<=b)/\ -c<=z/\z<=c)
  (h1: ∀s,(s=a+b\/s=a+c\/s=b+c)->0<=s+x+y+z/\0<=s+x-y-z/\0<=s-x+y-z/\0<=s-x-y+z):
  2*(a*b*c)<=4*(a*b*c)+x*y*z-a*(z*z)-b*(y*y)-c*(x*x):=by
 obtain⟨p1,p2,p3,p4⟩:=h1 _ (.inl rfl);obtain⟨q1,q2,q3,q4⟩:=h1 _ (.inr (.inl rfl));obtain⟨r1,r2,r3,r4⟩:=h1 _ (.inr (.inr rfl));rcases Int.le_total a b with ab|ab<;>rcases Int.le_total b c with bc|bc<;>rcases Int.le_total a c with ac|ac
 ·have:=iT (a:=a) (b:=b) (c:=c) (R:=z) (S:=y) (T:=x) ha ab bc (by omega) (by omega) (by omega) (by omega) (by omega) (by omega) (by omega);grind
 ·have:=iT (a:=a) (b:=b) (c:=c) (R:=z) (S:=y) (T:=x) ha ab bc (by omega) (by omega) (by omega) (by omega) (by omega) (by omega) (by omega);grind
 ·have:=iT (a:=a) (b:=c) (c:=b) (R:=z) (S:=x) (T:=y) ha ac bc (by omega) (by omega) (by omega) (by omega) (by omega) (by omega) (by omega);grind
 ·have:=iT (a:=c) (b:=a) (c:=b) (R:=x) (S:=z) (T:=y) hc ac ab (by omega) (by omega) (by omega) (by omega) (by omega) (by omega) (by omega);grind
 ·have:=iT (a:=b) (b:=a) (c:=c) (R:=y) (S:=z) (T:=x) hb ab ac (by omega) (by omega) (by omega) (by omega) (by omega) (by omega) (by omega);grind
 ·have:=iT (a:=b) (b:=c) (c:=a) (R:=y) (S:=x) (T:=z) hb bc ac (by omega) (by omega) (by omega) (by omega) (by omega) (by omega) (by omega);grind
 ·have:=iT (a:=c) (b:=b) (c:=a) (R:=x) (S:=y) (T:=z) hc bc ab (by omega) (by omega) (by omega) (by omega) (by omega) (by omega) (by omega);grind
 have:=iT (a:=c) (b:=b) (c:=a) (R:=x) (S:=y) (T:=z) hc bc ab (by omega) (by omega) (by omega) (by omega) (by omega) (by omega) (by omega);grind
theorem vN {α:Type} (P:α->Prop) (μ:α->Nat): ∀(k:Nat) (x:α),P x->μ x=k-> ∃y,P y/\ ∀z,P z->μ y<=μ z:=fun k=>by
 induction k using Nat.strongRecOn with
 |ind k ih=>
  intro x hx hk;by_cases h: ∃z,P z/\μ z<μ x
  ·obtain⟨z,hz,hl⟩:=h;exact ih (μ z) (by omega) z hz rfl
  exact⟨x,hx,fun z hz=>Nat.le_of_not_lt fun hl=>h ⟨z,hz,hl⟩⟩
def gR (i j:Nat) (c:Int) (G:FF):Nat->Nat->Int:=fun a b=>
 if a=j then(if b=j then G j j+2*c*G i j+c*c*G i i else G j b+c*G i b)else if b=j then G a j+c*G a i else G a b
def wC (p q a:Nat):Nat:=if a=p then q else if a=q then p else a
def J5 (p q:Nat) (G:FF):Nat->Nat->Int:=fun a b=>G (wC p q a) (wC p q b)
inductive Cl (G0:FF):(Nat->Nat->Int)->Prop
 |base:Cl G0 G0
 |ad {G:FF} (i j:Nat) (c:Int):Cl G0 G->i<4->j<4->i≠j->Cl G0 (gR i j c G)
 |sw {G:FF} (p q:Nat):Cl G0 G->p<4->q<4->p≠q->Cl G0 (J5 p q G)
def q4 (G:FF) (x y z w:Int):Int:=
 G 0 0*(x*x)+G 1 1*(y*y)+G 2 2*(z*z)+G 3 3*(w*w)+2*(G 0 1*(x*y)+G 0 2*(x*z)+G 0 3*(x*w)+G 1 2*(y*z)+G 1 3*(y*w)+G 2 3*(z*w))
def m3 (a b c x y z:Int):Int:=a*b*c+2*(x*y*z)-a*(z*z)-b*(y*y)-c*(x*x)
def D3 (G:FF) (i j k:Nat):Int:=m3 (G i i) (G j j) (G k k) (G i j) (G i k) (G j k)
def d4 (G:FF):Int:=G 0 0*D3 G 1 2 3-(G 0 1*G 0 1*(G 2 2*G 3 3-G 2 3*G 2 3)+G 0 2*G 0 2*(G 1 1*G 3 3-G 1 3*G 1 3)+G 0 3*G 0 3*(G 1 1*G 2 2-G 1 2*G 1 2)
 +2*(G 0 1*G 0 2*(G 1 3*G 2 3-G 1 2*G 3 3))+2*(G 0 1*G 0 3*(G 1 2*G 2 3-G 1 3*G 2 2))+2*(G 0 2*G 0 3*(G 1 2*G 1 3-G 1 1*G 2 3)))
def sE (G:FF) (i j:Nat):Int:=G 0 0*G i j-G 0 i*G 0 j
structure Mx (D dt:Int) (G:FF):Prop where
 sm: ∀a b,G a b=G b a
 dt:d4 G=dt
 mn: ∀X:Nat->Int,(∃i,i<4/\X i≠0)->D<=q4 G (X 0) (X 1) (X 2) (X 3)
theorem Ds {i:Nat} (h:i<4):i=0\/i=1\/i=2\/i=3:=by omega
theorem Pd {G:FF} (hs: ∀a b,G a b=G b a) {i j:Nat} (hi:i<4) (hj:j<4) (hij:i≠j) (c:Int) (X:Nat->Int):
  q4 (gR i j c G) (X 0) (X 1) (X 2) (X 3)=q4 G ((fun a=>if a=i then X a+c*X j else X a) 0) ((fun a=>if a=i then X a+c*X j else X a) 1) ((fun a=>if a=i then X a+c*X j else X a) 2) ((fun a=>if a=i then X a+c*X j else X a) 3):=by
 have s1:=hs 0 1;have s2:=hs 0 2;have s3:=hs 0 3;have s4:=hs 1 2;have s5:=hs 1 3;have s6:=hs 2 3
 rcases Ds hi with rfl|rfl|rfl|rfl<;>rcases Ds hj with rfl|rfl|rfl|rfl<;>first|exact absurd rfl hij|(simp[gR,q4];grind)
theorem PB {G:FF} (hs: ∀a b,G a b=G b a) {i j:Nat} (hi:i<4) (hj:j<4) (hij:i≠j) (X:Nat->Int):
  q4 (J5 i j G) (X 0) (X 1) (X 2) (X 3)=q4 G (X (wC i j 0)) (X (wC i j 1)) (X (wC i j 2)) (X (wC i j 3)):=by
 have s1:=hs 0 1;have s2:=hs 0 2;have s3:=hs 0 3;have s4:=hs 1 2;have s5:=hs 1 3;have s6:=hs 2 3
 rcases Ds hi with rfl|rfl|rfl|rfl<;>rcases Ds hj with rfl|rfl|rfl|rfl<;>first|exact absurd rfl hij|(simp[J5,wC,q4];grind)
theorem Pc {G:FF} (hs: ∀a b,G a b=G b a) {i j:Nat} (hi:i<4) (hj:j<4) (hij:i≠j) (c:Int):d4 (gR i j c G)=d4 G:=by
 have s1:=hs 0 1;have s2:=hs 0 2;have s3:=hs 0 3;have s4:=hs 1 2;have s5:=hs 1 3;have s6:=hs 2 3
 rcases Ds hi with rfl|rfl|rfl|rfl<;>rcases Ds hj with rfl|rfl|rfl|rfl<;>first|exact absurd rfl hij|(simp[gR,d4,D3,m3];grind)
theorem PA {G:FF} (hs: ∀a b,G a b=G b a) {i j:Nat} (hi:i<4) (hj:j<4) (hij:i≠j):d4 (J5 i j G)=d4 G:=by
 have s1:=hs 0 1;have s2:=hs 0 2;have s3:=hs 0 3;have s4:=hs 1 2;have s5:=hs 1 3;have s6:=hs 2 3
 rcases Ds hi with rfl|rfl|rfl|rfl<;>rcases Ds hj with rfl|rfl|rfl|rfl<;>first|exact absurd rfl hij|(simp[J5,wC,d4,D3,m3];grind)
theorem OE {p q a:Nat} (hp:p<4) (hq:q<4) (ha:a<4):wC p q a<4:=by unfold wC;split<;>(try split)<;>omega
theorem L7 (p q a:Nat):wC p q (wC p q a)=a:=by unfold wC;grind
theorem Cl.inv {G0 G:FF} {D dt:Int} (h0:Mx D dt G0) (h:Cl G0 G):Mx D dt G:=by
 induction h with
 |base=>exact h0
 |ad i j c _ hi hj hij ih=>
  refine⟨fun a b=>?_,by rw[Pc ih.sm hi hj hij];exact ih.dt,fun X hX=>?_⟩
  ·have:=ih.sm;unfold gR;by_cases ea:a=j<;>by_cases eb:b=j
   ·rw[ea,eb]
   ·rw[if_pos ea,if_neg eb,if_neg eb,if_pos ea,this j b,this i b]
   ·rw[if_neg ea,if_pos eb,if_pos eb,if_neg ea,this a j,this a i]
   rw[if_neg ea,if_neg eb,if_neg eb,if_neg ea,this a b]
  rw[Pd ih.sm hi hj hij];refine ih.mn (fun a=>if a=i then X a+c*X j else X a) ?_;obtain⟨k,hk,hX⟩:=hX;by_cases e:X j=0
  ·refine⟨k,hk,?_⟩;show(if k=i then X k+c*X j else X k)≠0;rw[e,Int.mul_zero,Int.add_zero];split<;>exact hX
  refine⟨j,hj,?_⟩;show(if j=i then X j+c*X j else X j)≠0;rw[if_neg (Ne.symm hij)];exact e
 |sw p q _ hp hq hpq ih=>
  refine⟨fun a b=>ih.sm _ _,by rw[PA ih.sm hp hq hpq];exact ih.dt,fun X hX=>?_⟩;rw[PB ih.sm hp hq hpq];refine ih.mn (fun a=>X (wC p q a)) ?_;obtain⟨k,hk,hX⟩:=hX;exact⟨wC p q k,OE hp hq hk,by show X (wC p q (wC p q k))≠0;rw[L7];exact hX⟩
theorem Mx.diag {G:FF} {D dt:Int} (h:Mx D dt G) {i:Nat} (hi:i<4):D<=G i i:=by
 have:=h.mn (fun a=>if a=i then 1 else 0) ⟨i,hi,by simp⟩;rcases Ds hi with rfl|rfl|rfl|rfl<;>simp[q4]at this<;>exact this
theorem Mx.d3 {G:FF} {D dt:Int} (h:Mx D dt G) (hD:0<D):0<G 0 0*G 1 1-G 0 1*G 0 1/\0<D3 G 0 1 2:=by
 have h0:=h.diag (i:=0) (by omega);have h2:0<G 0 0*G 1 1-G 0 1*G 0 1:=by
  have:=h.mn (fun a=>if a=0 then-G 0 1 else if a=1 then G 0 0 else 0) ⟨1,by omega,by simp;omega⟩;simp[q4]at this;have e:0<G 0 0*(G 0 0*G 1 1-G 0 1*G 0 1):=by grind
  exact Int.lt_of_mul_lt_mul_left (a:=G 0 0) (by simpa using e) (by omega)
 refine⟨h2,?_⟩;have:=h.mn (fun a=>if a=0 then G 0 1*G 1 2-G 0 2*G 1 1 else if a=1 then G 0 1*G 0 2-G 0 0*G 1 2 else if a=2 then G 0 0*G 1 1-G 0 1*G 0 1 else 0) ⟨2,by omega,by simp;omega⟩;simp[q4]at this;have e:0<(G 0 0*G 1 1-G 0 1*G 0 1)*D3 G 0 1 2:=by unfold D3 m3;grind
 exact Int.lt_of_mul_lt_mul_left (a:=G 0 0*G 1 1-G 0 1*G 0 1) (by simpa using e) (by omega)
theorem KI {a b:Int} (h0:0<=a) (h:a<=b):a*a*a<=b*b*b:=
 Int.mul_le_mul (Int.mul_le_mul h h h0 (by omega)) h h0 (Int.mul_nonneg (by omega) (by omega))
theorem Gw {G:FF} (hs: ∀a b,G a b=G b a) {i j:Nat} (hi:i<3) (hj:j<3) (hij:i≠j) (c:Int):D3 (gR i j c G) 0 1 2=D3 G 0 1 2:=by
 have s1:=hs 0 1;have s2:=hs 0 2;have s4:=hs 1 2
 rcases Ds (show i<4 by omega)with rfl|rfl|rfl|rfl<;>rcases Ds (show j<4 by omega)with rfl|rfl|rfl|rfl<;>first|exact absurd rfl hij|omega|(simp[gR,D3,m3];grind)
def t1 (G:FF):Int:=sE G 2 2*sE G 3 3-sE G 2 3*sE G 2 3
def t2 (G:FF):Int:=sE G 1 1*sE G 3 3-sE G 1 3*sE G 1 3
def t3 (G:FF):Int:=sE G 1 1*sE G 2 2-sE G 1 2*sE G 1 2
def Jj (G:FF):Int:=sE G 1 3*sE G 2 3-sE G 1 2*sE G 3 3
def Jk (G:FF):Int:=sE G 1 2*sE G 2 3-sE G 1 3*sE G 2 2
def Jl (G:FF):Int:=sE G 1 2*sE G 1 3-sE G 1 1*sE G 2 3
def tS (S:FF):Int:=(S 2 2*S 3 3-S 2 3*S 2 3)+(S 1 1*S 3 3-S 1 3*S 1 3)+(S 1 1*S 2 2-S 1 2*S 1 2)
theorem PE (G:FF):m3 (t1 G) (t2 G) (t3 G) (Jj G) (Jk G) (Jl G)=(G 0 0*G 0 0*d4 G)*(G 0 0*G 0 0*d4 G):=by
 have e:G 0 0*G 0 0*d4 G=m3 (sE G 1 1) (sE G 2 2) (sE G 3 3) (sE G 1 2) (sE G 1 3) (sE G 2 3):=by unfold sE d4 D3 m3;grind
 rw[e];unfold t1 t2 t3 Jj Jk Jl m3;grind
theorem L4 (G:FF):t1 G=G 0 0*D3 G 0 2 3/\t2 G=G 0 0*D3 G 0 1 3/\t3 G=G 0 0*D3 G 0 1 2:=by
 refine⟨?_,?_,?_⟩
 ·unfold t1 sE D3 m3;grind
 ·unfold t2 sE D3 m3;grind
 unfold t3 sE D3 m3;grind
theorem ME {G:FF} {i j:Nat} (hj:0≠j) (hi: ∀b,G i b=G b i) (c:Int) (a b:Nat):sE (gR i j c G) a b=gR i j c (sE G) a b:=by
 unfold sE gR;by_cases ea:a=j<;>by_cases eb:b=j
 ·subst ea;subst eb;simp only[if_true,if_neg hj];have:=hi 0;grind
 ·subst ea;simp only[if_true,if_neg hj,if_neg eb];have:=hi 0;grind
 ·subst eb;simp only[if_true,if_neg hj,if_neg ea];have:=hi 0;have:=hi a;grind
 simp only[if_neg hj,if_neg ea,if_neg eb]
theorem Pn {G0:FF} {D dt:Int} (h0:Mx D dt G0) (hD:0<D) (hdt:0<dt):D*D*(D*D)<=4*dt:=by
 obtain⟨A,hA,mA⟩:=vN (Cl G0) (fun G=>(D3 G 0 1 2).toNat) _ G0 .base rfl;obtain⟨B,⟨hB,eB⟩,mB⟩:=vN (fun G=>Cl G0 G/\D3 G 0 1 2=D3 A 0 1 2) (fun G=>(G 0 0+G 1 1+G 2 2).toNat) _ A ⟨hA,rfl⟩ rfl;obtain⟨C,hC,mC⟩:=vN (Cl G0) (fun G=>(G 0 0).toNat) _ G0 .base rfl;obtain⟨E,⟨hE,eE⟩,mE⟩:=vN (fun G=>Cl G0 G/\G 0 0=C 0 0) (fun G=>(t1 G+t2 G+t3 G).toNat) _ C ⟨hC,rfl⟩ rfl;have iA:=hA.inv h0;have iB:=hB.inv h0;have iC:=hC.inv h0;have iE:=hE.inv h0;have M0:=(iA.d3 hD).2;have m0:=iC.diag (i:=0) (by omega)
 -- every diagonal entry is at vN m, every minor at vN M
 have dg: ∀{G:FF},Cl G0 G-> ∀i,i<4->C 0 0<=G i i:=fun{G} hG i hi=>by
  have: ∃G',Cl G0 G'/\G' 0 0=G i i:=by
   by_cases e:i=0
   ·subst e;exact⟨G,hG,rfl⟩
   exact⟨_,hG.sw 0 i (by omega) hi (Ne.symm e),by simp[J5,wC]⟩
  obtain⟨G',h1,h2⟩:=this;have:=mC G' h1;have h3:=(h1.inv h0).diag (i:=0) (by omega);omega
 have mi: ∀{G:FF},Cl G0 G->D3 A 0 1 2<=D3 G 0 1 2:=fun{G} hG=>by
  have:=mA G hG;have h3:=((hG.inv h0).d3 hD).2;omega
 -- the first three vectors
 have stA:C 0 0*C 0 0*C 0 0<=2*D3 A 0 1 2:=by
  have b0:=dg hB 0 (by omega);have b1:=dg hB 1 (by omega);have b2:=dg hB 2 (by omega);have s1:=iB.sm 0 1;have s2:=iB.sm 0 2;have s3:=iB.sm 1 2;have op1: ∀i j c,i<3->j<3->i≠j->B 0 0+B 1 1+B 2 2<=gR i j c B 0 0+gR i j c B 1 1+gR i j c B 2 2:=fun i j c hi hj hij=>by
   have hG:=hB.ad i j c (by omega) (by omega) hij;have:=mB _ ⟨hG,by rw[Gw iB.sm hi hj hij];exact eB⟩;have g0:=dg hG 0 (by omega);have g1:=dg hG 1 (by omega);have g2:=dg hG 2 (by omega);omega
  have op2: ∀i k j c d,i<3->k<3->j<3->i≠j->k≠j->B 0 0+B 1 1+B 2 2<=gR k j d (gR i j c B) 0 0+gR k j d (gR i j c B) 1 1+gR k j d (gR i j c B) 2 2:=fun i k j c d hi hk hj hij hkj=>by
   have hG1:=hB.ad i j c (by omega) (by omega) hij;have hG:=hG1.ad k j d (by omega) (by omega) hkj;have:=mB _ ⟨hG,by rw[Gw (hG1.inv h0).sm hk hj hkj,Gw iB.sm hi hj hij];exact eB⟩;have g0:=dg hG 0 (by omega);have g1:=dg hG 1 (by omega);have g2:=dg hG 2 (by omega);omega
  have t:=DZ (a:=B 0 0) (b:=B 1 1) (c:=B 2 2) (x:=2*B 0 1) (y:=2*B 0 2) (z:=2*B 1 2) (by omega) (by omega) (by omega)
   (by
    have u1:=op1 0 1 1 (by omega) (by omega) (by omega);have u2:=op1 0 1 (-1) (by omega) (by omega) (by omega);have u3:=op1 1 0 1 (by omega) (by omega) (by omega);have u4:=op1 1 0 (-1) (by omega) (by omega) (by omega);simp[gR]at u1 u2 u3 u4;omega)
   (by
    have u1:=op1 0 2 1 (by omega) (by omega) (by omega);have u2:=op1 0 2 (-1) (by omega) (by omega) (by omega);have u3:=op1 2 0 1 (by omega) (by omega) (by omega);have u4:=op1 2 0 (-1) (by omega) (by omega) (by omega);simp[gR]at u1 u2 u3 u4;omega)
   (by
    have u1:=op1 1 2 1 (by omega) (by omega) (by omega);have u2:=op1 1 2 (-1) (by omega) (by omega) (by omega);have u3:=op1 2 1 1 (by omega) (by omega) (by omega);have u4:=op1 2 1 (-1) (by omega) (by omega) (by omega);simp[gR]at u1 u2 u3 u4;omega)
   (by
    rintro s (rfl|rfl|rfl)
    ·have u1:=op2 0 1 2 1 1 (by omega) (by omega) (by omega) (by omega) (by omega);have u2:=op2 0 1 2 1 (-1) (by omega) (by omega) (by omega) (by omega) (by omega);have u3:=op2 0 1 2 (-1) 1 (by omega) (by omega) (by omega) (by omega) (by omega);have u4:=op2 0 1 2 (-1) (-1) (by omega) (by omega) (by omega) (by omega) (by omega);simp[gR]at u1 u2 u3 u4;omega
    ·have u1:=op2 0 2 1 1 1 (by omega) (by omega) (by omega) (by omega) (by omega);have u2:=op2 0 2 1 1 (-1) (by omega) (by omega) (by omega) (by omega) (by omega);have u3:=op2 0 2 1 (-1) 1 (by omega) (by omega) (by omega) (by omega) (by omega);have u4:=op2 0 2 1 (-1) (-1) (by omega) (by omega) (by omega) (by omega) (by omega);simp[gR]at u1 u2 u3 u4;omega
    have u1:=op2 1 2 0 1 1 (by omega) (by omega) (by omega) (by omega) (by omega);have u2:=op2 1 2 0 1 (-1) (by omega) (by omega) (by omega) (by omega) (by omega);have u3:=op2 1 2 0 (-1) 1 (by omega) (by omega) (by omega) (by omega) (by omega);have u4:=op2 1 2 0 (-1) (-1) (by omega) (by omega) (by omega) (by omega) (by omega);simp[gR]at u1 u2 u3 u4;omega)
  have e:4*(B 0 0*B 1 1*B 2 2)+2*B 0 1*(2*B 0 2)*(2*B 1 2)-B 0 0*(2*B 1 2*(2*B 1 2))-B 1 1*(2*B 0 2*(2*B 0 2))-B 2 2*(2*B 0 1*(2*B 0 1))=4*D3 B 0 1 2:=by unfold D3 m3;grind
  rw[e,eB]at t;have c1:C 0 0*C 0 0<=B 0 0*B 1 1:=Int.mul_le_mul b0 b1 (by omega) (by omega);have c2:C 0 0*C 0 0*C 0 0<=B 0 0*B 1 1*B 2 2:=Int.mul_le_mul c1 b2 (by omega) (Int.mul_nonneg (by omega) (by omega));omega
 -- the dual of the first stage
 have stB:D3 A 0 1 2*D3 A 0 1 2*D3 A 0 1 2<=2*(C 0 0*(dt*dt)):=by
  have key: ∀{G:FF},Cl G0 G->G 0 0=C 0 0->C 0 0*D3 A 0 1 2<=t1 G/\C 0 0*D3 A 0 1 2<=t2 G/\C 0 0*D3 A 0 1 2<=t3 G:=fun{G} hG e=>by
   obtain⟨e1,e2,e3⟩:=L4 G;rw[e1,e2,e3,e];have sm:=(hG.inv h0).sm;refine⟨mz (by omega) ?_,mz (by omega) ?_,mz (by omega) (mi hG)⟩
   ·have:=mi (hG.sw 1 3 (by omega) (by omega) (by omega));have e:D3 (J5 1 3 G) 0 1 2=D3 G 0 2 3:=by
     have:=sm 2 3;simp[D3,J5,wC,m3];grind
    rw[e]at this;exact this
   have:=mi (hG.sw 2 3 (by omega) (by omega) (by omega));have e:D3 (J5 2 3 G) 0 1 2=D3 G 0 1 3:=by
    simp[D3,J5,wC,m3]
   rw[e]at this;exact this
  have hmM:0<C 0 0*D3 A 0 1 2:=Int.mul_pos (by omega) M0;obtain⟨k1,k2,k3⟩:=key hE eE;have s1:=iE.sm 1 2;have s2:=iE.sm 1 3;have s3:=iE.sm 2 3;have sS: ∀a b,sE E a b=sE E b a:=fun a b=>by unfold sE;rw[iE.sm a b,Int.mul_comm (E 0 a)]
  have f1: ∀i j c,0<j->sE (gR i j c E)=gR i j c (sE E):=fun i j c hj=>by
   funext a b;exact ME (by omega) (fun b=>iE.sm i b) c a b
  have op1: ∀i j c,0<i->0<j->i<4->j<4->i≠j->tS (sE E)<=tS (gR i j c (sE E)):=fun i j c hi hj hi4 hj4 hij=>by
   have hG:=hE.ad i j c hi4 hj4 hij;have e:gR i j c E 0 0=C 0 0:=by rw[<- eE];unfold gR;rw[if_neg (by omega),if_neg (by omega)]
   have h:=mE _ ⟨hG,e⟩;obtain⟨g1,g2,g3⟩:=key hG e;have h:t1 E+t2 E+t3 E<=t1 (gR i j c E)+t2 (gR i j c E)+t3 (gR i j c E):=by omega
   rw[<- f1 i j c hj];exact h
  have op2: ∀i j k c d,0<i->0<j->0<k->i<4->j<4->k<4->i≠j->i≠k->tS (sE E)<=tS (gR i k d (gR i j c (sE E))):=fun i j k c d hi hj hk hi4 hj4 hk4 hij hik=>by
   have hG1:=hE.ad i j c hi4 hj4 hij;have hG:=hG1.ad i k d hi4 hk4 hik;have e:gR i k d (gR i j c E) 0 0=C 0 0:=by
    rw[<- eE];show(if 0=k then _ else if 0=k then _ else gR i j c E 0 0)=_;rw[if_neg (by omega),if_neg (by omega)];unfold gR;rw[if_neg (by omega),if_neg (by omega)]
   have h:=mE _ ⟨hG,e⟩;obtain⟨g1,g2,g3⟩:=key hG e;have f2:sE (gR i k d (gR i j c E))=gR i k d (gR i j c (sE E)):=by
    rw[<- f1 i j c hj];funext a b;exact ME (by omega) (fun b=>(hG1.inv h0).sm i b) d a b
   have h:t1 E+t2 E+t3 E<=t1 (gR i k d (gR i j c E))+t2 (gR i k d (gR i j c E))+t3 (gR i k d (gR i j c E)):=by omega
   rw[<- f2];exact h
  have z1:=sS 1 2;have z2:=sS 1 3;have z3:=sS 2 3;have t:=DZ (a:=t1 E) (b:=t2 E) (c:=t3 E) (x:=2*Jj E) (y:=2*Jk E) (z:=2*Jl E) (by omega) (by omega) (by omega)
   (by
    have u0:=op1 1 2 1 (by omega) (by omega) (by omega) (by omega) (by omega);have u1:=op1 1 2 (-1) (by omega) (by omega) (by omega) (by omega) (by omega);have u2:=op1 2 1 1 (by omega) (by omega) (by omega) (by omega) (by omega);have u3:=op1 2 1 (-1) (by omega) (by omega) (by omega) (by omega) (by omega);clear key op1 op2 mA mB mC mE mi dg f1;simp[gR,tS]at u0 u1 u2 u3;unfold t1 t2 Jj;generalize sE E=S at*
    clear sS k1 k2 k3 iA iB iC iE hmM stA;generalize S 1 1=p11 at*;generalize S 1 2=p12 at*;generalize S 1 3=p13 at*;generalize S 2 1=p21 at*;generalize S 2 2=p22 at*;generalize S 2 3=p23 at*;generalize S 3 1=p31 at*;generalize S 3 2=p32 at*;generalize S 3 3=p33 at*
    subst z1;subst z2;subst z3;refine⟨⟨?_,?_⟩,?_,?_⟩<;>first|(clear u1 u2 u3;grind)|(clear u0 u2 u3;grind)|(clear u0 u1 u3;grind)|(clear u0 u1 u2;grind))
   (by
    have u0:=op1 1 3 1 (by omega) (by omega) (by omega) (by omega) (by omega);have u1:=op1 1 3 (-1) (by omega) (by omega) (by omega) (by omega) (by omega);have u2:=op1 3 1 1 (by omega) (by omega) (by omega) (by omega) (by omega);have u3:=op1 3 1 (-1) (by omega) (by omega) (by omega) (by omega) (by omega);clear key op1 op2 mA mB mC mE mi dg f1;simp[gR,tS]at u0 u1 u2 u3;unfold t1 t3 Jk;generalize sE E=S at*
    clear sS k1 k2 k3 iA iB iC iE hmM stA;generalize S 1 1=p11 at*;generalize S 1 2=p12 at*;generalize S 1 3=p13 at*;generalize S 2 1=p21 at*;generalize S 2 2=p22 at*;generalize S 2 3=p23 at*;generalize S 3 1=p31 at*;generalize S 3 2=p32 at*;generalize S 3 3=p33 at*
    subst z1;subst z2;subst z3;refine⟨⟨?_,?_⟩,?_,?_⟩<;>first|(clear u1 u2 u3;grind)|(clear u0 u2 u3;grind)|(clear u0 u1 u3;grind)|(clear u0 u1 u2;grind))
   (by
    have u0:=op1 2 3 1 (by omega) (by omega) (by omega) (by omega) (by omega);have u1:=op1 2 3 (-1) (by omega) (by omega) (by omega) (by omega) (by omega);have u2:=op1 3 2 1 (by omega) (by omega) (by omega) (by omega) (by omega);have u3:=op1 3 2 (-1) (by omega) (by omega) (by omega) (by omega) (by omega);clear key op1 op2 mA mB mC mE mi dg f1;simp[gR,tS]at u0 u1 u2 u3;unfold t2 t3 Jl;generalize sE E=S at*
    clear sS k1 k2 k3 iA iB iC iE hmM stA;generalize S 1 1=p11 at*;generalize S 1 2=p12 at*;generalize S 1 3=p13 at*;generalize S 2 1=p21 at*;generalize S 2 2=p22 at*;generalize S 2 3=p23 at*;generalize S 3 1=p31 at*;generalize S 3 2=p32 at*;generalize S 3 3=p33 at*
    subst z1;subst z2;subst z3;refine⟨⟨?_,?_⟩,?_,?_⟩<;>first|(clear u1 u2 u3;grind)|(clear u0 u2 u3;grind)|(clear u0 u1 u3;grind)|(clear u0 u1 u2;grind))
   (by
    rintro s (rfl|rfl|rfl)
    ·have u0:=op2 3 1 2 1 1 (by omega) (by omega) (by omega) (by omega) (by omega) (by omega) (by omega) (by omega);have u1:=op2 3 1 2 1 (-1) (by omega) (by omega) (by omega) (by omega) (by omega) (by omega) (by omega) (by omega);have u2:=op2 3 1 2 (-1) 1 (by omega) (by omega) (by omega) (by omega) (by omega) (by omega) (by omega) (by omega);have u3:=op2 3 1 2 (-1) (-1) (by omega) (by omega) (by omega) (by omega) (by omega) (by omega) (by omega) (by omega);clear key op1 op2 mA mB mC mE mi dg f1;simp[gR,tS]at u0 u1 u2 u3;unfold t1 t2 Jj Jk Jl;generalize sE E=S at*
     clear sS k1 k2 k3 iA iB iC iE hmM stA;generalize S 1 1=p11 at*;generalize S 1 2=p12 at*;generalize S 1 3=p13 at*;generalize S 2 1=p21 at*;generalize S 2 2=p22 at*;generalize S 2 3=p23 at*;generalize S 3 1=p31 at*;generalize S 3 2=p32 at*;generalize S 3 3=p33 at*
     subst z1;subst z2;subst z3;refine⟨?_,?_,?_,?_⟩<;>first|(clear u1 u2 u3;grind)|(clear u0 u2 u3;grind)|(clear u0 u1 u3;grind)|(clear u0 u1 u2;grind)
    ·have u0:=op2 2 1 3 1 1 (by omega) (by omega) (by omega) (by omega) (by omega) (by omega) (by omega) (by omega);have u1:=op2 2 1 3 1 (-1) (by omega) (by omega) (by omega) (by omega) (by omega) (by omega) (by omega) (by omega);have u2:=op2 2 1 3 (-1) 1 (by omega) (by omega) (by omega) (by omega) (by omega) (by omega) (by omega) (by omega);have u3:=op2 2 1 3 (-1) (-1) (by omega) (by omega) (by omega) (by omega) (by omega) (by omega) (by omega) (by omega);clear key op1 op2 mA mB mC mE mi dg f1;simp[gR,tS]at u0 u1 u2 u3;unfold t1 t3 Jj Jk Jl;generalize sE E=S at*
     clear sS k1 k2 k3 iA iB iC iE hmM stA;generalize S 1 1=p11 at*;generalize S 1 2=p12 at*;generalize S 1 3=p13 at*;generalize S 2 1=p21 at*;generalize S 2 2=p22 at*;generalize S 2 3=p23 at*;generalize S 3 1=p31 at*;generalize S 3 2=p32 at*;generalize S 3 3=p33 at*
     subst z1;subst z2;subst z3;refine⟨?_,?_,?_,?_⟩<;>first|(clear u1 u2 u3;grind)|(clear u0 u2 u3;grind)|(clear u0 u1 u3;grind)|(clear u0 u1 u2;grind)
    have u0:=op2 1 2 3 1 1 (by omega) (by omega) (by omega) (by omega) (by omega) (by omega) (by omega) (by omega);have u1:=op2 1 2 3 1 (-1) (by omega) (by omega) (by omega) (by omega) (by omega) (by omega) (by omega) (by omega);have u2:=op2 1 2 3 (-1) 1 (by omega) (by omega) (by omega) (by omega) (by omega) (by omega) (by omega) (by omega);have u3:=op2 1 2 3 (-1) (-1) (by omega) (by omega) (by omega) (by omega) (by omega) (by omega) (by omega) (by omega);clear key op1 op2 mA mB mC mE mi dg f1;simp[gR,tS]at u0 u1 u2 u3;unfold t2 t3 Jj Jk Jl;generalize sE E=S at*
    clear sS k1 k2 k3 iA iB iC iE hmM stA;generalize S 1 1=p11 at*;generalize S 1 2=p12 at*;generalize S 1 3=p13 at*;generalize S 2 1=p21 at*;generalize S 2 2=p22 at*;generalize S 2 3=p23 at*;generalize S 3 1=p31 at*;generalize S 3 2=p32 at*;generalize S 3 3=p33 at*
    subst z1;subst z2;subst z3;refine⟨?_,?_,?_,?_⟩<;>first|(clear u1 u2 u3;grind)|(clear u0 u2 u3;grind)|(clear u0 u1 u3;grind)|(clear u0 u1 u2;grind))
  have e:4*(t1 E*t2 E*t3 E)+2*Jj E*(2*Jk E)*(2*Jl E)-t1 E*(2*Jl E*(2*Jl E))-t2 E*(2*Jk E*(2*Jk E))-t3 E*(2*Jj E*(2*Jj E))=4*m3 (t1 E) (t2 E) (t3 E) (Jj E) (Jk E) (Jl E):=by unfold m3;grind
  rw[e,PE,iE.dt,eE]at t;have c1:C 0 0*D3 A 0 1 2*(C 0 0*D3 A 0 1 2)<=t1 E*t2 E:=Int.mul_le_mul k1 k2 (by omega) (by omega);have c2:C 0 0*D3 A 0 1 2*(C 0 0*D3 A 0 1 2)*(C 0 0*D3 A 0 1 2)<=t1 E*t2 E*t3 E:=Int.mul_le_mul c1 k3 (by omega) (Int.mul_nonneg (by omega) (by omega));have c3:(C 0 0*C 0 0*C 0 0)*(D3 A 0 1 2*D3 A 0 1 2*D3 A 0 1 2)<=(C 0 0*C 0 0*C 0 0)*(2*(C 0 0*(dt*dt))):=by grind
  exact Int.le_of_mul_le_mul_left c3 (Int.mul_pos (Int.mul_pos (by omega) (by omega)) (by omega))
 -- both together
 generalize C 0 0=m at*
 generalize D3 A 0 1 2=M at*
 have c1:=KI (Int.mul_nonneg (Int.mul_nonneg (by omega) (by omega)) (by omega)) stA;have c2:m*((m*m*(m*m))*(m*m*(m*m)))<=m*((4*dt)*(4*dt)):=by grind
 have c3:=Int.le_of_mul_le_mul_left c2 (by omega);have c4:m*m*(m*m)<=4*dt:=by
  refine Int.le_of_not_gt fun h=>?_
  have h1:(4*dt)*(4*dt)<(m*m*(m*m))*(m*m*(m*m)):=Int.mul_lt_mul h (by omega) (by omega) (by omega);omega
 have c5:D*D<=m*m:=Int.mul_le_mul m0 m0 (by omega) (by omega);have c6:D*D*(D*D)<=m*m*(m*m):=Int.mul_le_mul c5 c5 (Int.mul_nonneg (by omega) (by omega)) (Int.mul_nonneg (by omega) (by omega));omega
def gP (f:FF):Nat->Int
 |0=>1
 |k+1=>gP f k*f k k
theorem tX {f:FF} {n:Nat} (hp:PD f n): ∀k,k<=n->0<gP f k
 |0,_=>by show(0:Int)<1;decide
 |k+1,hk=>Int.mul_pos (tX hp k (by omega)) (hp.diag hk)
theorem C6 {f:FF} {n:Nat} (hp:PD f n): ∀k,k<=n->dk f k<=gP f k
 |0,_=>by rw[de,gP];omega
 |k+1,hk=>by
  have ih:=C6 hp k (by omega);have h1:=Af hp (eC k) (N:=f k k) (by rw[show BF n f (eC k) (eC k)=f k k from F6 hk hk];omega) k (by omega);rw[show BF n (bk f k) (eC k) (eC k)=bk f k k k from F6 hk hk]at h1;rw[b8,gP,Int.mul_comm (gP f k)];have h2:f k k*dk f k<=f k k*gP f k:=mz (by have:=hp.diag hk;omega) ih;omega
def J1 (c:Nat->Int) (u:FF) (i j:Nat):Int:=b9 (fun k=>c k*((if i<k then 0 else u k i)*(if j<k then 0 else u k j))) 4
def gp (u:FF) (k:Nat) (X:Nat->Int):Int:=b9 (fun j=>(if j<k then 0 else u k j)*X j) 4
theorem NU (c:Nat->Int) (u:FF) (X:Nat->Int):q4 (J1 c u) (X 0) (X 1) (X 2) (X 3)=b9 (fun k=>c k*(gp u k X*gp u k X)) 4:=by
 simp[q4,J1,gp,b9];grind
theorem NT (c:Nat->Int) (u:FF):d4 (J1 c u)=c 0*c 1*c 2*c 3*((u 0 0*u 1 1*u 2 2*u 3 3)*(u 0 0*u 1 1*u 2 2*u 3 3)):=by
 simp[d4,D3,m3,J1,b9];grind
theorem NV (c:Nat->Int) (u:FF) (a b:Nat):J1 c u a b=J1 c u b a:=by
 unfold J1;exact aS 4 fun k _=>by rw[Int.mul_comm (if a<k then _ else _)]
theorem EI {f : Nat -> Nat -> Int} (hp : PD f 4) (hm : MinkP f 4) : f 0 0 * f 1 1 * f 2 2 * f 3 3 <= 4 * dk f 4 := by
  have p1 := hp.2 0 (by omega); have p2 := hp.2 1 (by omega); have p3 := hp.2 2 (by omega); have p4 := hp.2 3 (by omega)
  have l0 := hp.diag (i := 0) (by omega); have l1 := hp.diag (i := 1) (by omega); have l2 := hp.diag (i := 2) (by omega); have l3 := hp.diag (i := 3) (by omega)
  have ne : ∀ t, t < 4 -> dk f (t + 1) ≠ 0 := fun t ht => by have := hp.2 t ht; omega
  simp only [Nat.zero_add, aa] at p1 p2 p3 p4
  -- the rows of the stages
  have wD : ∀ k j, k < 4 -> j < k -> bk f k k j = 0 := fun k j hk hj => by rw [jU hp.1 k (by omega) (fun t ht => ne t (by omega)) k j hk (by omega)]; exact iQ f hj k
  have li : ∀ k X, k < 4 -> b9 (fun j => bk f k k j * X j) 4 = gp (fun k j => bk f k k j) k X := fun k X hk => aS 4 fun j _ => by
    split
    · rename_i h; rw [wD k j hk h]
    · rfl
  have dg : ∀ k, bk f k k k = dk f (k + 1) := fun k => rfl
  have ky : ∀ k X, k < 4 -> dk f k * BF 4 (bk f (k + 1)) X X = dk f (k + 1) * BF 4 (bk f k) X X - gp (fun k j => bk f k k j) k X * gp (fun k j => bk f k k j) k X := fun k X hk => by
    rw [<- li k X hk]; exact wv hp.1 hp.2 X hk
  have q0 : ∀ X, BF 4 (bk f 0) X X = nrm 4 f X := fun X => dx (fun i j _ _ => dr f i j) (fun _ _ => rfl) (fun _ _ => rfl)
  have qe : ∀ X, BF 4 (bk f 4) X X = 0 := fun X => by
    rw [dx (f' := fun _ _ => 0) (fun i j hi _ => iQ f hi j) (fun _ _ => rfl) (fun _ _ => rfl)];simp [BF, b9]
  have ord : f 0 0 <= f 1 1 /\ f 1 1 <= f 2 2 /\ f 2 2 <= f 3 3 := ⟨(hm.1 0 (by omega)).1, (hm.1 1 (by omega)).1, (hm.1 2 (by omega)).1⟩;have top0 : ∀ X : Nat -> Int, X 0 ≠ 0 -> (∀ j, 0 < j -> j < 4 -> X j = 0) -> f 0 0 <= nrm 4 f X := fun X h1 h2 => pj hp hm (by omega) (by omega) h1 h2
  have top1 : ∀ X : Nat -> Int, X 1 ≠ 0 -> (∀ j, 1 < j -> j < 4 -> X j = 0) -> f 1 1 <= nrm 4 f X := fun X h1 h2 => pj hp hm (by omega) (by omega) h1 h2
  have top2 : ∀ X : Nat -> Int, X 2 ≠ 0 -> (∀ j, 2 < j -> j < 4 -> X j = 0) -> f 2 2 <= nrm 4 f X := fun X h1 h2 => pj hp hm (by omega) (by omega) h1 h2
  have top3 : ∀ X : Nat -> Int, X 3 ≠ 0 -> (∀ j, 3 < j -> j < 4 -> X j = 0) -> f 3 3 <= nrm 4 f X := fun X h1 h2 => pj hp hm (by omega) (by omega) h1 h2
  have liz : ∀ X k m, k < m -> (∀ j, k < j -> j < 4 -> X j = 0) -> gp (fun k j => bk f k k j) m X = 0 := fun X k m hm h => by
    unfold gp;rw [aS 4 (G := fun _ => 0) fun j hj => ?_]
    · simp [b9]
    · by_cases e : j < m
      · rw [if_pos e, Int.zero_mul]
      · rw [h j (by omega) hj, Int.mul_zero]
  have du : (fun k j => bk f k k j) 0 0 * (fun k j => bk f k k j) 1 1 * (fun k j => bk f k k j) 2 2 * (fun k j => bk f k k j) 3 3 = dk f 1 * dk f 2 * dk f 3 * dk f 4 := rfl;have d0 : dk f 0 = 1 := de f;have k0 := fun X => ky 0 X (by omega); have k1 := fun X => ky 1 X (by omega); have k2 := fun X => ky 2 X (by omega); have k3 := fun X => ky 3 X (by omega)
  simp only [Nat.zero_add, aa, q0, qe, d0, Int.one_mul, Int.mul_zero] at k0 k1 k2 k3;generalize hu : (fun k j => bk f k k j) = u at *
  generalize dk f 1 = d1 at *
  generalize dk f 2 = d2 at *
  generalize dk f 3 = d3 at *
  generalize dk f 4 = e4 at *
  generalize f 0 0 = a at *
  generalize f 1 1 = b at *
  generalize f 2 2 = c at *
  generalize f 3 3 = d at *
  -- the value of f with a common denominator
  have val : ∀ X, nrm 4 f X * (d1 * (d1 * d2) * (d2 * d3) * (d3 * e4)) = gp u 0 X * gp u 0 X * ((d1 * d2) * (d2 * d3) * (d3 * e4)) + gp u 1 X * gp u 1 X * (d1 * (d2 * d3) * (d3 * e4)) + gp u 2 X * gp u 2 X * (d1 * (d1 * d2) * (d3 * e4)) + gp u 3 X * gp u 3 X * (d1 * (d1 * d2) * (d2 * d3)) := fun X => by
    have e0 := k0 X; have e1 := k1 X; have e2 := k2 X; have e3 := k3 X
    generalize BF 4 (bk f 1) X X = B1 at *
    generalize BF 4 (bk f 2) X X = B2 at *
    generalize BF 4 (bk f 3) X X = B3 at *
    generalize nrm 4 f X = q at *
    generalize gp u 0 X = L0 at *
    generalize gp u 1 X = L1 at *
    generalize gp u 2 X = L2 at *
    generalize gp u 3 X = L3 at *
    have e0' : d1 * q = B1 + L0 * L0 := by omega
    have e1' : d2 * B1 = d1 * B2 + L1 * L1 := by omega
    have e2' : d3 * B2 = d2 * B3 + L2 * L2 := by omega
    have e3' : e4 * B3 = L3 * L3 := by omega
    calc q * (d1 * (d1 * d2) * (d2 * d3) * (d3 * e4)) = (d1 * q) * (d1 * d2 * (d2 * d3) * (d3 * e4)) := by grind
      _ = (d2 * B1) * (d1 * (d2 * d3) * (d3 * e4)) + L0 * L0 * ((d1 * d2) * (d2 * d3) * (d3 * e4)) := by rw [e0']; grind
      _ = (d3 * B2) * (d1 * (d1 * d2) * (d3 * e4)) + L1 * L1 * (d1 * (d2 * d3) * (d3 * e4)) + L0 * L0 * ((d1 * d2) * (d2 * d3) * (d3 * e4)) := by rw [e1']; grind
      _ = (e4 * B3) * (d1 * (d1 * d2) * (d2 * d3)) + L2 * L2 * (d1 * (d1 * d2) * (d3 * e4)) + L1 * L1 * (d1 * (d2 * d3) * (d3 * e4)) + L0 * L0 * ((d1 * d2) * (d2 * d3) * (d3 * e4)) := by rw [e2']; grind
      _ = _ := by rw [e3']; grind
  have W0 : 0 < d1 * a := Int.mul_pos p1 l0;have W1 : 0 < d1 * d2 * b := Int.mul_pos (Int.mul_pos p1 p2) l1;have W2 : 0 < d2 * d3 * c := Int.mul_pos (Int.mul_pos p2 p3) l2;have W3 : 0 < d3 * e4 * d := Int.mul_pos (Int.mul_pos p3 p4) l3;have sq : ∀ x : Int, 0 <= x * x := fun x => by
    rcases Int.le_total 0 x with h | h
    · exact Int.mul_nonneg h h
    · exact Int.mul_nonneg_of_nonpos_of_nonpos h h
  let cc : Nat -> Int := fun k => if k = 0 then (d1 * d2 * b) * (d2 * d3 * c) * (d3 * e4 * d) else if k = 1 then (d1 * a) * (d2 * d3 * c) * (d3 * e4 * d) else if k = 2 then (d1 * a) * (d1 * d2 * b) * (d3 * e4 * d) else (d1 * a) * (d1 * d2 * b) * (d2 * d3 * c)
  have hcl : Mx ((d1 * a) * (d1 * d2 * b) * (d2 * d3 * c) * (d3 * e4 * d)) (d4 (J1 cc u)) (J1 cc u) := by
    refine ⟨NV cc u, rfl, fun X hX => ?_⟩;rw [NU];have s0 := sq (gp u 0 X); have s1 := sq (gp u 1 X); have s2 := sq (gp u 2 X); have s3 := sq (gp u 3 X)
    have hv := val X;have fin : ∀ lam, 0 < lam -> lam <= nrm 4 f X -> (a <= lam \/ gp u 0 X = 0) -> (b <= lam \/ gp u 1 X = 0) -> (c <= lam \/ gp u 2 X = 0) -> (d <= lam \/ gp u 3 X = 0) ->
        (d1 * a) * (d1 * d2 * b) * (d2 * d3 * c) * (d3 * e4 * d) <= b9 (fun k => cc k * (gp u k X * gp u k X)) 4 := fun lam hl hq h0 h1 h2 h3 => by
      have st : ∀ (x y z P : Int), 0 <= z -> 0 <= P * P -> (x <= y \/ P = 0) -> x * (z * (P * P)) <= y * (z * (P * P)) := fun x y z P hz hP h => by
        rcases h with h | h
        · exact Int.mul_le_mul_of_nonneg_right h (Int.mul_nonneg hz hP)
        · rw [h]; simp
      have g0 := st a lam ((d1 * d2 * b) * (d2 * d3 * c) * (d3 * e4 * d)) (gp u 0 X) (Int.le_of_lt (Int.mul_pos (Int.mul_pos W1 W2) W3)) s0 h0;have g1 := st b lam ((d1 * a) * (d2 * d3 * c) * (d3 * e4 * d)) (gp u 1 X) (Int.le_of_lt (Int.mul_pos (Int.mul_pos W0 W2) W3)) s1 h1;have g2 := st c lam ((d1 * a) * (d1 * d2 * b) * (d3 * e4 * d)) (gp u 2 X) (Int.le_of_lt (Int.mul_pos (Int.mul_pos W0 W1) W3)) s2 h2;have g3 := st d lam ((d1 * a) * (d1 * d2 * b) * (d2 * d3 * c)) (gp u 3 X) (Int.le_of_lt (Int.mul_pos (Int.mul_pos W0 W1) W2)) s3 h3;have gq := mz (Int.le_of_lt (Int.mul_pos (Int.mul_pos (Int.mul_pos W0 W1) W2) W3)) hq;have hS : b9 (fun k => cc k * (gp u k X * gp u k X)) 4 = (d1 * d2 * b) * (d2 * d3 * c) * (d3 * e4 * d) * (gp u 0 X * gp u 0 X) + (d1 * a) * (d2 * d3 * c) * (d3 * e4 * d) * (gp u 1 X * gp u 1 X) + (d1 * a) * (d1 * d2 * b) * (d3 * e4 * d) * (gp u 2 X * gp u 2 X) + (d1 * a) * (d1 * d2 * b) * (d2 * d3 * c) * (gp u 3 X * gp u 3 X) := by
        simp [b9, cc]
      rw [hS];have hv2 : (d1 * a) * (d1 * d2 * b) * (d2 * d3 * c) * (d3 * e4 * d) * nrm 4 f X = a * ((d1 * d2 * b) * (d2 * d3 * c) * (d3 * e4 * d) * (gp u 0 X * gp u 0 X)) + b * ((d1 * a) * (d2 * d3 * c) * (d3 * e4 * d) * (gp u 1 X * gp u 1 X)) + c * ((d1 * a) * (d1 * d2 * b) * (d3 * e4 * d) * (gp u 2 X * gp u 2 X)) + d * ((d1 * a) * (d1 * d2 * b) * (d2 * d3 * c) * (gp u 3 X * gp u 3 X)) := by
        calc _ = (a * b * c * d) * (nrm 4 f X * (d1 * (d1 * d2) * (d2 * d3) * (d3 * e4))) := by grind
          _ = _ := by rw [hv]; grind
      refine Int.le_of_mul_le_mul_left (a := lam) ?_ hl;rw [hv2] at gq;generalize (d1 * d2 * b) * (d2 * d3 * c) * (d3 * e4 * d) * (gp u 0 X * gp u 0 X) = P0 at *
      generalize (d1 * a) * (d2 * d3 * c) * (d3 * e4 * d) * (gp u 1 X * gp u 1 X) = P1 at *
      generalize (d1 * a) * (d1 * d2 * b) * (d3 * e4 * d) * (gp u 2 X * gp u 2 X) = P2 at *
      generalize (d1 * a) * (d1 * d2 * b) * (d2 * d3 * c) * (gp u 3 X * gp u 3 X) = P3 at *
      rw [Int.mul_comm lam, Int.mul_add, Int.mul_add, Int.mul_add];omega
    by_cases h3 : X 3 = 0
    · by_cases h2 : X 2 = 0
      · by_cases h1 : X 1 = 0
        · have h0 : X 0 ≠ 0 := by
            obtain ⟨i, hi, hX⟩ := hX;rcases Ds hi with rfl | rfl | rfl | rfl
            · exact hX
            · exact absurd h1 hX
            · exact absurd h2 hX
            · exact absurd h3 hX
          have z : ∀ j, 0 < j -> j < 4 -> X j = 0 := fun j h4 h5 => by
            rcases Ds h5 with rfl | rfl | rfl | rfl
            · omega
            · exact h1
            · exact h2
            · exact h3
          exact fin a l0 (top0 X h0 z) (.inl (by omega)) (.inr (liz X 0 1 (by omega) z)) (.inr (liz X 0 2 (by omega) z)) (.inr (liz X 0 3 (by omega) z))
        · have z : ∀ j, 1 < j -> j < 4 -> X j = 0 := fun j h4 h5 => by
            rcases Ds h5 with rfl | rfl | rfl | rfl
            · omega
            · omega
            · exact h2
            · exact h3
          exact fin b l1 (top1 X h1 z) (.inl (by omega)) (.inl (by omega)) (.inr (liz X 1 2 (by omega) z)) (.inr (liz X 1 3 (by omega) z))
      · have z : ∀ j, 2 < j -> j < 4 -> X j = 0 := fun j h4 h5 => by
          have : j = 3 := by omega
          rw [this]; exact h3
        exact fin c l2 (top2 X h2 z) (.inl (by omega)) (.inl (by omega)) (.inl (by omega)) (.inr (liz X 2 3 (by omega) z))
    · exact fin d l3 (top3 X h3 (fun j h4 h5 => by omega)) (.inl (by omega)) (.inl (by omega)) (.inl (by omega)) (.inl (by omega))
  have hd4 : d4 (J1 cc u) = ((d1 * a) * (d1 * d2 * b) * (d2 * d3 * c) * (d3 * e4 * d)) * ((d1 * a) * (d1 * d2 * b) * (d2 * d3 * c) * (d3 * e4 * d)) * ((d1 * a) * (d1 * d2 * b) * (d2 * d3 * c) * (d3 * e4 * d)) * ((d1 * d2 * d3 * e4) * (d1 * d2 * d3 * e4)) := by
    rw [NT, du];simp [cc]; grind
  have hD := Int.mul_pos (Int.mul_pos (Int.mul_pos W0 W1) W2) W3;have hE := Int.mul_pos (Int.mul_pos (Int.mul_pos p1 p2) p3) p4;have hh := Pn hcl hD (by rw [hd4]; exact Int.mul_pos (Int.mul_pos (Int.mul_pos hD hD) hD) (Int.mul_pos hE hE));rw [hd4] at hh;have hD3 := Int.mul_pos (Int.mul_pos hD hD) hD;have hK : 0 < d1 * d2 * d3 * (d1 * d2 * d3) * e4 := Int.mul_pos (Int.mul_pos (Int.mul_pos (Int.mul_pos p1 p2) p3) (Int.mul_pos (Int.mul_pos p1 p2) p3)) p4;have e1 : (d1 * a) * (d1 * d2 * b) * (d2 * d3 * c) * (d3 * e4 * d) = (d1 * d2 * d3 * (d1 * d2 * d3) * e4) * (a * b * c * d) := by grind
  have e2 : (d1 * d2 * d3 * e4) * (d1 * d2 * d3 * e4) = (d1 * d2 * d3 * (d1 * d2 * d3) * e4) * e4 := by grind
  rw [e2] at hh;generalize hDD : (d1 * a) * (d1 * d2 * b) * (d2 * d3 * c) * (d3 * e4 * d) = DD at *
  have h1 : DD * DD * DD * DD <= DD * DD * DD * (4 * ((d1 * d2 * d3 * (d1 * d2 * d3) * e4) * e4)) := by grind
  have h2 := Int.le_of_mul_le_mul_left h1 hD3;rw [e1] at h2;have h3 : (d1 * d2 * d3 * (d1 * d2 * d3) * e4) * (a * b * c * d) <= (d1 * d2 * d3 * (d1 * d2 * d3) * e4) * (4 * e4) := by grind
  exact Int.le_of_mul_le_mul_left h3 hK
theorem GZ (f:FF) (hs:SymF f 3):dk f 3=D3 f 0 1 2:=by
 have s1:=hs 0 (by omega) 1 (by omega);have s2:=hs 0 (by omega) 2 (by omega);have s3:=hs 1 (by omega) 2 (by omega)
 simp[dk,om,dn,jV,D3,m3];grind
theorem Cp {f:FF} (hp:PD f 3) (hm:MinkP f 3):f 0 0*f 1 1*f 2 2<=2*dk f 3:=by
 have l0:=hp.diag (i:=0) (by omega);have l1:=hp.diag (i:=1) (by omega);have l2:=hp.diag (i:=2) (by omega)
 have o1:=(hm.1 0 (by omega)).1;have o2:=(hm.1 1 (by omega)).1
 have s1:=hp.1 0 (by omega) 1 (by omega);have s2:=hp.1 0 (by omega) 2 (by omega);have s3:=hp.1 1 (by omega) 2 (by omega)
 have m1:=jo hp.1 hm (i:=0) (j:=1) (by omega) (by omega);have m2:=jo hp.1 hm (i:=0) (j:=2) (by omega) (by omega);have m3':=jo hp.1 hm (i:=1) (j:=2) (by omega) (by omega);have cand: ∀e d:Int,(e=1\/e= -1)->(d=1\/d= -1)->0<=f 0 0+f 1 1+e*d*(2*f 0 1)+e*(2*f 0 2)+d*(2*f 1 2):=fun e d he hd=>by
  have:=qt hm (i:=2) (by omega) (x:=fun j=>if j=0 then e else if j=1 then d else if j=2 then 1 else 0)
   (fun j hj=>by have:j=0\/j=1:=(by omega);rcases this with rfl|rfl<;>simp<;>omega) (by simp) (fun j h1 h2=>by omega)
  simp[nrm,BF,b9]at this;rcases he with rfl|rfl<;>rcases hd with rfl|rfl<;>omega
 have c1:=cand 1 1 (.inl rfl) (.inl rfl);have c2:=cand 1 (-1) (.inl rfl) (.inr rfl);have c3:=cand (-1) 1 (.inr rfl) (.inl rfl);have c4:=cand (-1) (-1) (.inr rfl) (.inr rfl)
 have:=iT (a:=f 0 0) (b:=f 1 1) (c:=f 2 2) (R:=2*f 1 2) (S:=2*f 0 2) (T:=2*f 0 1) l0 o1 o2 m1 m2 m3' (by omega) (by omega) (by omega) (by omega);rw[GZ f hp.1];unfold D3 m3;grind
theorem Jw {f:FF} (hp:PD f 2) (hm:MinkP f 2):3*(f 0 0*f 1 1)<=4*dk f 2:=by
 have l0:=hp.diag (i:=0) (by omega);have o1:=(hm.1 0 (by omega)).1;have s1:=hp.1 0 (by omega) 1 (by omega);have m1:=jo hp.1 hm (i:=0) (j:=1) (by omega) (by omega);rw[NM,<- s1];have h1:(2*f 0 1)*(2*f 0 1)<=f 0 0*f 0 0:=by
  rcases Int.le_total 0 (f 0 1)with h|h
  ·exact Int.mul_le_mul m1.2 m1.2 (by omega) (by omega)
  have:(-(2*f 0 1))*(-(2*f 0 1))<=f 0 0*f 0 0:=Int.mul_le_mul (by omega) (by omega) (by omega) (by omega);grind
 have h2:=mz (by omega:0<=f 0 0) o1;grind
def BT (n:Nat):Int:=[1,4,2,4].getD (n-1) 0
def Cz (n:Nat):Int:=[1,3,1,1].getD (n-1) 0
theorem zJ {n:Nat} {f:FF} (hn1:1<=n) (hn:n<=4) (hp:PD f n) (hm:MinkP f n):dk f n<=gP f n/\Cz n*gP f n<=BT n*dk f n:=by
 refine⟨C6 hp n (af n),?_⟩;have:n=1\/n=2\/n=3\/n=4:=by omega
 rcases this with rfl|rfl|rfl|rfl
 ·simp[Cz,BT,gP,dk,om,dn,jV]
 ·have:=Jw hp hm;simp[Cz,BT,gP];exact this
 ·have:=Cp hp hm;simp[Cz,BT,gP];exact this
 have:=EI hp hm;simp[Cz,BT,gP];exact this
end Go.Proofs.YtiollbhgpiiodaaGreatDoor
