/-
  Part 25 of a proof (walks and plain facts).
-/
import Derived.Test.YtfgeomlagfomgaaGreatDoorP23
set_option linter.all false
set_option maxRecDepth 100000
set_option maxHeartbeats 64000000
open Nat renaming reduceAdd → aa
open List renaming replicate → ae
open Nat renaming reduceBEq → af
open Nat renaming reduceLeDiff → ah
namespace Go.Proofs.YtfgeomlagfomgaaGreatDoor
open Go.RowKit
theorem DS (n:Nat) (hn1:1<=n) (hn:n<=4):CallC Tryz.prog 41 [.raw (.int .i64 (n:Int))] ⟨mxI 0 n n idF,.one (.sl 0 0 0 n)⟩:=by
 refine aI Tryz.func41 rfl (by kernel_rfl) ?_;rw[Tryz.ntmps41];refine aD fun _ K=>?_;simp only[kd,ae];apply K
 refine aD fun _ K=>?_;simp(disch:=omega) only[kd,jD,aa];apply K
 refine aF (aD fun _ K=>?_);simp only[kd,aa];apply K;refine aX (G:=jA n) (fun g=>⟨(.raw (.int .i64 (n:Int))::jk::jk::.one (.sl 6 0 0 n)::j4 (.raw (.int .i64 (n:Int))::rN g.i::j4 (j4 (j4 (jk::jk::jk::[]))))),Hm [(6,kI 6 n n g.i (p8 g.i))]⟩) (fun g=>n-g.i) ⟨0,by omega⟩ ?_ ?_
 ·refine aE ⟨?_,trivial⟩ ?_
  ·show[_]=_;simp[kI,gh,mat]
  simp[wk]
 rintro⟨i,hi⟩;simp only;by_cases hm:i<n
 ·have k1:=qw (i:=i) (n:=n) 6 n hm;have k2:=jo (i:=i) (n:=n) 6 n hi;have k3:=bf i n (p8 i);have k4:=np (i:=i) (n:=n) (c:=n) 6 (p8 i) hm (fun j hj=>by unfold p8;rw[if_neg (by omega)]);have k5:=qv (i:=i+1) (k:=i) (n:=n) 6 n (by omega);have k6:=jo (i:=i+1) (n:=n) 6 n (by omega);have k7:=cd (n:=i+1) n (p8 i) (i:=i) (by omega);have k8:=aT (p8 i i) hm;refine aD fun _ K=>?_;simp(disch:=omega) only[kd,jD];apply K
  refine bx rfl ?_;refine aF (aK ?_);refine aD fun _ K=>?_;simp only[kd];apply K
  refine aD fun _ K=>?_;simp(disch:=omega) only[kd,jD,aa,Nat.reduceEqDiff,k1,ah,List.length_replicate,List.all_replicate,k3,k4,af];apply K
  refine bo.weak (aE (tm:=(.raw (.int .i64 (n:Int))::jk::jk::.one (.sl 6 0 0 n)::rN i::jk::jk::jk::rN n::rN i::j4 (j4 (j4 (jk::jk::jk::[]))))) (l:=[(6,kI 6 n n (i+1) (p8 i))]) ⟨?_,trivial⟩ (by simp[wk])) ?_
  ·first|exact k4|rfl
  refine aL fun _ K=>?_;simp(disch:=omega) only[kd,jD,aa,k5,k7,k8,dK];apply K
  show bo _ _ _ _;refine aL fun _ K=>?_;simp(disch:=omega) only[kd,jD,aO];apply K
  refine⟨⟨i+1,by omega⟩,by simp only;omega,aE ⟨?_,trivial⟩ ?_⟩
  ·show _::_=_::_;rw[ch fun x y _ _=>ud i x y]
  simp[wk]
 have hin:i=n:=by omega
 subst hin;refine aD fun _ K=>?_;simp(disch:=omega) only[kd,jD];apply K
 refine bG rfl ?_;show bo _ _ _ _;have e:kI 6 i i i (p8 i)=mxI 6 i i idF:=by
  rw[oA];show _::_=_::_;rw[ch fun x y hx _=>xO x y hx]
 rw[e];refine aD fun _ K=>?_;simp only[kd];apply K
 refine aH ⟨.inr rfl,_,ca.refl _,?_⟩;refine⟨.one (.sl 6 0 0 i),6,?_,rfl,?_,rfl⟩
 ·simp(disch:=omega) only[kd,jD,Tryz.results41]
 exact(bU 6 0 _ _ _).symm
abbrev QD (n:Nat) (o:qY):TV:= .tup [(false,[.p (.sl (ls (fR fI) (mat n n (opU o))))]),(false,[.p (.raw (.bool true))])]
abbrev QC:TV:= .tup [(false,[.p (.sl [])]),(false,[.p (.raw (.bool false))])]
def OG (n:Nat):Option qY->TV
 |some o=>QD n o
 |none=>QC
structure Qf (n:Nat) (f:FF) where
 i:Nat
 hi:i<=n
 ok:scanR n f n 0=scanR n f (n-i) i
def Cc (i c k:Nat):Nat->Nat->Int:=fun a b=>if b=i/\a<k then cnd i c a else idF a b
theorem I9 (i c:Nat):Cc i c 0=idF:=by funext a b;unfold Cc;rw[if_neg (by omega)]
theorem I7 (i c k a b:Nat):upd (Cc i c k) k i (cnd i c k) a b=Cc i c (k+1) a b:=by
 unfold upd Cc;by_cases h1:a=k
 ·subst h1;by_cases h2:b=i
  ·subst h2;simp
  simp[h2]
 by_cases h2:b=i
 ·have:a<k+1↔a<k:=by omega
  simp[h1,h2,this]
 simp[h1,h2]
theorem L6 {i c n a b:Nat} (ha:a<n):Cc i c n a b=opU (.rep i c) a b:=by
 unfold Cc opU cT;by_cases h:b=i
 ·simp[h,ha]
 simp[h]
theorem OO (k a b:Nat):swp (k+1) k idF a b=opU (.swp (k+1)) a b:=by
 show _=if b=k+1 then idF a (k+1-1)else if b=k+1-1 then idF a (k+1)else idF a b
 rw[Nat.add_sub_cancel];by_cases h1:a=k+1
 ·subst h1;by_cases h3:b=k+1
  ·subst h3;simp[swp,idF]
  by_cases h4:b=k
  ·subst h4;simp[swp,idF]
  have: ¬k=b:=fun e=>h4 e.symm
  have: ¬k+1=b:=fun e=>h3 e.symm
  simp[swp,idF, *]
 by_cases h2:a=k
 ·subst h2;by_cases h3:b=a+1
  ·subst h3;simp[swp,idF]
  by_cases h4:b=a
  ·subst h4;simp[swp,idF]
  have: ¬a=b:=fun e=>h4 e.symm
  have: ¬a+1=b:=fun e=>h3 e.symm
  simp[swp,idF, *]
 by_cases h3:b=k+1
 ·subst h3;simp[swp,idF,h1,h2]
 by_cases h4:b=k
 ·subst h4;simp[swp,idF,h1,h2]
 simp[swp,idF, *]
theorem Oc (i a b:Nat):upd idF i i (-1) a b=opU (.neg i) a b:=by
 unfold upd opU cT idF;by_cases h1:a=i
 ·subst h1;by_cases h2:b=a
  ·subst h2;simp
  simp[h2]
 by_cases h2:b=i
 ·subst h2;simp[h1]
 simp[h1,h2]
theorem LV (n:Nat) (f:FF) (hn1:1<=n) (hn:n<=4) (hf: ∀i j,i<n->j<n-> -1125899906842624<=f i j/\f i j<=1125899906842624):
  CallC Tryz.prog 42 [slI (mat n n f)] ⟨[],OG n (scanR n f n 0)⟩:=by
 have hml:=bf n n f;have hU:=DS n hn1 hn;refine aI Tryz.func42 rfl (by kernel_rfl) ?_;rw[Tryz.ntmps42];refine aD fun _ K=>?_;simp only[kd,slI,ae];apply K
 refine aG [⟨2,_,_,_,hU⟩] [] fun _ K=>?_;simp only[kd,aa,hml];apply K
 refine bo.weak (aE (tm:=(slI (mat n n f)::jk::jk::jk::.one (.sl 10 0 0 n)::j16 (j16 (j16 (j16 (j16 (j4 (j4 (j4 ([])))))))))) (l:=[(10,mxI 10 n n idF)]) ⟨bU 0 10 _ _ _,trivial⟩ (by simp[wk])) ?_;refine aF (aD fun _ K=>?_);simp only[kd,aa,slI,hml];apply K;refine aX (G:=Qf n f) (fun g=>⟨(slI (mat n n f)::jk::jk::jk::.one (.sl 10 0 0 n)::j4 (jk::jk::jk::rN n::rN g.i::j16 (j16 (j16 (j16 (j16 (jk::jk::jk::[]))))))),Hm [(10,mxI 10 n n idF)]⟩) (fun g=>n-g.i) ⟨0,by omega,rfl⟩ ?_ ?_
 ·refine aE ⟨rfl,trivial⟩ ?_;simp[wk]
 rintro⟨i,hi,ok⟩;simp only;by_cases hm:i<n
 ·obtain⟨m,hnm⟩: ∃m,n-i=m+1:=⟨n-i-1,by omega⟩;rw[hnm,scanR]at ok;have cS:=um n f i hm hn hf;have keyS: ∀z:TV,qL n f i=z->CallC Tryz.prog 39 [slI (mat n n f),.raw (.int .i64 (i:Int))] ⟨[],z⟩:=fun z hz=>hz▸cS
  have m2:=bv n f hm;have q2:=aT (f i) hm;by_cases hsw:0<i/\f i i<f (i-1) (i-1)
  ·rw[if_pos hsw]at ok;obtain⟨k,rfl⟩: ∃k,i=k+1:=⟨i-1,by omega⟩;have hlt:=hsw.2;rw[Nat.add_sub_cancel]at hlt;have gt:(0:Int)<((k+1:Nat):Int):=by omega
   have e0:IntKind.i64.wrap (((k+1:Nat):Int)-1)=(k:Int):=by rw[show((k+1:Nat):Int)-1=(k:Int) by omega];exact aO (by omega) (by omega)
   have m1:=bv n f (show k<n by omega);have q1:=aT (f k) (show k<n by omega);have g1:=bK (n:=n) (i:=k+1) 10 n (by omega);have g2:=bK (n:=n) (i:=k) 10 n (by omega);have g4:((gh 10 (ae n n)).set (k+1) [.sl 10 (k+1) 0 n])[k]?=some [.sl 10 (k+1) 0 n]:=by
    rw[List.getElem?_set_ne (by omega),g2]
   have hsw':=zD (d:=10) idF (show k+1<n by omega) (show k<n by omega) (by omega);rw[ok];show bo _ _ _ _;have eU:mat n n (swp (k+1) k idF)=mat n n (opU (.swp (k+1))):=dE fun a b _ _=>OO k a b
   refine aD fun _ K=>?_;simp(disch:=omega) only[kd,jD,slI];apply K
   refine bx rfl ?_;refine aF (aK ?_);refine aD fun _ K=>?_;simp only[kd];apply K
   refine aF (cx be (by kernel_rfl) fun _ K=>?_);simp(disch:=omega) only[kd,jD,aa,gt,m2,fR,q2,e0,m1,q1,hlt];apply K;refine aU rfl ?_;refine cx be (by kernel_rfl) fun _ K=>?_;simp(disch:=omega) only[kd,jD,aa,e0,g2,g1,g4,ah,reduceCtorEq];apply K
   refine bo.weak ((oW 10 (k+1+1) (k+1) (mxI 10 n n (swp (k+1) k idF)) hsw').trans (aE (tm:=(j4 (.one (.sl 10 0 0 n)::j16 (j16 (j16 (j16 (j16 (j4 (j4 (j4 ([]))))))))))) (l:=[(10,mxI 10 n n (swp (k+1) k idF))]) ⟨rfl,trivial⟩ (by simp[wk,Ct,jw,nZ,sw]))) ?_;refine bo.weak ((bH 10 (cu (d:=10) (n:=n) (c:=n) (f:=swp (k+1) k idF) rfl)).trans (aE (tm:=(j4 (slI (mat n n (opU (.swp (k+1))))::j16 (j16 (j16 (j16 (j16 (j4 (j4 (j4 ([]))))))))))) (l:=[]) trivial (by
    simp[wk];rw[<- eU];exact(iH (H:=Hm [(10,mxI 10 n n (swp (k+1) k idF))]) (d:=10) (n:=n) (c:=n) (f:=swp (k+1) k idF) rfl).symm))) ?_
   refine aD fun _ K=>?_;simp only[kd,aa,slI];apply K
   (refine aH ⟨.inr rfl,aJ rfl ?_ rfl⟩;simp(disch:=omega) only[kd,jD,Tryz.results42,OG])
  rw[if_neg hsw]at ok;refine aD fun _ K=>?_;simp(disch:=omega) only[kd,jD,slI];apply K
  refine bx rfl ?_;refine aF (aK ?_);refine aD fun _ K=>?_;simp only[kd];apply K
  refine aF (kP (S:=⟨(slI (mat n n f)::jk::jk::jk::.one (.sl 10 0 0 n)::rN i::j4 (jk::jk::rN n::rN i::j16 (j16 (j16 (j16 (j16 (jk::jk::jk::[]))))))),Hm [(10,mxI 10 n n idF)]⟩) ?_ ?_)
  ·cases i with
   |zero=>
    refine cx be (by kernel_rfl) fun _ K=>?_;simp(disch:=omega) only[kd,jD,aa];apply K
    refine aQ rfl (aM (aE ⟨rfl,trivial⟩ ?_));simp[wk]
   |succ k=>
    have hlt: ¬f (k+1) (k+1)<f k k:=fun h=>hsw ⟨by omega,by rw[Nat.add_sub_cancel];exact h⟩
    have gt:(0:Int)<((k+1:Nat):Int):=by omega
    have e0:IntKind.i64.wrap (((k+1:Nat):Int)-1)=(k:Int):=by rw[show((k+1:Nat):Int)-1=(k:Int) by omega];exact aO (by omega) (by omega)
    have m1:=bv n f (show k<n by omega);have q1:=aT (f k) (show k<n by omega);refine cx be (by kernel_rfl) fun _ K=>?_;simp(disch:=omega) only[kd,jD,aa,gt,m2,fR,q2,e0,m1,q1,hlt];apply K
    refine aQ rfl (aM (aE ⟨rfl,trivial⟩ ?_));simp[wk]
  have g1:=bK (n:=n) (i:=i) 10 n hm;cases hF:lh n f i with
  |some c=>
   rw[hF]at ok;have cS:=keyS (.one (.p (.sl (ls fI (bA n (cnd i c)))))) (by unfold qL;rw[hF]);obtain⟨y,l,hyl⟩: ∃y l,ls fI (bA n (cnd i c))=y::l:=by
    cases hq:ls fI (bA n (cnd i c))with
    |nil=>have:=congrArg List.length hq;rw[eH,bs]at this;simp at this;omega
    |cons y l=>exact⟨y,l,rfl⟩
   rw[hyl]at cS;rw[ok];show bo _ _ _ _;refine aF (aG [⟨2,_,_,_,cS⟩] [] fun _ K=>?_);simp only[kd,slI,aa];apply K;refine aD fun _ K=>?_;simp only[kd];apply K
   refine aU rfl ?_;refine bo.weak (aE (tm:=(slI (mat n n f)::jk::jk::jk::.one (.sl 10 0 0 n)::rN i::iP (bA n (cnd i c))::j16 (j16 (j16 (j16 (j16 (j4 (j4 (jk::jk::[]))))))))) (l:=[(10,mxI 10 n n idF)]) ⟨rfl,trivial⟩ (by simp[wk,iP,hyl])) ?_;refine aF (aD fun _ K=>?_);simp only[kd,aa,slI,iP,bs];apply K;refine aX (G:=jA n) (fun g=>⟨(slI (mat n n f)::jk::jk::jk::.one (.sl 10 0 0 n)::rN i::iP (bA n (cnd i c))::j16 (j16 (j16 (j4 (jk::rN n::rN g.i::j16 (j16 (jk::jk::jk::[]))))))),Hm [(10,mxI 10 n n (Cc i c g.i))]⟩) (fun g=>n-g.i) ⟨0,by omega⟩ ?_ ?_
   ·refine aE ⟨?_,trivial⟩ ?_
    ·show _=mxI 10 n n (Cc i c 0);rw[I9];rfl
    simp[wk]
   rintro⟨j,hj⟩;simp only;by_cases hjn:j<n
   ·have g2:=bK (n:=n) (i:=j) 10 n hjn;have r1:=cd (n:=n) n (Cc i c j) (i:=j) hjn;have q1:=aT (Cc i c j j) hm;have q3:=aT (cnd i c) hjn;refine aD fun _ K=>?_;simp(disch:=omega) only[kd,jD,slI,iP];apply K
    refine bx rfl ?_;refine aF (aK ?_);refine aD fun _ K=>?_;simp only[kd];apply K
    refine gP be (by kernel_rfl) fun _ K=>?_;simp(disch:=omega) only[kd,jD,aa,g2,q3,r1,q1,dK];apply K
    show bo _ _ _ _;refine aL fun _ K=>?_;simp(disch:=omega) only[kd,jD,aO];apply K
    refine⟨⟨j+1,by omega⟩,by simp only;omega,aE ⟨?_,trivial⟩ ?_⟩
    ·show _::_=_::_;rw[ch fun x y _ _=>I7 i c j x y]
    simp[wk]
   have hjn':j=n:=by omega
   subst hjn';have eU:mat j j (Cc i c j)=mat j j (opU (.rep i c)):=dE fun a b ha _=>L6 ha
   refine aD fun _ K=>?_;simp(disch:=omega) only[kd,jD,slI,iP];apply K
   refine bG rfl ?_;show bo _ _ _ _;refine bo.weak ((bH 10 (cu (d:=10) (n:=j) (c:=j) (f:=Cc i c j) rfl)).trans (aE (tm:=(j4 (slI (mat j j (opU (.rep i c)))::j16 (j16 (j16 (j16 (j16 (j4 (j4 (j4 ([]))))))))))) (l:=[]) trivial (by
    simp[wk];rw[<- eU];exact(iH (H:=Hm [(10,mxI 10 j j (Cc i c j))]) (d:=10) (n:=j) (c:=j) (f:=Cc i c j) rfl).symm))) ?_
   refine aD fun _ K=>?_;simp only[kd,aa,slI];apply K
   (refine aH ⟨.inr rfl,aJ rfl ?_ rfl⟩;simp(disch:=omega) only[kd,jD,Tryz.results42,OG])
  |none=>
   rw[hF]at ok;have cS:=keyS (.raw (.slice none 0 0)) (by unfold qL;rw[hF]);refine aF (aG [⟨2,_,_,_,cS⟩] [] fun _ K=>?_);simp only[kd,slI,aa];apply K;refine aD fun _ K=>?_;simp only[kd];apply K
   refine aQ rfl (aM ?_);show bo _ _ _ _;by_cases hng:0<i/\f (i-1) i<0
   ·rw[if_pos hng]at ok;rw[ok];show bo _ _ _ _;obtain⟨k,rfl⟩: ∃k,i=k+1:=⟨i-1,by omega⟩;have hlt:=hng.2;rw[Nat.add_sub_cancel]at hlt;have gt:(0:Int)<((k+1:Nat):Int):=by omega
    have e0:IntKind.i64.wrap (((k+1:Nat):Int)-1)=(k:Int):=by rw[show((k+1:Nat):Int)-1=(k:Int) by omega];exact aO (by omega) (by omega)
    have m1:=bv n f (show k<n by omega);have q1:=aT (f k) hm;have r1:=cd (n:=n) n idF (i:=k+1) hm;have q3:=aT (idF (k+1)) hm;have eU:mat n n (upd idF (k+1) (k+1) (-1))=mat n n (opU (.neg (k+1))):=dE fun a b _ _=>Oc (k+1) a b
    refine aD fun _ K=>?_;simp(disch:=omega) only[kd,jD,aa,gt,e0,m1,fR,q1,hlt];apply K
    refine aU rfl ?_;refine aD fun _ K=>?_;simp(disch:=omega) only[kd,jD,aa,g1,r1,q3,dK];apply K
    refine bo.weak ((bH 10 (cu (d:=10) (n:=n) (c:=n) (f:=upd idF (k+1) (k+1) (-1)) rfl)).trans (aE (tm:=(j4 (slI (mat n n (opU (.neg (k+1))))::j16 (j16 (j16 (j16 (j16 (j4 (j4 (j4 ([]))))))))))) (l:=[]) trivial (by
     simp[wk];rw[<- eU];exact(iH (H:=Hm [(10,mxI 10 n n (upd idF (k+1) (k+1) (-1)))]) (d:=10) (n:=n) (c:=n) (f:=upd idF (k+1) (k+1) (-1)) rfl).symm))) ?_
    refine aD fun _ K=>?_;simp only[kd,aa,slI];apply K
    (refine aH ⟨.inr rfl,aJ rfl ?_ rfl⟩;simp(disch:=omega) only[kd,jD,Tryz.results42,OG])
   rw[if_neg hng]at ok;cases i with
   |zero=>
    refine aD fun _ K=>?_;simp(disch:=omega) only[kd,jD,aa];apply K
    refine aQ rfl (aM ?_);show bo _ _ _ _;refine aL fun _ K=>?_;simp(disch:=omega) only[kd,jD,aO];apply K
    refine⟨⟨0+1,by omega,?_⟩,by simp only;omega,aE ⟨rfl,trivial⟩ ?_⟩
    ·rw[ok,show n-(0+1)=m by omega]
    simp[wk]
   |succ k=>
    have hlt: ¬f k (k+1)<0:=fun h=>hng ⟨by omega,by rw[Nat.add_sub_cancel];exact h⟩
    have gt:(0:Int)<((k+1:Nat):Int):=by omega
    have e0:IntKind.i64.wrap (((k+1:Nat):Int)-1)=(k:Int):=by rw[show((k+1:Nat):Int)-1=(k:Int) by omega];exact aO (by omega) (by omega)
    have m1:=bv n f (show k<n by omega);have q1:=aT (f k) hm;refine aD fun _ K=>?_;simp(disch:=omega) only[kd,jD,aa,gt,e0,m1,fR,q1,hlt];apply K
    refine aQ rfl (aM ?_);show bo _ _ _ _;refine aL fun _ K=>?_;simp(disch:=omega) only[kd,jD,aO];apply K
    refine⟨⟨(k+1)+1,by omega,?_⟩,by simp only;omega,aE ⟨rfl,trivial⟩ ?_⟩
    ·rw[ok,show n-((k+1)+1)=m by omega]
    simp[wk]
 have hin:i=n:=by omega
 subst hin;rw[Nat.sub_self,scanR]at ok;rw[ok];show bo _ _ _ _;refine aD fun _ K=>?_;simp(disch:=omega) only[kd,jD,slI];apply K
 refine bG rfl ?_;show bo _ _ _ _;refine aD fun _ K=>?_;simp only[kd];apply K
 refine bo.weak (CS 2 rfl) ?_
 (refine aH ⟨.inr rfl,aJ rfl ?_ rfl⟩;simp(disch:=omega) only[kd,jD,Tryz.results42,OG])
abbrev O0 (d:List Int) (e:Int):TV:= .tup [(false,[.p (.sl (ls fI d))]),(false,[.p (.raw (.int .i64 e))])]
def KX (g:FF) (i:Nat):Nat->Int:=fun j=>if j<i then g j j else 0
theorem G8 (g:FF) (i:Nat):(fun b=>if b=i then g i i else KX g i b)=KX g (i+1):=by
 funext b;unfold KX;by_cases h:b=i
 ·subst h;rw[if_pos rfl,if_pos (by omega)]
 by_cases h2:b<i
 ·rw[if_neg h,if_pos h2,if_pos (by omega)]
 rw[if_neg h,if_neg h2,if_neg (by omega)]
theorem KY (n:Nat) (g:FF):bA n (KX g n)=bA n (fun i=>g i i):=eK fun j hj=>if_pos hj
theorem Id (M T:List (List Int)) (n:Nat) (g:FF) (hn:n<=4) (cR:CallG Tryz.prog 0 138 18 [slI M] ip ⟨[],Oq (mat n n g) T 0⟩):
  CallG Tryz.prog 0 138 29 [slI M] ip ⟨[],O0 (bA n (fun i=>g i i)) 0⟩:=by
 have hml:=bf n n g;refine fG Tryz.func29 rfl (by kernel_rfl) ?_;rw[Tryz.ntmps29];refine aR fun _ K=>?_;simp only[kd,slI,ae];apply K
 refine dm [⟨1,_,_,_,cR,rfl⟩] [] [] fun _ K=>?_;simp(disch:=omega) only[kd,jD,slI,Oq,dU.a,aa];apply K
 refine bI (aR fun _ K=>?_);simp(disch:=omega) only[kd,jD];apply K;refine gz rfl (eh ?_);show dJ _ _ _ _ _ _ _;refine aR fun _ K=>?_;simp(disch:=omega) only[kd,jD,aa,hml];apply K
 refine dJ.weak (aE (tm:=(jk::jk::jk::.raw (.int .i64 0)::slI (mat n n g)::jk::jk::.one (.sl 21 0 0 n)::j16 (j4 (j4 (j4 (jk::jk::[])))))) (l:=[(21,[⟨2,1,lc fI (bA n (KX g 0))⟩])]) ⟨?_,trivial⟩ (by simp[wk])) ?_
 ·rw[PA (X:=KX g 0) fun j _=>if_neg (by omega)];rfl
 refine bI (aR fun _ K=>?_);simp only[kd,aa,slI,hml];apply K;refine eg (G:=jA n) (fun q=>⟨(jk::jk::jk::.raw (.int .i64 0)::jk::jk::jk::.one (.sl 21 0 0 n)::j4 (j4 (j4 (jk::jk::slI (mat n n g)::rN n::rN q.i::j4 (j4 (j4 (jk::[]))))))),Hm [(21,[⟨2,1,lc fI (bA n (KX g q.i))⟩])]⟩) (fun _=>ip) (fun q=>n-q.i) ⟨0,by omega⟩ ?_ rfl ?_
 ·refine aE ⟨rfl,trivial⟩ ?_;simp[wk]
 rintro⟨i,hi⟩;simp only;by_cases hm:i<n
 ·have hr:=bv n g hm;have hii:=aT (g i) hm;have g2:=aT (m:=n) (KX g i) (j:=i) hm;have s1:=nt n i (KX g i) (g i i);rw[G8]at s1;refine aR fun _ K=>?_;simp(disch:=omega) only[kd,jD,slI];apply K
  refine gA rfl ?_;refine bI (cW ?_);refine aR fun _ K=>?_;simp(disch:=omega) only[kd,jD,aa,hr,fR];apply K
  refine cL fun _ K=>?_;simp(disch:=omega) only[kd,jD,aa,hii,g2,s1];apply K
  show dJ _ _ _ _ _ _ _;refine cL fun _ K=>?_;simp(disch:=omega) only[kd,jD,aO];apply K
  refine⟨⟨i+1,by omega⟩,by simp only;omega,aE ⟨rfl,trivial⟩ ?_,rfl⟩;simp[wk]
 have hin:i=n:=by omega
 subst hin;refine aR fun _ K=>?_;simp(disch:=omega) only[kd,jD,slI];apply K
 refine jf rfl ?_;show dJ _ _ _ _ _ _ _;rw[KY];refine aR fun _ K=>?_;simp only[kd,aa];apply K
 refine fc ⟨.inr rfl,rfl,iM 21 (cw rfl) ?_ rfl⟩;simp(disch:=omega) only[kd,jD,Tryz.results29,gW,O0]
/-! awake -/
abbrev AD:List (List Int):=[[2,-1],[-1,3]]
abbrev Qz:List (List Int):=[[2,-1],[-1,2]]
abbrev PQ:List (List Int):=[[2,1],[1,3]]
theorem NH:bW AD=true:=by decide+kernel
def Pl:Nat->Nat->Int:=fun a b=>if a=b then(if a=0 then 1 else -1)else 0
theorem CW:AD=mat 2 2 (ent AD):=rfl
theorem KE:PQ=mat 2 2 (cngF 2 (ent AD) Pl):=by decide+kernel
theorem xb:RedR (ent AD) 2:=by
 have h:=(fg _).1 NH;rw[CW]at h;have:=((sA (by omega)).1 h).2.2;exact this
theorem GL:MinkP (cngF 2 (ent AD) Pl) 2:=by
 refine⟨fun i hi=>?_,fun i hi=>?_⟩
 ·obtain rfl:i=0:=by omega
  decide
 rintro⟨c,h1,h2⟩
 match i,hi with
 |0,_=>
  obtain rfl:c=0:=by simpa using h1
  revert h2;decide
 |1,_=>
  have hc:c=0\/c=1\/c=2:=by omega
  rcases hc with rfl|rfl|rfl<;>revert h2<;>decide
theorem Pm: ¬wS Qz:=fun h=>by
 have:=(h.2.1 0 (by decide)).2
 revert this;decide
theorem KF:wU 2 Pl:=⟨fun v i=>if i=0 then v 0 else-v 1,fun v j hj=>by
 have:j=0\/j=1:=by omega
 rcases this with rfl|rfl
 ·simp[mV,bP,Pl]
 simp[mV,bP,Pl]⟩
theorem Qi {R:FF} (hR:RchB 2 (ent AD) idF R):mat 2 2 (gmB 2 (ent AD) (rF (gmB 2 (ent AD) R) R))=PQ:=by
 have hr:=xb;have h1:InB2 2 (ent AD) 262144 idF:=InB2.one (by omega) (by omega) hr;obtain⟨e1,e2,e3⟩:=pG hR h1;have hm:=tJ e2 e3;have one:lZ 2 (trF idF):=lZ.one.congr fun i j _ _=>by
  show(if j=i then(1:Int)else 0)=if i=j then 1 else 0
  by_cases e:i=j<;>simp[e,eq_comm]
 have hs:=DW (g:=gmB 2 (ent AD) R) (zU hR one);have hd:=(e1.sg (gmB 2 (ent AD) R)).dt;rw[nk]at hm⊢;rw[KE];exact dE fun i j hi hj=>Ii hr.pd hm GL hs.rinv KF hd (by rw[qo];decide) hi hj
theorem CX:CallG Tryz.prog 0 138 13 [] ip ⟨[],.raw (.bool true)⟩:=by
 obtain⟨R,hR,_⟩:=rl (h:=ent AD) (n:=2) (by omega) (by omega) xb;have cR:=tG 2 (ent AD) R (by omega) (by omega) xb hR;have hTl:=bf 2 2 (trF (rF (gmB 2 (ent AD) R) R));rw[Qi hR,<- CW]at cR;generalize mat 2 2 (trF (rF (gmB 2 (ent AD) R) R))=T at*
 have hTi:(T.length:Int)=2:=by omega
 have cS:=Ou PQ PQ;rw[decide_eq_true rfl]at cS;have cI:=iW Qz false (by simp[Pm]);simp only[slI,ls,fR,fI,List.map_cons,List.map_nil]at cR cS cI;refine fG Tryz.func13 rfl (by kernel_rfl) ?_;rw[Tryz.ntmps13];refine aR fun _ K=>?_;simp only[kd,ae];apply K
 refine dm [⟨3,_,_,_,cR,rfl⟩] [] [] fun _ K=>?_;simp(disch:=omega) only[kd,jD,Oq,dU.a,aa,Nat.reduceMul,ah];apply K
 refine dm [⟨18,_,_,_,cI,rfl⟩] [⟨12,_,_,_,cS⟩] [] fun _ K=>?_;simp(disch:=omega) only[kd,jD,dU.a,aa,ls,fR,hTi,Nat.reduceMul,ah,af];apply K
 (refine fc ⟨.inr rfl,rfl,aJ rfl ?_ rfl⟩;simp(disch:=omega) only[kd,jD,Tryz.results13])
/-! Congruence of the conditions. -/
theorem MinkP.congr {f g:FF} {n:Nat} (h: ∀i j,i<n->j<n->f i j=g i j) (hm:MinkP f n):MinkP g n:=by
 refine⟨fun i hi=>?_,fun i hi hv=>hm.2 i hi ?_⟩
 ·rw[<- h i i (by omega) (by omega),<- h (i+1) (i+1) hi hi,<- h i (i+1) (by omega) hi];exact hm.1 i hi
 obtain⟨c,h1,h2⟩:=hv;refine⟨c,h1,?_⟩;rw[h i i hi hi];have e:nrm n f (cnd i c)=nrm n g (cnd i c):=ee h (fun _ _=>rfl) (fun _ _=>rfl);rw[e];exact h2
theorem PD.congr {f g:FF} {n:Nat} (h: ∀i j,i<n->j<n->f i j=g i j) (hp:PD f n):PD g n:=by
 refine⟨fun i hi j hj=>?_,fun k hk=>?_⟩
 ·rw[<- h i j hi hj,<- h j i hj hi];exact hp.1 i hi j hj
 rw[<- jj (f:=f) fun i j hi hj=>h i j (by omega) (by omega)];exact hp.2 k hk
theorem Ik {g:FF} {n:Nat} (hn1:1<=n) (hn:n<=4) (hb: ∀i j,i<n->j<n-> -1125899906842624<=g i j/\g i j<=1125899906842624) (hp:PD g n) (hm:MinkP g n):wS (mat n n g):=by
 have hl:=bf n n g;have he: ∀i j,i<n->j<n->g i j=ent (mat n n g) i j:=fun i j hi hj=>(rO g hi hj).symm
 refine⟨⟨by omega,fun q hq=>?_,by rw[hl];exact hp.congr he⟩,by rw[hl];exact hm.congr he⟩;rw[hl];obtain⟨i,hi,rfl⟩:=List.mem_map.1 hq;have hin:=List.mem_range.1 hi;refine⟨bs _ _,fun x hx=>?_⟩;obtain⟨j,hj,rfl⟩:=List.mem_map.1 hx;exact hb i j hin (List.mem_range.1 hj)
section
structure Gq (n:Nat) (h:FF) (Q:FF):Prop where
 n1:1<=n
 n4:n<=4
 red:RedR h n
 inb:InB2 n h 262144 Q
 mink:MinkP (gmB n h Q) n
theorem zX {n:Nat} {h:FF} (hn1:1<=n) (hn:n<=4) (hr:RedR h n): ∃R,Gq n h (rF (gmB n h R) R)/\RchB n h idF R/\
  CallG Tryz.prog 0 138 18 [slI (mat n n h)] ip ⟨[],Oq (mat n n (gmB n h (rF (gmB n h R) R))) (mat n n (trF (rF (gmB n h R) R))) 0⟩:=by
 obtain⟨R,h1,h2,h3,h4⟩:=rl hn1 hn hr;exact⟨R,⟨hn1,hn,hr,h3,h4⟩,h1,tG n h R hn1 hn hr h1⟩
section
variable {n:Nat} {h Q:FF}
theorem Gq.gb (k:Gq n h Q) {i j:Nat} (hi:i<n) (hj:j<n): -262144<=gmB n h Q i j/\gmB n h Q i j<=262144:=mt k.red.pd k.inb hi hj 262144 (by decide)
theorem Gq.ent (k:Gq n h Q) {i j:Nat} (hi:i<n) (hj:j<n): -1099511627776<=Q i j/\Q i j<=1099511627776:=
 (show GdR n h (Q i)from k.inb.nr i hi).co k.n1 k.n4 k.red j hj
end
end
section
section
variable {n:Nat} {h t:FF}
theorem C7 (h:FF) {a b:Nat} (ha:a<n) (hb:b<n):cngF n h idF a b=h a b:=by
 have e: ∀x y,BF n h x y=bP (fun i=>x i*bP (fun j=>h i j*y j) n) n:=fun _ _=>rfl
 rw[dx,e,aS n (G:=fun i=>h i b*idF i a) (fun i _=>by rw[uP hb];exact Int.mul_comm _ _)];exact uP (y:=fun i=>h i b) ha
theorem InC2.one (hn1:1<=n) (hn:n<=8) (hr:RedR h n):InC2 n h 262144 idF:=by
 refine⟨fun a ha=>?_,?_⟩
 ·rw[C7 h ha ha];have:=i5 hn1 hn hr a ha a ha;omega
 rw[show idF=fun i j=>if i=j then 1 else 0 from rfl,Hc];rfl
theorem InC2.rows {W:Int} (k:InC2 n h W t):InB2 n h W (trF t):=⟨fun a ha=>by have:=k.nr a ha;rw[dx]at this;exact this,k.dt⟩
theorem InC2.ent (k:InC2 n h 262144 t) (hn1:1<=n) (hn:n<=4) (hr:RedR h n) {i j:Nat} (hi:i<n) (hj:j<n): -1099511627776<=t i j/\t i j<=1099511627776:=
 (show GdR n h (trF t j)from k.rows.nr j hj).co hn1 hn hr i hi
theorem InC2.cb (k:InC2 n h 262144 t) (hr:RedR h n) {i j:Nat} (hi:i<n) (hj:j<n): -262144<=cngF n h t i j/\cngF n h t i j<=262144:=by
 have:=mt hr.pd k.rows hi hj 262144 (by decide);rw[nk]at this;exact this
theorem Ol (o:qY) (i j:Nat): -1<=opU o i j/\opU o i j<=1:=by
 have hI: ∀a b,0<=idF a b/\idF a b<=1:=fun a b=>by unfold idF;split<;>omega
 cases o with
 |swp k=>simp only[opU];have h1:=hI i (k-1);have h2:=hI i k;have h3:=hI i j;(repeat' split)<;>omega
 |rep k c=>
  simp only[opU,cT];split
  ·unfold cnd;have:=yV c i;(repeat' split)<;>omega
  have:=hI i j;omega
 |neg k=>
  simp only[opU,cT];have h1:=hI i k;have h2:=hI i j
  split<;>omega
theorem Im (A:FF) {i j:Nat} (hj:j<n):fJ n A idF i j=A i j:=by rw[gG];exact uP hj
end
theorem zQ (n:Nat) (A B C:FF) (hn1:1<=n) (hn:n<=4) (hA: ∀i j:Nat,i<n->j<n->wR (A i j)) (hB: ∀i j:Nat,i<n->j<n->wR (B i j)) (hC: ∀i j:Nat,i<n->j<n->wR (C i j)) (hm: ∀i j,i<n->j<n->fJ n A B i j=C i j):
  CallC Tryz.prog 43 [slI (mat n n A),slI (mat n n B)] ⟨mxI 0 n n C,.one (.sl 0 0 0 n)⟩:=by
 have c1:=AL n n A hn1 (by omega) hn1 (by omega) (fun i j hi hj=>hA i j hi hj);have c2:=AL n n B hn1 (by omega) hn1 (by omega) (fun i j hi hj=>hB i j hi hj);have c3:=mW n n n A B hn1 (by omega) hn1 (by omega) hn1 (by omega) (fun i j hi hj=>(hA i j hi hj).sz (by omega)) (fun i j hi hj=>(hB i j hi hj).sz (by omega));have c4:=sC n n C hn1 (by omega) hn1 (by omega) hC;rw[dE fun i j hi hj=>hm i j hi hj]at c3;refine aI Tryz.func43 rfl (by kernel_rfl) ?_;rw[Tryz.ntmps43];refine aD fun _ K=>?_;simp only[kd,slI,aa,ae];apply K
 refine aG [⟨1,_,_,_,c1⟩,⟨3,_,_,_,c2⟩,⟨4,_,_,_,c3⟩,⟨5,_,_,_,c4⟩] [] fun _ K=>?_;simp only[kd,slI,rB,aa,af];apply K
 refine bo.weak (aE (tm:=(j4 (jk::.one (.sl 13 0 0 n)::j4 (j4 (jk::jk::jk::[]))))) (l:=[(13,mxI 13 n n C)]) ⟨bU 0 13 _ _ _,trivial⟩ (by simp[wk])) ?_;refine aD fun _ K=>?_;simp only[kd];apply K
 refine aH ⟨.inr rfl,_,ca.refl _,?_⟩;refine⟨.one (.sl 13 0 0 n),13,?_,rfl,?_,rfl⟩
 ·simp(disch:=omega) only[kd,jD,Tryz.results43]
 exact(bU 13 0 _ _ _).symm
structure QQ (n:Nat) (h t:FF) (o:qY):Prop where
 c1:CallC Tryz.prog 23 [slI (mat n n (cngF n h t))] ⟨[],slM (mat n n (cngF n h t))⟩
 c2:CallC Tryz.prog 23 [slI (mat n n (opU o))] ⟨[],slM (mat n n (opU o))⟩
 c3:CallC Tryz.prog 26 [slM (mat n n (cngF n h t)),slM (mat n n (opU o))] ⟨[],slM (mat n n (cngF n h (opC n t o)))⟩
 c4:CallC Tryz.prog 44 [slM (mat n n (cngF n h (opC n t o)))] ⟨[],.tup [(false,[.p (.sl (ls (fR fI) (mat n n (cngF n h (opC n t o)))))]),(false,[.p (.raw (.bool true))])]⟩
 c5:CallC Tryz.prog 43 [slI (mat n n t),slI (mat n n (opU o))] ⟨mxI 0 n n (opC n t o),.one (.sl 0 0 0 n)⟩
theorem Q4 {n:Nat} {h t:FF} {o:qY} (hn1:1<=n) (hn:n<=4) (hr:RedR h n) (k:InC2 n h 262144 t) (ho:scanR n (cngF n h t) n 0=some o):QQ n h t o:=by
 have k':=k.op ho;have hi:o.i<n:=by have:=(jv n 0 o ho).2.1;omega
 have iA: ∀{t:FF},InC2 n h 262144 t-> ∀i j:Nat,i<n->j<n->wR (cngF n h t i j):=fun k i j hi hj=>by have:=k.cb hr hi hj;constructor<;>omega
 have iT: ∀{t:FF},InC2 n h 262144 t-> ∀i j:Nat,i<n->j<n->wR (t i j):=fun k i j hi hj=>by have:=k.ent hn1 hn hr hi hj;constructor<;>omega
 have iU: ∀i j:Nat,i<n->j<n->wR (opU o i j):=fun i j _ _=>by have:=Ol o i j;constructor<;>omega
 have c3:=qX n (cngF n h t) (opU o) hn1 (by omega) (fun i j hi hj=>(iA k i j hi hj).sz (by omega)) (fun i j hi hj=>(iU i j hi hj).sz (by omega));rw[dE fun i j hi' hj'=>NT (h:=h) (t:=t) hi hi' hj']at c3;exact⟨AL n n _ hn1 (by omega) hn1 (by omega) (fun i j hi hj=>iA k i j hi hj),AL n n _ hn1 (by omega) hn1 (by omega) (fun i j hi hj=>iU i j hi hj),c3,
  Gs n n _ hn1 (by omega) hn1 (by omega) (fun i j hi hj=>iA k' i j hi hj),zQ n t (opU o) (opC n t o) hn1 hn (iT k) iU (iT k') (fun i j _ hj=>BN hi hj)⟩
theorem Q3 {n:Nat} {h t:FF} (hn1:1<=n) (hn:n<=4) (hr:RedR h n) (k:InC2 n h 262144 t):
  CallC Tryz.prog 43 [slI (mat n n (cngF n h t)),slI (mat n n idF)] ⟨mxI 0 n n (cngF n h t),.one (.sl 0 0 0 n)⟩:=by
 have iA: ∀i j:Nat,i<n->j<n->wR (cngF n h t i j):=fun i j hi hj=>by have:=k.cb hr hi hj;constructor<;>omega
 have iI: ∀i j:Nat,i<n->j<n->wR (idF i j):=fun i j _ _=>by unfold idF;split<;>constructor<;>omega
 exact zQ n _ idF _ hn1 hn iA iI iA (fun i j _ hj=>Im _ hj)
structure QR (n:Nat) (h R:FF) where
 t:Nat->Nat->Int
 rch:RchR n h t R
 inc:InC2 n h 262144 t
theorem RchR.end_ {n:Nat} {h t R:FF} (k:RchR n h t R) (ho:scanR n (cngF n h t) n 0=none):R=t:=by
 cases k with
 |done t _=>rfl
 |step _ _ o h1 _=>rw[ho]at h1;cases h1
theorem RchR.next_ {n:Nat} {h t R:FF} {o:qY} (k:RchR n h t R) (ho:scanR n (cngF n h t) n 0=some o):RchR n h (opC n t o) R:=by
 cases k with
 |done t h1=>rw[ho]at h1;cases h1
 |step _ _ o' h1 h2=>rw[ho]at h1;cases h1;exact h2
theorem PB {n:Nat} {h t:FF} {o:qY} (hr:RedR h n) (ho:scanR n (cngF n h t) n 0=some o):(Fe n (cngF n h (opC n t o))).toNat<(Fe n (cngF n h t)).toNat:=by
 have h1:=Il ho;have h2:=oG (n:=n) (t:=opC n t o) hr.pd;omega
abbrev rA (n:Nat) (G R:FF):CallRes:=⟨mxI 0 n n G,.tup [(false,[.sl 0 0 0 n]),(false,[.p (.sl (ls (fR fI) (mat n n R)))]),(false,[.p (.raw (.int .i64 0))])]⟩
theorem wv (n:Nat) (h R:FF) (hn1:1<=n) (hn:n<=4) (hr:RedR h n) (hR:RchR n h idF R):
  CallC Tryz.prog 17 [slI (mat n n h)] (rA n (cngF n h R) R):=by
 have hml:=bf n n h;have c1:=yr (mat n n h) (Nz hn1 (by omega) hr);rw[pI hn1 (by omega) hr]at c1;have cU:=DS n hn1 hn;have h4: ¬(4:Int)<(n:Int):=by omega
 have e0:mat n n (cngF n h idF)=mat n n h:=dE fun i j hi hj=>C7 h hi hj
 refine aI Tryz.func17 rfl (by kernel_rfl) ?_;rw[Tryz.ntmps17];refine aD fun _ K=>?_;simp only[kd,aa,slI,ae];apply K
 refine aF (aG [⟨1,_,_,_,c1⟩] [] fun _ K=>?_);simp only[kd,slI,aa];apply K;refine aQ rfl (aM ?_);show bo _ _ _ _;refine aF (aD fun _ K=>?_);simp only[kd,aa,hml,h4];apply K;refine aQ rfl (aM ?_);show bo _ _ _ _;refine aG [⟨3,_,_,_,cU⟩] [] fun _ K=>?_;simp only[kd,aa,hml];apply K
 refine bo.weak (aE (tm:=(slI (mat n n h)::j4 (slI (mat n n h)::.one (.sl 18 0 0 n)::j16 (j16 (j4 (jk::[])))))) (l:=[(18,mxI 18 n n idF)]) ⟨bU 0 18 _ _ _,trivial⟩ (by simp[wk])) ?_;refine bo.weak ((bH 18 (cu (d:=18) (n:=n) (c:=n) (f:=idF) rfl)).trans (aE (tm:=(slI (mat n n h)::j4 (slI (mat n n h)::slI (mat n n idF)::j16 (j16 (j4 (jk::[])))))) (l:=[]) trivial (by
  simp[wk]
  (repeat' apply And.intro)<;>first|rfl|exact(iH (H:=Hm [(18,mxI 18 n n idF)]) (d:=18) (n:=n) (c:=n) (f:=idF) rfl).symm))) ?_
 refine aX (G:=QR n h R) (fun g=>⟨(slI (mat n n h)::j4 (slI (mat n n (cngF n h g.t))::slI (mat n n g.t)::j16 (j16 (j4 (jk::[]))))),Hm []⟩) (fun g=>(Fe n (cngF n h g.t)).toNat) ⟨idF,hR,InC2.one hn1 (by omega) hr⟩ ?_ ?_
 ·refine aE trivial ?_;simp[wk,e0]
 rintro⟨t,rch,inc⟩;simp only;have cS:=LV n (cngF n h t) hn1 hn (fun i j hi hj=>by have:=inc.cb hr hi hj;omega);have hAl:=bf n n (cngF n h t);refine aK ?_;cases ho:scanR n (cngF n h t) n 0 with
 |none=>
  obtain rfl:=rch.end_ ho;have cE:=Q3 hn1 hn hr inc;rw[ho]at cS;refine aG [⟨1,_,_,_,cS⟩] [] fun _ K=>?_;simp only[kd,slI,OG,QC,aa];apply K
  refine aF (aD fun _ K=>?_);simp only[kd];apply K;refine aU rfl ?_;refine vt 4 [⟨3,_,_,_,cU⟩,⟨4,_,_,_,cE⟩] [] (by simp) (by decide) fun _ K=>?_;simp only[kd,slI,aa,hml];apply K
  refine⟨_,(aE (tm:=(j4 (jk::jk::slI (mat n n R)::j16 (jk::jk::jk::slI (mat n n (cngF n h R))::jk::jk::.one (.sl 29 0 0 n)::j4 (j4 (j4 (jk::jk::[]))))))) (l:=[(29,mxI 29 n n idF)]) ⟨bU 0 29 _ _ _,trivial⟩ (by simp[wk])).trans ((bH 29 (cu (d:=29) (n:=n) (c:=n) (f:=idF) rfl)).trans (aE (tm:=(j4 (jk::jk::slI (mat n n R)::j16 (jk::jk::jk::slI (mat n n (cngF n h R))::jk::jk::slI (mat n n idF)::j4 (j4 (j4 (jk::jk::[]))))))) (l:=[]) trivial (by
   simp[wk]
   (repeat' apply And.intro)<;>first|rfl|exact(iH (H:=Hm [(29,mxI 29 n n idF)]) (d:=29) (n:=n) (c:=n) (f:=idF) rfl).symm))),by simp[wk],?_⟩
  intro _ K;simp only[kd,slI,aa,af];apply K;refine bo.weak (aE (tm:=(jk::jk::.one (.sl 30 0 0 n)::slI (mat n n R)::.raw (.int .i64 0)::j16 (j16 (j4 (jk::jk::jk::[]))))) (l:=[(30,mxI 30 n n (cngF n h R))]) ⟨bU 0 30 _ _ _,trivial⟩ (by simp[wk])) ?_;refine aH ⟨.inr rfl,_,ca.refl _,?_⟩;refine⟨.tup [(false,[.sl 30 0 0 n]),(false,[.p (.sl (ls (fR fI) (mat n n R)))]),(false,[.p (.raw (.int .i64 0))])],30,?_,pP (by simp[gZ,dH]) (by decide),?_,rfl⟩
  ·simp(disch:=omega) only[kd,jD,Tryz.results17,slI]
  exact(bU 30 0 _ _ _).symm
 |some o=>
  have rch':=rch.next_ ho;have inc':=inc.op ho;have mu:=PB hr ho;obtain⟨d1,d2,d3,d4,d5⟩:=Q4 hn1 hn hr inc ho;rw[ho]at cS;refine aG [⟨1,_,_,_,cS⟩] [] fun _ K=>?_;simp only[kd,slI,OG,QD,aa];apply K
  refine aF (aD fun _ K=>?_);simp only[kd];apply K;refine aQ rfl (aM ?_);show bo _ _ _ _;refine aG [⟨1,_,_,_,d1⟩,⟨3,_,_,_,d2⟩,⟨4,_,_,_,d3⟩,⟨5,_,_,_,d4⟩] [] fun _ K=>?_;simp only[kd,slI,aa,af];apply K
  refine j8 [⟨2,_,_,_,d5⟩] [] fun _ K=>?_;simp only[kd,slI,aa];apply K
  refine⟨⟨opC n t o,rch',inc'⟩,mu,(aE (tm:=(slI (mat n n h)::j4 (slI (mat n n (cngF n h (opC n t o)))::.one (.sl 43 0 0 n)::j16 (j16 (j4 (jk::[])))))) (l:=[(43,mxI 43 n n (opC n t o))]) ⟨bU 0 43 _ _ _,trivial⟩ (by simp[wk])).trans ((bH 43 (cu (d:=43) (n:=n) (c:=n) (f:=opC n t o) rfl)).trans (aE trivial ?_))⟩;simp[wk]
  (repeat' apply And.intro)<;>first|rfl|exact(iH (H:=Hm [(43,mxI 43 n n (opC n t o))]) (d:=43) (n:=n) (c:=n) (f:=opC n t o) rfl).symm
end
theorem B8 (x y:List Int):CallC Tryz.prog 31 [iP x,iP y] ⟨[],.raw (.int .i64 (ld x y))⟩:=by
 refine gk (by kernel_rfl) fun X w vs hX hvs ha=>?_
 obtain⟨v0,e0,r0⟩:=kU ha (j:=0) rfl;obtain⟨v1,e1,r1⟩:=kU ha (j:=1) rfl;obtain⟨A,c,rfl,hc,hl,hA⟩:=ij r0;obtain⟨B,d,rfl,hd,hlb,hB⟩:=ij r1;obtain rfl:vs= #[.slice A x.length c,.slice B y.length d]:=by
  apply Array.ext_getElem?;intro j
  match j with
  |0=>exact e0
  |1=>exact e1
  |j+2=>rw[Array.getElem?_eq_none (by simp at hvs;omega)];rfl
 refine(mI A B c d x y w hA hB hl hlb).mono fun e w' ⟨h1,h2⟩=>?_
 obtain⟨n,rfl⟩:=h2;exact⟨_,h1,fun _ _ _=>cq.raw _ rfl,(Ext.refl _).drewN n⟩
theorem un {n:Nat} {h:FF} (hn1:1<=n) (hn:n<=4) (hr:RedR h n): ∃R,RchR n h idF R/\InC2 n h 262144 R/\MinkP (cngF n h R) n:=by
 obtain⟨R,hR⟩:=zW hr.pd (W:=262144) _ idF rfl (InC2.one hn1 (by omega) hr);obtain⟨h1,h2⟩:=zV hR (InC2.one hn1 (by omega) hr);exact⟨R,hR,h1,h2⟩
theorem LS (n:Nat) (h R:FF) (hn1:1<=n) (hn:n<=4) (hr:RedR h n) (hR:RchR n h idF R):
  CallC Tryz.prog 30 [slI (mat n n h)] ⟨[],O0 (bA n (fun i=>cngF n h R i i)) 0⟩:=by
 have c1:=wv n h R hn1 hn hr hR;generalize cngF n h R=g at*
 have hml:=bf n n g;refine aI Tryz.func30 rfl (by kernel_rfl) ?_;rw[Tryz.ntmps30];refine aD fun _ K=>?_;simp only[kd,slI,ae];apply K
 refine aG [⟨1,_,_,_,c1⟩] [] fun _ K=>?_;simp only[kd,slI,aa];apply K
 refine bo.weak (aE (tm:=(j4 (.one (.sl 11 0 0 n)::jk::.raw (.int .i64 0)::j16 (j4 (j4 (j4 ([]))))))) (l:=[(11,mxI 11 n n g)]) ⟨bU 0 11 _ _ _,trivial⟩ (by simp[wk])) ?_;refine bo.weak ((bH 11 (cu (d:=11) (n:=n) (c:=n) (f:=g) rfl)).trans (aE (tm:=(j4 (slI (mat n n g)::jk::.raw (.int .i64 0)::j16 (j4 (j4 (j4 ([]))))))) (l:=[]) trivial (by
  simp[wk]
  (repeat' apply And.intro)<;>first|rfl|exact(iH (H:=Hm [(11,mxI 11 n n g)]) (d:=11) (n:=n) (c:=n) (f:=g) rfl).symm))) ?_
 refine aF (aD fun _ K=>?_);simp(disch:=omega) only[kd,jD,slI];apply K;refine aQ rfl (aM ?_);show bo _ _ _ _;refine aD fun _ K=>?_;simp only[kd];apply K
 refine aF (aD fun _ K=>?_);simp only[kd,aa,hml];apply K;refine aX (G:=jA n) (fun q=>⟨(j4 (slI (mat n n g)::jk::jk::.one (.sl 32 0 0 q.i)::j4 (j4 (jk::jk::jk::rN n::rN q.i::j4 (j4 (j4 (jk::jk::[]))))))),Hm [(32,[⟨2,1,lc fI (bA q.i (fun i=>g i i))⟩])]⟩) (fun q=>n-q.i) ⟨0,by omega⟩ ?_ ?_
 ·refine(ef (k:=7) (d:=32) 2 1 (by omega) rfl rfl).trans (aE ⟨rfl,trivial⟩ ?_);simp[wk]
 rintro⟨i,hi⟩;simp only;by_cases hm:i<n
 ·have m1:=bv n g hm;have q1:=aT (g i) hm;have e1:lc fI (bA i (fun i=>g i i))++[[AV.p (.raw (.int .i64 (g i i)))]]=lc fI (bA (i+1) (fun i=>g i i)):=by
   rw[zo,nP i]
  refine aD fun _ K=>?_;simp(disch:=omega) only[kd,jD,slI];apply K
  refine bx rfl ?_;refine aF (aK ?_);refine aD fun _ K=>?_;simp only[kd];apply K
  refine aL fun _ K=>?_;simp(disch:=omega) only[kd,jD,aa,m1,fR,q1,Nat.reduceMul,ah,bs,e1];apply K
  show bo _ _ _ _;refine aL fun _ K=>?_;simp(disch:=omega) only[kd,jD,aO];apply K
  refine⟨⟨i+1,by omega⟩,by simp only;omega,aE ⟨rfl,trivial⟩ ?_⟩;simp[wk]
 have hin:i=n:=by omega
 subst hin;refine aD fun _ K=>?_;simp(disch:=omega) only[kd,jD,slI];apply K
 refine bG rfl ?_;show bo _ _ _ _;refine aD fun _ K=>?_;simp only[kd,aa];apply K
 refine aH ⟨.inr rfl,iM 32 (cw rfl) ?_ rfl⟩;have eT:List.take i (bA i (fun i=>g i i))=bA i (fun i=>g i i):=List.take_of_length_le (by rw[bs];omega);simp(disch:=omega) only[kd,jD,Tryz.results30,eT,O0]
theorem vd (dim kind:Nat) (L B:List Int) (hL:I8 L) (hdim:dim<=255) (hkind:kind<=255):
  CallG Tryz.prog 0 138 8 [tL dim kind L B] ip ⟨[],.raw (.bool true)⟩:=by
 obtain⟨n,hn⟩: ∃n,n=1+dim%4:=⟨_,rfl⟩;have hn1:1<=n:=by omega
 have hn4:n<=4:=by have:=Nat.mod_lt dim (show 0<4 by omega);omega
 obtain⟨h,hr,cF⟩:=Gk dim kind L B 4 n hL hdim hkind (by omega) (by omega) hn;rw[show((4:Nat):Int)=4 from rfl]at cF;obtain⟨R,ok,hB,cR⟩:=zX hn1 hn4 hr;obtain⟨T,hT,_,_⟩:=un hn1 hn4 hr;have cK:=LS n h T hn1 hn4 hr hT;have eD:bA n (fun i=>cngF n h T i i)=bA n (fun i=>gmB n h (rF (gmB n h R) R) i i):=
  eK fun i hi=>(Fc hn1 hn4 hr.pd hB hT (InB2.one hn1 (by omega) hr) (InC2.one hn1 (by omega) hr) hi).symm
 rw[eD]at cK;have cD:=Id _ _ n _ hn4 cR;generalize gmB n h (rF (gmB n h R) R)=g at*
 have cC:=B8 (bA n (fun i=>g i i)) (bA n (fun i=>g i i));rw[ql]at cC;have cA:=CX;have l2:=bf n n g;have l3:=bs n (fun i=>g i i);generalize mat n n h=M at*
 generalize mat n n (trF (rF (gmB n h R) R))=TT at*
 refine fG Tryz.func8 rfl (by kernel_rfl) ?_;rw[Tryz.ntmps8];refine aR fun _ K=>?_;simp(disch:=omega) only[kd,jD,tL,ae,aa];apply K
 refine fD [⟨1,_,_,_,cF⟩] [] fun _ K=>?_;simp only[kd,tL,slI,aa];apply K
 refine dm [⟨1,_,_,_,cD,rfl⟩] [] [] fun _ K=>?_;simp(disch:=omega) only[kd,jD,slI,O0,dU.a,aa];apply K
 refine fD [⟨1,_,_,_,cK⟩] [] fun _ K=>?_;simp only[kd,slI,O0,aa];apply K
 refine dm [⟨1,_,_,_,cR,rfl⟩] [] [] fun _ K=>?_;simp(disch:=omega) only[kd,jD,slI,Oq,dU.a,aa];apply K
 refine bI (fD [⟨5,_,_,_,cC⟩] [] fun _ K=>?_);simp(disch:=omega) only[kd,jD,iP,aa,l2,l3];apply K;refine gz rfl (eh ?_);show dJ _ _ _ _ _ _ _;refine bI (aR fun _ K=>?_);simp only[kd,aa,l2];apply K;refine eg (G:=jA n) (fun q=>⟨(j4 (iP (bA n (fun i=>g i i))::jk::jk::jk::slI (mat n n g)::j16 (j16 (j4 (jk::rN n::rN q.i::j16 (j4 (j4 (jk::jk::[])))))))),Hm []⟩) (fun _=>ip) (fun q=>n-q.i) ⟨0,by omega⟩ ?_ rfl ?_
 ·refine aE trivial ?_;simp[wk]
 rintro⟨i,hi⟩;simp only;by_cases hm:i<n
 ·have m1:=bv n g hm;have q1:=aT (g i) hm;have q2:=aT (fun i=>g i i) hm;have l4:=bs n (g i);refine aR fun _ K=>?_;simp(disch:=omega) only[kd,jD,iP,slI];apply K
  refine gA rfl ?_;refine bI (cW ?_);refine aR fun _ K=>?_;simp only[kd];apply K
  refine fX be (by kernel_rfl) fun _ K=>?_;simp(disch:=omega) only[kd,jD,aa,m1,fR,l4,l3,q1,q2];apply K
  refine gz rfl (eh ?_);show dJ _ _ _ _ _ _ _;refine cL fun _ K=>?_;simp(disch:=omega) only[kd,jD,aO];apply K
  refine⟨⟨i+1,by omega⟩,by simp only;omega,aE trivial ?_,rfl⟩;simp[wk]
 have hin:i=n:=by omega
 subst hin;refine aR fun _ K=>?_;simp(disch:=omega) only[kd,jD,iP,slI];apply K
 refine jf rfl ?_;show dJ _ _ _ _ _ _ _;refine dm [⟨0,_,_,_,cA,rfl⟩] [] [] fun _ K=>?_;simp(disch:=omega) only[kd,jD,dU.a];apply K
 (refine fc ⟨.inr rfl,rfl,aJ rfl ?_ rfl⟩;simp(disch:=omega) only[kd,jD,Tryz.results8])
end Go.Proofs.YtfgeomlagfomgaaGreatDoor
