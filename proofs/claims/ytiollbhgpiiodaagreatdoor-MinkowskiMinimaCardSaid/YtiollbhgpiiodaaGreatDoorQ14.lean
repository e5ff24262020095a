/-
  Part 15 of a proof (walks and plain facts).
-/
import Derived.Test.YtiollbhgpiiodaaGreatDoorQ13
set_option linter.all false
set_option maxRecDepth 100000
set_option maxHeartbeats 64000000
open Nat renaming le_refl → ac
open List renaming replicate → ae
open List renaming getElem?_eq_none → ar
open List renaming mem_of_getElem? → aw
open List renaming length_replicate → ay
open List renaming getElem?_map → az
open Nat renaming le_trans → aA
open Nat renaming mul_le_mul_left → aB
open Nat renaming pow_le_pow_right → aD
namespace Go.Proofs.YtiollbhgpiiodaaGreatDoor
open Go.RowKit
def trF (f:FF):Nat->Nat->Int:=fun a b=>f b a
def ER (f:FF) (i j:Nat):Nat->Nat->Int:=fun a b=>if b<i\/(b=i/\a<j)then f b a else 0
theorem MH (f:FF) (i j a b:Nat):upd (ER f i j) j i (f i j) a b=ER f i (j+1) a b:=by
 unfold upd ER;by_cases h1:a=j
 ·subst h1;by_cases h2:b=i
  ·subst h2;simp
  simp[h2]
 have:a<j+1↔a<j:=by omega
 simp[h1,this]
theorem P8 {c:Nat} (f:FF) (i a b:Nat) (ha:a<c):ER f i c a b=ER f (i+1) 0 a b:=by
 unfold ER;have:(b<i\/b=i/\a<c)↔(b<i+1\/b=i+1/\a<0):=by omega
 simp only[this]
theorem P7 {n:Nat} (f:FF) (a b:Nat) (hb:b<n):ER f n 0 a b=trF f a b:=by
 unfold ER trF;rw[if_pos (.inl hb)]
theorem MJ (f:FF):ER f 0 0=fun _ _=>0:=by
 funext a b;unfold ER;rw[if_neg (by omega)]
theorem tj (n c:Nat) (f:FF) (hn1:1<=n) (hn:n<=16) (hc1:1<=c) (hc:c<=16) (hf: ∀i j:Nat,i<n->j<c->Bg (f i j)):
  CallC Tryz.prog 87 [dV (bi n c f)] ⟨[],.tup [(false,[.p (.sl (ls (fR fZ) (bi c n (trF f))))]),(false,[.p (.raw (.bool true))])]⟩:=by
 have hS:=ot (bi n c f);rw[iE (mu f hn1 hn hc1 hc),aW,ji f hn1]at hS;have hml:=aW n c f;have hZ:=rT c n hc hn;rw[oO,nM]at hZ;refine aS Tryz.func87 rfl Tryz.ntmps87 (aT (k:=cb [⟨1,_,_,_,hS⟩] (k:=aF (bC (k:=aJ rfl (aH (cb [⟨2,_,_,_,hZ⟩] (k:=aF (il hml (k:=?_))))))))));refine aO (G:=iJ n) (fun g=>⟨(dV (bi n c f)::j4 (jk::jk::.one (.sl 20 0 0 c)::j4 (j4 (j4 (jk::jk::rN n::rN g.i::j16 (j4 (j4 (jk::jk::jk::[])))))))),Hm [(20,gp 20 c n (ER f g.i 0))]⟩) (fun g=>n-g.i) ⟨0,by omega⟩ ?_ ?_
 ·refine aE ⟨?_,trivial⟩ ?_
  ·rw[MJ];exact fE 0 20 c n _
  simp[wk]
 rintro⟨i,hi⟩;simp only;by_cases hm:i<n
 ·have hr:=bx c f hm;refine aK (k:=bv rfl (aF (aG (bC (k:=aX (aP hr @bf) (k:=?_))))));refine aO (G:=iJ c) (fun g=>⟨(dV (bi n c f)::j4 (jk::jk::.one (.sl 20 0 0 c)::rN i::j4 (j4 (j4 (jk::rN n::rN i::j4 (jk::jk::rN c::rN g.i::j16 (jk::jk::jk::[]))))))),Hm [(20,gp 20 c n (ER f i g.i))]⟩) (fun g=>c-g.i) ⟨0,by omega⟩ ?_ ?_
  ·refine aE ⟨rfl,trivial⟩ ?_;simp[wk]
  rintro⟨j,hj⟩;simp only;by_cases hm3:j<c
  ·have hjr:=aQ (f i) hm3;have hS:=Mi (f i j) (hf i j hm hm3);have g1:=bJ (n:=c) (i:=j) 20 n hm3;have g2:=dU n (ER f i j) hm3;have g3:=aQ (ER f i j j) hm;refine aK (k:=bv rfl (aF (aG (bC (k:=f5 [⟨12,_,_,_,hS⟩] (aP g1 (aP hr (aP hjr (aP g2 (aP g3 @iB))))) (k:=bW (k:=?_)))))));refine⟨⟨j+1,by omega⟩,by simp only;omega,aE ⟨?_,trivial⟩ ?_⟩
   ·show _::_=_::_;rw[b7 fun a b _ _=>MH f i j a b]
   simp[wk]
  have hjc:j=c:=by omega
  subst hjc;refine aK (k:=bE rfl (bW (k:=?_)));refine⟨⟨i+1,by omega⟩,by simp only;omega,aE ⟨?_,trivial⟩ ?_⟩
  ·show _::_=_::_;rw[b7 fun a b ha _=>P8 f i a b ha]
  simp[wk]
 have hin:i=n:=by omega
 subst hin;refine aK (k:=bE rfl ?_);show bL _ _ _ _;have e:gp 20 c i (ER f i 0)=gp 20 c i (trF f):=by
  show _::_=_::_;rw[b7 fun a b _ hb=>P7 f a b hb]
 rw[e];refine bL.weak ((bT 20 (iv rfl)).trans (aE (tm:=(j4 (jk::jk::jk::dV (bi c i (trF f))::j16 (j16 (j4 (j4 (jk::jk::jk::[]))))))) (l:=[]) trivial (by simp[wk];exact(LA (H:=Hm [(20,gp 20 c i (trF f))]) (d:=20) (n:=c) (c:=i) (f:=trF f) rfl).symm))) ?_;refine bC (k:=aV @Tryz.results87)
def idF:Nat->Nat->Int:=fun a b=>if a=b then 1 else 0
def rJ (i:Nat):Nat->Nat->Int:=fun a b=>if a<i/\a=b then 1 else 0
theorem wm (i a b:Nat):upd (rJ i) i i 1 a b=rJ (i+1) a b:=by
 unfold upd rJ;by_cases h1:a=i
 ·subst h1;by_cases h2:b=a
  ·subst h2;simp
  simp[h2,Ne.symm h2]
 have:a<i+1↔a<i:=by omega
 simp[h1,this]
theorem Ak {n:Nat} (a b:Nat) (ha:a<n):rJ n a b=idF a b:=by unfold rJ idF;simp[ha]
theorem MG:rJ 0=fun _ _=>0:=by funext a b;unfold rJ;rw[if_neg (by omega)]
theorem uD (n:Nat) (hn1:1<=n) (hn:n<=16):
  CallC Tryz.prog 41 [.raw (.int .i64 (n:Int))] ⟨gp 0 n n idF,.tup [(false,[.sl 0 0 0 n]),(false,[.p (.raw (.bool true))])]⟩:=by
 have hZ:=rT n n hn hn;rw[oO,nM]at hZ;have hS:=eA 1 (by omega) (by omega);refine aS Tryz.func41 rfl Tryz.ntmps41 (aT (k:=aF (aK (k:=aJ rfl (aH (cb [⟨2,_,_,_,hZ⟩] (k:=aF (bC (k:=?_)))))))));refine aO (G:=iJ n) (fun g=>⟨(j4 (.one (.sl 14 0 0 n)::j4 (j4 (jk::jk::jk::rN n::rN g.i::j4 (j4 (jk::jk::jk::[])))))),Hm [(14,gp 14 n n (rJ g.i))]⟩) (fun g=>n-g.i) ⟨0,by omega⟩ ?_ ?_
 ·refine aE ⟨?_,trivial⟩ ?_
  ·rw[MG];exact fE 0 14 n n _
  simp[wk]
 rintro⟨i,hi⟩;simp only;by_cases hm:i<n
 ·have g1:=bJ (n:=n) (i:=i) 14 n hm;have g2:=dU n (rJ i) hm;have g3:=aQ (rJ i i) hm;have e1:=iB (n:=n) (i:=i) (j:=i) n (rJ i) 1;refine aK (k:=bv rfl (aF (aG (bC (k:=f5 [⟨5,_,_,_,hS⟩] (aP g1 (aP g2 g3)) (k:=bW (k:=?_)))))));refine⟨⟨i+1,by omega⟩,by simp only;omega,aE ⟨?_,trivial⟩ ?_⟩
  ·show _::_=_::_;rw[<- b7 fun a b _ _=>wm i a b]
   congr 1
  simp[wk]
 have hin:i=n:=by omega
 subst hin;refine aK (k:=bE rfl ?_);show bL _ _ _ _;have e:gp 14 i i (rJ i)=gp 14 i i idF:=by
  show _::_=_::_;rw[b7 fun a b ha _=>Ak a b ha]
 rw[e];refine bC (k:=?_);refine bA ⟨.inr rfl,_,ci.refl _,?_⟩;refine⟨.tup [(false,[.sl 14 0 0 i]),(false,[.p (.raw (.bool true))])],14,?_,?_,?_,rfl⟩
 ·simp(disch:=omega) only[kd,Tryz.results41]
 ·intro t ht x hx;simp at ht;rcases ht with rfl|rfl<;>(simp at hx;subst hx)<;>first|rfl|trivial
 exact(fE 14 0 _ _ _).symm
def im (k:Nat) (f g:FF):Nat->Nat->Int:=fun i j=>dE (bj k (f i)) (bj k (trF g j)) k
theorem Ut (n k m:Nat) (f g:FF) (hn1:1<=n) (hn:n<=16) (hk1:1<=k) (hk:k<=16) (hm1:1<=m) (hmm:m<=16) (hf: ∀i j:Nat,i<n->j<k->Sz (f i j) 16777216) (hg: ∀i j:Nat,i<k->j<m->Sz (g i j) 16777216):
  CallC Tryz.prog 88 [dV (bi n k f),dV (bi k m g)] ⟨[],.tup [(false,[.p (.sl (ls (fR fZ) (bi n m (im k f g))))]),(false,[.p (.raw (.bool true))])]⟩:=by
 have hS:=ot (bi n k f);rw[iE (mu f hn1 hn hk1 hk),aW,ji f hn1]at hS;have hT:=tj k m g hk1 hk hm1 hmm (fun i j hi hj=>(hg i j hi hj).mono (by omega));have hml:=aW n k f;have hml2:=aW k m g;have hml3:=aW m k (trF g);have hZ:=rT n m hn hmm;rw[oO,nM]at hZ;refine aS Tryz.func88 rfl Tryz.ntmps88 (aT (k:=cb [⟨1,_,_,_,hS⟩] (k:=cb [⟨1,_,_,_,hT⟩] (k:=aF (aX hml2 (k:=aJ rfl (aH (fw [⟨4,_,_,_,hZ⟩] (aP hml hml3) (k:=aF (il hml (k:=?_)))))))))));refine aO (G:=iJ n) (fun q=>⟨(dV (bi n k f)::j4 (j4 (dV (bi m k (trF g))::jk::.one (.sl 41 0 0 n)::j16 (j4 (j4 (j4 (jk::jk::jk::rN n::rN q.i::j16 (j4 (j4 (jk::[])))))))))),Hm [(41,gp 41 n m (part (im k f g) q.i 0))]⟩) (fun q=>n-q.i) ⟨0,by omega⟩ ?_ ?_
 ·refine aE ⟨?_,trivial⟩ ?_
  ·rw[sI];exact fE 0 41 n m _
  simp[wk]
 rintro⟨i,hi⟩;simp only;by_cases him:i<n
 ·have hr:=bx k f him;refine aK (k:=bv rfl (aF (aG (bC (k:=il hml3 (k:=?_))))));refine aO (G:=iJ m) (fun q=>⟨(dV (bi n k f)::j4 (j4 (dV (bi m k (trF g))::jk::.one (.sl 41 0 0 n)::rN i::j16 (j4 (j4 (j4 (jk::jk::rN n::rN i::jk::jk::jk::rN m::rN q.i::j16 (j4 ([]))))))))),Hm [(41,gp 41 n m (part (im k f g) i q.i))]⟩) (fun q=>m-q.i) ⟨0,by omega⟩ ?_ ?_
  ·refine aE ⟨rfl,trivial⟩ ?_;simp[wk]
  rintro⟨j,hj⟩;simp only;by_cases hm3:j<m
  ·have hr2:=bx k (trF g) hm3;have hD:=FH (bj k (f i)) (bj k (trF g j)) (by rw[bf];omega) (by rw[bf,bf];omega) (fun z hz=>by
    obtain⟨p,hp,rfl⟩:=List.mem_map.1 hz;exact hf i p him (List.mem_range.1 hp)) (fun z hz=>by
    obtain⟨p,hp,rfl⟩:=List.mem_map.1 hz;exact(hg p j (List.mem_range.1 hp) hm3).mono (by omega))
   rw[bf,show dE (bj k (f i)) (bj k (trF g j)) k=im k f g i j from rfl]at hD;have g1:=bJ (n:=n) (i:=i) 41 m him;have g2:=dU m (part (im k f g) i j) him;have g3:=aQ (part (im k f g) i j i) hm3;refine aK (k:=bv rfl (aF (aG (bC (k:=f5 [⟨13,_,_,_,hD⟩] (aP g1 (aP hr (aP hr2 (aP g2 (aP g3 @iB))))) (k:=bW (k:=?_)))))));refine⟨⟨j+1,by omega⟩,by simp only;omega,aE ⟨?_,trivial⟩ ?_⟩
   ·show _::_=_::_;rw[b7 fun a b _ _=>iR (im k f g) i j a b]
   simp[wk]
  have hjc:j=m:=by omega
  subst hjc;refine aK (k:=bE rfl (bW (k:=?_)));refine⟨⟨i+1,by omega⟩,by simp only;omega,aE ⟨?_,trivial⟩ ?_⟩
  ·show _::_=_::_;rw[b7 fun a b _ hb=>ko (im k f g) i a b hb]
  simp[wk]
 have hin:i=n:=by omega
 subst hin;refine aK (k:=bE rfl ?_);show bL _ _ _ _;have e:gp 41 i m (part (im k f g) i 0)=gp 41 i m (im k f g):=by
  show _::_=_::_;rw[b7 fun a b ha _=>kn (im k f g) a b ha]
 rw[e];refine bL.weak ((bT 41 (iv rfl)).trans (aE (tm:=(j4 (j4 (jk::jk::jk::dV (bi i m (im k f g))::j16 (j16 (j16 (j4 (j4 (jk::jk::[]))))))))) (l:=[]) trivial (by simp[wk];exact(LA (H:=Hm [(41,gp 41 i m (im k f g))]) (d:=41) (n:=i) (c:=m) (f:=im k f g) rfl).symm))) ?_;refine bC (k:=aV @Tryz.results88)
theorem rO (n k m:Nat) (f g:FF) (hn1:1<=n) (hn:n<=16) (hk1:1<=k) (hk:k<=16) (hm1:1<=m) (hmm:m<=16) (hf: ∀i j:Nat,i<n->j<k->Sz (f i j) 16777216) (hg: ∀i j:Nat,i<k->j<m->Sz (g i j) 16777216):
  CallC Tryz.prog 45 [dV (bi n k f),dV (bi k m g)] ⟨[],dV (bi n m (im k f g))⟩:=by
 have hM:=Ut n k m f g hn1 hn hk1 hk hm1 hmm hf hg;refine aS Tryz.func45 rfl Tryz.ntmps45 (aT (k:=cb [⟨2,_,_,_,hM⟩] (k:=bC (k:=aV @Tryz.results45))))
theorem PP {k:Nat} {f g:FF} {b c i j:Nat} (hf: ∀p,p<k->Sz (f i p) b) (hg: ∀p,p<k->Sz (g p j) c):Sz (im k f g i j) (b+c+k):=by
 refine mb (gu fun z hz=>?_) (gu fun z hz=>?_) k
 ·obtain⟨p,hp,rfl⟩:=List.mem_map.1 hz;exact hf p (List.mem_range.1 hp)
 obtain⟨p,hp,rfl⟩:=List.mem_map.1 hz;exact hg p (List.mem_range.1 hp)
def cngF (n:Nat) (h t:FF):Nat->Nat->Int:=im n (im n (trF t) h) t
theorem AT (n:Nat) (h t:FF) (hn1:1<=n) (hn:n<=16) (hh: ∀i j:Nat,i<n->j<n->Sz (h i j) 500) (ht: ∀i j:Nat,i<n->j<n->Sz (t i j) 500):
  CallC Tryz.prog 44 [dV (bi n n h),dV (bi n n t)] ⟨[],dV (bi n n (cngF n h t))⟩:=by
 have c1:=tj n n t hn1 hn hn1 hn (fun i j hi hj=>(ht i j hi hj).mono (by omega));have c2:=rO n n n (trF t) h hn1 hn hn1 hn hn1 hn (fun i j hi hj=>(ht j i hj hi).mono (by omega)) (fun i j hi hj=>(hh i j hi hj).mono (by omega));have c3:=rO n n n (im n (trF t) h) t hn1 hn hn1 hn hn1 hn (fun i j hi hj=>(PP (b:=500) (c:=500) (fun p hp=>ht p i hp hi) (fun p hp=>hh p j hp hj)).mono (by omega)) (fun i j hi hj=>(ht i j hi hj).mono (by omega));refine aS Tryz.func44 rfl Tryz.ntmps44 (aT (k:=cb [⟨1,_,_,_,c1⟩] (k:=cb [⟨2,_,_,_,c2⟩,⟨4,_,_,_,c3⟩] (k:=aV (aP @Tryz.results44 @cngF.eq_1)))))
def smF (F:Nat->Int):Nat->Int
 |0=>0
 |k+1=>smF F k+F k
theorem aI {F G:Nat->Int}: ∀k,(∀p,p<k->F p=G p)->smF F k=smF G k
 |0,_=>rfl
 |k+1,h=>by rw[smF,smF,aI k (fun p hp=>h p (by omega)),h k (by omega)]
theorem jM (F G:Nat->Int): ∀k,smF (fun p=>F p+G p) k=smF F k+smF G k
 |0=>rfl
 |k+1=>by rw[smF,smF,smF,jM F G k];omega
theorem cX: ∀k,smF (fun _=>0) k=0
 |0=>rfl
 |k+1=>by rw[smF,cX k];rfl
theorem gU {F:Nat->Int} {a:Nat}: ∀{k},a<k->(∀p,p<k->p≠a->F p=0)->smF F k=F a
 |k+1,h,h0=>by
  by_cases e:a=k
  ·subst e;rw[smF,aI a (G:=fun _=>0) (fun p hp=>h0 p (by omega) (by omega)),cX];omega
  rw[smF,gU (show a<k by omega) (fun p hp hn=>h0 p (by omega) hn),h0 k (by omega) (by omega)];omega
theorem qt {k:Nat} (x y:Nat->Int): ∀l,l<=k->dE (bj k x) (bj k y) l=smF (fun p=>x p*y p) l
 |0,_=>rfl
 |l+1,h=>by
  show dE (bj k x) (bj k y) l+(bj k x).getD l 0*(bj k y).getD l 0=_;rw[qt x y l (by omega),List.getD_eq_getElem?_getD,List.getD_eq_getElem?_getD,aQ _ (by omega),aQ _ (by omega)];rfl
theorem jj (k:Nat) (f g:FF) (i j:Nat):im k f g i j=smF (fun p=>f i p*g p j) k:=qt _ _ k (ac _)
def KH (i j:Nat) (c:Int):Nat->Nat->Int:=upd idF j i c
def Kg (m:Nat):Nat->Nat->Int:=fun a=>idF (o9 m a)
theorem Hd (m a:Nat):o9 m (o9 m a)=a:=by
 unfold o9;by_cases h1:a=m
 ·subst h1;simp
 by_cases h2:a=m+1
 ·subst h2;simp
 simp[h1,h2]
theorem Sn {i j:Nat} {c:Int} (hji:j≠i) (p b:Nat):KH i j c p b=idF p b+(if p=j then(if b=i then c else 0)else 0):=by
 unfold KH upd idF;by_cases h1:p=j
 ·subst h1;by_cases h2:b=i
  ·subst h2;simp[hji]
  simp[h2]
 simp[h1]
theorem AH {n:Nat} {y:Nat->Int} {b:Nat} (hb:b<n):smF (fun p=>y p*idF p b) n=y b:=by
 rw[gU hb (fun p hp hn=>by simp[idF,hn])];simp[idF]
theorem EI {n i j:Nat} {c:Int} (hji:j≠i) (hj:j<n) (x:FF) (a b:Nat) (hb:b<n):im n x (KH i j c) a b=x a b+(if b=i then c*x a j else 0):=by
 rw[jj,aI n (G:=fun p=>x a p*idF p b+x a p*(if p=j then(if b=i then c else 0)else 0)) (fun p _=>by rw[Sn hji,Int.mul_add]),jM,AH hb]
 congr 1
 rw[gU hj (fun p _ hn=>by simp[hn])];by_cases h:b=i
 ·simp[h,Int.mul_comm]
 simp[h]
theorem KI {n i j:Nat} {c:Int} (hji:j≠i) (hj:j<n) (x:FF) (a b:Nat) (ha:a<n):im n (trF (KH i j c)) x a b=x a b+(if a=i then c*x j b else 0):=by
 have:=EI (c:=c) hji hj (trF x) b a ha;rw[jj]at this⊢;rw[aI n (G:=fun p=>trF x b p*KH i j c p a) (fun p _=>by rw[Int.mul_comm];rfl),this];rfl
theorem O5 {n i j:Nat} {c:Int} (hji:j≠i) (hj:j<n) (f:FF) (a b:Nat) (ha:a<n) (hb:b<n):cngF n f (KH i j c) a b=fA f i j c a b:=by
 unfold cngF;rw[EI hji hj _ a b hb,KI hji hj f a b ha,KI hji hj f a j ha];unfold fA;by_cases h1:a=i
 ·by_cases h2:b=i
  ·simp only[h1,h2,if_true];grind
  simp only[h1,h2,if_true,if_false];grind
 by_cases h2:b=i
 ·simp only[h1,h2,if_true,if_false];grind
 simp only[h1,h2,if_false];omega
theorem Pu (m p b:Nat):idF (o9 m p) b=idF p (o9 m b):=by
 unfold idF;have:o9 m p=b↔p=o9 m b:=⟨fun h=>by rw[<- h,Hd],fun h=>by rw[h,Hd]⟩;simp only[this]
theorem EJ {n m:Nat} (hm:m+1<n) (x:FF) (a b:Nat) (hb:b<n):im n x (Kg m) a b=x a (o9 m b):=by
 rw[jj,aI n (G:=fun p=>x a p*idF p (o9 m b)) (fun p _=>by rw[<- Pu];rfl),AH (qb hm hb)]
theorem TW {n m:Nat} (hm:m+1<n) (x:FF) (a b:Nat) (ha:a<n):im n (trF (Kg m)) x a b=x (o9 m a) b:=by
 have:=EJ hm (trF x) b a ha;rw[jj]at this⊢;rw[aI n (G:=fun p=>trF x b p*Kg m p a) (fun p _=>by rw[Int.mul_comm];rfl),this];rfl
theorem SP {n m:Nat} (hm:m+1<n) (f:FF) (a b:Nat) (ha:a<n) (hb:b<n):cngF n f (Kg m) a b=jW f m a b:=by
 unfold cngF;rw[EJ hm _ a b hb,TW hm f a _ ha];rfl
/-! Which change is made. -/
inductive Ch where
 |add (i j:Nat)
 |swp (m:Nat)
instance (f:FF) (i j:Nat):Decidable (SizF f i j):=by unfold SizF;exact inferInstance
instance (f:FF) (i:Nat):Decidable (LovF f i):=by unfold LovF;exact inferInstance
def scanJ (f:FF) (i:Nat):Nat->Option Nat
 |0=>none
 |j+1=>if SizF f i j then scanJ f i j else some j
def scanI (f:FF):Nat->Nat->Option Ch
 |0,_=>none
 |m+1,i=>match scanJ f i i with
  |some j=>some (.add i j)
  |none=>if 0<i/\ ¬LovF f i then some (.swp (i-1))else scanI f m (i+1)
def scanF (f:FF) (n:Nat):Option Ch:=scanI f n 0
theorem mF {f:FF} {i:Nat}: ∀{k},scanJ f i k=none-> ∀j,j<k->SizF f i j
 |k+1,h,j,hj=>by
  unfold scanJ at h;split at h
  ·rename_i hs;by_cases e:j=k
   ·subst e;exact hs
   exact mF h j (by omega)
  cases h
theorem wK {f:FF} {i j:Nat}: ∀{k},scanJ f i k=some j->j<k/\ ¬SizF f i j/\ ∀j',j<j'->j'<k->SizF f i j'
 |k+1,h=>by
  unfold scanJ at h;split at h
  ·rename_i hs;obtain⟨h1,h2,h3⟩:=wK h;refine⟨by omega,h2,fun j' g1 g2=>?_⟩;by_cases e:j'=k
   ·subst e;exact hs
   exact h3 j' g1 (by omega)
  rename_i hs;injection h with h
  subst h;exact⟨by omega,hs,fun j' g1 g2=>by omega⟩
def th (f:FF) (i:Nat):Prop:=(∀j,j<i->SizF f i j)/\(0<i->LovF f i)
theorem wI {f:FF}: ∀{m i},scanI f m i=none-> ∀i',i<=i'->i'<i+m->th f i'
 |0,i,_,i',h1,h2=>by omega
 |m+1,i,h,i',h1,h2=>by
  unfold scanI at h;split at h
  ·cases h
  rename_i hj;split at h
  ·cases h
  rename_i hl;by_cases e:i'=i
  ·subst e;exact⟨mF hj,fun h0=>by
    by_cases hL:LovF f i'
    ·exact hL
    exact absurd ⟨h0,hL⟩ hl⟩
  exact wI h i' (by omega) (by omega)
def U9 (f:FF):Ch->Prop
 | .add i j=>j<i/\ ¬SizF f i j/\(∀j',j<j'->j'<i->SizF f i j')/\ ∀i',i'<i->th f i'
 | .swp m=> ¬LovF f (m+1)/\(∀j,j<m+1->SizF f (m+1) j)/\ ∀i',i'<m+1->th f i'
def FZ:Ch->Nat
 | .add i _=>i
 | .swp m=>m+1
theorem wJ {f:FF} {c:Ch}: ∀{m i},(∀i',i'<i->th f i')->scanI f m i=some c->U9 f c/\FZ c<i+m
 |m+1,i,hi,h=>by
  unfold scanI at h;split at h
  ·rename_i j hj;injection h with h
   subst h;obtain⟨h1,h2,h3⟩:=wK hj;exact⟨⟨h1,h2,h3,hi⟩,by simp[FZ]⟩
  rename_i hj;split at h
  ·rename_i hl;injection h with h
   subst h;have e:i-1+1=i:=by omega
   refine⟨⟨by rw[e];exact hl.2,by rw[e];exact mF hj,by rw[e];exact hi⟩,by simp[FZ];omega⟩
  rename_i hl;have:=wJ (m:=m) (i:=i+1) (fun i' h'=>by
   by_cases e:i'=i
   ·subst e;exact⟨mF hj,fun h0=>by
     by_cases hL:LovF f i'
     ·exact hL
     exact absurd ⟨h0,hL⟩ hl⟩
   exact hi i' (by omega)) h
  exact⟨this.1,by omega⟩
theorem iT {f:FF} {n:Nat} {c:Ch} (h:scanF f n=some c):U9 f c/\FZ c<n:=by
 have:=wJ (f:=f) (m:=n) (i:=0) (fun i' h=>by omega) h;exact⟨this.1,by omega⟩
theorem EZ {f:FF} {n:Nat} (h:scanF f n=none):Sg f n:=fun i hi=>wI (m:=n) (i:=0) h i (by omega) (by omega)
def wZ (i:Nat):Nat:=i*(i-1)/2
def CD:Ch->Nat
 | .add i j=>wZ i+(i-1-j)
 | .swp m=>wZ (m+2)
theorem lY (i:Nat):wZ (i+1)=wZ i+i:=by
 unfold wZ;cases i with
 |zero=>rfl
 |succ i=>
  rw[Nat.add_sub_cancel,Nat.add_sub_cancel];have:(i+1+1)*(i+1)=(i+1)*i+2*(i+1):=by rw[Nat.add_mul,Nat.one_mul,Nat.mul_add,Nat.mul_add,Nat.add_mul];omega
  rw[this,Nat.add_mul_div_left _ _ (by omega)]
theorem jX {i j:Nat} (h:i<=j):wZ i<=wZ j:=by
 induction j with
 |zero=>have:i=0:=(by omega);subst this;exact ac _
 |succ j ih=>
  by_cases e:i=j+1
  ·subst e;exact ac _
  have:=ih (by omega);rw[lY];omega
def rankF (f:FF) (n:Nat):Nat:=match scanF f n with
 |some c=>CD c
 |none=>wZ n
theorem re (f:FF) (n:Nat):rankF f n<=wZ n:=by
 unfold rankF;split
 ·rename_i c hc;obtain⟨h1,h2⟩:=iT hc;cases c with
  |add i j=>
   have h2:i<n:=h2;have:=jX (show i+1<=n by omega);rw[lY]at this;obtain⟨h1,_⟩:=h1;simp only[CD];omega
  |swp m=>
   have h2:m+1<n:=h2;exact jX (show m+2<=n by omega)
 exact ac _
theorem Qc {f:FF} {n i j:Nat} (hj:j<i) (hi:i<n) (h1: ∀i',i'<i->th f i') (h2: ∀j',j<=j'->j'<i->SizF f i j'):wZ i+(i-1-j)<rankF f n:=by
 have hni:=jX (show i+1<=n by omega);rw[lY]at hni;unfold rankF;split
 ·rename_i c hc;obtain⟨g1,g2⟩:=iT hc;cases c with
  |add i' j'=>
   obtain⟨a1,a2,a3,a4⟩:=g1;simp only[CD];rcases Nat.lt_trichotomy i' i with h|h|h
   ·exact absurd ((h1 i' h).1 j' a1) a2
   ·subst h;by_cases e:j<=j'
    ·exact absurd (h2 j' e a1) a2
    omega
   have:=jX (show i+1<=i' by omega);rw[lY]at this;omega
  |swp m=>
   obtain⟨a1,a2,a3⟩:=g1;simp only[CD];by_cases h:m+1<i
   ·exact absurd ((h1 (m+1) h).2 (by omega)) a1
   have:=jX (show i+1<=m+2 by omega);rw[lY]at this;omega
 omega
section
theorem Bm {B:Nat} {d1 d0 x y u v:Int} (h1:0<d1) (h0:d0.natAbs<=B) (h:d1*x=d0*y+u*v):x.natAbs<=B*y.natAbs+u.natAbs*v.natAbs:=by
 have e1:d1.natAbs*x.natAbs=(d0*y+u*v).natAbs:=by rw[<- Int.natAbs_mul,h]
 have e2:=Int.natAbs_add_le (d0*y) (u*v);rw[Int.natAbs_mul,Int.natAbs_mul]at e2;have e3:d0.natAbs*y.natAbs<=B*y.natAbs:=Nat.mul_le_mul_right _ h0;have e4:x.natAbs<=d1.natAbs*x.natAbs:=Nat.le_mul_of_pos_left _ (by omega);omega
theorem Mh {d1 d0 x y l:Int} (h1:0<d1) (h0:0<d0) (hx:0<x) (hy:0<y) (h:d1*x=d0*y+l*l):d1.natAbs*x.natAbs=d0.natAbs*y.natAbs+l.natAbs*l.natAbs:=by
 apply Int.ofNat_inj.1;rw[Int.natCast_add,Int.natCast_mul,Int.natCast_mul,Int.natCast_mul,Int.natAbs_of_nonneg (by omega),Int.natAbs_of_nonneg (by omega),Int.natAbs_of_nonneg (by omega),Int.natAbs_of_nonneg (by omega),Int.natAbs_mul_self',h]
structure Def (f:FF) (n B:Nat):Prop where
 sym:SymF f n
 pos: ∀t,t<n->0<dk f (t+1)
 le: ∀k,k<=n->(dk f k).natAbs<=B
section
variable {f:FF} {n B:Nat}
theorem Def.ne (h:Def f n B): ∀t,t<n->dk f (t+1)≠0:=fun t ht=>by have:=h.pos t ht;omega
theorem Def.pos0 (h:Def f n B) {k:Nat} (hk:k<=n):0<dk f k:=by
 cases k with
 |zero=>rw[da];omega
 |succ k=>exact h.pos k (by omega)
theorem Def.sylv (h:Def f n B) {k a b:Nat} (hk:k<n) (ha:a<n) (hb:b<n):dk f (k+1)*bk f k a b=dk f k*bk f (k+1) a b+bk f k a k*bk f k b k:=by
 have s:=Go.Proofs.YtiollbhgpiiodaaGreatDoor.sylv f k (fun t ht=>h.ne t (by omega)) a b;rw[ju h.sym k (by omega) (fun t ht=>h.ne t (by omega)) k b hk hb]at s;omega
theorem Def.diag (h:Def f n B) {a:Nat} (ha:a<n): ∀m k,a-k=m->k<=a->0<bk f k a a
 |0,k,hm,hk=>by
  have:k=a:=by omega
  subst this;rw[<- ca];exact h.pos k ha
 |m+1,k,hm,hk=>by
  have ih:=h.diag ha m (k+1) (by omega) (by omega);have s:=h.sylv (k:=k) (by omega) ha ha;have p1:=h.pos k (by omega);have p0:=h.pos0 (k:=k) (by omega);have q1:=Int.mul_pos p0 ih;have q2:0<=bk f k a k*bk f k a k:=by
   rcases Int.le_total 0 (bk f k a k)with h|h
   ·exact Int.mul_nonneg h h
   exact Int.mul_nonneg_of_nonpos_of_nonpos h h
  rcases Int.lt_or_le 0 (bk f k a a)with h|h
  ·exact h
  have:=Int.mul_nonpos_of_nonneg_of_nonpos (Int.le_of_lt p1) h;omega
theorem Def.down (h:Def f n B) {a k:Nat} (ha:a<n) (hk:k<a):(bk f k a k).natAbs*(bk f k a k).natAbs<=B*(bk f k a a).natAbs/\(bk f (k+1) a a).natAbs<=B*(bk f k a a).natAbs:=by
 have s:=Mh (h.pos k (by omega)) (h.pos0 (k:=k) (by omega)) (h.diag ha _ k rfl (by omega)) (h.diag ha _ (k+1) rfl (by omega)) (h.sylv (k:=k) (by omega) ha ha);have hB:=Nat.mul_le_mul_right (bk f k a a).natAbs (h.le (k+1) (by omega));have p0:=h.pos0 (k:=k) (by omega);have:=Nat.le_mul_of_pos_left (bk f (k+1) a a).natAbs (show 0<(dk f k).natAbs by omega);omega
theorem Def.nm (h:Def f n B) {a:Nat} (ha:a<n): ∀k,k<=a->(bk f k a a).natAbs<=B^k*(f a a).natAbs
 |0,_=>by rw[dz];simp
 |k+1,hk=>by
  have h1:=(h.down ha (show k<a by omega)).2;have h2:=aB B (h.nm ha k (by omega));rw[Nat.pow_succ,Nat.mul_comm (B^k) B,Nat.mul_assoc];omega
theorem Def.lam_le (h:Def f n B) {a k C:Nat} (ha:a<n) (hk:k<a) (hB:1<=B) (hC:(f a a).natAbs<=C):(bk f k a k).natAbs<=B^n*C:=by
 have h1:=(h.down ha hk).1;have h2:=aB B (h.nm ha k (by omega));have h3:(bk f k a k).natAbs<=(bk f k a k).natAbs*(bk f k a k).natAbs:=Nat.le_mul_self _;have h4:B*(B^k*(f a a).natAbs)=B^(k+1)*(f a a).natAbs:=by rw[Nat.pow_succ,Nat.mul_comm (B^k) B,Nat.mul_assoc]
 have h5:B^(k+1)<=B^n:=aD hB (by omega);have h6:B^(k+1)*(f a a).natAbs<=B^n*C:=Nat.mul_le_mul h5 hC;omega
theorem Def.up (h:Def f n B) {a L:Nat} (ha:a<n) (hL: ∀k,k<a->(bk f k a k).natAbs<=L): ∀m k,a-k=m->k<=a->(bk f k a a).natAbs<=(B+L*L)*(B+1)^m
 |0,k,hm,hk=>by
  have:k=a:=by omega
  subst this;rw[<- ca];have:=h.le (k+1) (by omega)
  simp;omega
 |m+1,k,hm,hk=>by
  have ih:=h.up ha hL m (k+1) (by omega) (by omega);have s:=Bm (h.pos k (by omega)) (h.le k (by omega)) (h.sylv (k:=k) (by omega) ha ha);have hl:=hL k (by omega);have h2:=Nat.mul_le_mul hl hl;have h3:=aB B ih;have h4:L*L<=(B+L*L)*(B+1)^m:=aA (by omega) (Nat.le_mul_of_pos_right _ (Nat.pow_pos (by omega)));rw[Nat.pow_succ,<- Nat.mul_assoc,Nat.mul_add,Nat.mul_one,Nat.mul_comm _ B];omega
theorem Def.norm_le (h:Def f n B) {a L:Nat} (ha:a<n) (hL: ∀k,k<a->(bk f k a k).natAbs<=L):(f a a).natAbs<=(B+L*L)*(B+1)^n:=by
 have h1:=h.up ha hL a 0 rfl (by omega);rw[dz]at h1;exact aA h1 (aB _ (aD (by omega) (by omega)))
theorem Def.ent_up (h:Def f n B) {a b L:Nat} (ha:a<n) (hb:b<a) (hL: ∀a k,a<n->k<a->(bk f k a k).natAbs<=L): ∀m k,b-k=m->k<=b->(bk f k a b).natAbs<=(L+L*L)*(B+1)^m
 |0,k,hm,hk=>by
  have:k=b:=by omega
  subst this;have:=hL a k ha hb
  simp;omega
 |m+1,k,hm,hk=>by
  have ih:=h.ent_up ha hb hL m (k+1) (by omega) (by omega);have s:=Bm (h.pos k (by omega)) (h.le k (by omega)) (h.sylv (k:=k) (a:=a) (b:=b) (by omega) ha (by omega));have h2:=Nat.mul_le_mul (hL a k ha (by omega)) (hL b k (by omega) (by omega));have h3:=aB B ih;have h4:L*L<=(L+L*L)*(B+1)^m:=aA (by omega) (Nat.le_mul_of_pos_right _ (Nat.pow_pos (by omega)));rw[Nat.pow_succ,<- Nat.mul_assoc,Nat.mul_add,Nat.mul_one,Nat.mul_comm _ B];omega
theorem Def.ent_le (h:Def f n B) {L:Nat} (hL: ∀a k,a<n->k<a->(bk f k a k).natAbs<=L) {a b:Nat} (ha:a<n) (hb:b<n):(f a b).natAbs<=(B+L+L*L)*(B+1)^n:=by
 have key: ∀a b,a<n->b<a->(f a b).natAbs<=(B+L+L*L)*(B+1)^n:=fun a b ha hb=>by
  have h1:=h.ent_up ha hb hL b 0 rfl (by omega);rw[dz]at h1;refine aA h1 (Nat.mul_le_mul (by omega) (aD (by omega) (by omega)))
 rcases Nat.lt_trichotomy a b with h'|h'|h'
 ·rw[h.sym a ha b hb];exact key b a hb h'
 ·subst h';have h1:=h.norm_le ha (fun k hk=>hL a k ha hk);exact aA h1 (Nat.mul_le_mul_right _ (by omega))
 exact key a b ha h'
end
/-! The numbers of the reduction. -/
section
variable {f:FF} {n B:Nat}
def cN (n B:Nat):Nat:=(B+B*B)*(B+1)^n
def l0 (n B:Nat):Nat:=B^n*cN n B
theorem wQ (h:Def f n B) {i j:Nat} (hi:i<n) (hj:j<i):SizF f i j↔2*((bk f j i j).natAbs:Int)<=dk f (j+1):=by
 rw[SizF,pP h.pos (by omega),kN h.pos (by omega)]
theorem ED (h:Def f n B) {i:Nat} (hi:i<n) (h0:0<i):LovF f i↔3*(dk f i*dk f i)<=4*(dk f (i-1)*dk f (i+1)+bk f (i-1) i (i-1)*bk f (i-1) i (i-1)):=by
 rw[LovF,pP h.pos (by omega),kN h.pos (by omega),kN h.pos (by omega),kN h.pos (by omega)]
theorem E9 (h:Def f n B) {i j:Nat} (hi:i<n) (hj:j<i) (hs:SizF f i j):(bk f j i j).natAbs<=B:=by
 have h1:=(wQ h hi hj).1 hs;have h2:=h.le (j+1) (by omega);omega
theorem sS (h:Def f n B) {i:Nat} (hi:i<n) (hs: ∀j,j<i->SizF f i j):(f i i).natAbs<=cN n B:=h.norm_le hi fun k hk=>E9 h hi hk (hs k hk)
def Jn (f:FF) (n B:Nat):Prop:=(∀a,a<n->(f a a).natAbs<=cN n B)\/
 ∃i,i<n/\(∀a,a<n->a≠i->(f a a).natAbs<=cN n B)/\(∀i',i'<i->th f i')/\ ∃s,s<=i/\(∀j',s<=j'->j'<i->SizF f i j')/\ ∀k,k<i->(bk f k i k).natAbs+2<=(l0 n B+2)*(B+2)^(i-s)
def lM (n B:Nat):Nat:=(l0 n B+2)*(B+2)^n
theorem Jn.lam (h:Def f n B) (hB:1<=B) (hj:Jn f n B): ∀a k,a<n->k<a->(bk f k a k).natAbs<=lM n B:=by
 have h1:l0 n B<=lM n B:=aA (by omega) (Nat.le_mul_of_pos_right _ (Nat.pow_pos (by omega)));have h2: ∀e,e<=n->(l0 n B+2)*(B+2)^e<=lM n B:=fun e he=>aB _ (aD (by omega) he)
 rcases hj with hj|⟨i,hi,hj,_,s,hs,_,hl⟩
 ·exact fun a k ha hk=>aA (h.lam_le ha hk hB (hj a ha)) h1
 intro a k ha hk;by_cases e:a=i
 ·subst e;have:=hl k hk;have:=h2 (a-s) (by omega);omega
 exact aA (h.lam_le ha hk hB (hj a ha e)) h1
def eN (n B:Nat):Nat:=(B+lM n B+lM n B*lM n B)*(B+1)^n
theorem Jn.ent (h:Def f n B) (hB:1<=B) (hj:Jn f n B) {a b:Nat} (ha:a<n) (hb:b<n):(f a b).natAbs<=eN n B:=h.ent_le (hj.lam h hB) ha hb
end
end
section
theorem P9 {l d:Int} (hd:0<d):2*((l+ -(qF l d)*d).natAbs:Int)<=d:=by
 unfold qF;have h1:=Int.emod_add_mul_ediv (2*l+d) (2*d);have h2:=Int.emod_nonneg (2*l+d) (show 2*d≠0 by omega);have h3:=Int.emod_lt_of_pos (2*l+d) (show 0<2*d by omega);generalize(2*l+d)/(2*d)=q at*
 have e:2*d*q=2*(q*d):=by rw[Int.mul_assoc,Int.mul_comm d q]
 rw[e]at h1;have e2: -q*d= -(q*d):=Int.neg_mul q d;rw[e2];omega
theorem ES {l d:Int} (hd:0<d):(qF l d).natAbs<=l.natAbs+1:=by
 unfold qF;have h1:=Int.emod_add_mul_ediv (2*l+d) (2*d);have h2:=Int.emod_nonneg (2*l+d) (show 2*d≠0 by omega);have h3:=Int.emod_lt_of_pos (2*l+d) (show 0<2*d by omega);generalize(2*l+d)/(2*d)=q at*
 have e:2*d*q=2*(d*q):=Int.mul_assoc 2 d q;rw[e]at h1;have e2:(d*q).natAbs=d.natAbs*q.natAbs:=Int.natAbs_mul d q;have e3:l.natAbs<=d.natAbs*l.natAbs:=Nat.le_mul_of_pos_left _ (by omega);rcases Nat.lt_or_ge (l.natAbs+1) q.natAbs with h|h
 ·exfalso;have h4:=aB d.natAbs (show l.natAbs+2<=q.natAbs by omega);rw[Nat.mul_add]at h4;omega
 exact h
section
variable {f:FF} {n B:Nat}
theorem KJ (hs:SymF f n) {i j:Nat} (c:Int) (hj:j<n):SymF (fA f i j c) n:=fun a ha b hb=>by
 by_cases hab:a=b
 ·subst hab;rfl
 unfold fA;rw[hs a ha b hb];by_cases h1:a=i
 ·by_cases h2:b=i
  ·omega
  simp only[h1,h2,if_true,if_false];rw[hs j hj b hb];omega
 by_cases h2:b=i
 ·simp only[h1,h2,if_true,if_false];rw[hs a ha j hj];omega
 simp only[h1,h2,if_false]
theorem Def.add (h:Def f n B) {i j:Nat} (c:Int) (hji:j<i) (hi:i<n):Def (fA f i j c) n B:=by
 obtain⟨h1,_⟩:=j8 h.sym h.ne c hji hi;exact⟨KJ h.sym c (by omega),fun t ht=>by rw[h1 (t+1) (by omega)];exact h.pos t ht,fun k hk=>by rw[h1 k hk];exact h.le k hk⟩
theorem yy (h:Def f n B) {i j:Nat} (c:Int) (hji:j<i) (hi:i<n) {i':Nat} (hi':i'<i) (hr:th f i'):th (fA f i j c) i':=by
 have h':=h.add c hji hi;obtain⟨h1,h2,h3⟩:=j8 h.sym h.ne c hji hi;have hb: ∀k,k<i'->bk (fA f i j c) k i' k=bk f k i' k:=fun k hk=>by
  by_cases e:k<=j
  ·rw[h2 k i' k e,uX (by omega) (by omega)]
  exact h3 k i' k (by omega) (by omega) (by omega) (by omega)
 refine⟨fun k hk=>?_,fun h0=>?_⟩
 ·rw[wQ h' (by omega) hk,hb k hk,h1 _ (by omega)];exact(wQ h (by omega) hk).1 (hr.1 k hk)
 rw[ED h' (by omega) h0,hb _ (by omega),h1 _ (by omega),h1 _ (by omega),h1 _ (by omega)];exact(ED h (by omega) h0).1 (hr.2 h0)
def cF (f:FF) (i j:Nat):Int:= -(qF (lam f i j) (dd f (j+1)))
theorem KU (h:Def f n B) {i j:Nat} (hj:j<n):cF f i j= -(qF (bk f j i j) (dk f (j+1))):=by rw[cF,pP h.pos hj,kN h.pos (by omega)]
theorem AA (h:Def f n B) {i j:Nat} (hji:j<i) (hi:i<n) {j':Nat} (h1:j<=j') (h2:j'<i) (hs:j<j'->SizF f i j'):SizF (fA f i j (cF f i j)) i j':=by
 have h':=h.add (cF f i j) hji hi;obtain⟨g1,g2,g3⟩:=j8 h.sym h.ne (cF f i j) hji hi;rw[wQ h' hi h2,g1 _ (by omega)];by_cases e:j'=j
 ·subst e;rw[g2 j' i j' (by omega)];have:fA (bk f j') i j' (cF f i j') i j'=bk f j' i j'+cF f i j'*dk f (j'+1):=by
   unfold fA;have hn: ¬j'=i:=by omega
   simp only[if_true,hn,if_false];rw[ca];omega
  rw[this,KU h (by omega)];exact P9 (h.pos j' (by omega))
 rw[g3 j' i j' (by omega) (by omega) hi (by omega)];exact(wQ h hi h2).1 (hs (by omega))
theorem Sd (h:Def f n B) (hB:1<=B) (hJ:Jn f n B) {i j:Nat} (hF:U9 f (.add i j)) (hi:i<n):Jn (fA f i j (cF f i j)) n B:=by
 obtain⟨hji,hns,hs,hr⟩:=hF;obtain⟨g1,g2,g3⟩:=j8 h.sym h.ne (cF f i j) hji hi;have hoff: ∀a,a≠i->fA f i j (cF f i j) a a=f a a:=fun a ha=>uX ha ha
 -- the new lambdas of row i
 have hnew: ∀M:Nat,(∀k,k<i->(bk f k i k).natAbs+2<=M)-> ∀k,k<i->(bk (fA f i j (cF f i j)) k i k).natAbs+2<=M*(B+2):=fun M hM k hk=>by
  have hMk:=hM k hk;have hMj:=hM j hji;have e0:M*(B+2)=M*B+2*M:=by rw[Nat.mul_add,Nat.mul_comm M 2]
  rcases Nat.lt_trichotomy k j with e|e|e
  ·rw[g2 k i k (by omega)];have e1:fA (bk f k) i j (cF f i j) i k=bk f k i k+cF f i j*bk f k j k:=by
    unfold fA;have hn: ¬k=i:=by omega
    simp only[if_true,hn,if_false];omega
   rw[e1];have a1:=Int.natAbs_add_le (bk f k i k) (cF f i j*bk f k j k);rw[Int.natAbs_mul]at a1;have a2:(cF f i j).natAbs<=(bk f j i j).natAbs+1:=by rw[KU h (by omega),Int.natAbs_neg];exact ES (h.pos j (by omega))
   have a3:(bk f k j k).natAbs<=B:=E9 h (by omega) e ((hr j hji).1 k e);have a4:=Nat.mul_le_mul (show(cF f i j).natAbs<=M by omega) a3;omega
  ·subst e;have hz:=AA h hji hi (ac k) hk (fun h=>by omega);have:=E9 (h.add (cF f i k) hji hi) hi hk hz;have:B<=M*B:=Nat.le_mul_of_pos_left _ (by omega);omega
  rw[g3 k i k (by omega) (by omega) hi (by omega)];have:0<=M*B:=Nat.zero_le _;omega
 have hfin: ∀M e:Nat,1<=e->e<=i-j->M*(B+2)<=(l0 n B+2)*(B+2)^e->(∀a,a<n->a≠i->(f a a).natAbs<=cN n B)->(∀k,k<i->(bk f k i k).natAbs+2<=M)->Jn (fA f i j (cF f i j)) n B:=fun M e he1 he2 hMe hA hM=>by
  refine .inr ⟨i,hi,fun a ha hne=>by rw[hoff a hne];exact hA a ha hne,fun i' hi'=>yy h _ hji hi hi' (hr i' hi'),j,by omega,fun j' h1 h2=>AA h hji hi h1 h2 (fun h3=>hs j' h3 h2),fun k hk=>?_⟩;refine aA (hnew M hM k hk) (aA hMe (aB _ (aD (by omega) he2)))
 rcases hJ with hA|⟨i1,hi1,hA,hr1,s,hs1,hs2,hl⟩
 ·refine hfin (l0 n B+2) 1 (by omega) (by omega) (by rw[Nat.pow_one];exact ac _) (fun a ha _=>hA a ha) (fun k hk=>?_);have:(bk f k i k).natAbs<=l0 n B:=h.lam_le hi hk hB (hA i hi);omega
 by_cases e:i1=i
 ·subst e;have hjs:j<s:=by
   rcases Nat.lt_or_ge j s with h'|h'
   ·exact h'
   exact absurd (hs2 j h' hji) hns
  refine hfin ((l0 n B+2)*(B+2)^(i1-s)) (i1-s+1) (by omega) (by omega) (by rw[Nat.pow_succ,Nat.mul_assoc];exact ac _) hA hl
 have hall:(f i1 i1).natAbs<=cN n B:=by
  rcases Nat.lt_or_ge i1 i with h'|h'
  ·exact sS h hi1 (hr i1 h').1
  exact absurd ((hr1 i (by omega)).1 j hji) hns
 have hA': ∀a,a<n->(f a a).natAbs<=cN n B:=fun a ha=>by
  by_cases e':a=i1
  ·subst e';exact hall
  exact hA a ha e'
 refine hfin (l0 n B+2) 1 (by omega) (by omega) (by rw[Nat.pow_one];exact ac _) (fun a ha _=>hA' a ha) (fun k hk=>?_);have:(bk f k i k).natAbs<=l0 n B:=h.lam_le hi hk hB (hA' i hi);omega
theorem yJ (h:Def f n B) {m:Nat} (hm:m+1<n) (hl: ¬LovF f (m+1)):4*dk (jW f m) (m+1)<3*dk f (m+1)/\0<dk (jW f m) (m+1):=by
 obtain⟨h1,h2⟩:=wW h.sym h.pos hm;refine⟨?_,h2⟩;have h3: ¬3*(dk f (m+1)*dk f (m+1))<=4*(dk f m*dk f (m+2)+bk f m (m+1) m*bk f m (m+1) m):=fun hh=>hl ((ED h hm (by omega)).2 hh)
 rw[<- h1]at h3;have p:=h.pos m (by omega);rcases Int.lt_or_le (4*dk (jW f m) (m+1)) (3*dk f (m+1))with h4|h4
 ·exact h4
 exfalso;have h5:=Int.mul_le_mul_of_nonneg_left h4 (Int.le_of_lt p);have e1:dk f (m+1)*(3*dk f (m+1))=3*(dk f (m+1)*dk f (m+1)):=Int.mul_left_comm _ _ _;have e2:dk f (m+1)*(4*dk (jW f m) (m+1))=4*(dk f (m+1)*dk (jW f m) (m+1)):=Int.mul_left_comm _ _ _;omega
theorem Def.swap (h:Def f n B) {m:Nat} (hm:m+1<n) (hl: ¬LovF f (m+1)):Def (jW f m) n B:=by
 obtain⟨h1,_⟩:=ol h.sym h.pos hm;obtain⟨g1,g2⟩:=yJ h hm hl;have p:=h.pos m (by omega);refine⟨fun a ha b hb=>h.sym _ (qb hm ha) _ (qb hm hb),fun t ht=>?_,fun k hk=>?_⟩
 ·by_cases e:t=m
  ·subst e;exact g2
  rw[h1 (t+1) (by omega) (by omega)];exact h.pos t ht
 by_cases e:k=m+1
 ·subst e;have:=h.le (m+1) hk;omega
 rw[h1 k hk e];exact h.le k hk
theorem OE (h:Def f n B) (hJ:Jn f n B) {m:Nat} (hF:U9 f (.swp m)) (hm:m+1<n):Jn (jW f m) n B:=by
 obtain⟨hnl,hs,hr⟩:=hF;have hA: ∀a,a<n->(f a a).natAbs<=cN n B:=by
  rcases hJ with hA|⟨i,hi,hA,hr1,_⟩
  ·exact hA
  intro a ha;by_cases e:a=i
  ·subst e;rcases Nat.lt_trichotomy a (m+1)with h'|h'|h'
   ·exact sS h ha (hr a h').1
   ·subst h';exact sS h ha hs
   exact absurd ((hr1 (m+1) h').2 (by omega)) hnl
  exact hA a ha e
 exact .inl fun a ha=>hA _ (qb hm ha)
def prD (f:FF):Nat->Nat
 |0=>1
 |k+1=>prD f k*(dk f (k+1)).natAbs
theorem sJ {g:FF}: ∀k,(∀t,t<k->dk g (t+1)=dk f (t+1))->prD g k=prD f k
 |0,_=>rfl
 |k+1,h=>by rw[prD,prD,sJ k (fun t ht=>h t (by omega)),h k (by omega)]
theorem G3 (h:Def f n B): ∀k,k<=n->0<prD f k
 |0,_=>by simp[prD]
 |k+1,hk=>by
  have:=h.pos k (by omega);exact Nat.mul_pos (G3 h k (by omega)) (by omega)
theorem MF (h:Def f n B): ∀k,k<=n->prD f k<=B^k
 |0,_=>by simp[prD]
 |k+1,hk=>by rw[prD,Nat.pow_succ];exact Nat.mul_le_mul (MF h k (by omega)) (h.le (k+1) hk)
theorem Cw (h:Def f n B) {m:Nat} (hm:m+1<n) (hl: ¬LovF f (m+1)): ∀k,m<k->k<=n->4*prD (jW f m) k<=3*prD f k
 |k+1,hk,hkn=>by
  obtain⟨h1,_⟩:=ol h.sym h.pos hm;obtain⟨g1,g2⟩:=yJ h hm hl;have p:=h.pos m (by omega);rw[prD,prD];by_cases e:k=m
  ·subst e;rw[sJ k (fun t ht=>h1 (t+1) (by omega) (by omega)),Nat.mul_left_comm,Nat.mul_left_comm 3];exact aB _ (by omega)
  have ih:=Cw h hm hl k (by omega) (by omega);rw[h1 (k+1) hkn (by omega),<- Nat.mul_assoc,<- Nat.mul_assoc];exact Nat.mul_le_mul_right _ ih
end
/-! Bounds of the minors of a matrix of small entries. -/
theorem LZ {E:Nat} {r:Nat->Int} (hr: ∀c,(r c).natAbs<=E) {M:Nat}: ∀(cs:List Nat) (N:Nat) (F:List Nat->Int),cs.length<=N->(∀l,l.length<=N->(F l).natAbs<=M)->(dR r F cs).natAbs<=cs.length*(E*M)
 |[],_,_,_,_=>by simp[dR]
 |c::cs,N,F,hN,hF=>by
  rw[dR];have h1:=Int.natAbs_sub_le (r c*F cs) (dR r (fun l=>F (c::l)) cs);have h2:=LZ hr cs (N-1) (fun l=>F (c::l)) (by simp at hN;omega) (fun l hl=>hF (c::l) (by simp at hN⊢;omega));rw[Int.natAbs_mul]at h1;have h3:=Nat.mul_le_mul (hr c) (hF cs (by simp at hN;omega));rw[List.length_cons,Nat.add_mul,Nat.one_mul];omega
theorem RG {E L:Nat} {f:FF} (hf: ∀a b,(f a b).natAbs<=E): ∀k l,l.length<=L->(om f k l).natAbs<=(L*E)^k
 |0,l,_=>by simp[om]
 |k+1,l,hl=>by
  rw[om];have:=LZ (hf k) l L (om f k) hl (fun l hl=>RG hf k l hl);have h2:l.length*(E*(L*E)^k)<=L*(E*(L*E)^k):=Nat.mul_le_mul_right _ hl;rw[Nat.pow_succ,Nat.mul_comm ((L*E)^k),Nat.mul_assoc];exact aA this h2
theorem Gc: ∀k,(jB k).length=k
 |0=>rfl
 |k+1=>by rw[jB,List.length_cons,Gc k]
abbrev bB:Nat:=722204136308736
theorem SV {E L:Nat} (h1:1<=L*E) {f:FF} (hf: ∀a b,(f a b).natAbs<=E) {k:Nat} (hk:k<=L):(dk f k).natAbs<=(L*E)^L:=
 aA (RG hf k (jB k) (by rw[Gc];exact hk)) (aD h1 hk)
theorem UL {f:FF} (hf: ∀a b,(f a b).natAbs<=9) {k:Nat} (hk:k<=8):(dk f k).natAbs<=bB:=by
 have h1:=SV (L:=8) (by decide) hf hk;have h3:((8*9:Nat))^8=bB:=by decide
 rwa[h3]at h1
end
section
def VM (f:FF):Ch->Nat->Nat->Int
 | .add i j=>fA f i j (cF f i j)
 | .swp m=>jW f m
def Rw (f:FF):Ch->Nat->Nat->Int
 | .add i j=>KH i j (cF f i j)
 | .swp m=>Kg m
inductive Rch (n:Nat):(Nat->Nat->Int)->(Nat->Nat->Int)->(Nat->Nat->Int)->(Nat->Nat->Int)->Prop
 |done (f t:FF) (h:scanF f n=none):Rch n f t f t
 |step (f t h T:FF) (c:Ch) (hc:scanF f n=some c) (hr:Rch n (VM f c) (im n t (Rw f c)) h T):Rch n f t h T
structure Do (N B S Z:Nat):Prop where
 n8:N<=8
 b1:9<=B
 lMs: ∀n,n<N+1->lM n B+1<4294967296^Z
 eNs: ∀n,n<N+1->eN n B<4294967296^400
 pt: ¬4^S<=3^S*B^N
 sz:(Z+4)*(28*S+28)+1<=16000000
 z4:Z<=400
structure RedI (N B Z n:Nat) (f0 f t:FF) (s adds:Nat):Prop where
 dfn:Def f n B
 jn:Jn f n B
 det:dk f n=dk f0 n
 pot:4^s*prD f n<=3^s*B^N
 cnt:adds<=28*s+rankF f n
 szt: ∀a b,a<n->b<n->Sz (t a b) (1+(Z+4)*adds)
theorem VK:Do 8 bB 970 41:=⟨by decide,by decide,by decide+kernel,by decide+kernel,by decide+kernel,by decide,by decide⟩
theorem AJ {n:Nat} (h:n<=8):wZ n<=28:=aA (jX h) (by decide)
theorem P6 {C:Nat} (K:Nat) (hK: ¬4^K<=3^K*C) (s:Nat) (hs:K<=s) (h1:4^s<=3^s*C):False:=by
 obtain⟨r,rfl⟩: ∃r,s=K+r:=⟨s-K,by omega⟩;rw[Nat.pow_add,Nat.pow_add]at h1;have h2:3^K*3^r*C<=3^K*C*4^r:=by
  rw[Nat.mul_assoc,Nat.mul_comm (3^r),<- Nat.mul_assoc];exact aB _ (Nat.pow_le_pow_left (by omega) r)
 exact hK (Nat.le_of_mul_le_mul_right (aA h1 h2) (Nat.pow_pos (by omega)))
section
variable {N B S Z:Nat} {n:Nat} {f0 f t:FF} {s adds:Nat}
theorem RedI.s_le (k:Do N B S Z) (h:RedI N B Z n f0 f t s adds):s<S:=by
 rcases Nat.lt_or_ge s S with hs|hs
 ·exact hs
 exfalso;have p1:=G3 h.dfn n (ac _);have h1:4^s<=3^s*B^N:=aA (Nat.le_mul_of_pos_right _ p1) h.pot;exact P6 S k.pt s hs h1
theorem RedI.adds_le (k:Do N B S Z) (h:RedI N B Z n f0 f t s adds) (hn:n<=N):adds<=28*S+28:=by
 have h1:=h.s_le k;have h2:=h.cnt;have h3:=re f n;have h4:=AJ (aA hn k.n8);omega
theorem RedI.szf (k:Do N B S Z) (h:RedI N B Z n f0 f t s adds) (hn:n<=N) {a b:Nat} (ha:a<n) (hb:b<n):Sz (f a b) 400:=by
 have h1:=h.jn.ent h.dfn (aA (by decide) k.b1) ha hb;exact Nat.lt_of_le_of_lt h1 (k.eNs n (by omega))
theorem RedI.szc (k:Do N B S Z) (h:RedI N B Z n f0 f t s adds) (hn:n<=N) {i j:Nat} (hi:i<n) (hj:j<i):Sz (cF f i j) Z:=by
 rw[KU h.dfn (by omega)];have h1:=ES (l:=bk f j i j) (h.dfn.pos j (by omega));have h2:=h.jn.lam h.dfn (aA (by decide) k.b1) i j hi hj;have h3:=k.lMs n (by omega);unfold Sz;rw[Int.natAbs_neg];generalize 4294967296^Z=p at*
 omega
theorem JI {c:Ch} (h:scanF f n=some c):rankF f n=CD c:=by unfold rankF;rw[h]
theorem RedI.add (k:Do N B S Z) (h:RedI N B Z n f0 f t s adds) (hn:n<=N) {i j:Nat} (hc:scanF f n=some (.add i j)):RedI N B Z n f0 (fA f i j (cF f i j)) (im n t (KH i j (cF f i j))) s (adds+1)/\rankF f n<rankF (fA f i j (cF f i j)) n:=by
 obtain⟨hF,hi⟩:=iT hc;have hi:i<n:=hi;obtain⟨hji,hns,hs,hr⟩:=id hF;have hrk:rankF f n<rankF (fA f i j (cF f i j)) n:=by
  rw[JI hc];exact Qc hji hi (fun i' hi'=>yy h.dfn _ hji hi hi' (hr i' hi')) (fun j' h1 h2=>AA h.dfn hji hi h1 h2 (fun h3=>hs j' h3 h2))
 obtain⟨g1,_⟩:=j8 h.dfn.sym h.dfn.ne (cF f i j) hji hi;have hcn:=h.cnt;refine⟨⟨h.dfn.add _ hji hi,Sd h.dfn (aA (by decide) k.b1) h.jn hF hi,by rw[g1 n (ac _)];exact h.det,by rw[sJ n (fun t ht=>g1 (t+1) (by omega))];exact h.pot,by omega,fun a b ha hb=>?_⟩,hrk⟩;rw[EI (by omega) (by omega) t a b hb];have z1:=h.szt a b ha hb;split
 ·have z2:=(h.szc k hn hi hji).mul (h.szt a j ha (by omega));exact(Sz.add (z1.mono (l:=Z+(1+(Z+4)*adds)) (by omega)) z2).mono (by rw[Nat.mul_add];omega)
 rw[Int.add_zero];exact z1.mono (by rw[Nat.mul_add];omega)
theorem RedI.swap (k:Do N B S Z) (h:RedI N B Z n f0 f t s adds) (hn:n<=N) {m:Nat} (hc:scanF f n=some (.swp m)):RedI N B Z n f0 (jW f m) (im n t (Kg m)) (s+1) adds:=by
 obtain⟨hF,hm⟩:=iT hc;have hm:m+1<n:=hm;obtain⟨hnl,_,_⟩:=id hF;obtain⟨g1,_⟩:=ol h.dfn.sym h.dfn.pos hm;have hcn:=h.cnt;have h3:=re f n;have h4:=AJ (aA hn k.n8);refine⟨h.dfn.swap hm hnl,OE h.dfn h.jn hF hm,by rw[g1 n (ac _) (by omega)];exact h.det,?_,by omega,fun a b ha hb=>?_⟩
 ·have p:=Cw h.dfn hm hnl n (by omega) (ac _);have q:=aB (4^s) p;have e1:4^(s+1)*prD (jW f m) n=4^s*(4*prD (jW f m) n):=by rw[Nat.pow_succ,Nat.mul_assoc]
  have e2:4^s*(3*prD f n)=3*(4^s*prD f n):=Nat.mul_left_comm _ _ _;have e3:3^(s+1)*B^N=3*(3^s*B^N):=by rw[Nat.pow_succ,Nat.mul_comm (3^s) 3,Nat.mul_assoc]
  rw[e1,e3];rw[e2]at q;exact aA q (aB 3 h.pot)
 rw[EJ hm t a b hb];exact h.szt a _ ha (qb hm hb)
def RB (S n:Nat) (f:FF) (s:Nat):Nat:=(S-s)*30+(29-rankF f n)
theorem RedI.mu_add (k:Do N B S Z) (h:RedI N B Z n f0 f t s adds) (hn:n<=N) {i j:Nat} (hc:scanF f n=some (.add i j)):RB S n (fA f i j (cF f i j)) s<RB S n f s:=by
 have h1:=(h.add k hn hc).2;have h2:=re (fA f i j (cF f i j)) n;have h3:=AJ (aA hn k.n8);unfold RB;omega
theorem RedI.mu_swap (k:Do N B S Z) (h:RedI N B Z n f0 f t s adds) (hn:n<=N) {m:Nat} (hc:scanF f n=some (.swp m)):RB S n (jW f m) (s+1)<RB S n f s:=by
 have h1:=(h.swap k hn hc).s_le k;have h2:=re f n;have h3:=AJ (aA hn k.n8);unfold RB;omega
theorem p7 (k:Do N B S Z) (hn:n<=N): ∀m f t s adds,RB S n f s<=m->RedI N B Z n f0 f t s adds-> ∃h T,Rch n f t h T
 |0,f,t,s,adds,hk,h=>by
  cases hc:scanF f n with
  |none=>exact⟨f,t,.done f t hc⟩
  |some c=>
   cases c with
   |add i j=>have:=h.mu_add k hn hc;omega
   |swp m=>have:=h.mu_swap k hn hc;omega
 |m+1,f,t,s,adds,hk,h=>by
  cases hc:scanF f n with
  |none=>exact⟨f,t,.done f t hc⟩
  |some c=>
   cases c with
   |add i j=>
    have:=h.mu_add k hn hc;obtain⟨g,T,hr⟩:=p7 k hn m _ _ _ _ (by omega) (h.add k hn hc).1;exact⟨g,T,.step f t g T _ hc hr⟩
   |swp q=>
    have:=h.mu_swap k hn hc;obtain⟨g,T,hr⟩:=p7 k hn m _ _ _ _ (by omega) (h.swap k hn hc);exact⟨g,T,.step f t g T _ hc hr⟩
theorem RedI.red (h:RedI N B Z n f0 f t s adds) (hn1:1<=n) (hd:dk f0 n<=10000) (hc:scanF f n=none):RedR f n:=by
 refine(un hn1).1 ⟨h.dfn.sym,fun k hk=>?_,?_,EZ hc⟩
 ·rw[qE h.dfn.pos k hk];exact h.dfn.pos k hk
 have:=qE h.dfn.pos (n-1) (by omega);rw[show n-1+1=n by omega]at this;rw[this,h.det];exact hd
theorem RedI.start_ (k:Do N B S Z) (hn:n<=N) (hs:SymF f n) (hp:A2 f n) (hdb: ∀k,k<=n->(dk f k).natAbs<=B) (hb: ∀a,a<n->(f a a).natAbs<=B) (ht: ∀a b,a<n->b<n->Sz (t a b) 1):RedI N B Z n f f t 0 0:=by
 have hpos: ∀k,k<n->0<dk f (k+1):=fun k hk=>(Aj hp k hk).1
 have hdef:Def f n B:=⟨hs,hpos,hdb⟩;have b1:=k.b1;refine⟨hdef,.inl fun a ha=>aA (hb a ha) ?_,rfl,?_,by omega,fun a b ha hb=>(ht a b ha hb).mono (by omega)⟩
 ·unfold cN;exact aA (Nat.le_add_right B (B*B)) (Nat.le_mul_of_pos_right _ (Nat.pow_pos (by omega)))
 simp only[Nat.pow_zero,Nat.one_mul];exact aA (MF hdef n (ac _)) (aD (by omega) hn)
theorem RedI.start (hn1:1<=n) (hn:n<=8) (hs:SymF f n) (hp:A2 f n) (hb: ∀a b,(f a b).natAbs<=9) (ht: ∀a b,a<n->b<n->Sz (t a b) 1):RedI 8 bB 41 n f f t 0 0:=
 RedI.start_ VK hn hs hp (fun k hk=>UL hb (by omega)) (fun a _=>aA (hb a a) (by decide)) ht
end
end
theorem BJ {w w':World} (h:Ext w w'):Keep (fun _=>False) w w':=⟨h.os,h.tape,h.output,h.size,fun k hk _=>h.block k hk⟩
theorem BV {w w':World} (h:Keep (fun _=>False) w w'):Ext w w':=⟨h.os,h.tape,h.output,h.size,fun k hk=>h.block k hk (fun h=>h)⟩
theorem Gy {w w':World} {X:Nat->Prop} (h:Ext w w') (hX: ∀b,X b->b<w.heap.size):Inv w (fun _=>False) X (famH 0 []) (fun _ _=>none) w':=by
 have e: ∀a,famH 0 [] a=[]:=fun a=>by unfold famH;split<;>rfl
 refine⟨BJ h,fun a r o ho=>?_,fun a r a' r' o o' b c c' ho=>?_,fun a r o b c ho=>?_,fun b hb=>Nat.lt_of_lt_of_le (hX b hb) h.size,fun a r o ho=>?_⟩<;>(rw[e]at ho;simp at ho)
theorem ic {P:Program} {f:FuncId} {args:List TV} {r:TV} (hc:callable P f=true) (h: ∀(X:Nat->Prop) (w:World) (vs:Array Value),(∀b,X b->b<w.heap.size)->vs.size=args.length->
  (∀(j:Nat) t,args[j]?=some t-> ∃v:Value,vs[j]?=some v/\t.rel (fun _ _=>none) (fun _=>[]) X w v)->Calls P f vs w fun e w'=> ∃v,e= .returned v/\(∀ρ H Y,r.rel ρ H Y w' v)/\Ext w w'):CallC P f args ⟨[],r⟩:=
 ⟨hc,fun X w vs hX hvs ha=>(h X w vs hX hvs ha).mono fun e w' ⟨v,h1,h2,h3⟩=>⟨v,h1,fun _ _=>none,Gy h3 hX,h2 _ _ _⟩⟩
theorem CallC.calls {P:Program} {f:FuncId} {args:List TV} {r:TV} (h:CallC P f args ⟨[],r⟩) {w:World} {vs:Array Value} (hvs:vs.size=args.length)
  (ha: ∀(j:Nat) t,args[j]?=some t-> ∃v:Value,vs[j]?=some v/\t.rel (fun _ _=>none) (fun _=>[]) (fun _=>False) w v):Calls P f vs w fun e w'=> ∃v,e= .returned v/\(∃ρ H X,r.rel ρ H X w' v)/\Ext w w':=
 (h.2 (fun _=>False) w vs (fun b h=>h.elim) hvs ha).mono fun e w' ⟨v,h1,ρ,h2,h3⟩=>⟨v,h1,⟨_,_,_,h3⟩,BV h2.keep⟩
theorem uo {ρ:Rho} {H:OH} {X:Nat->Prop} {w:World} (v:Int) (b:Bool):(JT v b).rel ρ H X w (.tuple #[.int .i64 v,.bool b]):=by
 refine⟨#[.int .i64 v,.bool b],rfl,rfl,fun j c cs hj=>?_⟩
 match j,hj with
 |0,hj=>
  simp at hj;obtain⟨rfl,rfl⟩:=hj;exact⟨_,rfl,.inr ⟨rfl,_,rfl,cu.raw _ rfl⟩⟩
 |1,hj=>
  simp at hj;obtain⟨rfl,rfl⟩:=hj;exact⟨_,rfl,.inr ⟨rfl,_,rfl,cu.raw _ rfl⟩⟩
 |j+2,hj=>simp at hj
theorem wy {ρ:Rho} {H:OH} {X:Nat->Prop} {w:World} (b:Bool):(TV.raw (.bool b)).rel ρ H X w (.bool b):=cu.raw _ rfl
theorem mD {X:Nat->Prop} {w:World} {u v:Value} (h:cu X w (.raw u) v):v=u:=by cases h;rfl
theorem i4 {X:Nat->Prop} {w:World} {l:List Int} {v:Value} (h:cu X w (.sl (ls fI l)) v): ∃A c,v= .slice A l.length c/\l.length<=c/\l.length<=9223372036854775807/\RdI .i64 w A l:=by
 generalize hx:PV.sl (ls fI l)=x at h;cases h with
 |raw v h=>cases hx
 |ptr b off cs f hX hb hc hr=>cases hx
 |nil a c=>
  injection hx with hx
  have hl:l=[]:=by simpa[ls] using hx
  subst hl;exact⟨a,c,rfl,Nat.zero_le _,by simp,RdI.nil _ _ _⟩
 |sl b off es cap xs f hX hb hes hcap hm hc hr=>
  injection hx with hx
  subst hx;rw[fD]at hcap hm;refine⟨some ⟨b,off,none⟩,cap,by rw[fD],hcap,hm,fun hne=>⟨b,off,rfl,fun i x hx=>?_⟩⟩;rw[az]at hx;obtain⟨z,hz,rfl⟩:=Option.map_eq_some_iff.1 hx;have h1:(ls fI l)[i]?=some (fI z):=by rw[iA,hz];rfl
  have he:es=1:=by rw[<- hes _ (aw h1)];rfl
  subst he;have h2:=hc i _ 0 _ h1 rfl;have h3:=mD (hr i _ 0 _ h1 rfl);rw[h3,Nat.mul_one,Nat.add_zero]at h2;exact h2
theorem o6 {X:Nat->Prop} {w:World} {M:List (List Int)} {v:Value} (h:cu X w (.sl (ls (fR fI) M)) v): ∃A c,v= .slice A M.length c/\M.length<=c/\M.length<=9223372036854775807/\tS .i64 w A M:=by
 generalize hx:PV.sl (ls (fR fI) M)=x at h;cases h with
 |raw v h=>cases hx
 |ptr b off cs f hX hb hc hr=>cases hx
 |nil a c=>
  injection hx with hx
  have hl:M=[]:=by simpa[ls] using hx
  subst hl;exact⟨a,c,rfl,Nat.zero_le _,by simp,tS.nil _ _ _⟩
 |sl b off es cap xs f hX hb hes hcap hm hc hr=>
  injection hx with hx
  subst hx;rw[fD]at hcap hm;refine⟨some ⟨b,off,none⟩,cap,by rw[fD],hcap,hm,fun hne=>⟨b,off,rfl,fun i r hi=>?_⟩⟩;have h1:(ls (fR fI) M)[i]?=some (fR fI r):=by rw[iA,hi];rfl
  have he:es=1:=by rw[<- hes _ (aw h1)];rfl
  subst he;have h2:=hc i _ 0 _ h1 rfl;have h3:=i4 (hr i _ 0 _ h1 rfl);rw[Nat.mul_one,Nat.add_zero]at h2;exact⟨_,h2,h3⟩
/-! The program's functions. -/
theorem md {args:List TV} {vs:Array Value} {X:Nat->Prop} {w:World} (h: ∀(j:Nat) t,args[j]?=some t-> ∃v:Value,vs[j]?=some v/\t.rel (fun _ _=>none) (fun _=>[]) X w v) {j:Nat} {x:PV} (hj:args[j]?=some (.one (.p x))): ∃v:Value,vs[j]?=some v/\cu X w x v:=h j _ hj
theorem Mz (M:List (List Int)) (x y:List Int):CallC Tryz.prog 20 [dj M,jL x,jL y] ⟨[],IU M x y⟩:=by
 refine ic (by kernel_rfl) fun X w vs hX hvs ha=>?_
 obtain⟨v0,e0,r0⟩:=md ha (j:=0) rfl;obtain⟨v1,e1,r1⟩:=md ha (j:=1) rfl;obtain⟨v2,e2,r2⟩:=md ha (j:=2) rfl;obtain⟨A,c,rfl,hc,hl,hR⟩:=o6 r0;obtain⟨B,d,rfl,hd,hlx,hx⟩:=i4 r1;obtain⟨C,d',rfl,hd',hly,hy⟩:=i4 r2;obtain rfl:vs= #[.slice A M.length c,.slice B x.length d,.slice C y.length d']:=by
  apply Array.ext_getElem?;intro j
  match j with
  |0=>exact e0
  |1=>exact e1
  |2=>exact e2
  |j+3=>rw[Array.getElem?_eq_none (by simp at hvs;omega)];rfl
 obtain⟨v,b,g1,g2⟩:=vH M x y;refine(x7 A B C c d d' M x y w hR hx hy hl hc hlx hly).mono fun e w' ⟨h1,h2⟩=>?_
 rw[g2]at h1;rw[g1];exact⟨_,h1,fun _ _ _=>uo v b,h2⟩
theorem G0 (M:List (List Int)) (x:List Int):CallC Tryz.prog 55 [dj M,jL x] ⟨[],IU M x x⟩:=by
 refine ic (by kernel_rfl) fun X w vs hX hvs ha=>?_
 obtain⟨v0,e0,r0⟩:=md ha (j:=0) rfl;obtain⟨v1,e1,r1⟩:=md ha (j:=1) rfl;obtain⟨A,c,rfl,hc,hl,hR⟩:=o6 r0;obtain⟨B,d,rfl,hd,hlx,hx⟩:=i4 r1;obtain rfl:vs= #[.slice A M.length c,.slice B x.length d]:=by
  apply Array.ext_getElem?;intro j
  match j with
  |0=>exact e0
  |1=>exact e1
  |j+2=>rw[Array.getElem?_eq_none (by simp at hvs;omega)];rfl
 obtain⟨v,b,g1,g2⟩:=vH M x x;refine(Mj A B c d M x w hR hx hl hc hlx).mono fun e w' ⟨h1,h2⟩=>?_
 rw[g2]at h1;rw[g1];exact⟨_,h1,fun _ _ _=>uo v b,h2⟩
def C9 (v:Value) (a:Nat) (g:Nat->Value):Nat->Value:=fun j=>if j=0 then v else if j=1 then .int .i64 (a:Int)else g j
theorem Jj (tx n:Nat) (A:Option Addr) (c:Nat) (l:List Int) (a:Nat) (g:Nat->Value) (w:World) (hn:2<=n) (hl:RdI .i8 w A l) (hb: ∀z∈l,-128<=z/\z<=127) (ll:l.length<=9223372036854775807) (ha:a<=l.length) (hT:w.rowIs tx 84 n (C9 (.slice A l.length c) a g)) (hne:l≠[]-> ∀p,A=some p->p.block≠tx):
  Calls Tryz.prog 89 #[.pointer (some ⟨tx,0,none⟩)] w fun e w'=>e= .returned (.int .i64 (l.getD a 0))/\w'.rowIs tx 84 n (C9 (.slice A l.length c) (gZ l a) g)/\w.grownBy w' (some tx):=by
 have HT:=Lib.hid hT;have HL:=Lib.hid hl;have HB:=Lib.hid hb;have HN:=Lib.hid hne;clear hT hl hb hne;have t0:w.cell? ⟨tx,0,none⟩=some (.slice A l.length c):=HT.out.cell (by omega);have t1:w.cell? ⟨tx,1,none⟩=some (.int .i64 (a:Int)):=HT.out.cell (by omega);have t2:w.frozen? ⟨tx,1,none⟩=false:=HT.out.frozen 1;by_cases hlt:a<l.length
 ·obtain⟨z,hz⟩:=getElem?_of_lt hlt;obtain⟨b,off,rfl,hc⟩:=HL.out.at_ hz;have hbt:b≠tx:=HN.out (by rintro rfl;simp at hlt) _ rfl;have hzb:=HB.out z (aw hz);have hz1:=hzb.1;have hz2:=hzb.2;have HZ:Hid (l.getD a 0=z):=Lib.hid (by rw[List.getD_eq_getElem?_getD,hz];rfl);have HNx:Hid (gZ l a=a+1):=Lib.hid (if_pos hlt);clear hz hzb
  go_enter Tryz.func89,Tryz.ntmps89
  go_wp2_with fail
  go_quiet (fail)
  go_wp2_with fail
  have hrow:=((nZ HT.out nq).set 1 (.int .i64 ((a:Int)+1))).congr (g:=C9 (.slice (some ⟨b,off,none⟩) l.length c) (a+1) g) (fun j hj=>by
   match j,hj with
   |0,_=>rfl
   |1,_=>simp[C9]
   |j+2,_=>simp[C9])
  have HROW:=Lib.hid hrow;have HG:=Lib.hid (S4 (r9 ((Ext.refl w).drewN nq) tx) 1 (.int .i64 ((a:Int)+1)));have s0:((w.drewN nq).setCell ⟨tx,1,none⟩ (.int .i64 ((a:Int)+1))).cell? ⟨tx,0,none⟩=some (.slice (some ⟨b,off,none⟩) l.length c):=HROW.out.cell (i:=0) (by omega);have s1:((w.drewN nq).setCell ⟨tx,1,none⟩ (.int .i64 ((a:Int)+1))).cell? ⟨tx,1,none⟩=some (.int .i64 ((a:Int)+1)):=by
   have:=HROW.out.cell (i:=1) (by omega);rw[this];simp[C9]
  have s2:((w.drewN nq).setCell ⟨tx,1,none⟩ (.int .i64 ((a:Int)+1))).cell? ⟨b,off+a,none⟩=some (.int .i8 z):=Gt HG.out hc hbt;have a1:IntKind.i64.wrap ((a:Int)+1-1)=(a:Int):=by rw[Int.add_sub_cancel];exact IntWalk.i64_in _ (by omega)
  have a2:(a:Int)<(l.length:Int):=by omega
  clear t0 t1 t2 hc hrow;generalize(w.drewN nq).setCell ⟨tx,1,none⟩ (.int .i64 ((a:Int)+1))=w3 at*
  go_quiet (fail)
  go_wp2_with fail
  go_ret
  rw[HZ.out,HNx.out];exact⟨rfl,nZ HROW.out _,BM HG.out (r9 ((Ext.refl _).drewN _) tx)⟩
 go_enter Tryz.func89,Tryz.ntmps89
 have HZ:Hid (l.getD a 0=0):=Lib.hid (by rw[List.getD_eq_getElem?_getD,ar (by omega)];rfl);have HNx:Hid (gZ l a=a):=Lib.hid (if_neg hlt)
 go_wp2_with fail
 go_quiet (fail)
 go_wp2_with fail
 go_ret
 rw[HZ.out,HNx.out];exact⟨rfl,nZ HT.out _,r9 ((Ext.refl _).drewN _) tx⟩
def f8 (z:Int):List PV:=[.raw (.int .i8 z)]
abbrev JS (L:List Int) (a:Nat):List PV:=[.sl (ls f8 L),.raw (.int .i64 (a:Int))]
abbrev dI (b:Nat):TV:= .raw (.pointer (some ⟨b,0,none⟩))
def I8 (L:List Int):Prop:= ∀z∈L,-128<=z/\z<=127
theorem I8.getD {L:List Int} (h:I8 L) (a:Nat): -128<=L.getD a 0/\L.getD a 0<=127:=by
 rw[List.getD_eq_getElem?_getD];cases hx:L[a]? with
 |none=>simp
 |some z=>exact h z (aw hx)
theorem Qh {X:Nat->Prop} {w:World} {l:List Int} {v:Value} (h:cu X w (.sl (ls f8 l)) v): ∃A c,v= .slice A l.length c/\l.length<=9223372036854775807/\RdI .i8 w A l/\(l≠[]-> ∀p,A=some p-> ¬X p.block):=by
 generalize hx:PV.sl (ls f8 l)=x at h;cases h with
 |raw v h=>cases hx
 |ptr b off cs f hX hb hc hr=>cases hx
 |nil a c=>
  injection hx with hx
  have hl:l=[]:=by simpa[ls] using hx
  subst hl;exact⟨a,c,rfl,by simp,RdI.nil _ _ _,fun h=>absurd rfl h⟩
 |sl b off es cap xs f hX hb hes hcap hm hc hr=>
  injection hx with hx
  subst hx;rw[fD]at hcap hm;refine⟨some ⟨b,off,none⟩,cap,by rw[fD],hm,fun hne=>⟨b,off,rfl,fun i x hx=>?_⟩,fun _ p hp=>by injection hp with hp;subst hp;exact hX⟩;rw[az]at hx;obtain⟨z,hz,rfl⟩:=Option.map_eq_some_iff.1 hx;have h1:(ls f8 l)[i]?=some (f8 z):=by rw[iA,hz];rfl
  have he:es=1:=by rw[<- hes _ (aw h1)];rfl
  subst he;have h2:=hc i _ 0 _ h1 rfl;have h3:=mD (hr i _ 0 _ h1 rfl);rw[h3,Nat.mul_one,Nat.add_zero]at h2;exact h2
theorem Ko (b:Nat) (L:List Int) (a:Nat) (hL:I8 L) (ha:a<=L.length):CallT Tryz.prog b 84 89 [dI b] (JS L a) ⟨[],.raw (.int .i64 (L.getD a 0))⟩ (JS L (gZ L a)):=by
 refine⟨by kernel_rfl,fun X w vs hX hXb hbox hvs hargs=>?_⟩;obtain⟨cells,c,h1,h2,h3,h4,h5,h6⟩:=hbox;obtain⟨v0,e0,r0⟩:=hargs 0 _ rfl;have hv0:v0= .pointer (some ⟨b,0,none⟩):=mD r0;subst hv0;obtain rfl:vs= #[.pointer (some ⟨b,0,none⟩)]:=by
  apply Array.ext_getElem?;intro j
  match j with
  |0=>exact e0
  |j+1=>rw[Array.getElem?_eq_none (by simp at hvs;omega)];rfl
 obtain⟨v,c0,_,r1⟩:=h6 0 _ rfl;obtain⟨u,c1,_,r2⟩:=h6 1 _ rfl;have hu:=mD r2;subst hu;obtain⟨A,cap,rfl,hl,hrd,hb⟩:=Qh r1;have hsz:cells.size=c*2:=h2;have hrow:w.rowIs b 84 (c*2) (C9 (.slice A L.length cap) a fun j=>(cells[j]?).getD undef):=by
  refine⟨cells,h1,hsz,fun i hi=>?_⟩
  match i with
  |0=>exact c0
  |1=>exact c1
  |i+2=>simp[C9,hsz,hi]
 have hblk:L≠[]-> ∀p,A=some p->p.block≠b:=fun hne p hp he=>hb hne p hp (by rw[he];exact hXb)
 refine(Jj b (c*2) A cap L a _ w (by omega) hrd hL hl ha hrow hblk).mono fun e w' ⟨q1,⟨cells',q2,q3,q4⟩,q5⟩=>?_
 have hbut: ∀k,k<w.heap.size->k≠b->w'.heap[k]?=w.heap[k]?:=fun k hk hne=>q5.block k hk (by simp;exact hne)
 have hXo: ∀j,Xo X (fun _ _=>none) (famH 0 []) j->X j:=fun j hj=>by
  rcases hj with hj|⟨_,_,_,_,_,g⟩
  ·exact hj
  cases g
 refine⟨_,q1,fun _ _=>none,?_,cu.raw _ rfl,cells',c,q2,q3,h3,h4,h5,fun j x hx=>?_⟩
 ·have e: ∀a,famH 0 [] a=[]:=fun a=>by unfold famH;split<;>rfl
  refine⟨⟨q5.os,q5.tape,q5.output,q5.size,fun k hk hn=>hbut k hk hn⟩,fun a r o ho=>?_,fun a r a' r' o o' b c c' ho=>?_,fun a r o b c ho=>?_,fun j hj=>Nat.lt_of_lt_of_le (hX j hj) q5.size,fun a r o ho=>?_⟩<;>(rw[e]at ho;simp at ho)
 match j,hx with
 |0,hx=>
  have hx:x= .sl (ls f8 L):=by simpa using hx.symm
  subst hx;refine⟨.slice A L.length cap,q4 0 (by omega),rfl,r1.later (fun j _ hj=>hXo j hj) q5.size fun p u hp hn hu=>?_⟩;rw[lG (hbut p.block hp (fun he=>hn (by rw[he];exact hXb)))];exact hu
 |1,hx=>
  have hx:x= .raw (.int .i64 (gZ L a:Nat)):=by simpa using hx.symm
  subst hx;exact⟨_,q4 1 (by omega),rfl,cu.raw _ rfl⟩
 |j+2,hx=>simp at hx
def mW (L:List Int) (a n:Nat):Nat:=((L.getD a 0)%256).toNat%n
theorem mf {n:Nat} (L:List Int) (a:Nat) (h:0<n):mW L a n<n:=Nat.mod_lt _ h
theorem In (L:List Int) (a n:Nat):Int.tmod (L.getD a 0%256) (n:Int)=(mW L a n:Int):=by
 have h:L.getD a 0%256=((L.getD a 0%256).toNat:Int):=by omega
 unfold mW;rw[Int.ofNat_tmod,<- h]
theorem T7 (x:Int):IntKind.u8.wrap x=x%256:=by rw[IntKind.wrap_u8]
theorem oU {L:List Int} {a:Nat} (h:a<=L.length):gZ L a<=L.length:=by unfold gZ;split<;>omega
theorem yQ (b:Nat) (L:List Int) (a n:Nat) (hL:I8 L) (ha:a<=L.length) (hn1:0<n) (hn:n<=100):CallT Tryz.prog b 84 48 [dI b,.raw (.int .i64 (n:Int))] (JS L a) ⟨[],.raw (.int .i64 (mW L a n:Int))⟩ (JS L (gZ L a)):=by
 have c1:=Ko b L a hL ha;have e1:=In L a n;have e2:=T7 (L.getD a 0);refine nt Tryz.func48 rfl (by kernel_rfl) ?_;rw[Tryz.ntmps48];refine DS @dI.eq_1 (k:=?_);refine rS 1 c1 [] [] (by kernel_rfl) (by rfl) (by rfl) fun _ K=>?_;simp(disch:=omega) only[kd,List.map,dI,Nat.reduceAdd,e2,bu,e1];apply K
 (refine oy ⟨.inr rfl,rfl,cd rfl ?_ rfl⟩;simp(disch:=omega) only[kd,Tryz.results48])
section
def kG (r:List Int):OObj:=⟨2,1,lc fI r⟩
abbrev kI (d n c i:Nat) (f:FF):List OObj:=⟨34,1,gL d (ae i c)++ae (n-i) pX⟩::(bi i c f).map kG
abbrev dv (d n c:Nat) (f:FF):List OObj:=⟨34,1,gL d (ae n c)⟩::(bi n c f).map kG
theorem pO (d n c:Nat) (f:FF):kI d n c n f=dv d n c f:=by simp[kI,dv]
theorem ki {i n:Nat} (d c:Nat) (h:i<=n):(gL d (ae i c)++ae (n-i) pX).length=n:=by simp[cf];omega
theorem sj {i k n:Nat} (d c:Nat) (h:k<i):(gL d (ae i c)++ae (n-i) pX)[k]?=some [.sl d (k+1) 0 c]:=by
 rw[List.getElem?_append_left (by simp[cf];exact h),bJ d c h]
theorem sk {i n:Nat} (d c:Nat) (h:i<n):(gL d (ae i c)++ae (n-i) pX)[i]?=some pX:=by
 rw[List.getElem?_append_right (by simp[cf]),cf,ay,Nat.sub_self,List.getElem?_replicate,if_pos (by omega)]
theorem cT {n i:Nat} (c:Nat) (f:FF) (h:i<n):((bi n c f).map kG)[i]?=some ⟨2,1,lc fI (bj c (f i))⟩:=by
 rw[az,bx _ _ h];rfl
theorem fO {n i j:Nat} (c:Nat) (f:FF) (v:Int):((bi n c f).map kG).set i ⟨2,1,(lc fI (bj c (f i))).set j [.p (.raw (.int .i64 v))]⟩=(bi n c (upd f i j v)).map kG:=by
 have e:(⟨2,1,(lc fI (bj c (f i))).set j [.p (.raw (.int .i64 v))]⟩:OObj)=kG (bj c fun b=>if b=j then v else f i b):=by
  rw[<- rp,kG,<- zR];rfl
 rw[e,<- List.map_set,GL];rfl
theorem cy {n c:Nat} {f g:FF} (h: ∀i j,i<n->j<c->f i j=g i j):(bi n c f).map kG=(bi n c g).map kG:=by rw[ig h]
theorem oJ {i n c:Nat} (d:Nat) (f:FF) (hi:i<n) (h0: ∀j,j<c->f i j=0):
  (⟨34,1,(gL d (ae i c)++ae (n-i) pX).set i [.sl d (i+1) 0 c]⟩::((bi i c f).map kG++[⟨2,1,ae c [.raw (.int .i64 0)]⟩]):List OObj)=kI d n c (i+1) f:=by
 have e1:(gL d (ae i c)++ae (n-i) pX).set i [.sl d (i+1) 0 c]=gL d (ae (i+1) c)++ae (n-(i+1)) pX:=by
  rw[List.set_append_right _ _ (by simp[cf]),cf,ay,Nat.sub_self,List.replicate_succ' (n:=i),og,ay,List.append_assoc]
  congr 1
  rw[show n-i=n-(i+1)+1 by omega,List.replicate_succ];rfl
 have e2:(⟨2,1,ae c [.raw (.int .i64 0)]⟩:OObj)=kG (bj c (f i)):=by
  rw[kG]
  congr 1
  apply List.ext_getElem?;intro j;rw[List.getElem?_replicate,EB];by_cases hj:j<c
  ·rw[if_pos hj,aQ _ hj,h0 j hj];rfl
  rw[if_neg hj,ar (by rw[bf];omega)];rfl
 rw[e1,e2,kI,vV,List.map_append];rfl
theorem cQ (d e n c:Nat) (f:FF):(dv d n c f).map (renO e)=dv e n c f:=by
 simp only[dv,List.map_cons,List.map_map]
 congr 1
 ·simp[renO,Hh]
 exact List.map_congr_left fun r _=>by simp[renO,kG,pQ]
theorem dG {H:OH} {d n c:Nat} {f:FF} (h:H d=dv d n c f):xg H d:=fun r o ho e he x hx=>by
 rw[h]at ho;cases r with
 |succ r=>
  rw[List.getElem?_cons_succ,az]at ho;obtain⟨l,hl,rfl⟩:=Option.map_eq_some_iff.1 ho;exact .inl (eY _ _ l e he x hx)
 |zero=>
  simp at ho;subst ho;simp only at he;obtain⟨k,hk⟩:=List.mem_iff_getElem?.1 he;have hkn:k<n:=by
   have:=(List.getElem?_eq_some_iff.1 hk).1;rwa[cf,ay]at this
  rw[bJ d c hkn]at hk;injection hk with hk
  subst hk;simp at hx;subst hx;refine .inr ⟨k+1,0,c,kG (bj c (f k)),rfl,?_,eY _ _ _⟩;rw[h,List.getElem?_cons_succ,az,bx _ _ hkn];rfl
theorem mZ {H:OH} {d n c:Nat} {f:FF} (h:H d=dv d n c f):gX H d (.one (.sl d 0 0 n))=dj (bi n c f):=by
 have e:((gL d (ae n c)).map (List.map (kJ H d)))=ls (fR fI) (bi n c f):=by
  apply List.ext_getElem?;intro i;rw[az,iA];by_cases hi:i<n
  ·rw[bJ d c hi,bx _ _ hi];simp only[Option.map_some,List.map_cons,List.map_nil,kJ,h,List.getElem?_cons_succ,cT _ _ hi,fR,gS,zP,qQ];rw[List.drop_zero,List.take_of_length_le (by rw[bf];omega)]
  rw[ar (by rw[cf,ay];omega),ar (by rw[aW];omega)];rfl
 simp only[gX,fX,if_true,h,List.getElem?_cons_zero];rw[List.drop_zero,List.take_of_length_le (by rw[cf,ay];omega),e]
abbrev vD (k:Nat) (b:Bool):TV:= .tup [(false,[.sl 0 0 0 k]),(false,[.p (.raw (.bool b))])]
theorem MX {fn:Func} {d k c:Nat} {F:FF} {b:Bool} {s:AS} (hd:s.H d=dv d k c F)
  (hres:rl Tryz.prog s fn.results.toList=some (.tup [(false,[.sl d 0 0 k]),(false,[.p (.raw (.bool b))])])) (h5:d<=4999):
  ∃s',ci s s'/\mO Tryz.prog fn ⟨dv 0 k c F,vD k b⟩ s':=
 ⟨s,ci.refl s,_,d,hres,wM (by simp[selfTV,cW]) h5,by rw[hd,cQ],rfl⟩
section
variable {P:Program} {fu:FuncId} {args:List TV} {n c:Nat} {g:FF}
theorem CallC.fzI (h:CallC P fu args ⟨dv 0 n c g,.one (.sl 0 0 0 n)⟩):CallC P fu args ⟨[],dj (bi n c g)⟩:=
 h.weak ((bT 0 (dG (d:=0) (n:=n) (c:=c) (f:=g) rfl)).trans (aE (tm:=[dj (bi n c g)]) (l:=[(0,[])]) ⟨rfl,trivial⟩ (by
  simp[wk];exact(mZ (H:=famH 0 (dv 0 n c g)) (d:=0) (n:=n) (c:=c) (f:=g) rfl).symm)))
end
def lD (L:List Int) (a:Nat):Nat->Nat
 |0=>a
 |i+1=>gZ L (lD L a i)
theorem rW {L:List Int} {a:Nat} (h:a<=L.length): ∀i,lD L a i<=L.length
 |0=>h
 |i+1=>oU (rW h i)
def gW (L:List Int) (a most:Nat):Nat->Nat->Int:=fun i j=>if i=j then 1+(mW L (lD L a i) most:Int)else 0
def IA (L:List Int) (a most i:Nat):Nat->Nat->Int:=fun x y=>if x<i then gW L a most x y else 0
theorem Le (L:List Int) (a most i x y:Nat):upd (IA L a most i) i i (1+(mW L (lD L a i) most:Int)) x y=IA L a most (i+1) x y:=by
 unfold upd IA gW;by_cases h1:x=i
 ·subst h1;by_cases h2:y=x
  ·subst h2;simp
  simp[h2,Ne.symm h2]
 have:x<i+1↔x<i:=by omega
 simp[h1,this]
theorem mo (b:Nat) (L:List Int) (a n most:Nat) (hL:I8 L) (ha:a<=L.length) (hn:n<=8) (hm1:0<most) (hmm:most<=100):
  CallT Tryz.prog b 84 49 [dI b,.raw (.int .i64 (n:Int)),.raw (.int .i64 (most:Int))] (JS L a) ⟨dv 0 n n (gW L a most),.one (.sl 0 0 0 n)⟩ (JS L (lD L a n)):=by
 refine nt Tryz.func49 rfl (by kernel_rfl) ?_;rw[Tryz.ntmps49];refine DS @dI.eq_1 (k:=d7 (k:=db (d7 (k:=?_))));refine ni (G:=iJ n) (fun g=>⟨(dI b::rN n::rN most::j4 (.one (.sl 10 0 0 n)::j4 (.raw (.int .i64 (n:Int))::rN g.i::j16 (jk::jk::jk::[])))),Hm [(10,kI 10 n n g.i (IA L a most g.i))]⟩) (fun g=>JS L (lD L a g.i)) (fun g=>n-g.i) ⟨0,by omega⟩ ?_ rfl ?_
 ·refine aE ⟨?_,trivial⟩ ?_
  ·show[_]=_;simp[gL,bi]
  simp[wk]
 rintro⟨i,hi⟩;simp only;by_cases hm:i<n
 ·have c1:=yQ b L (lD L a i) most hL (rW ha i) hm1 hmm;have hbl:=mf (n:=most) L (lD L a i) hm1;have k1:=sk (i:=i) (n:=n) 10 n hm;have k2:=ki (i:=i) (n:=n) 10 n hi;have k3:=aW i n (IA L a most i);have k4:=oJ (i:=i) (n:=n) (c:=n) 10 (IA L a most i) hm (fun j hj=>by unfold IA;rw[if_neg (by omega)]);have k5:=sj (i:=i+1) (k:=i) (n:=n) 10 n (by omega);have k6:=ki (i:=i+1) (n:=n) 10 n (by omega);have k7:=cT (n:=i+1) n (IA L a most i) (i:=i) (by omega);have k8:=aQ (IA L a most i i) hm;refine mP @dI.eq_1 (k:=yT rfl (db (dT (d7 (k:=mP (aP k1 (aP @ay.{0} (aP @List.all_replicate.{0} (aP k3 k4)))) (k:=?_))))));refine fb.weak (aE (tm:=(dI b::rN n::rN most::j4 (.one (.sl 10 0 0 n)::rN i::jk::jk::jk::rN n::rN i::j16 (jk::jk::jk::[])))) (l:=[(10,kI 10 n n (i+1) (IA L a most i))]) ⟨?_,trivial⟩ (by simp[wk])) ?_
  ·first|exact k4|rfl
  refine ma d8 7 c1 [] [] (by kernel_rfl) (by kernel_rfl) (by rfl) (by rfl) fun _ K=>?_;simp(disch:=omega) only[kd,dI,Nat.reduceAdd,k5,bu,k7,k8,fO];apply K
  show fb _ _ _ _ _ _ _;refine xb (k:=?_);refine⟨⟨i+1,by omega⟩,by simp only;omega,aE ⟨?_,trivial⟩ ?_,rfl⟩
  ·show _::_=_::_;rw[cy fun x y _ _=>Le L a most i x y]
  simp[wk]
 have hin:i=n:=by omega
 subst hin;refine mP @dI.eq_1 (k:=yS rfl ?_);show fb _ _ _ _ _ _ _;have e:kI 10 i i i (IA L a most i)=dv 10 i i (gW L a most):=by
  rw[pO];show _::_=_::_;rw[cy fun x y hx _=>show IA L a most i x y=gW L a most x y by unfold IA;rw[if_pos hx]]
 rw[e];refine d7 (k:=?_);refine oy ⟨.inr rfl,rfl,_,ci.refl _,?_⟩;refine⟨.one (.sl 10 0 0 i),10,?_,rfl,?_,rfl⟩
 ·simp(disch:=omega) only[kd,Tryz.results49]
 exact(cQ 10 0 _ _ _).symm
end
end Go.Proofs.YtiollbhgpiiodaaGreatDoor
