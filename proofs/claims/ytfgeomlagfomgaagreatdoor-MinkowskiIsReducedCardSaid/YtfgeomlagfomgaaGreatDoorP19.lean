/-
  Part 20 of a proof (walks and plain facts).
-/
import Derived.Test.YtfgeomlagfomgaaGreatDoorP18
import Derived.ProofKit
import Derived.LaidMore
import Derived.LaidLaws
import Derived.LaidHandle
import Derived.OpenShut
set_option linter.all false
set_option maxRecDepth 100000
set_option maxHeartbeats 64000000
open Nat renaming reduceAdd → aa
open Go.Value renaming oneCell' → ab
open List renaming find?_cons → ac
open Go.Proofs.YtfgeomlagfomgaaGreatDoor.CallRes renaming plain → ae
open Nat renaming reduceEqDiff → af
open List renaming getElem?_cons_zero → ag
open List renaming getElem?_cons_succ → ah
open Nat renaming le_refl → ai
open List renaming replicate → aj
open List renaming getElem?_map → aH
namespace Go.Proofs.YtfgeomlagfomgaaGreatDoor
open Go.RowKit
section
variable {n:Nat}
def mV (n:Nat) (t:Nat->Nat->Int) (x:Nat->Int):Nat->Int:=fun i=>dK (fun a=>x a*t i a) n
theorem Am (h t:Nat->Nat->Int) (x y:Nat->Int): ∀m,BF n h (fun i=>dK (fun a=>x a*t i a) m) y=dK (fun a=>x a*BF n h (fun i=>t i a) y) m
 |0=>m5 fun _ _=>rfl
 |m+1=>by
  have h1:=jc (n:=n) h (fun i=>dK (fun a=>x a*t i a) m) (fun i=>t i m) y (x m)
  rw[Am h t x y m]at h1
  exact h1
theorem An (h t:Nat->Nat->Int) (x y:Nat->Int): ∀m,BF n h x (fun i=>dK (fun a=>y a*t i a) m)=dK (fun a=>y a*BF n h x (fun i=>t i a)) m
 |0=>by
  show BF n h x (fun _=>0)=0
  unfold BF
  rw[bZ n (G:=fun _=>0) (fun i _=>by rw[bZ n (G:=fun _=>0) (fun j _=>Int.mul_zero _),fQ,Int.mul_zero]),fQ]
 |m+1=>by
  have h1:=iE (n:=n) h x (fun i=>dK (fun a=>y a*t i a) m) (fun i=>t i m) (y m)
  rw[An h t x y m]at h1
  exact h1
theorem uY (h t:Nat->Nat->Int) (x y:Nat->Int):BF n h (mV n t x) (mV n t y)=BF n (cngF n h t) x y:=by
 unfold mV
 rw[Am]
 unfold BF
 refine bZ n fun a _=>?_
 congr 1
 have h1:=An (n:=n) h t (fun i=>t i a) y n
 unfold BF at h1
 rw[h1]
 refine bZ n fun b _=>?_
 have h2:=iG n h t a b
 unfold BF at h2
 rw[h2,Int.mul_comm]
theorem PD.cng {h t:Nat->Nat->Int} (hr:PD h n) (hd:dk t n≠0):PD (cngF n h t) n:=by
 refine C4 (fun i _ j _=>by rw[iG,iG];exact nM hr.1 _ _) fun x ⟨i,hi,hx⟩=>?_
 rw[<- uY]
 obtain⟨h1,h2⟩:=hr.pos (mV n t x)
 rcases Int.lt_or_le 0 (BF n h (mV n t x) (mV n t x))with hl|hl
 ·exact hl
 exfalso
 have h3:=h2.1 (by omega)
 refine hx (rT hd (fun i hi=>?_) i hi)
 have:=h3 i hi
 unfold mV at this
 rw[<- this]
 exact bZ n fun j _=>Int.mul_comm _ _
theorem qo {t:Nat->Nat->Int} {i:Nat} (hi:i<n) (c:Nat->Int): ∀m,m<=n->dk (fb t i (fun r=>dK (fun j=>c j*t r j) m)) n=if i<m then c i*dk t n else 0
 |0,_=>by rw[if_neg (by omega)];exact AO hi fun _ _=>rfl
 |m+1,hm=>by
  have h:=pI (R:=t) hi 1 (c m) (fun r=>dK (fun j=>c j*t r j) m) (fun r=>t r m)
  rw[qo hi c m (by omega)]at h
  have e:(fun r=>dK (fun j=>c j*t r j) (m+1))=fun r=>1*dK (fun j=>c j*t r j) m+c m*t r m:=by
   funext r;rw[dK,Int.one_mul]
  rw[e,h]
  by_cases hmi:m=i
  ·subst hmi
   rw[m9,if_neg (by omega),if_pos (by omega)];omega
  rw[rD hi (show m<n by omega) (Ne.symm hmi),Int.mul_zero,Int.add_zero,Int.one_mul]
  have:i<m+1↔i<m:=by omega
  simp only[this]
theorem AL {t:Nat->Nat->Int} {i:Nat} (hi:i<n) (c:Nat->Int):dk (fb t i (mV n t c)) n=c i*dk t n:=by
 have:=qo hi c n (ai n) (t:=t)
 rwa[if_pos hi]at this
theorem D9 {h t:Nat->Nat->Int} {i:Nat} (c:Nat->Int):cngF n h (fb t i (mV n t c)) i i=nrm n (cngF n h t) c:=by
 rw[iG]
 unfold nrm
 rw[<- uY]
 exact iy (fun _ _ _ _=>rfl) (fun r _=>if_pos rfl) (fun r _=>if_pos rfl)
theorem xa {h t:Nat->Nat->Int} {i a b:Nat} (S:Nat->Int) (ha:a≠i) (hb:b≠i):cngF n h (fb t i S) a b=cngF n h t a b:=by
 rw[iG,iG]
 exact iy (fun _ _ _ _=>rfl) (fun r _=>if_neg ha) (fun r _=>if_neg hb)
theorem PD.ent {f:Nat->Nat->Int} (hr:PD f n) {i j:Nat} (hi:i<n) (hj:j<n):f i j*f i j<=f i i*f j j:=by
 have e: ∀a b,a<n->b<n->BF n f (eC a) (eC b)=f a b:=fun a b ha hb=>by
  have e1: ∀(F:Nat->Int) a,a<n->dK (fun j=>F j*eC a j) n=F a:=fun F a ha=>by
   rw[jg ha (fun p _ hne=>by unfold eC;rw[if_neg hne,Int.mul_zero])]
   unfold eC;rw[if_pos rfl,Int.mul_one]
  unfold BF
  rw[bZ n (G:=fun k=>f k b*eC a k) (fun k _=>by rw[e1 (f k) b hb];exact Int.mul_comm _ _),e1 (fun k=>f k b) a ha]
 have:=hr.schwarz (eC i) (eC j)
 rwa[e i j hi hj,e i i hi hi,e j j hj hj]at this
theorem PD.diag {f:Nat->Nat->Int} (hr:PD f n) {i:Nat} (hi:i<n):0<f i i:=by
 have h:=hr.pos (eC i)
 have e:=kP (f:=f) hi
 unfold nrm at e
 rw[e]at h
 rcases Int.lt_or_le 0 (f i i)with hl|hl
 ·exact hl
 have:=h.2.1 (by omega) i hi
 simp[eC]at this
end
section
variable {n:Nat}
def insB (N:(Nat->Int)->Int) (B:Nat->Nat->Int):Nat->Nat->Nat->Int
 |0=>B
 |j+1=>if N (B (j+1))<N (B j)then insB N (swp (j+1) j B) j else B
theorem Ac {p k:Nat} {B:Nat->Nat->Int}:swp p k B p=if p=k then B p else B k:=by
 unfold swp
 by_cases h:p=k<;>simp[h]
theorem Ad {p k:Nat} {B:Nat->Nat->Int}:swp p k B k=B p:=by
 unfold swp
 by_cases h:k=p
 ·subst h;simp
 simp[h]
theorem qf {p k a:Nat} {B:Nat->Nat->Int} (h1:a≠p) (h2:a≠k):swp p k B a=B a:=by unfold swp;simp[h1,h2]
theorem oP (N:(Nat->Int)->Int): ∀j B a,j<a->insB N B j a=B a
 |0,_,_,_=>rfl
 |j+1,B,a,h=>by
  rw[insB]
  split
  ·rw[oP N j _ a (by omega),qf (by omega) (by omega)]
  rfl
theorem rW (N:(Nat->Int)->Int) {Q:(Nat->Int)->Prop}: ∀j B,(∀a,a<=j->Q (B a))-> ∀a,a<=j->Q (insB N B j a)
 |0,_,h,a,ha=>h a ha
 |j+1,B,h,a,ha=>by
  rw[insB]
  split
  ·by_cases e:a<=j
   ·refine rW N j _ (fun c hc=>?_) a e
    by_cases ec:c=j
    ·subst ec;rw[Ad];exact h _ (by omega)
    rw[qf (by omega) ec];exact h c (by omega)
   rw[oP N j _ a (by omega)]
   obtain rfl:a=j+1:=by omega
   rw[Ac,if_neg (by omega)];exact h j (by omega)
  exact h a ha
def wH (N:(Nat->Int)->Int) (B:Nat->Nat->Int) (i:Nat):Prop:= ∀a,a+1<i->N (B a)<=N (B (a+1))
theorem wH.le {N:(Nat->Int)->Int} {B:Nat->Nat->Int} {i:Nat} (h:wH N B i) {b:Nat} (hb:b<i): ∀a,a<=b->N (B a)<=N (B b):=fun a ha=>by
 obtain⟨m,rfl⟩: ∃m,b=a+m:=⟨b-a,by omega⟩
 induction m with
 |zero=>exact Int.le_refl _
 |succ m ih=>
  have:=ih (by omega) (by omega)
  have h2:=h (a+m) (by omega)
  rw[<- Nat.add_assoc];omega
theorem xp (N:(Nat->Int)->Int): ∀j B,wH N B j->wH N (insB N B j) (j+1)
 |0,_,_=>fun a ha=>by omega
 |j+1,B,h=>by
  intro a ha
  rw[insB]
  by_cases hl:N (B (j+1))<N (B j)
  ·rw[if_pos hl]
   have h':wH N (swp (j+1) j B) j:=fun c hc=>by
    rw[qf (by omega) (by omega),qf (by omega) (by omega)];exact h c (by omega)
   by_cases e:a+1<j+1
   ·exact xp N j _ h' a e
   obtain rfl:a=j:=by omega
   rw[oP N a _ (a+1) (by omega),Ac,if_neg (by omega)]
   refine rW N (Q:=fun x=>N x<=N (B a)) a _ (fun c hc=>?_) a (ai _)
   by_cases ec:c=a
   ·subst ec;rw[Ad];omega
   rw[qf (by omega) ec];exact h.le (by omega) c hc
  rw[if_neg hl]
  by_cases e:a+1<j+1
  ·exact h a e
  obtain rfl:a=j:=by omega
  omega
theorem Gg {B:Nat->Nat->Int} {p k:Nat}:trF (swp p k B)=fun i c=>if c=p then trF B i k else if c=k then trF B i p else trF B i c:=by
 funext i c
 unfold trF swp
 split
 ·rfl
 split<;>rfl
theorem A0 (N:(Nat->Int)->Int): ∀j B,j<n->(dk (trF (insB N B j)) n).natAbs=(dk (trF B) n).natAbs
 |0,_,_=>rfl
 |j+1,B,h=>by
  rw[insB]
  split
  ·rw[A0 N j _ (by omega),Gg,rC h (by omega) (by omega),Int.natAbs_neg]
  rfl
def yE (N:(Nat->Int)->Int) (B:Nat->Nat->Int) (n:Nat):Int:=dK (fun a=>N (B a)) n
theorem BA (F:Nat->Int) {j:Nat}: ∀{m},j+1<m->dK F m=dK (fun a=>if a=j then F (j+1)else if a=j+1 then F j else F a) m
 |m+1,h=>by
  rw[dK,dK]
  by_cases e:j+1<m
  ·rw[BA F e,if_neg (by omega),if_neg (by omega)]
  obtain rfl:m=j+1:=by omega
  rw[if_neg (by omega),if_pos rfl,dK,dK,if_pos rfl,bZ j (F:=fun a=>if a=j then _ else _) (G:=F) (fun p hp=>by rw[if_neg (by omega),if_neg (by omega)])]
  omega
theorem xq (N:(Nat->Int)->Int): ∀j B,j<n->yE N (insB N B j) n=yE N B n
 |0,_,_=>rfl
 |j+1,B,h=>by
  rw[insB]
  split
  ·rw[xq N j _ (by omega)]
   unfold yE
   rw[BA (fun a=>N (B a)) h]
   refine bZ n fun a _=>?_
   by_cases e1:a=j
   ·subst e1;rw[if_pos rfl,Ad]
   by_cases e2:a=j+1
   ·subst e2;rw[if_neg e1,if_pos rfl,Ac,if_neg (by omega)]
   rw[if_neg e1,if_neg e2,qf e2 e1]
  rfl
def lF (N:(Nat->Int)->Int) (B:Nat->Nat->Int):Nat->Nat->Nat->Int
 |0=>B
 |i+1=>insB N (lF N B i) i
theorem yk (N:(Nat->Int)->Int) (B:Nat->Nat->Int): ∀i,wH N (lF N B i) i
 |0=>fun a ha=>by omega
 |i+1=>xp N i _ (yk N B i)
theorem pv (N:(Nat->Int)->Int) {Q:(Nat->Int)->Prop} {B:Nat->Nat->Int} (h: ∀a,a<n->Q (B a)): ∀i,i<=n-> ∀a,a<n->Q (lF N B i a)
 |0,_=>h
 |i+1,hi=>fun a ha=>by
  rw[lF]
  by_cases e:a<=i
  ·exact rW N i _ (fun c hc=>pv N h i (by omega) c (by omega)) a e
  rw[oP N i _ a (by omega)];exact pv N h i (by omega) a ha
theorem BG (N:(Nat->Int)->Int) (B:Nat->Nat->Int): ∀i,i<=n->(dk (trF (lF N B i)) n).natAbs=(dk (trF B) n).natAbs
 |0,_=>rfl
 |i+1,hi=>by rw[lF,A0 N i _ (by omega),BG N B i (by omega)]
theorem sX (N:(Nat->Int)->Int) (B:Nat->Nat->Int): ∀i,i<=n->yE N (lF N B i) n=yE N B n
 |0,_=>rfl
 |i+1,hi=>by rw[lF,xq N i _ (by omega),sX N B i (by omega)]
end
section
variable {n:Nat}
def ia (n:Nat) (h B:Nat->Nat->Int):Nat->Nat->Int:=fun a b=>BF n h (B a) (B b)
theorem vE (h B:Nat->Nat->Int):ia n h B=cngF n h (trF B):=by
 funext a b
 rw[iG];rfl
open Classical in
noncomputable def tH (n:Nat) (f:Nat->Nat->Int):Nat->Nat->Option Nat
 |0,_=>none
 |m+1,i=>if VioP n f i then some i else tH n f m (i+1)
noncomputable def tG (n:Nat) (f:Nat->Nat->Int):Option Nat:=tH n f n 0
theorem jR {f:Nat->Nat->Int}: ∀m i r,tH n f m i=some r->i<=r/\r<i+m/\VioP n f r/\ ∀a,i<=a->a<r-> ¬VioP n f a
 |0,_,_,h=>by cases h
 |m+1,i,r,h=>by
  rw[tH]at h
  split at h
  ·rename_i hv
   injection h with h
   subst h
   exact⟨ai _,by omega,hv,fun a h1 h2=>by omega⟩
  rename_i hv
  obtain⟨h1,h2,h3,h4⟩:=jR m (i+1) r h
  refine⟨by omega,by omega,h3,fun a ha hb=>?_⟩
  by_cases e:a=i
  ·subst e;exact hv
  exact h4 a (by omega) hb
theorem qi {f:Nat->Nat->Int}: ∀m i,tH n f m i=none-> ∀a,i<=a->a<i+m-> ¬VioP n f a
 |0,_,_=>fun a h1 h2=>by omega
 |m+1,i,h=>by
  rw[tH]at h
  split at h
  ·cases h
  rename_i hv
  intro a h1 h2
  by_cases e:a=i
  ·subst e;exact hv
  exact qi m (i+1) h a (by omega) (by omega)
def mN (n:Nat) (h B:Nat->Nat->Int):Nat->Nat->Int:=lF (nrm n h) B n
def j4 (n:Nat) (h S:Nat->Nat->Int) (i:Nat):Nat->Nat->Int:=fun k=>if k=i then mV n (trF S) (kT n (ia n h S) i (3^i))else S k
inductive RchB (n:Nat) (h:Nat->Nat->Int):(Nat->Nat->Int)->(Nat->Nat->Int)->Prop
 |done (B:Nat->Nat->Int):tG n (ia n h (mN n h B))=none->RchB n h B (mN n h B)
 |step (B R:Nat->Nat->Int) (i:Nat):tG n (ia n h (mN n h B))=some i->RchB n h (j4 n h (mN n h B) i) R->RchB n h B R
structure InB2 (n:Nat) (h:Nat->Nat->Int) (W:Int) (B:Nat->Nat->Int):Prop where
 nr: ∀a,a<n->nrm n h (B a)<=W
 dt:(dk (trF B) n).natAbs=1
theorem InB2.ord {h B:Nat->Nat->Int} {W:Int} (hB:InB2 n h W B):InB2 n h W (mN n h B):=
 ⟨pv _ (Q:=fun x=>nrm n h x<=W) hB.nr n (ai n),by unfold mN;rw[BG _ _ n (ai n)];exact hB.dt⟩
theorem F0 {F G:Nat->Int} {i:Nat}: ∀{m},i<m->(∀a,a<m->a≠i->F a=G a)->F i<G i->dK F m<dK G m
 |m+1,hi,h,hl=>by
  rw[dK,dK]
  by_cases e:i=m
  ·subst e
   rw[bZ i fun p hp=>h p (by omega) (by omega)];omega
  have:=F0 (m:=m) (by omega) (fun a ha hne=>h a (by omega) hne) hl
  rw[h m (by omega) (Ne.symm e)];omega
theorem mi {F:Nat->Int}: ∀m,(∀a,a<m->0<=F a)->0<=dK F m
 |0,_=>by simp[dK]
 |m+1,h=>by
  have:=mi m fun a ha=>h a (by omega)
  have:=h m (by omega)
  rw[dK];omega
theorem x3 {h S:Nat->Nat->Int} {i:Nat}:nrm n h (j4 n h S i i)=nrm n (ia n h S) (kT n (ia n h S) i (3^i)):=by
 unfold j4
 rw[if_pos rfl]
 unfold nrm
 rw[uY,<- vE]
theorem x4 {h S:Nat->Nat->Int} {i:Nat} (hi:i<n) (hv:VioP n (ia n h S) i):yE (nrm n h) (j4 n h S i) n<yE (nrm n h) S n:=by
 refine F0 hi (fun a _ hne=>?_) ?_
 ·show nrm n h (j4 n h S i a)=_
  unfold j4;rw[if_neg hne]
 show nrm n h (j4 n h S i i)<nrm n h (S i)
 rw[x3]
 exact z7 hi hv
theorem Gf {h S:Nat->Nat->Int} {i:Nat}:trF (j4 n h S i)=fb (trF S) i (mV n (trF S) (kT n (ia n h S) i (3^i))):=by
 funext r c
 unfold trF j4 fb
 split<;>rfl
theorem InB2.rep {h S:Nat->Nat->Int} {W:Int} {i:Nat} (hS:InB2 n h W S) (hi:i<n) (hv:VioP n (ia n h S) i):InB2 n h W (j4 n h S i):=by
 refine⟨fun a ha=>?_,?_⟩
 ·by_cases e:a=i
  ·subst e
   rw[x3]
   have h1:=z7 hi hv
   have h2:=hS.nr a hi
   have h3:ia n h S a a=nrm n h (S a):=rfl
   omega
  unfold j4;rw[if_neg e];exact hS.nr a ha
 rw[Gf,AL hi,(sU n (ia n h S) i (3^i)).1,Int.one_mul];exact hS.dt
theorem xZ {h:Nat->Nat->Int} (hp:PD h n) {W:Int}: ∀(m:Nat) (B:Nat->Nat->Int),(yE (nrm n h) B n).toNat=m->InB2 n h W B-> ∃R,RchB n h B R:=fun m=>by
 induction m using Nat.strongRecOn with
 |_ m ih=>
  intro B hm hB
  cases hv:tG n (ia n h (mN n h B))with
  |none=>exact⟨_,.done B hv⟩
  |some i=>
   obtain⟨_,h1,h2,_⟩:=jR n 0 i hv
   have hi:i<n:=by omega
   have hO:=hB.ord
   have hsum:=x4 hi h2
   have hso:yE (nrm n h) (mN n h B) n=yE (nrm n h) B n:=sX _ _ n (ai n)
   have hnn: ∀B',0<=yE (nrm n h) B' n:=fun B'=>mi n fun a _=>(hp.pos (B' a)).1
   have h3:=hnn (j4 n h (mN n h B) i)
   have h4:=hnn B
   obtain⟨R,hR⟩:=ih (yE (nrm n h) (j4 n h (mN n h B) i) n).toNat (by omega) _ rfl (hO.rep hi h2)
   exact⟨R,.step B R i hv hR⟩
theorem sB {h B R:Nat->Nat->Int} {W:Int} (hr:RchB n h B R) (hB:InB2 n h W B):InB2 n h W R/\wH (nrm n h) R n/\ ∀i,i<n-> ¬VioP n (ia n h R) i:=by
 induction hr with
 |done B hv=>exact⟨hB.ord,yk _ _ n,fun i hi=>qi n 0 hv i (by omega) (by omega)⟩
 |step B R i hv _ ih=>
  obtain⟨_,h1,h2,_⟩:=jR n 0 i hv
  exact ih (hB.ord.rep (by omega) h2)
/-! Signs. -/
def mc (g:Nat->Nat->Int):Nat->Int
 |0=>1
 |i+1=>if mc g i*g i (i+1)<0 then -1 else 1
theorem md (g:Nat->Nat->Int): ∀i,mc g i=1\/mc g i= -1
 |0=> .inl rfl
 |i+1=>by rw[mc];split<;>simp
theorem Kq (g:Nat->Nat->Int) (i:Nat):0<=mc g i*mc g (i+1)*g i (i+1):=by
 have e:mc g i*mc g (i+1)*g i (i+1)=mc g (i+1)*(mc g i*g i (i+1)):=by grind
 rw[e,mc]
 split
 ·omega
 omega
def wA (g B:Nat->Nat->Int):Nat->Nat->Int:=fun k j=>mc g k*B k j
theorem Ew (h g B:Nat->Nat->Int):ia n h (wA g B)=Gy (mc g) (ia n h B):=by
 funext a b
 unfold ia wA Gy BF
 rw[<- d8]
 refine bZ n fun i _=>?_
 rw[bZ n (G:=fun j=>mc g b*(h i j*B b j)) (fun j _=>by grind),d8]
 grind
theorem FT {g B:Nat->Nat->Int}: ∀m,m<=n->(dk (trF fun k j=>if k<m then mc g k*B k j else B k j) n).natAbs=(dk (trF B) n).natAbs
 |0,_=>by simp
 |m+1,hm=>by
  rw[<- FT (g:=g) (B:=B) m (by omega)]
  have h1:=pI (R:=trF fun k j=>if k<m then mc g k*B k j else B k j) (n:=n) (a:=m) (by omega) (mc g m) 0 (fun i=>B m i) (fun i=>B m i)
  have e1:fb (trF fun k j=>if k<m then mc g k*B k j else B k j) m (fun i=>mc g m*B m i+0*B m i)=trF fun k j=>if k<m+1 then mc g k*B k j else B k j:=by
   funext r c
   unfold fb trF
   by_cases e:c=m
   ·subst e
    rw[if_pos rfl]
    show mc g c*B c r+0*B c r=if c<c+1 then mc g c*B c r else B c r
    rw[if_pos (by omega)];omega
   have:c<m+1↔c<m:=by omega
   rw[if_neg e];simp only[this]
  have e2:fb (trF fun k j=>if k<m then mc g k*B k j else B k j) m (fun i=>B m i)=trF fun k j=>if k<m then mc g k*B k j else B k j:=by
   funext r c
   unfold fb trF
   by_cases e:c=m
   ·subst e
    rw[if_pos rfl]
    show B c r=if c<c then mc g c*B c r else B c r
    rw[if_neg (by omega)]
   rw[if_neg e]
  rw[e1,e2]at h1
  rw[h1]
  rcases md g m with e|e<;>rw[e]<;>simp
theorem xK {h R:Nat->Nat->Int} (hs:wH (nrm n h) R n) (hv: ∀i,i<n-> ¬VioP n (ia n h R) i):iM (ia n h (wA (ia n h R) R)) n:=by
 rw[Ew]
 refine⟨fun i hi=>⟨?_,Kq _ _⟩,fun i hi hw=>hv i hi (IW (md _) hi hw)⟩
 have h1:=hs i hi
 have e: ∀k,Gy (mc (ia n h R)) (ia n h R) k k=nrm n h (R k):=fun k=>by
  unfold Gy ia nrm
  rcases md (ia n h R) k with e|e
  ·unfold ia at e;rw[e];omega
  unfold ia at e;rw[e];omega
 rw[e,e];exact h1
end
abbrev jW:List PV:=[.raw (.int .i64 1),.raw (.int .i64 3),.raw (.int .i64 9),.raw (.int .i64 27)]
theorem D8 (i code j:Nat): -1<=cnd i code j/\cnd i code j<=1:=by
 unfold cnd
 split
 ·exact AK code j
 split<;>omega
theorem Jp {i:Nat}:a4 (KH (fun _=>0) i 1)=a4 (eC i):=oE fun j _=>by unfold KH eC;rfl
theorem En {c c':Nat->Int} {b:Bool} (h:b=true↔ ∀j,j<4->c j=c' j):zo (a4 c) (a4 c')=some b:=by
 have e:zo (a4 c) (a4 c')=some (decide (c 0=c' 0)&&(decide (c 1=c' 1)&&(decide (c 2=c' 2)&&(decide (c 3=c' 3)&&true)))):=rfl
 rw[e]
 congr 1
 apply Bool.eq_iff_iff.2
 rw[h]
 simp only[Bool.and_eq_true,decide_eq_true_eq,and_true]
 constructor
 ·rintro⟨h0,h1,h2,h3⟩ j hj
  match j,hj with
  |0,_=>exact h0
  |1,_=>exact h1
  |2,_=>exact h2
  |3,_=>exact h3
 exact fun h=>⟨h 0 (by omega),h 1 (by omega),h 2 (by omega),h 3 (by omega)⟩
theorem y4:packT Tryz.prog 3 [.raw (.int .i64 1),.raw (.int .i64 3),.raw (.int .i64 9),.raw (.int .i64 27)]=some (.raw (.int .i64 1)):=by kernel_rfl
theorem y5:packT Tryz.prog 3 [.raw (.int .i64 3),.raw (.int .i64 9),.raw (.int .i64 27)]=some (.raw (.int .i64 3)):=by kernel_rfl
theorem y6:packT Tryz.prog 3 [.raw (.int .i64 9),.raw (.int .i64 27)]=some (.raw (.int .i64 9)):=by kernel_rfl
theorem y7:packT Tryz.prog 3 [.raw (.int .i64 27)]=some (.raw (.int .i64 27)):=by kernel_rfl
theorem Co {i:Nat} (h:i<4):packT Tryz.prog 3 ((jW.drop i).map AV.p)=some (.raw (.int .i64 ((3^i:Nat):Int))):=by
 match i,h with
 |0,_=>exact y4
 |1,_=>exact y5
 |2,_=>exact y6
 |3,_=>exact y7
structure LM (i:Nat) where
 k:Nat
 hk:k<=3^i
theorem xH (n:Nat) (f:Nat->Nat->Int) (i:Nat) (hi:i<n) (hn:n<=4) (hf: ∀i j,i<n->j<n-> -1125899906842624<=f i j/\f i j<=1125899906842624):
  CallG Tryz.prog 0 138 77 [dx (dC n n f),.raw (.int .i64 (i:Int))] jW ⟨[],tC (kT n f i (3^i))⟩:=by
 have hi4:i<4:=by omega
 have h3i:3^i<=27:=Nat.le_trans (Nat.pow_le_pow_right (by omega) (show i<=3 by omega)) (by decide)
 have a1:=vd (fun _=>0) 1 hi4
 rw[Jp]at a1
 refine iP Tryz.func77 rfl (by kernel_rfl) ?_;rw[Tryz.ntmps77]
 (refine bX [] [] (by simp) fun K hK=>?_;simp(disch:=omega) only[kc,aM,dx,aa,aj,cy,bU,bI,fJ,ab,cQ];apply hK)
 (refine bX [] [] (by simp) fun K hK=>?_;simp(disch:=omega) only[kc,aM,cy,bU,bI,fJ,ab,aa,cQ,bD,af];apply hK)
 refine f6.weak (aT (tm:=[dx (dC n n f),.raw (.int .i64 (i:Int)),jk,jk,.one (.ptr 4 0 0 0),.one (.ptr 5 0 0 0),jk,jk,jk,jk,jk,jk,jk,jk,jk,jk,jk,jk,jk,jk,jk,jk,jk,jk,jk,jk,jk,jk,jk]) (l:=[(4,yD fun _=>0),(5,yD fun _=>0)]) ⟨rfl,rfl,trivial⟩ (by simp[di,b9,b8])) ?_
 (refine bX [] [] (by simp) fun K hK=>?_;simp(disch:=omega) only[kc,aM,aa,dx,Hm,aQ,aZ,aW,jw,lH,dJ,hi4,bo,ew,cU,af,aN,ab,cellsOf,fL,Nat.reduceLeDiff,isPure,and_true,bu,a1,cQ,bz,bx];apply hK)
 refine cP (B8 2 i 12 (.raw (.int .i64 ((3^i:Nat):Int))) [] [] (by simp) (by decide) fun K hK=>?_)
 simp(disch:=omega) only[kc,aM,aQ,aZ,aW,Dm,Dl,s9,hi4]
 apply hK
 clear hK K
 refine⟨⟨⟨_,_,_,rfl,rfl,rfl,rfl,by simp[AS.ev],?_⟩⟩,by simp,?_⟩
 ·exact Co hi4
 intro K hK
 simp(disch:=omega) only[kc,aa,aM,aN,ab]
 apply hK
 clear hK K
 refine f9 (G:=LM i) (fun g=>⟨[dx (dC n n f),.raw (.int .i64 (i:Int)),jk,jk,.one (.ptr 4 0 0 0),.one (.ptr 5 0 0 0),jk,jk,jk,jk,jk,jk,.raw (.int .i64 ((3^i:Nat):Int)),.raw (.int .i64 (g.k:Int)),jk,jk,jk,jk,jk,jk,jk,jk,jk,jk,jk,jk,jk,jk,jk],Hm [(4,yD fun _=>0),(5,yD (kT n f i g.k))]⟩) (fun _=>jW) (fun g=>3^i-g.k) ⟨0,Nat.zero_le _⟩ ?_ rfl ?_
 ·refine aT ⟨rfl,rfl,trivial⟩ ?_
  simp[di,b9,b8]
 rintro⟨k,hk⟩
 simp only
 by_cases hm:k<3^i
 ·have hC:=vS i k hi4 (by omega)
  have hN1:=Bc n f (cnd i k) (by omega) hn hf (D8 i k)
  have hN2:=Bc n f (kT n f i k) (by omega) hn hf (sU n f i k).2.2
  (refine bX [] [] (by simp) fun K hK=>?_;simp(disch:=omega) only[kc,aM,dx,Hm,aU,aO,aR,aX,aS,cw];apply hK)
  refine cP (fv rfl (d7 ?_))
  refine cP (eh ?_)
  (refine bX [] [] (by simp) fun K hK=>?_;simp(disch:=omega) only[kc,aM];apply hK)
  (refine bX [⟨2,_,_,_,hC⟩] [] (by simp) fun K hK=>?_;simp(disch:=omega) only[kc,tC,bj.a,aM,aa,aY,bU,bI,ac,bO,cq,ae,bV,Bool.true_and,bs,noRefTV,kZ,bQ,pD,cy,fJ,ab,cQ,af,d4,bo,ew,cU,fF,bD,cellsOf,fL,ai,ic,bu,bz,bx];apply hK)
  by_cases hlt:nrm n f (cnd i k)<nrm n f (kT n f i k)
  ·have es:kT n f i (k+1)=cnd i k:=by rw[kT,if_pos hlt]
   (refine iI cJ [⟨2,_,_,_,hN1⟩,⟨5,_,_,_,hN2⟩] [] (by kernel_rfl) (by simp) fun K hK=>?_;simp(disch:=omega) only[kc,dx,tC,bj.a,aM,aa,aZ,bD,af,d4,packT,fF,gO,fL,ai,iO,aY,bU,bI,ac,bO,cq,ae,bV,bW,bs,ic,noRefTV,bf,bQ,bM,Nat.reduceBEq,aU,aO,aR,aX,aS,cw];apply hK)
   refine fv rfl ?_
   ((refine eu [] [] (by simp) fun K hK=>?_);simp(disch:=omega) only[kc,aM,aZ,bD,af,d4,packT,fF,gO,fL,ai,iO,bo,ew,cU,cellsOf,ic,cQ,bu,mv,bz,bx];apply hK)
   show f6 _ _ _ _ _ _ _
   ((refine eu [] [] (by simp) fun K hK=>?_);simp(disch:=omega) only[kc,aM,aU,aO,aR,aX,aN,ab,aS,cd];apply hK)
   refine⟨⟨k+1,by omega⟩,by simp only;omega,aT ⟨rfl,?_,trivial⟩ ?_,rfl⟩
   ·show _=yD (kT n f i (k+1))
    rw[es];rfl
   simp[di,b9,b8]
  have es:kT n f i (k+1)=kT n f i k:=by rw[kT,if_neg hlt]
  (refine iI cJ [⟨2,_,_,_,hN1⟩,⟨5,_,_,_,hN2⟩] [] (by kernel_rfl) (by simp) fun K hK=>?_;simp(disch:=omega) only[kc,dx,tC,bj.a,aM,aa,aZ,bD,af,d4,packT,fF,gO,fL,ai,iO,aY,bU,bI,ac,bO,cq,ae,bV,bW,bs,ic,noRefTV,bf,bQ,bM,Nat.reduceBEq,aU,aO,aR,aX,aS,cp];apply hK)
  refine fK rfl (d7 ?_)
  show f6 _ _ _ _ _ _ _
  ((refine eu [] [] (by simp) fun K hK=>?_);simp(disch:=omega) only[kc,aM,aU,aO,aR,aX,aN,ab,aS,cd];apply hK)
  refine⟨⟨k+1,by omega⟩,by simp only;omega,aT ⟨rfl,?_,trivial⟩ ?_,rfl⟩
  ·show _=yD (kT n f i (k+1))
   rw[es];rfl
  simp[di,b9,b8]
 have hke:k=3^i:=by omega
 subst hke
 (refine bX [] [] (by simp) fun K hK=>?_;simp(disch:=omega) only[kc,aM,dx,Hm,aU,aO,aR,aX,aS,cp];apply hK)
 refine cP (fK rfl (gB ?_))
 show f6 _ _ _ _ _ _ _
 (refine bX [] [] (by simp) fun K hK=>?_;simp(disch:=omega) only[kc,aM,aZ,af,packT,fF,gO,fL,ai,iO,bo,ew,cU,cellsOf,ic,cQ,bu,mv,bz,bx];apply hK)
 (refine ib ⟨.inr rfl,rfl,bF rfl ?_ rfl⟩;simp(disch:=omega) only[cH,Tryz.results77,bH,ah,ag,bD,af,if_false,d4,if_true,packT,fF,gO,List.drop_zero,fL,ai,iO,tC])
noncomputable def qj (n:Nat) (f:Nat->Nat->Int):TV:=match tG n f with
 |some i=> .tup [(false,[.p (.raw (.int .i64 (i:Int)))]),(true,a4 (kT n f i (3^i))),(false,[.p (.raw (.bool true))])]
 |none=> .tup [(false,[.p (.raw (.int .i64 0))]),(true,a4 fun _=>0),(false,[.p (.raw (.bool false))])]
theorem BQ {n:Nat} {f:Nat->Nat->Int} (i:Nat) (hi:i<n) (h: ∀a,a<i-> ¬VioP n f a) (hv:VioP n f i): ∀m j,j<=i->i<j+m->tH n f m j=some i
 |0,j,h1,h2=>by omega
 |m+1,j,h1,h2=>by
  rw[tH]
  by_cases e:j=i
  ·subst e;rw[if_pos hv]
  rw[if_neg (h j (by omega))];exact BQ i hi h hv m (j+1) (by omega) (by omega)
theorem BS {n:Nat} {f:Nat->Nat->Int} (h: ∀a,a<n-> ¬VioP n f a): ∀m j,j+m<=n->tH n f m j=none
 |0,_,_=>rfl
 |m+1,j,h2=>by rw[tH,if_neg (h j (by omega))];exact BS h m (j+1) (by omega)
structure Ml (n:Nat) (f:Nat->Nat->Int) where
 i:Nat
 hi:i<=n
 ok: ∀a,a<i-> ¬VioP n f a
theorem qu (n:Nat) (f:Nat->Nat->Int) (hn1:1<=n) (hn:n<=4) (hf: ∀i j,i<n->j<n-> -1125899906842624<=f i j/\f i j<=1125899906842624):
  CallG Tryz.prog 0 138 36 [dx (dC n n f)] jW ⟨[],qj n f⟩:=by
 have hml:=cT n n f
 refine iP Tryz.func36 rfl (by kernel_rfl) ?_;rw[Tryz.ntmps36]
 (refine bX [] [] (by simp) fun K hK=>?_;simp(disch:=omega) only[kc,aM,aa,dx,aj,aN,ab,cy,bU,bI,fJ,cQ];apply hK)
 (refine cP (bX [] [] (by simp) fun K hK=>?_);simp(disch:=omega) only[kc,aM,aa,be,aZ,bv,bE,hml,aN,ab];apply hK)
 refine f9 (G:=Ml n f) (fun g=>⟨[dx (dC n n f),jk,.raw (.int .i64 0),.one (.ptr 3 0 0 0),.raw (.bool false),jk,jk,jk,jk,.raw (.int .i64 (n:Int)),.raw (.int .i64 (g.i:Int)),jk,jk,jk,jk,jk,jk,jk,jk,jk,jk,jk,jk,jk,jk],Hm [(3,yD fun _=>0)]⟩) (fun _=>jW) (fun g=>n-g.i) ⟨0,by omega,fun a ha=>by omega⟩ ?_ rfl ?_
 ·refine aT ⟨rfl,trivial⟩ ?_
  simp[di,b9,b8]
 rintro⟨i,hi,ok⟩
 simp only
 by_cases hm:i<n
 ·have hi4:i<4:=by omega
  have hS:=xH n f i hm hn hf
  have a1:=vd (fun _=>0) 1 hi4
  rw[Jp]at a1
  have h4:(∀j,j<4->kT n f i (3^i) j=eC i j)↔ ¬VioP n f i:=by
   rw[<- IH hm]
   refine⟨fun h j hj=>h j (by omega),fun h j hj=>?_⟩
   rcases Nat.lt_trichotomy j i with h1|h1|h1
   ·exact h j (by omega)
   ·exact h j (by omega)
   rw[(sU n f i (3^i)).2.1 j h1]
   unfold eC
   rw[if_neg (by omega)]
  (refine bX [] [] (by simp) fun K hK=>?_;simp(disch:=omega) only[kc,aM,dx,Hm,aU,aO,aR,aX,aS,cw];apply hK)
  refine cP (fv rfl (d7 ?_))
  refine cP (eh ?_)
  (refine bX [] [] (by simp) fun K hK=>?_;simp(disch:=omega) only[kc,aM];apply hK)
  (refine bX [] [] (by simp) fun K hK=>?_;simp(disch:=omega) only[kc,aM,cy,bU,bI,fJ,ab,aa,cQ,af];apply hK)
  refine f6.weak (aT (tm:=[dx (dC n n f),jk,.raw (.int .i64 0),.one (.ptr 3 0 0 0),.raw (.bool false),.raw (.int .i64 (i:Int)),.one (.ptr 6 0 0 0),jk,jk,.raw (.int .i64 (n:Int)),.raw (.int .i64 (i:Int)),jk,jk,jk,jk,jk,jk,jk,jk,jk,jk,jk,jk,jk,jk]) (l:=[(3,yD fun _=>0),(6,yD fun _=>0)]) ⟨rfl,rfl,trivial⟩ (by simp[di,b9,b8])) ?_
  (refine bX [] [] (by simp) fun K hK=>?_;simp(disch:=omega) only[kc,aM,aa,dx,Hm,aQ,aZ,aW,jw,lH,dJ,hi4,bo,ew,cU,af,aN,ab,cellsOf,fL,Nat.reduceLeDiff,isPure,and_true,bu,a1,cQ,bz,bx];apply hK)
  (refine gp [⟨2,_,_,_,hS,rfl⟩] [] [] (by simp) fun K hK=>?_;simp(disch:=omega) only[kc,dx,tC,io.a,aM,aa,aY,bU,bI,ac,bO,cq,ae,bV,Bool.true_and,bs,noRefTV,kZ,bQ,pD,cy,fJ,ab,cQ,bD,af,d4,bo,ew,cU,fF,cellsOf,fL,ai,ic,bu,bz,bx];apply hK)
  by_cases hv:VioP n f i
  ·have hE:zo (a4 (kT n f i (3^i))) (a4 (eC i))=some false:=En ⟨fun h=>(by cases h),fun h=>absurd (h4.1 h) (by simpa using hv)⟩
   have hvi:tG n f=some i:=BQ i hm ok hv n 0 (by omega) (by omega)
   have eT:qj n f= .tup [(false,[.p (.raw (.int .i64 (i:Int)))]),(true,a4 (kT n f i (3^i))),(false,[.p (.raw (.bool true))])]:=by unfold qj;rw[hvi]
   rw[eT]
   (refine bX [] [] (by simp) fun K hK=>?_;simp(disch:=omega) only[kc,aM,aa,aZ,bD,af,d4,packT,fF,gO,fL,ai,iO,aU,aO,aR,jw,aX,rM,yq,hE,Bool.not_false];apply hK)
   refine fv rfl ?_
   (refine iI cJ [] [] (by kernel_rfl) (by simp) fun K hK=>?_;simp(disch:=omega) only[kc,aM,aa,aZ,bD,af,d4,packT,fF,gO,fL,ai,iO,bo,ew,cU,cellsOf,ic,cQ,bu,mv,bz,bx,aN,ab];apply hK)
   (refine ib ⟨.inr rfl,rfl,bF rfl ?_ rfl⟩;simp(disch:=omega) only[kc,cH,Tryz.results36,eP,bH,dF,bD,af,d4,packT,fF,gO,fL,ai,iO])
  have hE:zo (a4 (kT n f i (3^i))) (a4 (eC i))=some true:=En ⟨fun _=>h4.2 hv,fun _=>rfl⟩
  (refine bX [] [] (by simp) fun K hK=>?_;simp(disch:=omega) only[kc,aM,aa,aZ,bD,af,d4,packT,fF,gO,fL,ai,iO,aU,aO,aR,jw,aX,rM,yq,hE];apply hK)
  refine fK rfl (d7 ?_)
  show f6 _ _ _ _ _ _ _
  ((refine eu [] [] (by simp) fun K hK=>?_);simp(disch:=omega) only[kc,aM,aU,aO,aR,aX,aN,ab,aS,cd];apply hK)
  refine⟨⟨i+1,by omega,fun a ha=>?_⟩,by simp only;omega,aT ⟨rfl,trivial⟩ ?_,rfl⟩
  ·by_cases e:a=i
   ·subst e;exact hv
   exact ok a (by omega)
  simp[di,b9,b8]
 have hin:i=n:=by omega
 have hvi:tG n f=none:=BS (fun a ha=>ok a (by omega)) n 0 (by omega)
 have eT:qj n f= .tup [(false,[.p (.raw (.int .i64 0))]),(true,a4 fun _=>0),(false,[.p (.raw (.bool false))])]:=by unfold qj;rw[hvi]
 rw[eT]
 subst hin
 (refine bX [] [] (by simp) fun K hK=>?_;simp(disch:=omega) only[kc,aM,dx,Hm,aU,aO,aR,aX,aS,cp];apply hK)
 refine cP (fK rfl (gB ?_))
 show f6 _ _ _ _ _ _ _
 (refine bX [] [] (by simp) fun K hK=>?_;simp(disch:=omega) only[kc,aM,aa,jL,aZ,fJ,Gl,ab,iC,aN,bo,ew,cU,fF,cellsOf,fL,ai,isPure,cQ,bu,mv,bz,bx];apply hK)
 (refine ib ⟨.inr rfl,rfl,bF rfl ?_ rfl⟩;simp(disch:=omega) only[kc,cH,Tryz.results36,eP,bH,dF,bD,d4,packT,fF,gO,aa,ai,a4])
def yK (M:List (List Int)):Prop:=tJ M/\iM (ent M) M.length
structure Me (M:List (List Int)) where
 i:Nat
 hi:i+1<=M.length
 ok: ∀a,a<i->ent M a a<=ent M (a+1) (a+1)/\0<=ent M a (a+1)
theorem l4 (M:List (List Int)) (r:Bool) (hr:r=true↔yK M):
  CallG Tryz.prog 0 138 14 [dx M] jW ⟨[],.raw (.bool r)⟩:=by
 by_cases hF:tJ M
 ·have hI:=uo M true (by simp[hF])
  have hn1:=hF.1.1
  have hn4:=hF.1.2
  have eM:M=dC M.length M.length (ent M):=qL (M:=M) (m:=M.length) fun q hq=>(hF.2.1 q hq).1
  have hV:=qu M.length (ent M) hn1 hn4 fun i j hi hj=>hF.entB hi hj
  rw[<- eM]at hV
  refine iP Tryz.func14 rfl (by kernel_rfl) ?_;rw[Tryz.ntmps14]
  (refine bX [] [] (by simp) fun K hK=>?_;simp(disch:=omega) only[kc,aM,dx,aj,aN,ab];apply hK)
  (refine cP (bX [⟨1,_,_,_,hI⟩] [] (by simp) fun K hK=>?_);simp(disch:=omega) only[kc,dx,bj.a,aM,aa,aY,bU,bI,ac,bO,cq,ae,bV,bW,bs,noRefTV,bf,bQ,bM,dM,aU,fD];apply hK)
  refine fK rfl (d7 ?_)
  show f6 _ _ _ _ _ _ _
  (refine cP (bX [] [] (by simp) fun K hK=>?_);simp(disch:=omega) only[kc,aM,aa,be,aZ,bv,bE,aU,aO,aR,aX,aN,ab,aS,cd];apply hK)
  have en:(M.length:Int)-1=((M.length-1:Nat):Int):=by omega
  refine f9 (G:=Me M) (fun g=>⟨[dx M,jk,.raw (.bool false),jk,jk,jk,jk,jk,jk,jk,jk,jk,.raw (.int .i64 ((M.length-1:Nat):Int)),.raw (.int .i64 (g.i:Int)),jk,jk,jk,jk,jk,jk,jk,jk,jk,jk,jk,jk,jk,jk,jk,jk,jk,jk,jk,jk,jk,jk,jk,jk,jk,jk,jk,jk,jk,jk,jk,jk,jk,jk,jk,jk,jk,jk,jk],Hm []⟩) (fun _=>jW) (fun g=>M.length-g.i) ⟨0,hn1,fun a ha=>by omega⟩ ?_ rfl ?_
  ·refine aT trivial ?_
   simp[di,b9,b8,en]
  rintro⟨i,hi,ok⟩
  simp only
  by_cases hm:i+1<M.length
  ·have m1:=dm M.length (ent M) (show i<M.length by omega)
   have m2:=dm M.length (ent M) hm
   rw[<- eM]at m1 m2
   have c1:=cu (ent M i) (show i<M.length by omega)
   have c2:=cu (ent M (i+1)) hm
   have c3:=cu (ent M i) hm
   have e1:((i:Int)+1).toNat=i+1:=by omega
   by_cases hd:ent M (i+1) (i+1)<ent M i i
   ·have hr0:r=false:=by
     cases r with
     |false=>rfl
     |true=>have:=((hr.1 rfl).2.1 i hm).1;omega
    subst hr0
    (refine bX [] [] (by simp) fun K hK=>?_;simp(disch:=omega) only[kc,aM,dx,Hm,aU,aO,aR,aX,aS,cw];apply hK)
    refine cP (fv rfl (d7 ?_))
    refine cP (eh ?_)
    (refine bX [] [] (by simp) fun K hK=>?_;simp(disch:=omega) only[kc,aM];apply hK)
    (refine iI cJ [] [] (by kernel_rfl) (by simp) fun K hK=>?_;simp(disch:=omega) only[kc,aM,aa,aQ,aZ,aW,bv,ch,m1,fR,db,packT,dc,ca,c1,fI,dJ,et,aU,aO,aR,aX,aN,ab,aS,cd,e1,m2,c2,cw,bP,reduceCtorEq,Option.map_none,cQ,b7];apply hK)
    refine fv rfl ?_
    (refine bX [] [] (by simp) fun K hK=>?_;simp(disch:=omega) only[kc,aM,aN,ab];apply hK)
    (refine ib ⟨.inr rfl,rfl,bF rfl ?_ rfl⟩;simp(disch:=omega) only[cH,Tryz.results14,bH,ah,ag])
   by_cases hs:ent M i (i+1)<0
   ·have hr0:r=false:=by
     cases r with
     |false=>rfl
     |true=>have:=((hr.1 rfl).2.1 i hm).2;omega
    subst hr0
    (refine bX [] [] (by simp) fun K hK=>?_;simp(disch:=omega) only[kc,aM,dx,Hm,aU,aO,aR,aX,aS,cw];apply hK)
    refine cP (fv rfl (d7 ?_))
    refine cP (eh ?_)
    (refine bX [] [] (by simp) fun K hK=>?_;simp(disch:=omega) only[kc,aM];apply hK)
    (refine iI cJ [] [] (by kernel_rfl) (by simp) fun K hK=>?_;simp(disch:=omega) only[kc,aM,aa,aQ,aZ,aW,bv,ch,m1,fR,db,packT,dc,ca,c1,fI,dJ,et,aU,aO,aR,aX,aN,ab,aS,cd,e1,m2,c2,cp,bP,cQ,c3,cw,b7];apply hK)
    refine fv rfl ?_
    (refine bX [] [] (by simp) fun K hK=>?_;simp(disch:=omega) only[kc,aM,aN,ab];apply hK)
    (refine ib ⟨.inr rfl,rfl,bF rfl ?_ rfl⟩;simp(disch:=omega) only[cH,Tryz.results14,bH,ah,ag])
   (refine bX [] [] (by simp) fun K hK=>?_;simp(disch:=omega) only[kc,aM,dx,Hm,aU,aO,aR,aX,aS,cw];apply hK)
   refine cP (fv rfl (d7 ?_))
   refine cP (eh ?_)
   (refine bX [] [] (by simp) fun K hK=>?_;simp(disch:=omega) only[kc,aM];apply hK)
   (refine iI cJ [] [] (by kernel_rfl) (by simp) fun K hK=>?_;simp(disch:=omega) only[kc,aM,aa,aQ,aZ,aW,bv,ch,m1,fR,db,packT,dc,ca,c1,fI,dJ,et,aU,aO,aR,aX,aN,ab,aS,cd,e1,m2,c2,cp,bP,cQ,c3,b7];apply hK)
   refine fK rfl (d7 ?_)
   show f6 _ _ _ _ _ _ _
   ((refine eu [] [] (by simp) fun K hK=>?_);simp(disch:=omega) only[kc,aM,aU,aO,aR,aX,aN,ab,aS,cd];apply hK)
   refine⟨⟨i+1,by omega,fun a ha=>?_⟩,by simp only;omega,aT trivial ?_,rfl⟩
   ·by_cases e:a=i
    ·subst e;exact⟨by omega,by omega⟩
    exact ok a (by omega)
   simp[di,b9,b8]
  (refine bX [] [] (by simp) fun K hK=>?_;simp(disch:=omega) only[kc,aM,dx,Hm,aU,aO,aR,aX,aS,cp];apply hK)
  refine cP (fK rfl (gB ?_))
  show f6 _ _ _ _ _ _ _
  cases hv:tG M.length (ent M)with
  |none=>
   have hr1:r=true:=hr.2 ⟨hF,fun a ha=>ok a (by omega),fun a ha=>qi _ 0 hv a (by omega) (by omega)⟩
   subst hr1
   have eT:qj M.length (ent M)= .tup [(false,[.p (.raw (.int .i64 0))]),(true,a4 fun _=>0),(false,[.p (.raw (.bool false))])]:=by unfold qj;rw[hv]
   rw[eT]at hV
   (refine gp [⟨1,_,_,_,hV,rfl⟩] [] [] (by simp) fun K hK=>?_;simp(disch:=omega) only[kc,dx,io.a,aM,aa,aY,bU,bI,ac,bO,cq,ae,bV,bW,Bool.true_and,bs,noRefTV,bf,kZ,bQ,bM,pD,cK,aU,cy,fJ,ab,cQ,bo,ew,cU,fF,bD,cellsOf,fL,ai,ic,bu,bz,bx];apply hK)
   (refine bX [] [] (by simp) fun K hK=>?_;simp(disch:=omega) only[kc,aM,aa,dM,aU,fD,Bool.not_false];apply hK)
   (refine ib ⟨.inr rfl,rfl,bF rfl ?_ rfl⟩;simp(disch:=omega) only[cH,Tryz.results14,bH,ah,ag])
  |some k=>
   obtain⟨_,k1,k2,_⟩:=jR _ 0 k hv
   have hr0:r=false:=by
    cases r with
    |false=>rfl
    |true=>exact absurd k2 ((hr.1 rfl).2.2 k (by omega))
   subst hr0
   have eT:qj M.length (ent M)= .tup [(false,[.p (.raw (.int .i64 (k:Int)))]),(true,a4 (kT M.length (ent M) k (3^k))),(false,[.p (.raw (.bool true))])]:=by unfold qj;rw[hv]
   rw[eT]at hV
   (refine gp [⟨1,_,_,_,hV,rfl⟩] [] [] (by simp) fun K hK=>?_;simp(disch:=omega) only[kc,dx,io.a,aM,aa,aY,bU,bI,ac,bO,cq,ae,bV,bW,Bool.true_and,bs,noRefTV,bf,kZ,bQ,bM,pD,cK,aU,cy,fJ,ab,cQ,bo,ew,cU,fF,bD,cellsOf,fL,ai,ic,bu,bz,bx];apply hK)
   (refine bX [] [] (by simp) fun K hK=>?_;simp(disch:=omega) only[kc,aM,aa,dM,aU,fD];apply hK)
   (refine ib ⟨.inr rfl,rfl,bF rfl ?_ rfl⟩;simp(disch:=omega) only[cH,Tryz.results14,bH,ah,ag])
 have hr0:r=false:=by
  cases r with
  |false=>rfl
  |true=>exact absurd (hr.1 rfl).1 hF
 subst hr0
 have hI:=uo M false (by simp[hF])
 refine iP Tryz.func14 rfl (by kernel_rfl) ?_;rw[Tryz.ntmps14]
 (refine bX [] [] (by simp) fun K hK=>?_;simp(disch:=omega) only[kc,aM,dx,aj,aN,ab];apply hK)
 (refine cP (bX [⟨1,_,_,_,hI⟩] [] (by simp) fun K hK=>?_);simp(disch:=omega) only[kc,dx,bj.a,aM,aa,aY,bU,bI,ac,bO,cq,ae,bV,bW,bs,noRefTV,bf,bQ,bM,dM,aU,fD,Bool.not_false];apply hK)
 refine fv rfl ?_
 (refine bX [] [] (by simp) fun K hK=>?_;simp(disch:=omega) only[kc,aM,aN,ab];apply hK)
 (refine ib ⟨.inr rfl,rfl,bF rfl ?_ rfl⟩;simp(disch:=omega) only[cH,Tryz.results14,bH,ah,ag])
section
open Go.ChangeShapes Go.WideShapes Go.ChangeAt Go.WideMaps Go.WideElems Go.RowKit
theorem La : Tryz.prog.globalNamed "quadform/minkowski.conditions" = some 0 := by kernel_rfl
theorem Ln:(Tryz.prog.globals[0]?).map (·.type)=some 138:=by kernel_rfl
abbrev xv : List (String × DataW Unit) := [("quadform/minkowski.conditions", Rows.laid_quadform_minkowski_conditions)]
theorem w6 {W:World} (h:laidMetH Tryz.prog xv W):u5 0 138 jW W:=by
 rw[MakeChecks.laidMetH_plain _ _ _ (by kernel_rfl)]at h
 obtain⟨ps,⟨g0,t0,cs0,f0,p0,q0,hg0,ht0,hv0,hd0,_,_⟩,_,_⟩:=h
 obtain rfl:=Option.some.inj (La.symm.trans hg0)
 obtain rfl:=Option.some.inj (Ln.symm.trans ht0)
 obtain⟨xs,m1,rfl,hx1,hlen,hn3,hel⟩:=DataW.trod_array Tryz.underlying138 hd0
 have c3:Tryz.prog.cellsOf 3=1:=by kernel_rfl
 have c4:Tryz.prog.cellsOf 138=4:=by kernel_rfl
 rw[c4]at hlen
 have hcell: ∀i,i<4-> ∃k:Int,cs0[i]?=some (.int .i64 k)/\(xs[i]?).map (·.1)=some (.lit (.int .i64 k)):=fun i hi=>by
  have h1:=hel i hi
  rw[c3,Nat.mul_one]at h1
  obtain⟨y,hy⟩: ∃y,xs[i]?=some y:=⟨xs[i]'(by omega),List.getElem?_eq_getElem (by omega)⟩
  rw[hy]at h1
  obtain⟨k,e1,e2,_⟩:=DataW.trod_int Tryz.underlying3 h1
  refine⟨k,?_,by rw[hy,e2];rfl⟩
  have h2:=congrArg (fun l=>l[0]?) e1
  simp only[List.getElem?_take,List.getElem?_drop,Nat.add_zero]at h2
  simpa using h2
 have hx:xs.map (·.1)=[.lit (.int .i64 1),.lit (.int .i64 3),.lit (.int .i64 9),.lit (.int .i64 27)]:=by
  simp only[Prod.mk.injEq,Rows.laid_quadform_minkowski_conditions,DataW.agg.injEq]at hx1
  exact hx1.1.symm
 have hat: ∀(i:Nat) (k:Int),i<4->(xs.map (·.1))[i]?=some (.lit (.int .i64 k))->W.cell? ⟨0,i,none⟩=some (.int .i64 k):=fun i k hi hk=>by
  obtain⟨k',h1,h2⟩:=hcell i hi
  rw[aH,h2]at hk
  have:k'=k:=by simpa using hk
  subst this
  rw[World.var?_cell hg0 hv0 i,h1]
 rw[hx]at hat
 have a0:=hat 0 1 (by omega) rfl
 have a1:=hat 1 3 (by omega) rfl
 have a2:=hat 2 9 (by omega) rfl
 have a3:=hat 3 27 (by omega) rfl
 refine⟨lR a0,fun j x hx=>?_⟩
 match j,hx with
 |0,hx=>simp at hx;exact⟨_,hx.symm,a0,rfl⟩
 |1,hx=>simp at hx;exact⟨_,hx.symm,a1,rfl⟩
 |2,hx=>simp at hx;exact⟨_,hx.symm,a2,rfl⟩
 |3,hx=>simp at hx;exact⟨_,hx.symm,a3,rfl⟩
 |j+4,hx=>simp at hx
theorem Ef (os:Os) (args:Array Value):laidMetH Tryz.prog xv ((World.doorLaid Tryz.prog 400 os).forCall (fun _ _=>0) ⟨#[],args,[]⟩).memory:=
 laidMetH_of_parts3 (fuel:=8) (laidMet_of_run' 8 (by kernel_rfl) (by kernel_rfl)) (by kernel_rfl) (by kernel_rfl)
theorem CallG.law {P:Program} {b:Nat} {ty:TypeId} {f:FuncId} {args:List TV} {cs:List PV} {r:Bool} (h:CallG P b ty f args cs ⟨[],.raw (.bool r)⟩) {w:World} (hb:u5 b ty cs w) {vs:Array Value} (hvs:vs.size=args.length)
  (ha: ∀(j:Nat) t,args[j]?=some t-> ∃v:Value,vs[j]?=some v/\t.rel (fun _ _=>none) (fun _=>[]) (fun _=>False) w v):Calls P f vs w fun e w'=>e= .returned (.bool r)/\Ext w w':=
 ((h.2 w hb).2 (fun _=>False) vs (fun b h=>h.elim) hvs ha).mono fun e w' ⟨v,h1,ρ,h2,h3⟩=>⟨by rw[h1,qT h3],xt h2.keep⟩
end
section
variable {n:Nat}
theorem Jm {x:Int} {A:Nat} (h:x*x<=(A:Int)*(A:Int)): -(A:Int)<=x/\x<=(A:Int):=by
 have h1:x.natAbs*x.natAbs<=A*A:=by
  have e:((x.natAbs*x.natAbs:Nat):Int)=x*x:=Int.natAbs_mul_self
  have:((x.natAbs*x.natAbs:Nat):Int)<=((A*A:Nat):Int):=by rw[e,Int.natCast_mul];exact h
  exact Int.ofNat_le.1 this
 have h2:x.natAbs<=A:=by
  rcases Nat.lt_or_ge A x.natAbs with hl|hl
  ·have:=Nat.mul_lt_mul'' hl hl;omega
  exact hl
 omega
theorem zT {h:Nat->Nat->Int} (hn1:1<=n) (hn:n<=4) (hr:iY h n) {x:Nat->Int} (hx:nrm n h x<=262144): ∀j,j<n-> -549755813888<=x j/\x j<=549755813888:=fun j hj=>by
 have h1:=Eb (B:=262144) hr.pd hj (fun a b ha hb=>by have:=pL hn1 (by omega) hr a ha b hb;omega) x hx
 have h2:(n*262144)^(n-1)<=1048576^3:=by
  have:n*262144<=1048576:=by omega
  exact Nat.le_trans (Nat.pow_le_pow_left this _) (Nat.pow_le_pow_right (by omega) (by omega))
 have h3:(((n*262144)^(n-1):Nat):Int)<=1152921504606846976:=by
  have e:1048576^3=1152921504606846976:=by decide
  rw[e]at h2
  omega
 refine Jm (A:=549755813888) ?_
 generalize(((n*262144)^(n-1):Nat):Int)=q at*
 omega
theorem rS {h B:Nat->Nat->Int} {W:Int} (hp:PD h n) (hB:InB2 n h W B) {a b:Nat} (ha:a<n) (hb:b<n) (A:Nat) (hW:W<=(A:Int)): -(A:Int)<=ia n h B a b/\ia n h B a b<=(A:Int):=by
 refine Jm ?_
 have h1:=hp.schwarz (B a) (B b)
 have h2:=hB.nr a ha
 have h3:=hB.nr b hb
 have h4:=(hp.pos (B a)).1
 have h5:=(hp.pos (B b)).1
 unfold nrm at h2 h3
 unfold ia
 have h6:BF n h (B a) (B a)*BF n h (B b) (B b)<=(A:Int)*(A:Int):=Int.mul_le_mul (by omega) (by omega) h5 (by omega)
 omega
theorem InB2.one {h:Nat->Nat->Int} (hn1:1<=n) (hn:n<=8) (hr:iY h n):InB2 n h 262144 (fun a b=>if a=b then 1 else 0):=by
 refine⟨fun a ha=>?_,?_⟩
 ·have e:(fun b=>if a=b then(1:Int)else 0)=eC a:=by funext b;unfold eC;by_cases h:a=b<;>simp[h,eq_comm]<;>omega
  show nrm n h (fun b=>if a=b then 1 else 0)<=_
  rw[e,kP ha]
  have:=pL hn1 hn hr a ha a ha
  omega
 have e:trF (fun a b=>if a=b then(1:Int)else 0)=fun i j=>if i=j then 1 else 0:=by
  funext i j;unfold trF;by_cases h:i=j<;>simp[h,eq_comm]<;>omega
 rw[e,JW];rfl
theorem InB2.sg {h B:Nat->Nat->Int} {W:Int} (g:Nat->Nat->Int) (hB:InB2 n h W B):InB2 n h W (wA g B):=by
 refine⟨fun a ha=>?_,?_⟩
 ·have:=hB.nr a ha
  have e:nrm n h (wA g B a)=nrm n h (B a):=by
   have h1:ia n h (wA g B) a a=ia n h B a a:=by
    rw[Ew]
    unfold Gy
    rcases md g a with e|e<;>rw[e]<;>omega
   exact h1
  rw[e];exact this
 have h1:=FT (g:=g) (B:=B) n (ai n)
 rw[<- hB.dt,<- h1]
 congr 1
 exact lf fun i j _ hj=>by show mc g j*B j i=if j<n then _ else _;rw[if_pos hj]
theorem xL {h:Nat->Nat->Int} (hn1:1<=n) (hn:n<=4) (hr:iY h n): ∃R,RchB n h (fun a b=>if a=b then 1 else 0) R/\InB2 n h 262144 R/\InB2 n h 262144 (wA (ia n h R) R)/\iM (ia n h (wA (ia n h R) R)) n:=by
 have h1:=InB2.one hn1 (by omega) hr
 obtain⟨R,hR⟩:=xZ hr.pd _ _ rfl h1
 obtain⟨e1,e2,e3⟩:=sB hR h1
 exact⟨R,hR,e1,e1.sg _,xK e2 e3⟩
theorem InB2.pd {h B:Nat->Nat->Int} {W:Int} (hp:PD h n) (hB:InB2 n h W B):PD (ia n h B) n:=by
 rw[vE]
 exact hp.cng (by have:=hB.dt;omega)
end
/-! Inner products of rows. -/
theorem qQ {n:Nat} {h:Nat->Nat->Int} (hn1:1<=n) (hn:n<=8) (hr:iY h n):dO (dC n n h)=true:=
 (iQ _).2 ((wE hn1).2 ⟨rfl,hn,hr⟩)
theorem lg {n:Nat} {X:Nat->Int} (hx: ∀j,j<n-> -1099511627776<=X j/\X j<=1099511627776):FitB n (dz n X)=true:=by
 refine ji.2 ⟨dj n X,?_⟩
 unfold Dq
 rw[List.all_eq_true]
 intro c hc
 obtain⟨j,hj⟩:=List.mem_iff_getElem?.1 hc
 have hjn:j<n:=by
  have:=(List.getElem?_eq_some_iff.1 hj).1
  rwa[dj]at this
 rw[cu _ hjn]at hj
 injection hj with hj
 have:=hx j hjn
 rw[hj]at this
 simp[this]
theorem jN (n:Nat) (X:Nat->Int):(dz n X).take n=dz n X:=List.take_of_length_le (by rw[dj];omega)
theorem AZ {n:Nat} {h:Nat->Nat->Int} {X Y:Nat->Int} (hn1:1<=n) (hn:n<=8) (hr:iY h n) (hx: ∀j,j<n-> -1099511627776<=X j/\X j<=1099511627776) (hy: ∀j,j<n-> -1099511627776<=Y j/\Y j<=1099511627776):
  iF (dz n X) (fi (dC n n h) (dz n Y)) (dz n X).length=BF n h X Y:=by
 have e:=zu (x:=dz n X) (y:=dz n Y) (qQ hn1 hn hr) (by rw[cT];exact lg hx) (by rw[cT];exact lg hy)
 rw[e,cT]
 exact iy (fun i j hi hj=>vz h hi hj) (fun i hi=>uG X hi) (fun i hi=>uG Y hi)
theorem rV {n:Nat} {h:Nat->Nat->Int} {X Y:Nat->Int} (hn1:1<=n) (hn:n<=8) (hr:iY h n) (hx: ∀j,j<n-> -1099511627776<=X j/\X j<=1099511627776) (hy: ∀j,j<n-> -1099511627776<=Y j/\Y j<=1099511627776)
  (hb: -4611686018427387904<=BF n h X Y/\BF n h X Y<=4611686018427387904):CE (dC n n h) (dz n X) (dz n Y)=Dk (BF n h X Y) true:=by
 unfold CE
 rw[if_pos ⟨by unfold kW;rw[qQ hn1 hn hr,cT,lg hx];rfl,by rw[cT];exact lg hy⟩,AZ hn1 hn hr hx hy]
 exact if_pos hb
def GdR (n:Nat) (h:Nat->Nat->Int) (x:Nat->Int):Prop:=nrm n h x<=262144
theorem GdR.co {n:Nat} {h:Nat->Nat->Int} {x:Nat->Int} (hn1:1<=n) (hn:n<=4) (hr:iY h n) (hg:GdR n h x): ∀j,j<n-> -1099511627776<=x j/\x j<=1099511627776:=fun j hj=>by
 have:=zT hn1 hn hr hg j hj
 omega
theorem GdR.nn {n:Nat} {h:Nat->Nat->Int} {x:Nat->Int} (hr:iY h n):0<=nrm n h x:=(hr.pd.pos x).1
abbrev jD (M:List (List Int)):List PV:=[.sl (ls (fR fI) M)]
theorem JS {n:Nat} {h:Nat->Nat->Int} {X Y:Nat->Int} (hn1:1<=n) (hn:n<=4) (hr:iY h n) (hx:GdR n h X) (hy:GdR n h Y):
  CallC Tryz.prog 92 [mp (dz n X),mp (dz n Y),.one (.p (.ptr (jD (dC n n h))))] ⟨[],.raw (.int .i64 (nrm n h X-nrm n h Y))⟩:=by
 have a0:0<=nrm n h X:=GdR.nn hr
 have b0:0<=nrm n h Y:=GdR.nn hr
 have a1:nrm n h X<=262144:=hx
 have b1:nrm n h Y<=262144:=hy
 have c1:=Br (dC n n h) (dz n X)
 have c2:=Br (dC n n h) (dz n Y)
 rw[rV hn1 (by omega) hr (hx.co hn1 hn hr) (hx.co hn1 hn hr) (by show _<=nrm n h X/\nrm n h X<=_;omega),show BF n h X X=nrm n h X from rfl]at c1
 rw[rV hn1 (by omega) hr (hy.co hn1 hn hr) (hy.co hn1 hn hr) (by show _<=nrm n h Y/\nrm n h Y<=_;omega),show BF n h Y Y=nrm n h Y from rfl]at c2
 refine bG Tryz.func92 rfl (by kernel_rfl) ?_;rw[Tryz.ntmps92]
 (refine aL [] fun K hK=>?_;simp(disch:=omega) only[kc,aM,mp,aa,aj,aN,ab];apply hK)
 (refine aL [⟨2,_,_,_,c1⟩] fun K hK=>?_;simp(disch:=omega) only[kc,dx,mp,Dk,bj.a,aM,aa,aZ,packT,kD,jv,aY,bU,bI,ac,bO,cq,ae,bV,bW,bs,noRefTV,bf,bQ,bM,cK,aU];apply hK)
 (refine aL [⟨2,_,_,_,c2⟩] fun K hK=>?_;simp(disch:=omega) only[kc,dx,mp,Dk,bj.a,aM,aa,aZ,packT,kD,jv,aY,bU,bI,ac,bO,cq,ae,bV,bW,bs,noRefTV,bf,bQ,bM,cK,aU];apply hK)
 (refine aL [] fun K hK=>?_;simp(disch:=omega) only[kc,aM,aa,aU,aO,aR,aX,aS,cd];apply hK)
 (refine bC ⟨.inr rfl,bF rfl ?_ rfl⟩;simp(disch:=omega) only[cH,Tryz.results92,bH,ah,ag])
/-! Rows that change their places. -/
theorem EU {d n p k:Nat} (g:Nat->Nat->Int) (hp:p<n) (hk:k<n) (hne:k≠p) (r:Nat):(gG d n n (swp p k g))[r]?=
  (((⟨27,1,((iX d (aj n n)).set p [.sl d (k+1) 0 n]).set k [.sl d (p+1) 0 n]⟩::(dC n n g).map ke:List OObj))[sw (p+1) (k+1) r]?).map (tb d (p+1) (k+1)):=by
 cases r with
 |zero=>
  rw[show sw (p+1) (k+1) 0=0 by simp[sw]]
  simp only[ag,Option.map_some,tb]
  congr 2
  apply List.ext_getElem?
  intro i
  rw[aH,List.getElem?_set,List.getElem?_set,List.length_set,dT,List.length_replicate]
  by_cases hi:i<n
  ·rw[d5 d n hi]
   by_cases h1:k=i
   ·subst h1
    simp[hi,kV,oy,sw]
   by_cases h2:p=i
   ·subst h2
    simp[h1,hi,kV,oy,sw]
   have h1': ¬i=k:=fun e=>h1 e.symm
   have h2': ¬i=p:=fun e=>h2 e.symm
   simp[h1,h2,h1',h2',kV,oy,sw]
  have h1: ¬k=i:=by omega
  have h2: ¬p=i:=by omega
  rw[if_neg h1,if_neg h2,List.getElem?_eq_none (by rw[dT,List.length_replicate];omega)];rfl
 |succ r=>
  have hsw:sw (p+1) (k+1) (r+1)=sw p k r+1:=by
   unfold sw
   by_cases h1:r=p
   ·simp[h1]
   by_cases h2:r=k
   ·simp[h1,h2,hne]
   simp[h1,h2]
  have hO: ∀l:List Int,tb d (p+1) (k+1) (ke l)=ke l:=fun l=>by
   simp only[tb,ke,lc,List.map_map]
   congr 1
  rw[hsw,ah,ah,aH,aH]
  by_cases hr:r<n
  ·have hs:sw p k r<n:=by unfold sw;split<;>(try split)<;>omega
   rw[dm _ _ hr,dm _ _ hs]
   simp only[Option.map_some,hO]
   congr 3
   unfold swp sw
   by_cases h1:r=p
   ·simp[h1]
   by_cases h2:r=k
   ·simp[h1,h2,hne]
   simp[h1,h2]
  have hs: ¬sw p k r<n:=by unfold sw;rw[if_neg (by omega),if_neg (by omega)];exact hr
  rw[List.getElem?_eq_none (by rw[cT];omega),List.getElem?_eq_none (by rw[cT];omega)];rfl
theorem lj (n c:Nat) (f:Nat->Nat->Int): ∀o∈gG 0 n c f,selfO 0 o:=fun o ho e he x hx=>by
 simp only[List.mem_cons,List.mem_map]at ho
 rcases ho with rfl|⟨r,_,rfl⟩
 ·obtain⟨k,hk⟩:=List.mem_iff_getElem?.1 he
  have hkn:k<n:=by
   have:=(List.getElem?_eq_some_iff.1 hk).1
   simpa[dT] using this
  simp only at hk
  rw[d5 0 c hkn]at hk
  injection hk with hk
  subst hk
  simp at hx
  subst hx
  rfl
 exact fg (gu _ _ _) e he x hx
theorem r8 (n c:Nat) (f g:Nat->Nat->Int): ∃o o',(gG 0 n c f)[0]?=some o/\(gG 0 n c g)[0]?=some o'/\o.elems.length=n/\o'.elems.length=n/\o'.es=o.es:=
 ⟨_,_,rfl,rfl,by simp[dT],by simp[dT],rfl⟩
structure LG (n:Nat) (h:Nat->Nat->Int) (i:Nat) (T:Nat->Nat->Int) where
 j:Nat
 C:Nat->Nat->Int
 hj:j<=i
 he:insB (nrm n h) C j=T
 ok: ∀a,a<n->GdR n h (C a)
structure LO (n:Nat) where
 i:Nat
 h1:1<=i
 hi:i<=n
theorem CF (n:Nat) (h B:Nat->Nat->Int) (hn1:1<=n) (hn:n<=4) (hr:iY h n) (hB: ∀a,a<n->GdR n h (B a)):
  qm Tryz.prog 151 [jk,.raw (.int .i64 0),.raw (.int .i64 (n:Int)),.fn 92 [.p (.ptr (jD (dC n n h)))]] 0 n (gG 0 n n B) (gG 0 n n (lF (nrm n h) B n)) .undef:=by
 have hall:=fun i hi=>pv (n:=n) (nrm n h) (Q:=GdR n h) (B:=B) hB i hi
 refine rx Tryz.func151 rfl (by kernel_rfl) (by simp) hn1 (r8 _ _ _ _) rfl ?_;rw[Tryz.ntmps151]
 refine gZ.weak (aT (tm:=[.one (.sl 0 0 0 n),.raw (.int .i64 0),.raw (.int .i64 (n:Int)),.fn 92 [.p (.ptr (jD (dC n n h)))],jk,jk,jk,jk,jk,jk,jk,jk,jk,jk,jk,jk,jk,jk,jk,jk,jk,jk,jk,jk,jk,jk,jk,jk,jk,jk,jk,jk,jk,jk,jk,jk,jk,jk,jk,jk,jk,jk,jk,jk,jk,jk,jk,jk,jk,jk,jk,jk,jk]) (l:=[(0,gG 0 n n B)]) ⟨rfl,trivial⟩ (by simp[di,b9,b8,aj])) ?_
 (refine cn [] [] (by kernel_rfl) (by simp) fun K hK=>?_;simp(disch:=omega) only[kc,aM,aa,Hm,aU,aO,aR,aX,aN,ab,aS,cd];apply hK)
 refine iB (G:=LO n) (fun g=>⟨[.one (.sl 0 0 0 n),.raw (.int .i64 0),.raw (.int .i64 (n:Int)),.fn 92 [.p (.ptr (jD (dC n n h)))],jk,jk,jk,jk,.raw (.int .i64 (g.i:Int)),jk,jk,jk,jk,jk,jk,jk,jk,jk,jk,jk,jk,jk,jk,jk,jk,jk,jk,jk,jk,jk,jk,jk,jk,jk,jk,jk,jk,jk,jk,jk,jk,jk,jk,jk,jk,jk,jk,jk,jk,jk,jk,jk,jk],Hm [(0,gG 0 n n (lF (nrm n h) B g.i))]⟩) (fun g=>n-g.i) ⟨1,by omega,hn1⟩ ?_ ?_
 ·refine aT ⟨rfl,trivial⟩ ?_
  simp[di,b9,b8]
 rintro⟨i,hi1,hi⟩
 simp only
 by_cases hm:i<n
 ·(refine dw (cn [] [] (by kernel_rfl) (by simp) fun K hK=>?_);simp(disch:=omega) only[kc,aM,aa,Hm,aU,aO,aR,aX,aS,cw];apply hK)
  refine iq rfl (fC ?_)
  refine dw (f7 ?_)
  (refine cn [] [] (by kernel_rfl) (by simp) fun K hK=>?_;simp(disch:=omega) only[kc,aM];apply hK)
  refine iB (G:=LG n h i (lF (nrm n h) B (i+1))) (fun g=>⟨[.one (.sl 0 0 0 n),.raw (.int .i64 0),.raw (.int .i64 (n:Int)),.fn 92 [.p (.ptr (jD (dC n n h)))],jk,jk,jk,jk,.raw (.int .i64 (i:Int)),.raw (.int .i64 (g.j:Int)),jk,jk,jk,jk,jk,jk,jk,jk,jk,jk,jk,jk,jk,jk,jk,jk,jk,jk,jk,jk,jk,jk,jk,jk,jk,jk,jk,jk,jk,jk,jk,jk,jk,jk,jk,jk,jk,jk,jk,jk,jk,jk,jk],Hm [(0,gG 0 n n g.C)]⟩) (fun g=>g.j) ⟨i,lF (nrm n h) B i,ai _,rfl,hall i (by omega)⟩ ?_ ?_
  ·refine aT ⟨rfl,trivial⟩ ?_
   simp[di,b9,b8]
  rintro⟨j,C,hj,he,ok⟩
  simp only
  cases j with
  |zero=>
   have he:C=lF (nrm n h) B (i+1):=he
   (refine dw (gQ cJ [] [] (by kernel_rfl) (by kernel_rfl) (by simp) fun K hK=>?_);simp(disch:=omega) only[kc,aM,aa,Hm,aU,aO,aR,aX,aS,cp,bP,aQ,aZ,Option.map_none,aN,ab,cQ,jM,bU,bI,rr,List.find?_nil,bO,b7];apply hK)
   refine gV rfl (gf ?_)
   show gZ _ _ _ _ _
   ((refine fB [] [] (by kernel_rfl) (by simp) fun K hK=>?_);simp(disch:=omega) only[kc,aM,aa,aU,aO,aR,aX,aN,ab,aS,cd];apply hK)
   refine⟨⟨i+1,by omega,by omega⟩,by simp only;omega,aT ⟨?_,trivial⟩ ?_⟩
   ·rw[<- he];rfl
   simp[di,b9,b8]
  |succ j=>
   have hC:=JS hn1 hn hr (ok (j+1) (by omega)) (ok j (by omega))
   have e0:IntKind.i64.wrap (((j+1:Nat):Int)-1)=(j:Int):=by rw[show((j+1:Nat):Int)-1=(j:Int) by omega];exact cd (by omega) (by omega)
   have g1:=d5 (n:=n) (i:=j+1) 0 n (by omega)
   have g2:=d5 (n:=n) (i:=j) 0 n (by omega)
   have r1:=fo n C (i:=j+1) (show j+1<n by omega)
   have r2:=fo n C (i:=j) (show j<n by omega)
   have gt:(0:Int)<((j+1:Nat):Int):=by omega
   by_cases hlt:nrm n h (C (j+1))<nrm n h (C j)
   ·rw[insB,if_pos hlt]at he
    have hneg:nrm n h (C (j+1))-nrm n h (C j)<0:=by omega
    (refine dw (gQ cJ [⟨14,_,_,_,hC⟩] [] (by kernel_rfl) (by kernel_rfl) (by simp) fun K hK=>?_);simp(disch:=omega) only[kc,mp,bj.a,aM,aa,Hm,aU,aO,aR,aX,aS,gt,cw,bP,aQ,aZ,aW,bv,cQ,db,g1,packT,dc,aN,ab,e0,g2,jM,bU,bI,rr,ac,bO,cq,r1,eB,jN,kq,r2,ae,bV,bW,bs,eW,noRefTV,bf,bQ,bM,hneg,b7];apply hK)
    refine iq rfl (fC ?_)
    refine dw (f7 ?_)
    have hsw:=EU (d:=0) C (show j+1<n by omega) (show j<n by omega) (by omega)
    have g4:((iX 0 (aj n n)).set (j+1) [.sl 0 (j+1) 0 n])[j]?=some [.sl 0 (j+1) 0 n]:=by
     rw[List.getElem?_set_ne (by omega),g2]
    ((refine B9 cJ [] [] (by kernel_rfl) (by kernel_rfl) (by simp) fun K hK=>?_);simp(disch:=omega) only[kc,aM,aa,aU,aO,aR,aX,aN,ab,aS,e0,aQ,aZ,aW,bv,db,cQ,g2,packT,dc,g1,bo,ew,cU,bu,d4,bz,bx,bD,g4,Nat.reduceLeDiff,reduceCtorEq,false_and,and_false,List.length_map];apply hK)
    show gZ _ _ _ _ _
    refine gZ.weak ((u6 0 (j+1+1) (j+1) (gG 0 n n (swp (j+1) j C)) hsw).trans (aT (tm:=[.one (.sl 0 0 0 n),.raw (.int .i64 0),.raw (.int .i64 (n:Int)),.fn 92 [.p (.ptr (jD (dC n n h)))],jk,jk,jk,jk,.raw (.int .i64 (i:Int)),.raw (.int .i64 ((j+1:Nat):Int)),jk,jk,jk,jk,jk,jk,jk,jk,jk,jk,jk,jk,jk,jk,jk,jk,jk,jk,jk,jk,jk,jk,jk,jk,jk,jk,jk,jk,jk,jk,jk,jk,jk,jk,jk,jk,jk,jk,jk,jk,jk,jk,jk]) (l:=[(0,gG 0 n n (swp (j+1) j C))]) ⟨rfl,trivial⟩ (by simp[di,b9,b8,F8,kV,oy,sw]))) ?_
    ((refine fB [] [] (by kernel_rfl) (by simp) fun K hK=>?_);simp(disch:=omega) only[kc,aM,aa,Hm,aU,aO,aR,aX,aN,ab,aS,e0];apply hK)
    refine⟨⟨j,swp (j+1) j C,by omega,he,fun a ha=>?_⟩,by simp only;omega,aT ⟨rfl,trivial⟩ ?_⟩
    ·unfold swp
     split
     ·exact ok j (by omega)
     split
     ·exact ok (j+1) (by omega)
     exact ok a ha
    simp[di,b9,b8]
   rw[insB,if_neg hlt]at he
   have hneg: ¬nrm n h (C (j+1))-nrm n h (C j)<0:=by omega
   (refine dw (gQ cJ [⟨14,_,_,_,hC⟩] [] (by kernel_rfl) (by kernel_rfl) (by simp) fun K hK=>?_);simp(disch:=omega) only[kc,mp,bj.a,aM,aa,Hm,aU,aO,aR,aX,aS,gt,cw,bP,aQ,aZ,aW,bv,cQ,db,g1,packT,dc,aN,ab,e0,g2,jM,bU,bI,rr,ac,bO,cq,r1,eB,jN,kq,r2,ae,bV,bW,bs,eW,noRefTV,bf,bQ,bM,hneg,decide_false,b7];apply hK)
   refine gV rfl (gf ?_)
   show gZ _ _ _ _ _
   ((refine fB [] [] (by kernel_rfl) (by simp) fun K hK=>?_);simp(disch:=omega) only[kc,aM,aa,aU,aO,aR,aX,aN,ab,aS,cd];apply hK)
   refine⟨⟨i+1,by omega,by omega⟩,by simp only;omega,aT ⟨?_,trivial⟩ ?_⟩
   ·rw[<- he];rfl
   simp[di,b9,b8]
 have hin:i=n:=by omega
 subst hin
 (refine dw (cn [] [] (by kernel_rfl) (by simp) fun K hK=>?_);simp(disch:=omega) only[kc,aM,aa,Hm,aU,aO,aR,aX,aS,cp];apply hK)
 refine gV rfl (gf ?_)
 refine⟨.inl rfl,_,eg.refl _,rfl,lV _,rfl⟩
theorem F5 (n:Nat) (h B:Nat->Nat->Int) (hn1:1<=n) (hn:n<=4) (hr:iY h n) (hB: ∀a,a<n->GdR n h (B a)):
  qm Tryz.prog 123 [jk,.raw (.int .i64 (n:Int)),.fn 92 [.p (.ptr (jD (dC n n h)))]] 0 n (gG 0 n n B) (gG 0 n n (lF (nrm n h) B n)) .undef:=by
 have hI:=CF n h B hn1 hn hr hB
 refine rx Tryz.func123 rfl (by kernel_rfl) (by simp) hn1 (r8 _ _ _ _) rfl ?_;rw[Tryz.ntmps123]
 refine gZ.weak (aT (tm:=[.one (.sl 0 0 0 n),.raw (.int .i64 (n:Int)),.fn 92 [.p (.ptr (jD (dC n n h)))],jk,jk,jk,jk,jk,jk,jk,jk,jk,jk,jk,jk,jk,jk,jk,jk,jk,jk,jk,jk,jk,jk,jk,jk,jk,jk,jk,jk,jk,jk,jk,jk,jk,jk,jk,jk,jk,jk,jk,jk,jk,jk,jk,jk,jk,jk,jk,jk,jk,jk,jk,jk,jk,jk,jk,jk,jk,jk,jk,jk]) (l:=[(0,gG 0 n n B)]) ⟨rfl,trivial⟩ (by simp[di,b9,b8,aj])) ?_
 (refine cn [] [] (by kernel_rfl) (by simp) fun K hK=>?_;simp(disch:=omega) only[kc,aM,Hm,aN,ab];apply hK)
 (refine cn [] [] (by kernel_rfl) (by simp) fun K hK=>?_;simp(disch:=omega) only[kc,aM,aa,aN,ab];apply hK)
 refine dw (iB (G:=Unit) (fun _=>⟨[.one (.sl 0 0 0 n),.raw (.int .i64 (n:Int)),.fn 92 [.p (.ptr (jD (dC n n h)))],jk,jk,jk,.raw (.int .i64 20),.raw (.int .i64 0),.raw (.int .i64 20),jk,jk,jk,jk,jk,jk,jk,jk,jk,jk,jk,jk,jk,jk,jk,jk,jk,jk,jk,jk,jk,jk,jk,jk,jk,jk,jk,jk,jk,jk,jk,jk,jk,jk,jk,jk,jk,jk,jk,jk,jk,jk,jk,jk,jk,jk,jk,jk,jk,jk,jk,jk,jk,jk],Hm [(0,gG 0 n n B)]⟩) (fun _=>0) () ?_ ?_)
 ·refine aT ⟨rfl,trivial⟩ ?_
  simp[di,b9,b8]
 intro _
 (refine dw (cn [] [] (by kernel_rfl) (by simp) fun K hK=>?_);simp(disch:=omega) only[kc,aM,aa,Hm,aU,aO,aR,aX,aS,cp];apply hK)
 refine gV rfl (gf ?_)
 show gZ _ _ _ _ _
 refine yP 4 hI 0 [] [] (by kernel_rfl) (by simp) hn1 rfl (lj _ _ _) (lj _ _ _) (by decide) (by simp) (by decide) fun K hK=>?_
 simp(disch:=omega) only[kc,aM,aa]
 apply hK
 clear hK K
 refine⟨⟨rfl,(je 0 0 _ _ _).symm⟩,by simp,?_⟩
 intro K hK
 simp(disch:=omega) only[kc,aa,G5,cwD,bz,bx,kM,Bool.true_and,renO]
 apply hK
 clear hK K
 refine iB (G:=Unit) (fun _=>⟨[.one (.sl 0 0 0 n),.raw (.int .i64 (n:Int)),.fn 92 [.p (.ptr (jD (dC n n h)))],jk,jk,jk,.raw (.int .i64 20),jk,jk,jk,jk,jk,jk,jk,jk,jk,jk,jk,jk,jk,jk,jk,jk,jk,jk,jk,jk,jk,jk,jk,jk,jk,jk,jk,jk,jk,jk,jk,jk,jk,jk,jk,jk,jk,jk,jk,jk,jk,jk,jk,jk,jk,jk,jk,jk,jk,jk,jk,jk,jk,jk,jk,jk],Hm [(0,gG 0 n n (lF (nrm n h) B n))]⟩) (fun _=>0) () ?_ ?_
 ·refine aT ⟨je 0 0 n n _,trivial⟩ ?_
  simp[di,b9,b8]
 intro _
 (refine dw (cn [] [] (by kernel_rfl) (by simp) fun K hK=>?_);simp(disch:=omega) only[kc,aM,aa,Hm,aU,aO,aR,aX,aS,cp];apply hK)
 refine gV rfl (gf ?_)
 refine⟨.inl rfl,_,eg.refl _,rfl,lV _,rfl⟩
theorem wt (n:Nat) (h B:Nat->Nat->Int) (hn1:1<=n) (hn:n<=4) (hr:iY h n) (hB: ∀a,a<n->GdR n h (B a)):
  qm Tryz.prog 91 [jk,.fn 92 [.p (.ptr (jD (dC n n h)))]] 0 n (gG 0 n n B) (gG 0 n n (lF (nrm n h) B n)) .undef:=by
 have hI:=F5 n h B hn1 hn hr hB
 refine rx Tryz.func91 rfl (by kernel_rfl) (by simp) hn1 (r8 _ _ _ _) rfl ?_;rw[Tryz.ntmps91]
 refine gZ.weak (aT (tm:=[.one (.sl 0 0 0 n),.fn 92 [.p (.ptr (jD (dC n n h)))],jk,jk,jk,jk,jk,jk,jk]) (l:=[(0,gG 0 n n B)]) ⟨rfl,trivial⟩ (by simp[di,b9,b8,aj])) ?_
 refine rk 4 hI 0 [] [] (by kernel_rfl) (by simp) hn1 rfl (lj _ _ _) (lj _ _ _) (by decide) (by simp) (by decide) fun K hK=>?_
 simp(disch:=omega) only[kc,aM,aa,Hm,be,aZ,bv]
 apply hK
 clear hK K
 refine⟨⟨rfl,(je 0 0 _ _ _).symm⟩,by simp,?_⟩
 intro K hK
 simp(disch:=omega) only[kc,aa,G5,cwD,bz,bx,kM,Bool.true_and,renO]
 apply hK
 clear hK K
 refine⟨.inl rfl,_,aT (tm:=[.one (.sl 0 0 0 n),jk,jk,jk,jk,jk,jk,jk,jk]) (l:=[(0,gG 0 n n (lF (nrm n h) B n))]) ⟨je 0 0 n n _,trivial⟩ (by simp[di,b9,b8]),rfl,lV _,rfl⟩
end Go.Proofs.YtfgeomlagfomgaaGreatDoor
