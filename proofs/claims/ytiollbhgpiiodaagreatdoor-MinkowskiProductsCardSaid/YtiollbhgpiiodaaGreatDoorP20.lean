/-
  Part 21 of a proof (walks and plain facts).
-/
import Derived.Test.YtiollbhgpiiodaaGreatDoorP19
import Derived.ProofKit
import Derived.LaidMore
import Derived.LaidLaws
import Derived.LaidHandle
import Derived.OpenShut
set_option linter.all false
set_option maxRecDepth 100000
set_option maxHeartbeats 64000000
open Nat renaming reduceAdd → aa
open Nat renaming reduceEqDiff → ae
open Nat renaming le_refl → af
open List renaming replicate → ag
namespace Go.Proofs.YtiollbhgpiiodaaGreatDoor
open Go.RowKit
section
variable {n:Nat}
def mV (n:Nat) (t:FF) (x:Nat->Int):Nat->Int:=fun i=>b9 (fun a=>x a*t i a) n
theorem CE (h t:FF) (x y:Nat->Int): ∀m,BF n h (fun i=>b9 (fun a=>x a*t i a) m) y=b9 (fun a=>x a*BF n h (fun i=>t i a) y) m
 |0=>mX fun _ _=>rfl
 |m+1=>by
  have h1:=ic (n:=n) h (fun i=>b9 (fun a=>x a*t i a) m) (fun i=>t i m) y (x m);rw[CE h t x y m]at h1;exact h1
theorem CF (h t:FF) (x y:Nat->Int): ∀m,BF n h x (fun i=>b9 (fun a=>y a*t i a) m)=b9 (fun a=>y a*BF n h x (fun i=>t i a)) m
 |0=>by
  show BF n h x (fun _=>0)=0;unfold BF;rw[aS n (G:=fun _=>0) (fun i _=>by rw[aS n (G:=fun _=>0) (fun j _=>Int.mul_zero _),eW,Int.mul_zero]),eW]
 |m+1=>by
  have h1:=fL (n:=n) h x (fun i=>b9 (fun a=>y a*t i a) m) (fun i=>t i m) (y m);rw[CF h t x y m]at h1;exact h1
theorem wH (h t:FF) (x y:Nat->Int):BF n h (mV n t x) (mV n t y)=BF n (cngF n h t) x y:=by
 unfold mV;rw[CE];unfold BF;refine aS n fun a _=>?_
 congr 1
 have h1:=CF (n:=n) h t (fun i=>t i a) y n;unfold BF at h1;rw[h1];refine aS n fun b _=>?_
 have h2:=fd n h t a b;unfold BF at h2;rw[h2,Int.mul_comm]
theorem PD.cng {h t:FF} (hr:PD h n) (hd:dk t n≠0):PD (cngF n h t) n:=by
 refine Fr (fun i _ j _=>by rw[fd,fd];exact nW hr.1 _ _) fun x ⟨i,hi,hx⟩=>?_
 rw[<- wH];obtain⟨h1,h2⟩:=hr.pos (mV n t x);rcases Int.lt_or_le 0 (BF n h (mV n t x) (mV n t x))with hl|hl
 ·exact hl
 exfalso;have h3:=h2.1 (by omega);refine hx (Bu hd (fun i hi=>?_) i hi);have:=h3 i hi;unfold mV at this;rw[<- this];exact aS n fun j _=>Int.mul_comm _ _
theorem qY {t:FF} {i:Nat} (hi:i<n) (c:Nat->Int): ∀m,m<=n->dk (di t i (fun r=>b9 (fun j=>c j*t r j) m)) n=if i<m then c i*dk t n else 0
 |0,_=>by rw[if_neg (by omega)];exact C7 hi fun _ _=>rfl
 |m+1,hm=>by
  have h:=qj (R:=t) hi 1 (c m) (fun r=>b9 (fun j=>c j*t r j) m) (fun r=>t r m);rw[qY hi c m (by omega)]at h;have e:(fun r=>b9 (fun j=>c j*t r j) (m+1))=fun r=>1*b9 (fun j=>c j*t r j) m+c m*t r m:=by
   funext r;rw[b9,Int.one_mul]
  rw[e,h];by_cases hmi:m=i
  ·subst hmi;rw[ni,if_neg (by omega),if_pos (by omega)];omega
  rw[s7 hi (show m<n by omega) (Ne.symm hmi),Int.mul_zero,Int.add_zero,Int.one_mul];have:i<m+1↔i<m:=by omega
  simp only[this]
theorem xg {t:FF} {i:Nat} (hi:i<n) (c:Nat->Int):dk (di t i (mV n t c)) n=c i*dk t n:=by
 have:=qY hi c n (af n) (t:=t);rwa[if_pos hi]at this
theorem GQ {h t:FF} {i:Nat} (c:Nat->Int):cngF n h (di t i (mV n t c)) i i=nrm n (cngF n h t) c:=by
 rw[fd];unfold nrm;rw[<- wH];exact dx (fun _ _ _ _=>rfl) (fun r _=>if_pos rfl) (fun r _=>if_pos rfl)
theorem yP {h t:FF} {i a b:Nat} (S:Nat->Int) (ha:a≠i) (hb:b≠i):cngF n h (di t i S) a b=cngF n h t a b:=by
 rw[fd,fd];exact dx (fun _ _ _ _=>rfl) (fun r _=>if_neg ha) (fun r _=>if_neg hb)
theorem PD.ent {f:FF} (hr:PD f n) {i j:Nat} (hi:i<n) (hj:j<n):f i j*f i j<=f i i*f j j:=by
 have e: ∀a b,a<n->b<n->BF n f (eC a) (eC b)=f a b:=fun a b ha hb=>by
  have e1: ∀(F:Nat->Int) a,a<n->b9 (fun j=>F j*eC a j) n=F a:=fun F a ha=>by
   rw[ii ha (fun p _ hne=>by unfold eC;rw[if_neg hne,Int.mul_zero])];unfold eC;rw[if_pos rfl,Int.mul_one]
  unfold BF;rw[aS n (G:=fun k=>f k b*eC a k) (fun k _=>by rw[e1 (f k) b hb];exact Int.mul_comm _ _),e1 (fun k=>f k b) a ha]
 have:=hr.schwarz (eC i) (eC j);rwa[e i j hi hj,e i i hi hi,e j j hj hj]at this
theorem PD.diag {f:FF} (hr:PD f n) {i:Nat} (hi:i<n):0<f i i:=by
 have h:=hr.pos (eC i);have e:=j1 (f:=f) hi;unfold nrm at e;rw[e]at h;rcases Int.lt_or_le 0 (f i i)with hl|hl
 ·exact hl
 have:=h.2.1 (by omega) i hi;simp[eC]at this
end
section
variable {n:Nat}
def insB (N:(Nat->Int)->Int) (B:FF):Nat->Nat->Nat->Int
 |0=>B
 |j+1=>if N (B (j+1))<N (B j)then insB N (swp (j+1) j B) j else B
theorem Cm {p k:Nat} {B:FF}:swp p k B p=if p=k then B p else B k:=by
 unfold swp;by_cases h:p=k<;>simp[h]
theorem Cn {p k:Nat} {B:FF}:swp p k B k=B p:=by
 unfold swp;by_cases h:k=p
 ·subst h;simp
 simp[h]
theorem qK {p k a:Nat} {B:FF} (h1:a≠p) (h2:a≠k):swp p k B a=B a:=by unfold swp;simp[h1,h2]
theorem pe (N:(Nat->Int)->Int): ∀j B a,j<a->insB N B j a=B a
 |0,_,_,_=>rfl
 |j+1,B,a,h=>by
  rw[insB];split
  ·rw[pe N j _ a (by omega),qK (by omega) (by omega)]
  rfl
theorem tp (N:(Nat->Int)->Int) {Q:(Nat->Int)->Prop}: ∀j B,(∀a,a<=j->Q (B a))-> ∀a,a<=j->Q (insB N B j a)
 |0,_,h,a,ha=>h a ha
 |j+1,B,h,a,ha=>by
  rw[insB];split
  ·by_cases e:a<=j
   ·refine tp N j _ (fun c hc=>?_) a e;by_cases ec:c=j
    ·subst ec;rw[Cn];exact h _ (by omega)
    rw[qK (by omega) ec];exact h c (by omega)
   rw[pe N j _ a (by omega)];obtain rfl:a=j+1:=by omega
   rw[Cm,if_neg (by omega)];exact h j (by omega)
  exact h a ha
def yu (N:(Nat->Int)->Int) (B:FF) (i:Nat):Prop:= ∀a,a+1<i->N (B a)<=N (B (a+1))
theorem yu.le {N:(Nat->Int)->Int} {B:FF} {i:Nat} (h:yu N B i) {b:Nat} (hb:b<i): ∀a,a<=b->N (B a)<=N (B b):=fun a ha=>by
 obtain⟨m,rfl⟩: ∃m,b=a+m:=⟨b-a,by omega⟩
 induction m with
 |zero=>exact Int.le_refl _
 |succ m ih=>
  have:=ih (by omega) (by omega);have h2:=h (a+m) (by omega);rw[<- Nat.add_assoc];omega
theorem y8 (N:(Nat->Int)->Int): ∀j B,yu N B j->yu N (insB N B j) (j+1)
 |0,_,_=>fun a ha=>by omega
 |j+1,B,h=>by
  intro a ha;rw[insB];by_cases hl:N (B (j+1))<N (B j)
  ·rw[if_pos hl];have h':yu N (swp (j+1) j B) j:=fun c hc=>by
    rw[qK (by omega) (by omega),qK (by omega) (by omega)];exact h c (by omega)
   by_cases e:a+1<j+1
   ·exact y8 N j _ h' a e
   obtain rfl:a=j:=by omega
   rw[pe N a _ (a+1) (by omega),Cm,if_neg (by omega)];refine tp N (Q:=fun x=>N x<=N (B a)) a _ (fun c hc=>?_) a (af _);by_cases ec:c=a
   ·subst ec;rw[Cn];omega
   rw[qK (by omega) ec];exact h.le (by omega) c hc
  rw[if_neg hl];by_cases e:a+1<j+1
  ·exact h a e
  obtain rfl:a=j:=by omega
  omega
theorem Js {B:FF} {p k:Nat}:trF (swp p k B)=fun i c=>if c=p then trF B i k else if c=k then trF B i p else trF B i c:=by
 funext i c;unfold trF swp;split
 ·rfl
 split<;>rfl
theorem Dh (N:(Nat->Int)->Int): ∀j B,j<n->(dk (trF (insB N B j)) n).natAbs=(dk (trF B) n).natAbs
 |0,_,_=>rfl
 |j+1,B,h=>by
  rw[insB];split
  ·rw[Dh N j _ (by omega),Js,oh h (by omega) (by omega),Int.natAbs_neg]
  rfl
def Av (N:(Nat->Int)->Int) (B:FF) (n:Nat):Int:=b9 (fun a=>N (B a)) n
theorem DO (F:Nat->Int) {j:Nat}: ∀{m},j+1<m->b9 F m=b9 (fun a=>if a=j then F (j+1)else if a=j+1 then F j else F a) m
 |m+1,h=>by
  rw[b9,b9];by_cases e:j+1<m
  ·rw[DO F e,if_neg (by omega),if_neg (by omega)]
  obtain rfl:m=j+1:=by omega
  rw[if_neg (by omega),if_pos rfl,b9,b9,if_pos rfl,aS j (F:=fun a=>if a=j then _ else _) (G:=F) (fun p hp=>by rw[if_neg (by omega),if_neg (by omega)])];omega
theorem y9 (N:(Nat->Int)->Int): ∀j B,j<n->Av N (insB N B j) n=Av N B n
 |0,_,_=>rfl
 |j+1,B,h=>by
  rw[insB];split
  ·rw[y9 N j _ (by omega)];unfold Av;rw[DO (fun a=>N (B a)) h];refine aS n fun a _=>?_
   by_cases e1:a=j
   ·subst e1;rw[if_pos rfl,Cn]
   by_cases e2:a=j+1
   ·subst e2;rw[if_neg e1,if_pos rfl,Cm,if_neg (by omega)]
   rw[if_neg e1,if_neg e2,qK e2 e1]
  rfl
def kH (N:(Nat->Int)->Int) (B:FF):Nat->Nat->Nat->Int
 |0=>B
 |i+1=>insB N (kH N B i) i
theorem Ae (N:(Nat->Int)->Int) (B:FF): ∀i,yu N (kH N B i) i
 |0=>fun a ha=>by omega
 |i+1=>y8 N i _ (Ae N B i)
theorem pR (N:(Nat->Int)->Int) {Q:(Nat->Int)->Prop} {B:FF} (h: ∀a,a<n->Q (B a)): ∀i,i<=n-> ∀a,a<n->Q (kH N B i a)
 |0,_=>h
 |i+1,hi=>fun a ha=>by
  rw[kH];by_cases e:a<=i
  ·exact tp N i _ (fun c hc=>pR N h i (by omega) c (by omega)) a e
  rw[pe N i _ a (by omega)];exact pR N h i (by omega) a ha
theorem DT (N:(Nat->Int)->Int) (B:FF): ∀i,i<=n->(dk (trF (kH N B i)) n).natAbs=(dk (trF B) n).natAbs
 |0,_=>rfl
 |i+1,hi=>by rw[kH,Dh N i _ (by omega),DT N B i (by omega)]
theorem uF (N:(Nat->Int)->Int) (B:FF): ∀i,i<=n->Av N (kH N B i) n=Av N B n
 |0,_=>rfl
 |i+1,hi=>by rw[kH,y9 N i _ (by omega),uF N B i (by omega)]
end
section
variable {n:Nat}
def gmB (n:Nat) (h B:FF):Nat->Nat->Int:=fun a b=>BF n h (B a) (B b)
theorem xl (h B:FF):gmB n h B=cngF n h (trF B):=by
 funext a b;rw[fd];rfl
open Classical in
noncomputable def qO (n:Nat) (f:FF):Nat->Nat->Option Nat
 |0,_=>none
 |m+1,i=>if VioP n f i then some i else qO n f m (i+1)
noncomputable def rx (n:Nat) (f:FF):Option Nat:=qO n f n 0
theorem i9 {f:FF}: ∀m i r,qO n f m i=some r->i<=r/\r<i+m/\VioP n f r/\ ∀a,i<=a->a<r-> ¬VioP n f a
 |0,_,_,h=>by cases h
 |m+1,i,r,h=>by
  rw[qO]at h;split at h
  ·rename_i hv;injection h with h
   subst h;exact⟨af _,by omega,hv,fun a h1 h2=>by omega⟩
  rename_i hv;obtain⟨h1,h2,h3,h4⟩:=i9 m (i+1) r h;refine⟨by omega,by omega,h3,fun a ha hb=>?_⟩;by_cases e:a=i
  ·subst e;exact hv
  exact h4 a (by omega) hb
theorem qP {f:FF}: ∀m i,qO n f m i=none-> ∀a,i<=a->a<i+m-> ¬VioP n f a
 |0,_,_=>fun a h1 h2=>by omega
 |m+1,i,h=>by
  rw[qO]at h;split at h
  ·cases h
  rename_i hv;intro a h1 h2;by_cases e:a=i
  ·subst e;exact hv
  exact qP m (i+1) h a (by omega) (by omega)
def mG (n:Nat) (h B:FF):Nat->Nat->Int:=kH (nrm n h) B n
def js (n:Nat) (h S:FF) (i:Nat):Nat->Nat->Int:=fun k=>if k=i then mV n (trF S) (j7 n (gmB n h S) i (3^i))else S k
inductive RchB (n:Nat) (h:FF):(Nat->Nat->Int)->(Nat->Nat->Int)->Prop
 |done (B:FF):rx n (gmB n h (mG n h B))=none->RchB n h B (mG n h B)
 |step (B R:FF) (i:Nat):rx n (gmB n h (mG n h B))=some i->RchB n h (js n h (mG n h B) i) R->RchB n h B R
structure InB2 (n:Nat) (h:FF) (W:Int) (B:FF):Prop where
 nr: ∀a,a<n->nrm n h (B a)<=W
 dt:(dk (trF B) n).natAbs=1
theorem InB2.ord {h B:FF} {W:Int} (hB:InB2 n h W B):InB2 n h W (mG n h B):=
 ⟨pR _ (Q:=fun x=>nrm n h x<=W) hB.nr n (af n),by unfold mG;rw[DT _ _ n (af n)];exact hB.dt⟩
theorem Ja {F G:Nat->Int} {i:Nat}: ∀{m},i<m->(∀a,a<m->a≠i->F a=G a)->F i<G i->b9 F m<b9 G m
 |m+1,hi,h,hl=>by
  rw[b9,b9];by_cases e:i=m
  ·subst e;rw[aS i fun p hp=>h p (by omega) (by omega)];omega
  have:=Ja (m:=m) (by omega) (fun a ha hne=>h a (by omega) hne) hl;rw[h m (by omega) (Ne.symm e)];omega
theorem lN {F:Nat->Int}: ∀m,(∀a,a<m->0<=F a)->0<=b9 F m
 |0,_=>by simp[b9]
 |m+1,h=>by
  have:=lN m fun a ha=>h a (by omega)
  have:=h m (by omega);rw[b9];omega
theorem zR {h S:FF} {i:Nat}:nrm n h (js n h S i i)=nrm n (gmB n h S) (j7 n (gmB n h S) i (3^i)):=by
 unfold js;rw[if_pos rfl];unfold nrm;rw[wH,<- xl]
theorem zS {h S:FF} {i:Nat} (hi:i<n) (hv:VioP n (gmB n h S) i):Av (nrm n h) (js n h S i) n<Av (nrm n h) S n:=by
 refine Ja hi (fun a _ hne=>?_) ?_
 ·show nrm n h (js n h S i a)=_;unfold js;rw[if_neg hne]
 show nrm n h (js n h S i i)<nrm n h (S i);rw[zR];exact Cg hi hv
theorem Jr {h S:FF} {i:Nat}:trF (js n h S i)=di (trF S) i (mV n (trF S) (j7 n (gmB n h S) i (3^i))):=by
 funext r c;unfold trF js di;split<;>rfl
theorem InB2.rep {h S:FF} {W:Int} {i:Nat} (hS:InB2 n h W S) (hi:i<n) (hv:VioP n (gmB n h S) i):InB2 n h W (js n h S i):=by
 refine⟨fun a ha=>?_,?_⟩
 ·by_cases e:a=i
  ·subst e;rw[zR];have h1:=Cg hi hv;have h2:=hS.nr a hi;have h3:gmB n h S a a=nrm n h (S a):=rfl;omega
  unfold js;rw[if_neg e];exact hS.nr a ha
 rw[Jr,xg hi,(uC n (gmB n h S) i (3^i)).1,Int.one_mul];exact hS.dt
theorem zP {h:FF} (hp:PD h n) {W:Int}: ∀(m:Nat) (B:FF),(Av (nrm n h) B n).toNat=m->InB2 n h W B-> ∃R,RchB n h B R:=fun m=>by
 induction m using Nat.strongRecOn with
 |_ m ih=>
  intro B hm hB;cases hv:rx n (gmB n h (mG n h B))with
  |none=>exact⟨_,.done B hv⟩
  |some i=>
   obtain⟨_,h1,h2,_⟩:=i9 n 0 i hv;have hi:i<n:=by omega
   have hO:=hB.ord;have hsum:=zS hi h2;have hso:Av (nrm n h) (mG n h B) n=Av (nrm n h) B n:=uF _ _ n (af n);have hnn: ∀B',0<=Av (nrm n h) B' n:=fun B'=>lN n fun a _=>(hp.pos (B' a)).1
   have h3:=hnn (js n h (mG n h B) i);have h4:=hnn B;obtain⟨R,hR⟩:=ih (Av (nrm n h) (js n h (mG n h B) i) n).toNat (by omega) _ rfl (hO.rep hi h2);exact⟨R,.step B R i hv hR⟩
theorem zN {h B R:FF} {W:Int} (hr:RchB n h B R) (hB:InB2 n h W B):InB2 n h W R/\yu (nrm n h) R n/\ ∀i,i<n-> ¬VioP n (gmB n h R) i:=by
 induction hr with
 |done B hv=>exact⟨hB.ord,Ae _ _ n,fun i hi=>qP n 0 hv i (by omega) (by omega)⟩
 |step B R i hv _ ih=>
  obtain⟨_,h1,h2,_⟩:=i9 n 0 i hv;exact ih (hB.ord.rep (by omega) h2)
/-! Signs. -/
def kG (g:FF):Nat->Int
 |0=>1
 |i+1=>if kG g i*g i (i+1)<0 then -1 else 1
theorem nL (g:FF): ∀i,kG g i=1\/kG g i= -1
 |0=> .inl rfl
 |i+1=>by rw[kG];split<;>simp
theorem Ok (g:FF) (i:Nat):0<=kG g i*kG g (i+1)*g i (i+1):=by
 have e:kG g i*kG g (i+1)*g i (i+1)=kG g (i+1)*(kG g i*g i (i+1)):=by grind
 rw[e,kG];split
 ·omega
 omega
def p9 (g B:FF):Nat->Nat->Int:=fun k j=>kG g k*B k j
theorem Hi (h g B:FF):gmB n h (p9 g B)=J4 (kG g) (gmB n h B):=by
 funext a b;unfold gmB p9 J4 BF;rw[<- cx];refine aS n fun i _=>?_
 rw[aS n (G:=fun j=>kG g b*(h i j*B b j)) (fun j _=>by grind),cx];grind
theorem Cc {g B:FF}: ∀m,m<=n->(dk (trF fun k j=>if k<m then kG g k*B k j else B k j) n).natAbs=(dk (trF B) n).natAbs
 |0,_=>by simp
 |m+1,hm=>by
  rw[<- Cc (g:=g) (B:=B) m (by omega)];have h1:=qj (R:=trF fun k j=>if k<m then kG g k*B k j else B k j) (n:=n) (a:=m) (by omega) (kG g m) 0 (fun i=>B m i) (fun i=>B m i);have e1:di (trF fun k j=>if k<m then kG g k*B k j else B k j) m (fun i=>kG g m*B m i+0*B m i)=trF fun k j=>if k<m+1 then kG g k*B k j else B k j:=by
   funext r c;unfold di trF;by_cases e:c=m
   ·subst e;rw[if_pos rfl];show kG g c*B c r+0*B c r=if c<c+1 then kG g c*B c r else B c r
    rw[if_pos (by omega)];omega
   have:c<m+1↔c<m:=by omega
   rw[if_neg e];simp only[this]
  have e2:di (trF fun k j=>if k<m then kG g k*B k j else B k j) m (fun i=>B m i)=trF fun k j=>if k<m then kG g k*B k j else B k j:=by
   funext r c;unfold di trF;by_cases e:c=m
   ·subst e;rw[if_pos rfl];show B c r=if c<c then kG g c*B c r else B c r
    rw[if_neg (by omega)]
   rw[if_neg e]
  rw[e1,e2]at h1;rw[h1];rcases nL g m with e|e<;>rw[e]<;>simp
theorem HU {h R:FF} (hs:yu (nrm n h) R n) (hv: ∀i,i<n-> ¬VioP n (gmB n h R) i):MinkP (gmB n h (p9 (gmB n h R) R)) n:=by
 rw[Hi];refine⟨fun i hi=>⟨?_,Ok _ _⟩,fun i hi hw=>hv i hi (Mr (nL _) hi hw)⟩;have h1:=hs i hi;have e: ∀k,J4 (kG (gmB n h R)) (gmB n h R) k k=nrm n h (R k):=fun k=>by
  unfold J4 gmB nrm;rcases nL (gmB n h R) k with e|e
  ·unfold gmB at e;rw[e];omega
  unfold gmB at e;rw[e];omega
 rw[e,e];exact h1
end
abbrev gN:List PV:=[.raw (.int .i64 1),.raw (.int .i64 3),.raw (.int .i64 9),.raw (.int .i64 27)]
theorem NB (i code j:Nat): -1<=lZ i code j/\lZ i code j<=1:=by
 unfold lZ;split
 ·exact GV code j
 split<;>omega
theorem MZ {i:Nat}:a4 (OM (fun _=>0) i 1)=a4 (eC i):=oT fun j _=>by unfold OM eC;rfl
theorem Hb {c c':Nat->Int} {b:Bool} (h:b=true↔ ∀j,j<4->c j=c' j):Bm (a4 c) (a4 c')=some b:=by
 have e:Bm (a4 c) (a4 c')=some (decide (c 0=c' 0)&&(decide (c 1=c' 1)&&(decide (c 2=c' 2)&&(decide (c 3=c' 3)&&true)))):=rfl;rw[e]
 congr 1
 apply Bool.eq_iff_iff.2;rw[h];simp only[Bool.and_eq_true,decide_eq_true_eq,and_true];constructor
 ·rintro⟨h0,h1,h2,h3⟩ j hj
  match j,hj with
  |0,_=>exact h0
  |1,_=>exact h1
  |2,_=>exact h2
  |3,_=>exact h3
 exact fun h=>⟨h 0 (by omega),h 1 (by omega),h 2 (by omega),h 3 (by omega)⟩
theorem AZ:packT Tryz.prog 3 [.raw (.int .i64 1),.raw (.int .i64 3),.raw (.int .i64 9),.raw (.int .i64 27)]=some (.raw (.int .i64 1)):=by kernel_rfl
theorem A0:packT Tryz.prog 3 [.raw (.int .i64 3),.raw (.int .i64 9),.raw (.int .i64 27)]=some (.raw (.int .i64 3)):=by kernel_rfl
theorem A1:packT Tryz.prog 3 [.raw (.int .i64 9),.raw (.int .i64 27)]=some (.raw (.int .i64 9)):=by kernel_rfl
theorem A2:packT Tryz.prog 3 [.raw (.int .i64 27)]=some (.raw (.int .i64 27)):=by kernel_rfl
theorem Ex {i:Nat} (h:i<4):packT Tryz.prog 3 ((gN.drop i).map AV.p)=some (.raw (.int .i64 ((3^i:Nat):Int))):=by
 match i,h with
 |0,_=>exact AZ
 |1,_=>exact A0
 |2,_=>exact A1
 |3,_=>exact A2
structure Qb (i:Nat) where
 k:Nat
 hk:k<=3^i
theorem zr (n:Nat) (f:FF) (i:Nat) (hi:i<n) (hn:n<=4) (hf: ∀i j,i<n->j<n-> -1125899906842624<=f i j/\f i j<=1125899906842624):
  CallG Tryz.prog 0 162 91 [bS (bx n n f),.raw (.int .i64 (i:Int))] gN ⟨[],tC (j7 n f i (3^i))⟩:=by
 have hi4:i<4:=by omega
 have h3i:3^i<=27:=Nat.le_trans (Nat.pow_le_pow_right (by omega) (show i<=3 by omega)) (by decide);have a1:=wR (fun _=>0) 1 hi4;rw[MZ]at a1;refine gD Tryz.func91 rfl (by kernel_rfl) ?_;rw[Tryz.ntmps91];refine aQ fun _ K=>?_;simp(disch:=omega) only[kd,bS,aa,ag];apply K
 refine aQ fun _ K=>?_;simp(disch:=omega) only[kd,aa,ae];apply K
 refine dG.weak (aG (tm:=(bS (bx n n f)::rN i::jk::jk::.one (.ptr 4 0 0 0)::.one (.ptr 5 0 0 0)::j16 (j4 (jk::jk::jk::[])))) (l:=[(4,At fun _=>0),(5,At fun _=>0)]) ⟨rfl,rfl,trivial⟩ (by simp[wk])) ?_;refine aQ fun _ K=>?_;simp(disch:=omega) only[kd,aa,bS,hi4,ae,dJ,Nat.reduceLeDiff,a1];apply K
 refine bI (Ei 2 i 12 (.raw (.int .i64 ((3^i:Nat):Int))) [] [] (by simp[wk]) (by decide) fun K hK=>?_);simp(disch:=omega) only[kd,hi4];apply hK;clear hK K;refine⟨⟨⟨_,_,_,rfl,rfl,rfl,rfl,by simp[AS.ev],?_⟩⟩,by simp[wk],?_⟩
 ·exact Ex hi4
 intro K hK;simp only[kd,aa];apply hK;clear hK K;refine dO (G:=Qb i) (fun g=>⟨(bS (bx n n f)::rN i::jk::jk::.one (.ptr 4 0 0 0)::.one (.ptr 5 0 0 0)::j4 (jk::jk::.raw (.int .i64 ((3^i:Nat):Int))::rN g.k::j4 (j4 (j4 (jk::jk::jk::[]))))),Hm [(4,At fun _=>0),(5,At (j7 n f i g.k))]⟩) (fun _=>gN) (fun g=>3^i-g.k) ⟨0,Nat.zero_le _⟩ ?_ rfl ?_
 ·refine aG ⟨rfl,rfl,trivial⟩ ?_;simp[wk]
 rintro⟨k,hk⟩;simp only;by_cases hm:k<3^i
 ·have hC:=xx i k hi4 (by omega);have hN1:=Dt n f (lZ i k) (by omega) hn hf (NB i k);have hN2:=Dt n f (j7 n f i k) (by omega) hn hf (uC n f i k).2.2;refine aQ fun _ K=>?_;simp(disch:=omega) only[kd,bS];apply K
  refine gA rfl ?_;refine bI (cB ?_);refine aQ fun _ K=>?_;simp only[kd];apply K
  refine ik [⟨2,_,_,_,hC⟩] [] fun _ K=>?_;simp(disch:=omega) only[kd,tC,aa,jd,nZ,ae,dJ,fg];apply K
  by_cases hlt:nrm n f (lZ i k)<nrm n f (j7 n f i k)
  ·have es:j7 n f i (k+1)=lZ i k:=by rw[j7,if_pos hlt]
   refine kf bj [⟨2,_,_,_,hN1⟩,⟨5,_,_,_,hN2⟩] [] (by kernel_rfl) fun _ K=>?_;simp(disch:=omega) only[kd,bS,tC,aa,ae,dJ,gC,fg,Nat.reduceBEq];apply K
   refine jb rfl ?_;refine cC fun _ K=>?_;simp(disch:=omega) only[kd,ae,dJ,gC,fg,md];apply K
   show dG _ _ _ _ _ _ _;refine cC fun _ K=>?_;simp(disch:=omega) only[kd,aT];apply K
   refine⟨⟨k+1,by omega⟩,by simp only;omega,aG ⟨rfl,?_,trivial⟩ ?_,rfl⟩
   ·show _=At (j7 n f i (k+1));rw[es];rfl
   simp[wk]
  have es:j7 n f i (k+1)=j7 n f i k:=by rw[j7,if_neg hlt]
  refine kf bj [⟨2,_,_,_,hN1⟩,⟨5,_,_,_,hN2⟩] [] (by kernel_rfl) fun _ K=>?_;simp(disch:=omega) only[kd,bS,tC,aa,ae,dJ,gC,fg,Nat.reduceBEq];apply K
  refine gz rfl (ef ?_);show dG _ _ _ _ _ _ _;refine cC fun _ K=>?_;simp(disch:=omega) only[kd,aT];apply K
  refine⟨⟨k+1,by omega⟩,by simp only;omega,aG ⟨rfl,?_,trivial⟩ ?_,rfl⟩
  ·show _=At (j7 n f i (k+1));rw[es];rfl
  simp[wk]
 have hke:k=3^i:=by omega
 subst hke;refine aQ fun _ K=>?_;simp(disch:=omega) only[kd,bS];apply K
 refine jc rfl ?_;show dG _ _ _ _ _ _ _;refine aQ fun _ K=>?_;simp(disch:=omega) only[kd,ae,dJ,gC,fg,md];apply K
 (refine fo ⟨.inr rfl,rfl,aL rfl ?_ rfl⟩;simp(disch:=omega) only[kd,Tryz.results91,ae,dJ,gC,tC])
noncomputable def oP (n:Nat) (f:FF):TV:=match rx n f with
 |some i=> .tup [(false,[.p (.raw (.int .i64 (i:Int)))]),(true,a4 (j7 n f i (3^i))),(false,[.p (.raw (.bool true))])]
 |none=> .tup [(false,[.p (.raw (.int .i64 0))]),(true,a4 fun _=>0),(false,[.p (.raw (.bool false))])]
theorem D0 {n:Nat} {f:FF} (i:Nat) (hi:i<n) (h: ∀a,a<i-> ¬VioP n f a) (hv:VioP n f i): ∀m j,j<=i->i<j+m->qO n f m j=some i
 |0,j,h1,h2=>by omega
 |m+1,j,h1,h2=>by
  rw[qO];by_cases e:j=i
  ·subst e;rw[if_pos hv]
  rw[if_neg (h j (by omega))];exact D0 i hi h hv m (j+1) (by omega) (by omega)
theorem D1 {n:Nat} {f:FF} (h: ∀a,a<n-> ¬VioP n f a): ∀m j,j+m<=n->qO n f m j=none
 |0,_,_=>rfl
 |m+1,j,h2=>by rw[qO,if_neg (h j (by omega))];exact D1 h m (j+1) (by omega)
structure QP (n:Nat) (f:FF) where
 i:Nat
 hi:i<=n
 ok: ∀a,a<i-> ¬VioP n f a
theorem my (n:Nat) (f:FF) (hn1:1<=n) (hn:n<=4) (hf: ∀i j,i<n->j<n-> -1125899906842624<=f i j/\f i j<=1125899906842624):
  CallG Tryz.prog 0 162 56 [bS (bx n n f)] gN ⟨[],oP n f⟩:=by
 have hml:=bi n n f;refine gD Tryz.func56 rfl (by kernel_rfl) ?_;rw[Tryz.ntmps56];refine aQ fun _ K=>?_;simp(disch:=omega) only[kd,aa,bS,ag];apply K
 refine bI (aQ fun _ K=>?_);simp only[kd,aa,hml];apply K;refine dO (G:=QP n f) (fun g=>⟨(bS (bx n n f)::jk::.raw (.int .i64 0)::.one (.ptr 3 0 0 0)::.raw (.bool false)::j4 (.raw (.int .i64 (n:Int))::rN g.i::j4 (j4 (j4 (jk::jk::[]))))),Hm [(3,At fun _=>0)]⟩) (fun _=>gN) (fun g=>n-g.i) ⟨0,by omega,fun a ha=>by omega⟩ ?_ rfl ?_
 ·refine aG ⟨rfl,trivial⟩ ?_;simp[wk]
 rintro⟨i,hi,ok⟩;simp only;by_cases hm:i<n
 ·have hi4:i<4:=by omega
  have hS:=zr n f i hm hn hf;have a1:=wR (fun _=>0) 1 hi4;rw[MZ]at a1;have h4:(∀j,j<4->j7 n f i (3^i) j=eC i j)↔ ¬VioP n f i:=by
   rw[<- LR hm];refine⟨fun h j hj=>h j (by omega),fun h j hj=>?_⟩;rcases Nat.lt_trichotomy j i with h1|h1|h1
   ·exact h j (by omega)
   ·exact h j (by omega)
   rw[(uC n f i (3^i)).2.1 j h1];unfold eC;rw[if_neg (by omega)]
  refine aQ fun _ K=>?_;simp(disch:=omega) only[kd,bS];apply K
  refine gA rfl ?_;refine bI (cB ?_);refine aQ fun _ K=>?_;simp only[kd];apply K
  refine aQ fun _ K=>?_;simp(disch:=omega) only[kd,aa,ae];apply K
  refine dG.weak (aG (tm:=(bS (bx n n f)::jk::.raw (.int .i64 0)::.one (.ptr 3 0 0 0)::.raw (.bool false)::rN i::.one (.ptr 6 0 0 0)::jk::jk::rN n::rN i::j4 (j4 (j4 (jk::jk::[]))))) (l:=[(3,At fun _=>0),(6,At fun _=>0)]) ⟨rfl,rfl,trivial⟩ (by simp[wk])) ?_;refine aQ fun _ K=>?_;simp(disch:=omega) only[kd,aa,bS,hi4,ae,dJ,Nat.reduceLeDiff,a1];apply K
  refine dY [⟨2,_,_,_,hS,rfl⟩] [] [] fun _ K=>?_;simp(disch:=omega) only[kd,bS,tC,dV.a,aa,jd,nZ,ae,dJ,fg];apply K
  by_cases hv:VioP n f i
  ·have hE:Bm (a4 (j7 n f i (3^i))) (a4 (eC i))=some false:=Hb ⟨fun h=>(by cases h),fun h=>absurd (h4.1 h) (by simpa using hv)⟩;have hvi:rx n f=some i:=D0 i hm ok hv n 0 (by omega) (by omega);have eT:oP n f= .tup [(false,[.p (.raw (.int .i64 (i:Int)))]),(true,a4 (j7 n f i (3^i))),(false,[.p (.raw (.bool true))])]:=by unfold oP;rw[hvi]
   rw[eT];refine aQ fun _ K=>?_;simp(disch:=omega) only[kd,aa,ae,dJ,gC,hE];apply K
   refine jb rfl ?_;refine gS bj (by kernel_rfl) fun _ K=>?_;simp(disch:=omega) only[kd,aa,ae,dJ,gC,fg,md];apply K
   (refine fo ⟨.inr rfl,rfl,aL rfl ?_ rfl⟩;simp(disch:=omega) only[kd,Tryz.results56,ae,dJ,gC])
  have hE:Bm (a4 (j7 n f i (3^i))) (a4 (eC i))=some true:=Hb ⟨fun _=>h4.2 hv,fun _=>rfl⟩;refine aQ fun _ K=>?_;simp(disch:=omega) only[kd,aa,ae,dJ,gC,hE];apply K
  refine gz rfl (ef ?_);show dG _ _ _ _ _ _ _;refine cC fun _ K=>?_;simp(disch:=omega) only[kd,aT];apply K
  refine⟨⟨i+1,by omega,fun a ha=>?_⟩,by simp only;omega,aG ⟨rfl,trivial⟩ ?_,rfl⟩
  ·by_cases e:a=i
   ·subst e;exact hv
   exact ok a (by omega)
  simp[wk]
 have hin:i=n:=by omega
 have hvi:rx n f=none:=D1 (fun a ha=>ok a (by omega)) n 0 (by omega);have eT:oP n f= .tup [(false,[.p (.raw (.int .i64 0))]),(true,a4 fun _=>0),(false,[.p (.raw (.bool false))])]:=by unfold oP;rw[hvi]
 rw[eT];subst hin;refine aQ fun _ K=>?_;simp(disch:=omega) only[kd,bS];apply K
 refine jc rfl ?_;show dG _ _ _ _ _ _ _;refine aQ fun _ K=>?_;simp(disch:=omega) only[kd,aa,dJ,md];apply K
 (refine fo ⟨.inr rfl,rfl,aL rfl ?_ rfl⟩;simp(disch:=omega) only[kd,Tryz.results56,aa,a4])
def O4 (M:List (List Int)):Prop:=yk M/\MinkP (ent M) M.length
structure QH (M:List (List Int)) where
 i:Nat
 hi:i+1<=M.length
 ok: ∀a,a<i->ent M a a<=ent M (a+1) (a+1)/\0<=ent M a (a+1)
theorem xy (M:List (List Int)) (r:Bool) (hr:r=true↔O4 M):
  CallG Tryz.prog 0 162 33 [bS M] gN ⟨[],.raw (.bool r)⟩:=by
 by_cases hF:yk M
 ·have hI:=vR M true (by simp[hF]);have hn1:=hF.1.1;have hn4:=hF.1.2;have eM:M=bx M.length M.length (ent M):=xA (M:=M) (m:=M.length) fun q hq=>(hF.2.1 q hq).1
  have hV:=my M.length (ent M) hn1 hn4 fun i j hi hj=>hF.entB hi hj
  rw[<- eM]at hV;refine gD Tryz.func33 rfl (by kernel_rfl) ?_;rw[Tryz.ntmps33];refine aQ fun _ K=>?_;simp only[kd,bS,ag];apply K
  refine bI (ik [⟨1,_,_,_,hI⟩] [] fun _ K=>?_);simp only[kd,bS,aa];apply K;refine gz rfl (ef ?_);show dG _ _ _ _ _ _ _;refine bI (aQ fun _ K=>?_);simp(disch:=omega) only[kd,aa,aT];apply K;have en:(M.length:Int)-1=((M.length-1:Nat):Int):=by omega
  refine dO (G:=QH M) (fun g=>⟨(bS M::jk::.raw (.bool false)::j4 (j4 (jk::.raw (.int .i64 ((M.length-1:Nat):Int))::rN g.i::j16 (j16 (j4 (jk::jk::jk::[])))))),Hm []⟩) (fun _=>gN) (fun g=>M.length-g.i) ⟨0,hn1,fun a ha=>by omega⟩ ?_ rfl ?_
  ·refine aG trivial ?_;simp[wk,en]
  rintro⟨i,hi,ok⟩;simp only;by_cases hm:i+1<M.length
  ·have m1:=bD M.length (ent M) (show i<M.length by omega);have m2:=bD M.length (ent M) hm;rw[<- eM]at m1 m2;have c1:=aY (ent M i) (show i<M.length by omega);have c2:=aY (ent M (i+1)) hm;have c3:=aY (ent M i) hm;have e1:((i:Int)+1).toNat=i+1:=by omega
   by_cases hd:ent M (i+1) (i+1)<ent M i i
   ·have hr0:r=false:=by
     cases r with
     |false=>rfl
     |true=>have:=((hr.1 rfl).2.1 i hm).1;omega
    subst hr0;refine aQ fun _ K=>?_;simp(disch:=omega) only[kd,bS];apply K
    refine gA rfl ?_;refine bI (cB ?_);refine aQ fun _ K=>?_;simp only[kd];apply K
    refine gS bj (by kernel_rfl) fun _ K=>?_;simp(disch:=omega) only[kd,aa,m1,fR,c1,aT,e1,m2,c2,reduceCtorEq];apply K
    refine jb rfl ?_;refine aQ fun _ K=>?_;simp only[kd];apply K
    (refine fo ⟨.inr rfl,rfl,aL rfl ?_ rfl⟩;simp(disch:=omega) only[kd,Tryz.results33])
   by_cases hs:ent M i (i+1)<0
   ·have hr0:r=false:=by
     cases r with
     |false=>rfl
     |true=>have:=((hr.1 rfl).2.1 i hm).2;omega
    subst hr0;refine aQ fun _ K=>?_;simp(disch:=omega) only[kd,bS];apply K
    refine gA rfl ?_;refine bI (cB ?_);refine aQ fun _ K=>?_;simp only[kd];apply K
    refine gS bj (by kernel_rfl) fun _ K=>?_;simp(disch:=omega) only[kd,aa,m1,fR,c1,aT,e1,m2,c2,c3];apply K
    refine jb rfl ?_;refine aQ fun _ K=>?_;simp only[kd];apply K
    (refine fo ⟨.inr rfl,rfl,aL rfl ?_ rfl⟩;simp(disch:=omega) only[kd,Tryz.results33])
   refine aQ fun _ K=>?_;simp(disch:=omega) only[kd,bS];apply K
   refine gA rfl ?_;refine bI (cB ?_);refine aQ fun _ K=>?_;simp only[kd];apply K
   refine gS bj (by kernel_rfl) fun _ K=>?_;simp(disch:=omega) only[kd,aa,m1,fR,c1,aT,e1,m2,c2,c3];apply K
   refine gz rfl (ef ?_);show dG _ _ _ _ _ _ _;refine cC fun _ K=>?_;simp(disch:=omega) only[kd,aT];apply K
   refine⟨⟨i+1,by omega,fun a ha=>?_⟩,by simp only;omega,aG trivial ?_,rfl⟩
   ·by_cases e:a=i
    ·subst e;exact⟨by omega,by omega⟩
    exact ok a (by omega)
   simp[wk]
  refine aQ fun _ K=>?_;simp(disch:=omega) only[kd,bS];apply K
  refine jc rfl ?_;show dG _ _ _ _ _ _ _;cases hv:rx M.length (ent M)with
  |none=>
   have hr1:r=true:=hr.2 ⟨hF,fun a ha=>ok a (by omega),fun a ha=>qP _ 0 hv a (by omega) (by omega)⟩;subst hr1;have eT:oP M.length (ent M)= .tup [(false,[.p (.raw (.int .i64 0))]),(true,a4 fun _=>0),(false,[.p (.raw (.bool false))])]:=by unfold oP;rw[hv]
   rw[eT]at hV;refine dY [⟨1,_,_,_,hV,rfl⟩] [] [] fun _ K=>?_;simp(disch:=omega) only[kd,bS,dV.a,aa,jd,nZ,dJ,fg];apply K
   refine aQ fun _ K=>?_;simp only[kd,aa];apply K
   (refine fo ⟨.inr rfl,rfl,aL rfl ?_ rfl⟩;simp(disch:=omega) only[kd,Tryz.results33])
  |some k=>
   obtain⟨_,k1,k2,_⟩:=i9 _ 0 k hv;have hr0:r=false:=by
    cases r with
    |false=>rfl
    |true=>exact absurd k2 ((hr.1 rfl).2.2 k (by omega))
   subst hr0;have eT:oP M.length (ent M)= .tup [(false,[.p (.raw (.int .i64 (k:Int)))]),(true,a4 (j7 M.length (ent M) k (3^k))),(false,[.p (.raw (.bool true))])]:=by unfold oP;rw[hv]
   rw[eT]at hV;refine dY [⟨1,_,_,_,hV,rfl⟩] [] [] fun _ K=>?_;simp(disch:=omega) only[kd,bS,dV.a,aa,jd,nZ,dJ,fg];apply K
   refine aQ fun _ K=>?_;simp only[kd,aa];apply K
   (refine fo ⟨.inr rfl,rfl,aL rfl ?_ rfl⟩;simp(disch:=omega) only[kd,Tryz.results33])
 have hr0:r=false:=by
  cases r with
  |false=>rfl
  |true=>exact absurd (hr.1 rfl).1 hF
 subst hr0;have hI:=vR M false (by simp[hF]);refine gD Tryz.func33 rfl (by kernel_rfl) ?_;rw[Tryz.ntmps33];refine aQ fun _ K=>?_;simp only[kd,bS,ag];apply K
 refine bI (ik [⟨1,_,_,_,hI⟩] [] fun _ K=>?_);simp only[kd,bS,aa];apply K;refine jb rfl ?_;refine aQ fun _ K=>?_;simp only[kd];apply K
 (refine fo ⟨.inr rfl,rfl,aL rfl ?_ rfl⟩;simp(disch:=omega) only[kd,Tryz.results33])
section
open Go.ChangeShapes Go.WideShapes Go.ChangeAt Go.WideMaps Go.WideElems Go.RowKit
theorem Pl : Tryz.prog.globalNamed "quadform/minkowski.conditions" = some 0 := by kernel_rfl
theorem PC:(Tryz.prog.globals[0]?).map (·.type)=some 162:=by kernel_rfl
abbrev zg : List (String × DataW Unit) := [("quadform/minkowski.conditions", Rows.laid_quadform_minkowski_conditions)]
theorem yM {W:World} (h:laidMetH Tryz.prog zg W):wK 0 162 gN W:=by
 rw[MakeChecks.laidMetH_plain _ _ _ (by kernel_rfl)]at h;obtain⟨ps,⟨g0,t0,cs0,f0,p0,q0,hg0,ht0,hv0,hd0,_,_⟩,_,_⟩:=h;obtain rfl:=Option.some.inj (Pl.symm.trans hg0);obtain rfl:=Option.some.inj (PC.symm.trans ht0);obtain⟨xs,m1,rfl,hx1,hlen,hn3,hel⟩:=DataW.trod_array Tryz.underlying162 hd0;have c3:Tryz.prog.cellsOf 3=1:=by kernel_rfl
 have c4:Tryz.prog.cellsOf 162=4:=by kernel_rfl
 rw[c4]at hlen;have hcell: ∀i,i<4-> ∃k:Int,cs0[i]?=some (.int .i64 k)/\(xs[i]?).map (·.1)=some (.lit (.int .i64 k)):=fun i hi=>by
  have h1:=hel i hi;rw[c3,Nat.mul_one]at h1;obtain⟨y,hy⟩: ∃y,xs[i]?=some y:=⟨xs[i]'(by omega),List.getElem?_eq_getElem (by omega)⟩;rw[hy]at h1;obtain⟨k,e1,e2,_⟩:=DataW.trod_int Tryz.underlying3 h1;refine⟨k,?_,by rw[hy,e2];rfl⟩;have h2:=congrArg (fun l=>l[0]?) e1;simp only[List.getElem?_take,List.getElem?_drop,Nat.add_zero]at h2;simpa using h2
 have hx:xs.map (·.1)=[.lit (.int .i64 1),.lit (.int .i64 3),.lit (.int .i64 9),.lit (.int .i64 27)]:=by
  simp only[Prod.mk.injEq,Rows.laid_quadform_minkowski_conditions,DataW.agg.injEq]at hx1;exact hx1.1.symm
 have hat: ∀(i:Nat) (k:Int),i<4->(xs.map (·.1))[i]?=some (.lit (.int .i64 k))->W.cell? ⟨0,i,none⟩=some (.int .i64 k):=fun i k hi hk=>by
  obtain⟨k',h1,h2⟩:=hcell i hi;rw[List.getElem?_map,h2]at hk;have:k'=k:=by simpa using hk
  subst this;rw[World.var?_cell hg0 hv0 i,h1]
 rw[hx]at hat;have a0:=hat 0 1 (by omega) rfl;have a1:=hat 1 3 (by omega) rfl;have a2:=hat 2 9 (by omega) rfl;have a3:=hat 3 27 (by omega) rfl;refine⟨nf a0,fun j x hx=>?_⟩
 match j,hx with
 |0,hx=>simp at hx;exact⟨_,hx.symm,a0,rfl⟩
 |1,hx=>simp at hx;exact⟨_,hx.symm,a1,rfl⟩
 |2,hx=>simp at hx;exact⟨_,hx.symm,a2,rfl⟩
 |3,hx=>simp at hx;exact⟨_,hx.symm,a3,rfl⟩
 |j+4,hx=>simp at hx
theorem G3 (os:Os) (args:Array Value):laidMetH Tryz.prog zg ((World.doorLaid Tryz.prog 400 os).forCall (fun _ _=>0) ⟨#[],args,[]⟩).memory:=
 laidMetH_of_parts3 (fuel:=8) (laidMet_of_run' 8 (by kernel_rfl) (by kernel_rfl)) (by kernel_rfl) (by kernel_rfl)
theorem CallG.law {P:Program} {b:Nat} {ty:TypeId} {f:FuncId} {args:List TV} {cs:List PV} {r:Bool} (h:CallG P b ty f args cs ⟨[],.raw (.bool r)⟩) {w:World} (hb:wK b ty cs w) {vs:Array Value} (hvs:vs.size=args.length)
  (ha: ∀(j:Nat) t,args[j]?=some t-> ∃v:Value,vs[j]?=some v/\t.rel (fun _ _=>none) (fun _=>[]) (fun _=>False) w v):Calls P f vs w fun e w'=>e= .returned (.bool r)/\Ext w w':=
 ((h.2 w hb).2 (fun _=>False) vs (fun b h=>h.elim) hvs ha).mono fun e w' ⟨v,h1,ρ,h2,h3⟩=>⟨by rw[h1,lG h3],ze h2.keep⟩
end
section
variable {n:Nat}
theorem MX {x:Int} {A:Nat} (h:x*x<=(A:Int)*(A:Int)): -(A:Int)<=x/\x<=(A:Int):=by
 have h1:x.natAbs*x.natAbs<=A*A:=by
  have e:((x.natAbs*x.natAbs:Nat):Int)=x*x:=Int.natAbs_mul_self;have:((x.natAbs*x.natAbs:Nat):Int)<=((A*A:Nat):Int):=by rw[e,Int.natCast_mul];exact h
  exact Int.ofNat_le.1 this
 have h2:x.natAbs<=A:=by
  rcases Nat.lt_or_ge A x.natAbs with hl|hl
  ·have:=Nat.mul_lt_mul'' hl hl;omega
  exact hl
 omega
theorem B5 {h:FF} (hn1:1<=n) (hn:n<=4) (hr:RedR h n) {x:Nat->Int} (hx:nrm n h x<=262144): ∀j,j<n-> -549755813888<=x j/\x j<=549755813888:=fun j hj=>by
 have h1:=GS (B:=262144) hr.pd hj (fun a b ha hb=>by have:=kn hn1 (by omega) hr a ha b hb;omega) x hx;have h2:(n*262144)^(n-1)<=1048576^3:=by
  have:n*262144<=1048576:=by omega
  exact Nat.le_trans (Nat.pow_le_pow_left this _) (Nat.pow_le_pow_right (by omega) (by omega))
 have h3:(((n*262144)^(n-1):Nat):Int)<=1152921504606846976:=by
  have e:1048576^3=1152921504606846976:=by decide
  rw[e]at h2;omega
 refine MX (A:=549755813888) ?_;generalize(((n*262144)^(n-1):Nat):Int)=q at*
 omega
theorem mr {h B:FF} {W:Int} (hp:PD h n) (hB:InB2 n h W B) {a b:Nat} (ha:a<n) (hb:b<n) (A:Nat) (hW:W<=(A:Int)): -(A:Int)<=gmB n h B a b/\gmB n h B a b<=(A:Int):=by
 refine MX ?_;have h1:=hp.schwarz (B a) (B b);have h2:=hB.nr a ha;have h3:=hB.nr b hb;have h4:=(hp.pos (B a)).1;have h5:=(hp.pos (B b)).1;unfold nrm at h2 h3;unfold gmB;have h6:BF n h (B a) (B a)*BF n h (B b) (B b)<=(A:Int)*(A:Int):=Int.mul_le_mul (by omega) (by omega) h5 (by omega);omega
theorem InB2.one {h:FF} (hn1:1<=n) (hn:n<=8) (hr:RedR h n):InB2 n h 262144 (fun a b=>if a=b then 1 else 0):=by
 refine⟨fun a ha=>?_,?_⟩
 ·have e:(fun b=>if a=b then(1:Int)else 0)=eC a:=by funext b;unfold eC;by_cases h:a=b<;>simp[h,eq_comm]<;>omega
  show nrm n h (fun b=>if a=b then 1 else 0)<=_;rw[e,j1 ha];have:=kn hn1 hn hr a ha a ha;omega
 have e:trF (fun a b=>if a=b then(1:Int)else 0)=fun i j=>if i=j then 1 else 0:=by
  funext i j;unfold trF;by_cases h:i=j<;>simp[h,eq_comm]<;>omega
 rw[e,NL];rfl
theorem InB2.sg {h B:FF} {W:Int} (g:FF) (hB:InB2 n h W B):InB2 n h W (p9 g B):=by
 refine⟨fun a ha=>?_,?_⟩
 ·have:=hB.nr a ha;have e:nrm n h (p9 g B a)=nrm n h (B a):=by
   have h1:gmB n h (p9 g B) a a=gmB n h B a a:=by
    rw[Hi];unfold J4;rcases nL g a with e|e<;>rw[e]<;>omega
   exact h1
  rw[e];exact this
 have h1:=Cc (g:=g) (B:=B) n (af n);rw[<- hB.dt,<- h1]
 congr 1
 exact eg fun i j _ hj=>by show kG g j*B j i=if j<n then _ else _;rw[if_pos hj]
theorem zt {h:FF} (hn1:1<=n) (hn:n<=4) (hr:RedR h n): ∃R,RchB n h (fun a b=>if a=b then 1 else 0) R/\InB2 n h 262144 R/\InB2 n h 262144 (p9 (gmB n h R) R)/\MinkP (gmB n h (p9 (gmB n h R) R)) n:=by
 have h1:=InB2.one hn1 (by omega) hr;obtain⟨R,hR⟩:=zP hr.pd _ _ rfl h1;obtain⟨e1,e2,e3⟩:=zN hR h1;exact⟨R,hR,e1,e1.sg _,HU e2 e3⟩
theorem InB2.pd {h B:FF} {W:Int} (hp:PD h n) (hB:InB2 n h W B):PD (gmB n h B) n:=by
 rw[xl];exact hp.cng (by have:=hB.dt;omega)
end
section
variable {n:Nat}
def PO (n:Nat) (a:FF) (i:Nat):Nat->Nat->Option Nat
 |0,_=>none
 |m+1,c=>if nrm n a (lZ i c)<a i i then some c else PO n a i m (c+1)
def NP (n:Nat) (a:FF) (i:Nat):Option Nat:=PO n a i (3^i) 0
theorem yZ {a:FF} {i:Nat}: ∀m c r,PO n a i m c=some r->c<=r/\r<c+m/\nrm n a (lZ i r)<a i i
 |0,_,_,h=>by cases h
 |m+1,c,r,h=>by
  rw[PO]at h;split at h
  ·rename_i hl;injection h with h
   subst h;exact⟨af _,by omega,hl⟩
  obtain⟨h1,h2,h3⟩:=yZ m (c+1) r h;exact⟨by omega,by omega,h3⟩
inductive MA where
 |swp (i:Nat)
 |rep (i c:Nat)
 |neg (i:Nat)
def DK (n:Nat) (a:FF):Nat->Nat->Option MA
 |0,_=>none
 |m+1,i=>if 0<i/\a i i<a (i-1) (i-1)then some (.swp i)else match NP n a i with
  |some c=>some (.rep i c)
  |none=>if 0<i/\a (i-1) i<0 then some (.neg i)else DK n a m (i+1)
def MR (n:Nat) (t:FF):MA->Nat->Nat->Int
 | .swp i=>fun r c=>if c=i then t r (i-1)else if c=i-1 then t r i else t r c
 | .rep i c=>di t i (mV n t (lZ i c))
 | .neg i=>di t i (fun r=> - t r i)
def MA.i:MA->Nat
 | .swp i=>i
 | .rep i _=>i
 | .neg i=>i
theorem KD {h t u:FF} {a b:Nat}:cngF n (cngF n h t) u a b=cngF n h (em n t u) a b:=by
 rw[fd,fd,<- wH];refine dx (fun _ _ _ _=>rfl) (fun i _=>?_) (fun i _=>?_)<;>
 ·unfold mV;rw[cK];exact aS n fun p _=>Int.mul_comm _ _
/-! What the operations do to the Gram matrix. -/
theorem rW {F G:Nat->Int} {i:Nat}: ∀{m},i<m->(∀a,a<m->a≠i->F a=G a)->b9 G m=b9 F m+(G i-F i)
 |m+1,hi,h=>by
  rw[b9,b9];by_cases e:i=m
  ·subst e;rw[aS i (F:=G) (G:=F) fun p hp=>(h p (by omega) (by omega)).symm];omega
  rw[rW (m:=m) (by omega) (fun a ha hne=>h a (by omega) hne),h m (by omega) (Ne.symm e)];omega
theorem wI (h:FF) (x y:Nat->Int):BF n h x (fun r=> - y r)= - BF n h x y:=by
 have h1:=fL (n:=n) h x y y (-2);have e:(fun i=>y i+ -2*y i)=fun r=> - y r:=by funext i;omega
 rw[e]at h1;rw[h1];omega
theorem rz (h:FF) (x y:Nat->Int):BF n h (fun r=> - x r) y= - BF n h x y:=by
 have h1:=ic (n:=n) h x x y (-2);have e:(fun i=>x i+ -2*x i)=fun r=> - x r:=by funext i;omega
 rw[e]at h1;rw[h1];omega
end
section
variable {n:Nat}
theorem KE (h t:FF) (i a b:Nat):cngF n h (MR n t (.neg i)) a b=(if a=i then -1 else 1)*(if b=i then -1 else 1)*cngF n h t a b:=by
 have e: ∀c,(fun r=>MR n t (.neg i) r c)=if c=i then fun r=> - t r i else fun r=>t r c:=fun c=>by
  by_cases e1:c=i
  ·subst e1;funext r;simp[MR,di]
  funext r;simp[MR,di,e1]
 rw[fd,e,e,fd];by_cases ha:a=i
 ·subst ha;by_cases hb:b=a
  ·subst hb;simp only[if_true];rw[rz,wI];omega
  simp only[if_true,if_neg hb];rw[rz];omega
 by_cases hb:b=i
 ·subst hb;simp only[if_true,if_neg ha];rw[wI];omega
 simp only[if_neg ha,if_neg hb];omega
theorem uy {a:FF}: ∀m i op,DK n a m i=some op->i<=op.i/\op.i<i+m/\(match op with
  | .swp j=>0<j/\a j j<a (j-1) (j-1)
  | .rep j c=>c<3^j/\nrm n a (lZ j c)<a j j
  | .neg j=>0<j/\a (j-1) j<0)
 |0,_,_,h=>by cases h
 |m+1,i,op,h=>by
  rw[DK]at h;split at h
  ·rename_i hc;injection h with h
   subst h;exact⟨af _,by show i<i+(m+1);omega,hc⟩
  split at h
  ·rename_i c hc;injection h with h
   subst h;obtain⟨_,h1,h2⟩:=yZ _ _ _ hc;exact⟨af _,by show i<i+(m+1);omega,by omega,h2⟩
  split at h
  ·rename_i hc;injection h with h
   subst h;exact⟨af _,by show i<i+(m+1);omega,hc⟩
  obtain⟨h1,h2,h3⟩:=uy m (i+1) op h;exact⟨by omega,by omega,h3⟩
structure Nf (n:Nat) (h:FF) (W:Int) (t:FF):Prop where
 nr: ∀a,a<n->cngF n h t a a<=W
 dt:(dk t n).natAbs=1
theorem Nf.op {h t:FF} {W:Int} (ht:Nf n h W t) {op:MA} (ho:DK n (cngF n h t) n 0=some op):Nf n h W (MR n t op):=by
 obtain⟨_,h1,h2⟩:=uy n 0 op ho;cases op with
 |swp i=>
  have hi:i<n:=by simpa[MA.i] using h1
  obtain⟨h0,_⟩:=h2;refine⟨fun a ha=>?_,?_⟩
  ·have e2:(fun r=>MR n t (.swp i) r a)=if a=i then fun r=>t r (i-1)else if a=i-1 then fun r=>t r i else fun r=>t r a:=by
    by_cases e1:a=i
    ·subst e1;simp[MR]
    by_cases e3:a=i-1
    ·rw[if_neg e1,if_pos e3];funext r;exact(if_neg e1).trans (if_pos e3)
    simp[MR,e1,e3]
   rw[fd,e2];split
   ·rw[<- fd];exact ht.nr _ (by omega)
   split
   ·rw[<- fd];exact ht.nr _ hi
   rw[<- fd];exact ht.nr _ ha
  have:=oh (R:=t) (n:=n) (a:=i) (b:=i-1) hi (by omega) (by omega);show(dk (fun r c=>if c=i then t r (i-1)else if c=i-1 then t r i else t r c) n).natAbs=1;rw[this,Int.natAbs_neg];exact ht.dt
 |rep i c=>
  have hi:i<n:=by simpa[MA.i] using h1
  obtain⟨_,h3⟩:=h2;refine⟨fun a ha=>?_,?_⟩
  ·by_cases e:a=i
   ·subst e;show cngF n h (di t a (mV n t (lZ a c))) a a<=W;rw[GQ];have:=ht.nr a ha;omega
   show cngF n h (di t i (mV n t (lZ i c))) a a<=W;rw[yP _ e e];exact ht.nr a ha
  show(dk (di t i (mV n t (lZ i c))) n).natAbs=1;rw[xg hi,show lZ i c i=1 by simp[lZ],Int.one_mul];exact ht.dt
 |neg i=>
  have hi:i<n:=by simpa[MA.i] using h1
  refine⟨fun a ha=>?_,?_⟩
  ·rw[KE];have:=ht.nr a ha;split<;>omega
  show(dk (di t i (fun r=> - t r i)) n).natAbs=1;rw[vE hi,Int.natAbs_neg];exact ht.dt
end
section
variable {n:Nat}
theorem wv {f:FF} (hs:SymF f n) (hp: ∀k,k<n->0<dk f (k+1)) (x:Nat->Int) {k:Nat} (hk:k<n):
  dk f k*BF n (bk f (k+1)) x x=dk f (k+1)*BF n (bk f k) x x-b9 (fun j=>bk f k k j*x j) n*b9 (fun j=>bk f k k j*x j) n:=by
 have hne: ∀t,t<n->dk f (t+1)≠0:=fun t ht=>by have:=hp t ht;omega
 have e0:dk f k*BF n (bk f (k+1)) x x=BF n (fun i j=>dk f k*bk f (k+1) i j+0*bk f k i j) x x:=by rw[ry];omega
 rw[e0,dx (f':=fun i j=>dk f (k+1)*bk f k i j+(-1)*(bk f k k i*bk f k k j)) (fun i j hi hj=>by
  have:=sylv f k (fun t ht=>hne t (by omega)) i j;have e:=jU hs k (by omega) (fun t ht=>hne t (by omega)) i k hi (by omega);rw[e]at this;omega) (fun _ _=>rfl) (fun _ _=>rfl),ry,CD,aS n (F:=fun i=>x i*bk f k k i) (G:=fun j=>bk f k k j*x j) (fun i _=>Int.mul_comm _ _)]
 omega
theorem Af {f:FF} (hr:PD f n) (x:Nat->Int) {N:Int} (hN:BF n f x x<=N): ∀k,k<=n->BF n (bk f k) x x<=N*dk f k
 |0,_=>by
  rw[de,Int.mul_one,dx (fun i j _ _=>dr f i j) (fun _ _=>rfl) (fun _ _=>rfl)];exact hN
 |k+1,hk=>by
  have ih:=Af hr x hN k (by omega);have hkey:=wv hr.1 hr.2 x (show k<n by omega);have hd:0<dk f k:=lj fun t ht=>hr.2 t (by omega)
  have hd1:=hr.2 k (by omega);have hsq:0<=b9 (fun j=>bk f k k j*x j) n*b9 (fun j=>bk f k k j*x j) n:=by
   rcases Int.le_total 0 (b9 (fun j=>bk f k k j*x j) n)with h|h
   ·exact Int.mul_nonneg h h
   exact Int.mul_nonneg_of_nonpos_of_nonpos h h
  have h1:dk f (k+1)*BF n (bk f k) x x<=dk f (k+1)*(N*dk f k):=Int.mul_le_mul_of_nonneg_left ih (by omega);have h2:dk f k*BF n (bk f (k+1)) x x<=dk f k*(N*dk f (k+1)):=by
   have e:dk f (k+1)*(N*dk f k)=dk f k*(N*dk f (k+1)):=by grind
   rw[<- e];omega
  exact Int.le_of_mul_le_mul_left h2 hd
end
section
variable {n:Nat}
theorem Lc (f:FF) (x:Nat->Int):nrm n f (fun i=> - x i)=nrm n f x:=by
 unfold nrm;rw[rz,wI];omega
theorem pr {f:FF} (hs:SymF f n) (x y:Nat->Int) (c:Int):nrm n f (fun i=>x i+c*y i)=nrm n f x+2*c*BF n f x y+c*c*nrm n f y:=by
 unfold nrm;rw[ic,fL,fL,nW hs y x];grind
theorem F6 {f:FF} {a b:Nat} (ha:a<n) (hb:b<n):BF n f (eC a) (eC b)=f a b:=by
 have e1: ∀(F:Nat->Int) a,a<n->b9 (fun j=>F j*eC a j) n=F a:=fun F a ha=>by
  rw[ii ha (fun p _ hne=>by unfold eC;rw[if_neg hne,Int.mul_zero])];unfold eC;rw[if_pos rfl,Int.mul_one]
 unfold BF;rw[aS n (G:=fun k=>f k b*eC a k) (fun k _=>by rw[e1 (f k) b hb];exact Int.mul_comm _ _),e1 (fun k=>f k b) a ha]
theorem qt {f:FF} (hm:MinkP f n) {i:Nat} (hi:i<n) {x:Nat->Int} (hb: ∀j,j<i-> -1<=x j/\x j<=1) (h1:x i=1) (h0: ∀j,i<j->j<n->x j=0):f i i<=nrm n f x:=by
 rcases Int.lt_or_le (nrm n f x) (f i i)with h|h
 ·exact absurd (JQ hi hb h1 h0 h) (hm.2 i hi)
 exact h
theorem vS {f:FF} (hm:MinkP f n) {j:Nat} (hj:j<n): ∀i,i<=j->f i i<=f j j:=fun i hi=>by
 obtain⟨m,rfl⟩: ∃m,j=i+m:=⟨j-i,by omega⟩
 induction m with
 |zero=>exact Int.le_refl _
 |succ m ih=>
  have h1:=ih (by omega) (by omega);have h2:=(hm.1 (i+m) (by omega)).1;rw[<- Nat.add_assoc];omega
theorem jo {f:FF} (hs:SymF f n) (hm:MinkP f n) {i j:Nat} (hij:i<j) (hj:j<n): -(f i i)<=2*f i j/\2*f i j<=f i i:=by
 have key: ∀c:Int,-1<=c->c<=1->f j j<=f j j+2*c*f j i+c*c*f i i:=fun c h1 h2=>by
  have h:=qt hm hj (x:=fun r=>eC j r+c*eC i r) (fun r hr=>by
   unfold eC;rw[if_neg (by omega)];split<;>omega) (by unfold eC;rw[if_pos rfl,if_neg (by omega)];omega) (fun r hr _=>by unfold eC;rw[if_neg (by omega),if_neg (by omega)];omega)
  rw[pr hs,j1 hj,j1 (by omega),F6 hj (by omega)]at h;exact h
 have h1:=key 1 (by omega) (by omega);have h2:=key (-1) (by omega) (by omega);have e:=hs i (by omega) j hj;omega
theorem EY {f:FF} (hs:SymF f n) (hm:MinkP f n) {i j:Nat} (hi:i<n) (hj:j<n) (hij:i≠j): -(f j j)<=2*f i j/\2*f i j<=f j j:=by
 rcases Nat.lt_or_ge i j with h|h
 ·have h1:=jo hs hm h hj;have h2:=vS hm hj i (by omega);omega
 have h1:=jo hs hm (show j<i by omega) hi;have e:=hs i hi j hj;omega
def u9 (y:Nat->Int) (k:Nat):Nat->Int:=fun j=>if j<k then(if 0<y j then 1 else if y j<0 then -1 else 0)else 0
theorem Om (y:Nat->Int) (k j:Nat): -1<=u9 y k j/\u9 y k j<=1:=by
 unfold u9;split
 ·split
  ·omega
  split<;>omega
 omega
def l1 (y:Nat->Int):Nat->Nat
 |0=>0
 |k+1=>l1 y k+(y k).natAbs
theorem Dk {y:Nat->Int}: ∀{k},l1 y k=0-> ∀j,j<k->y j=0
 |k+1,h,j,hj=>by
  rw[l1]at h;by_cases e:j=k
  ·subst e;omega
  exact Dk (k:=k) (by omega) j (by omega)
theorem Hs {y:Nat->Int} {K:Nat}: ∀k,k<=K->l1 (fun j=>y j+ -1*u9 y K j) k<=l1 y k/\(l1 y k≠0->l1 (fun j=>y j+ -1*u9 y K j) k<l1 y k)
 |0,_=>by simp[l1]
 |k+1,hk=>by
  have ih:=Hs (y:=y) (K:=K) k (by omega);have h1:(y k+ -1*u9 y K k).natAbs<=(y k).natAbs/\((y k).natAbs≠0->(y k+ -1*u9 y K k).natAbs<(y k).natAbs):=by
   unfold u9;rw[if_pos (by omega)];split
   ·omega
   split<;>omega
  rw[l1,l1];refine⟨by omega,fun h=>?_⟩;by_cases e:l1 y k=0
  ·have:=h1.2 (by omega);omega
  have:=ih.2 e;omega
theorem C0 {f:FF} (hs:SymF f n) (hm:MinkP f n) {e:Nat->Int} (he: ∀j,-1<=e j/\e j<=1) {j:Nat} (hj:j<n) (hej:e j=1\/e j= -1) (hd:0<=f j j): ∀m,m<=n->(if j<m then 2*f j j-((m-1:Nat):Int)*f j j else-((m:Nat):Int)*f j j)<=2*(e j*b9 (fun i=>e i*f i j) m)
 |0,_=>by simp[b9]
 |m+1,hmn=>by
  have ih:=C0 hs hm he hj hej hd m (by omega);rw[b9];have hmul:((m+1:Nat):Int)*f j j=((m:Nat):Int)*f j j+f j j:=by rw[Int.natCast_add,Int.add_mul];simp
  by_cases h:m=j
  ·subst h;rw[if_neg (by omega)]at ih;rw[if_pos (by omega),Nat.add_sub_cancel];have e1:e m*(e m*f m m)=f m m:=by rcases hej with h|h<;>rw[h]<;>omega
   have e2:2*(e m*(b9 (fun i=>e i*f i m) m+e m*f m m))=2*(e m*b9 (fun i=>e i*f i m) m)+2*f m m:=by
    rw[Int.mul_add,e1];omega
   rw[e2];have: -((m:Nat):Int)*f m m= -(((m:Nat):Int)*f m m):=Int.neg_mul _ _;omega
  have hh:=EY hs hm (show m<n by omega) hj h;have hem:=he m;have e3: -(f j j)<=2*(e j*(e m*f m j)):=by
   have c:e m= -1\/e m=0\/e m=1:=by omega
   rcases hej with h1|h1<;>rcases c with h2|h2|h2<;>rw[h1,h2]<;>omega
  have e2:2*(e j*(b9 (fun i=>e i*f i j) m+e m*f m j))=2*(e j*b9 (fun i=>e i*f i j) m)+2*(e j*(e m*f m j)):=by
   rw[Int.mul_add];omega
  rw[e2];have n1: -((m:Nat):Int)*f j j= -(((m:Nat):Int)*f j j):=Int.neg_mul _ _;have n2: -((m+1:Nat):Int)*f j j= -(((m+1:Nat):Int)*f j j):=Int.neg_mul _ _;by_cases hjm:j<m
  ·rw[if_pos hjm]at ih;rw[if_pos (by omega),Nat.add_sub_cancel];have hmul2:((m:Nat):Int)*f j j=((m-1:Nat):Int)*f j j+f j j:=by
    have:((m:Nat):Int)=((m-1:Nat):Int)+1:=by omega
    rw[this,Int.add_mul,Int.one_mul]
   omega
  rw[if_neg hjm]at ih;rw[if_neg (by omega)];omega
theorem M4 {f:FF} {x y:Nat->Int} {k:Nat} (hk:k<=n) (hx: ∀i,k<=i->i<n->x i=0):BF n f x y=b9 (fun j=>y j*b9 (fun i=>x i*f i j) k) n:=by
 unfold BF;rw[aS n (G:=fun i=>b9 (fun j=>x i*f i j*y j) n) (fun i _=>by rw[<- cx];exact aS n fun j _=>by grind),jt];refine aS n fun j _=>?_
 obtain⟨m,rfl⟩: ∃m,n=k+m:=⟨n-k,by omega⟩;have ext: ∀m,(∀i,k<=i->i<k+m->x i=0)->b9 (fun i=>x i*f i j*y j) (k+m)=b9 (fun i=>x i*f i j*y j) k:=fun m=>by
  induction m with
  |zero=>intro _;rfl
  |succ m ih=>
   intro h;rw[<- Nat.add_assoc,b9,ih (fun i h1 h2=>h i h1 (by omega)),h (k+m) (by omega) (by omega)]
   simp
 rw[ext m (fun i h1 h2=>hx i h1 h2),mR,Int.mul_comm]
theorem BJ {f:FF} (hp:PD f n) (hm:MinkP f n) {k:Nat} (hk:k<n) (hk3:k<=3): ∀(l:Nat) (y:Nat->Int),l1 y k=l->(∀j,k<=j->j<n->y j=0)->0<=nrm n f y+2*BF n f y (eC k):=fun l=>by
 induction l using Nat.strongRecOn with
 |_ l ih=>
  intro y hl hy;by_cases h0:l1 y k=0
  ·have hz: ∀j,j<n->y j=0:=fun j hj=>by
    rcases Nat.lt_or_ge j k with h|h
    ·exact Dk h0 j h
    exact hy j h hj
   unfold nrm;rw[mX hz,mX hz];omega
  obtain⟨e,hE⟩: ∃e,e=u9 y k:=⟨_,rfl⟩;obtain⟨y',hY⟩: ∃y':Nat->Int,y'=fun j=>y j+ -1*u9 y k j:=⟨_,rfl⟩
  have heb: ∀j,-1<=e j/\e j<=1:=fun j=>by rw[hE];exact Om y k j
  have he0: ∀j,k<=j->e j=0:=fun j hj=>by rw[hE];unfold u9;rw[if_neg (by omega)]
  have hy0: ∀j,k<=j->j<n->y' j=0:=fun j hj hjn=>by
   rw[hY];show y j+ -1*u9 y k j=0;rw[hy j hj hjn,<- hE,he0 j hj];rfl
  have hsum: ∀j,j<n->y j=e j+1*y' j:=fun j _=>by rw[hE,hY];show y j=u9 y k j+1*(y j+ -1*u9 y k j);omega
  have h1:=ih (l1 y' k) (by rw[<- hl,hY];exact(Hs k (af k)).2 h0) y' rfl hy0
  -- the sign vector
  have h2:0<=nrm n f e+2*BF n f e (eC k):=by
   have h:=qt hm hk (x:=fun r=>e r+1*eC k r) (fun r hr=>by
    have:=heb r;unfold eC;rw[if_neg (by omega)];omega) (by show e k+1*eC k k=1;rw[he0 k (by omega)];simp[eC]) (fun r hr _=>by
    show e r+1*eC k r=0;rw[he0 r (by omega)];unfold eC;rw[if_neg (by omega)];rfl)
   rw[pr hp.1,j1 hk]at h;omega
  -- the inner product
  have h3:0<=BF n f e y':=by
   rw[M4 (k:=k) (by omega) (fun i h _=>he0 i h)];refine lN n fun j hj=>?_
   rcases Nat.lt_or_ge j k with hjk|hjk
   ·by_cases hz:y' j=0
    ·rw[hz,Int.zero_mul];omega
    have hd:=hp.diag hj;have hej:(e j=1/\0<y' j)\/(e j= -1/\y' j<0):=by
     rw[hE,hY];rw[hY]at hz;have hz:y j+ -1*u9 y k j≠0:=hz;show(u9 y k j=1/\0<y j+ -1*u9 y k j)\/(u9 y k j= -1/\y j+ -1*u9 y k j<0);have e0:u9 y k j=if 0<y j then 1 else if y j<0 then -1 else 0:=by unfold u9;rw[if_pos hjk]
     rw[e0]at hz⊢;split
     ·rename_i hpos;rw[if_pos hpos]at hz;left;omega
     rename_i hpos;rw[if_neg hpos]at hz;split
     ·rename_i hneg;rw[if_pos hneg]at hz;right;omega
     rename_i hneg;rw[if_neg hneg]at hz;omega
    have hc:=C0 hp.1 hm heb hj (by rcases hej with h|h;exact .inl h.1;exact .inr h.1) (by omega) k (by omega);rw[if_pos hjk]at hc;have hk2:((k-1:Nat):Int)*f j j<=2*f j j:=Int.mul_le_mul_of_nonneg_right (by omega) (by omega);generalize b9 (fun i=>e i*f i j) k=S at*
    rcases hej with⟨g1,g2⟩|⟨g1,g2⟩
    ·rw[g1]at hc;exact Int.mul_nonneg (by omega) (by omega)
    rw[g1]at hc;exact Int.mul_nonneg_of_nonpos_of_nonpos (by omega) (by omega)
   rw[hy0 j hjk hj,Int.zero_mul];omega
  have e5:nrm n f y=nrm n f e+2*BF n f e y'+nrm n f y':=by
   rw[i4 hsum,pr hp.1];omega
  have e6:BF n f y (eC k)=BF n f e (eC k)+BF n f y' (eC k):=by
   rw[dx (x':=fun j=>e j+1*y' j) (fun _ _ _ _=>rfl) hsum (fun _ _=>rfl),ic];omega
  omega
end
section
variable {n:Nat}
theorem zu {f:FF} (hp:PD f n) (hm:MinkP f n) {k:Nat} (hk:k<n) (hk3:k<=3) {x:Nat->Int} (h1:x k=1) (h0: ∀j,k<j->j<n->x j=0):f k k<=nrm n f x:=by
 have h:=BJ hp hm hk hk3 _ (fun j=>if j<k then x j else 0) rfl (fun j hj _=>if_neg (by omega));have e: ∀j,j<n->x j=(fun j=>if j<k then x j else 0) j+1*eC k j:=fun j hj=>by
  show x j=(if j<k then x j else 0)+1*eC k j;unfold eC;by_cases h2:j<k
  ·rw[if_pos h2,if_neg (by omega)];omega
  rw[if_neg h2];by_cases h3:j=k
  ·subst h3;rw[if_pos rfl,h1];rfl
  rw[if_neg h3,h0 j (by omega) hj];rfl
 rw[i4 e,pr hp.1,j1 hk];omega
theorem Lb (f:FF) (m:Int) (x:Nat->Int):nrm n f (fun i=>m*x i)=m*m*nrm n f x:=by
 unfold nrm BF;rw[<- cx];refine aS n fun i _=>?_
 rw[aS n (G:=fun j=>m*(f i j*x j)) (fun j _=>by grind),cx];grind
theorem vT {f:FF} (hp:PD f n) (hm:MinkP f n) {k:Nat} (hk:k<n) (hk3:k<=3) {m:Int} (hm0:0<m): ∀j,j<=k-> ∀u:Nat->Int,u k=m->(∀i,k<i->i<n->u i=0)->(∀i,j<=i->i<k->m∣u i)->
  m*m*(4*f k k-b9 (fun i=>f i i) j)<=4*nrm n f u
 |0,_,u,h1,h0,hd=>by
  have e: ∀i,i<n->u i=m*(if k<i then 0 else u i/m):=fun i hi=>by
   by_cases h:k<i
   ·rw[if_pos h,h0 i h hi];simp
   rw[if_neg h];by_cases h2:i=k
   ·subst h2;rw[h1,Int.ediv_self (by omega)];simp
   exact(Int.mul_ediv_cancel' (hd i (by omega) (by omega))).symm
  have h2:=zu hp hm hk hk3 (x:=fun i=>if k<i then 0 else u i/m) (by
   show(if k<k then 0 else u k/m)=1;rw[if_neg (by omega),h1,Int.ediv_self (by omega)]) (fun j hj _=>if_pos hj)
  rw[i4 e,Lb];have h3:=Int.mul_le_mul_of_nonneg_left h2 (Int.mul_nonneg (Int.le_of_lt hm0) (Int.le_of_lt hm0));have e0:b9 (fun i=>f i i) 0=0:=rfl;rw[e0];have e4:m*m*(4*f k k-0)=4*(m*m*f k k):=by grind
  omega
 |j+1,hj,u,h1,h0,hd=>by
  have hjn:j<n:=by omega
  obtain⟨r,hr⟩: ∃r,r=u j%m:=⟨_,rfl⟩;have r0:0<=r:=by rw[hr];exact Int.emod_nonneg _ (by omega)
  have r1:r<m:=by rw[hr];exact Int.emod_lt_of_pos _ hm0
  have hdj:m∣u j+ -r:=by
   have:u j+ -r=m*(u j/m):=by have:=Int.mul_ediv_add_emod (u j) m;omega
   exact⟨u j/m,this⟩
  have sub: ∀c:Int,m∣u j+c->m*m*(4*f k k-b9 (fun i=>f i i) j)<=4*nrm n f (fun i=>u i+c*eC j i):=fun c hc=>by
   refine vT hp hm hk hk3 hm0 j (by omega) _ ?_ (fun i hi hin=>?_) (fun i hi hik=>?_)
   ·show u k+c*eC j k=m;unfold eC;rw[if_neg (by omega),h1];omega
   ·show u i+c*eC j i=0;unfold eC;rw[if_neg (by omega),h0 i hi hin];omega
   show m∣u i+c*eC j i;unfold eC;by_cases e:i=j
   ·subst e;rw[if_pos rfl,Int.mul_one];exact hc
   rw[if_neg e,Int.mul_zero,Int.add_zero];exact hd i (by omega) hik
  have a0:=sub (-r) hdj;have a1:=sub (m-r) (by
   obtain⟨q,hq⟩:=hdj;exact⟨q+1,by rw[Int.mul_add,<- hq];omega⟩)
  rw[pr hp.1,j1 hjn]at a0 a1;have hW:=hp.diag hjn;rw[b9];generalize b9 (fun i=>f i i) j=S at*
  generalize BF n f u (eC j)=B at*
  generalize nrm n f u=U at*
  generalize f j j=W at*
  generalize f k k=K at*
  -- (m - r) a0 + r a1
  have b0:=Int.mul_le_mul_of_nonneg_left a0 (show 0<=m-r by omega);have b1:=Int.mul_le_mul_of_nonneg_left a1 r0;have e1:(m-r)*(4*(U+2* -r*B+ -r* -r*W))+r*(4*(U+2*(m-r)*B+(m-r)*(m-r)*W))=m*(4*U+4*(r*(m-r))*W):=by grind
  have e2:(m-r)*(m*m*(4*K-S))+r*(m*m*(4*K-S))=m*(m*m*(4*K-S)):=by grind
  have h3:m*(m*m*(4*K-S))<=m*(4*U+4*(r*(m-r))*W):=by omega
  have h4:=Int.le_of_mul_le_mul_left h3 hm0;have h5:4*(r*(m-r))<=m*m:=by
   have:0<=(m-2*r)*(m-2*r):=by
    rcases Int.le_total 0 (m-2*r)with h|h
    ·exact Int.mul_nonneg h h
    exact Int.mul_nonneg_of_nonpos_of_nonpos h h
   have e:(m-2*r)*(m-2*r)=m*m-4*(r*(m-r)):=by grind
   omega
  have h6:=Int.mul_le_mul_of_nonneg_right h5 (Int.le_of_lt hW);have e3:m*m*(4*K-(S+W))=m*m*(4*K-S)-m*m*W:=by grind
  omega
theorem pj {f:FF} (hp:PD f n) (hm:MinkP f n) (hn:n<=4) {k:Nat} (hk:k<n) {x:Nat->Int} (hx:x k≠0) (h0: ∀j,k<j->j<n->x j=0):f k k<=nrm n f x:=by
 have pos: ∀x:Nat->Int,0<x k->(∀j,k<j->j<n->x j=0)->f k k<=nrm n f x:=fun x hx h0=>by
  have hd:=hp.diag hk;by_cases h1:x k=1
  ·exact zu hp hm hk (by omega) h1 h0
  have h2:=vT hp hm hk (by omega) (m:=x k) hx k (af k) x rfl h0 (fun i h3 h4=>by omega);have hs:b9 (fun i=>f i i) k<=3*f k k:=by
   have: ∀j,j<=k->b9 (fun i=>f i i) j<=(j:Int)*f k k:=fun j=>by
    induction j with
    |zero=>intro _;simp[b9]
    |succ j ih=>
     intro hj;have h3:=ih (by omega);have h4:=vS hm hk j (by omega);rw[b9,Int.natCast_add,Int.add_mul];simp;omega
   have h3:=this k (af k);have h4:(k:Int)*f k k<=3*f k k:=Int.mul_le_mul_of_nonneg_right (by omega) (by omega);omega
  have h5:x k*x k*f k k<=x k*x k*(4*f k k-b9 (fun i=>f i i) k):=Int.mul_le_mul_of_nonneg_left (by omega) (Int.mul_nonneg (by omega) (by omega));have h6:2*2<=x k*x k:=Int.mul_le_mul (by omega) (by omega) (by omega) (by omega);have h7:=Int.mul_le_mul_of_nonneg_right h6 (Int.le_of_lt hd);omega
 rcases Int.lt_or_le 0 (x k)with h|h
 ·exact pos x h h0
 rw[<- Lc];exact pos (fun i=> - x i) (by show 0< - x k;omega) (fun j h1 h2=>by show-x j=0;rw[h0 j h1 h2];rfl)
end
section
variable {n:Nat}
theorem Ou {F:Nat->Int} {p q m:Nat} (hp:p<m) (hq:q<m):b9 (fun a=>if a=p then F q else if a=q then F p else F a) m=b9 F m:=by
 by_cases h:p=q
 ·subst h;exact aS m fun a _=>by
   by_cases e:a=p
   ·subst e;rw[if_pos rfl]
   rw[if_neg e,if_neg e]
 have h1:=rW (F:=F) (G:=fun a=>if a=p then F q else F a) hp (fun a _ hne=>(if_neg hne).symm);have h2:=rW (F:=fun a=>if a=p then F q else F a) (G:=fun a=>if a=p then F q else if a=q then F p else F a) hq (fun a _ hne=>by
  by_cases e:a=p
  ·rw[if_pos e,if_pos e]
  rw[if_neg e,if_neg e,if_neg hne])
 rw[if_pos rfl]at h1;rw[if_neg (Ne.symm h),if_pos rfl,if_neg (Ne.symm h)]at h2;omega
end
section
variable {n:Nat}
def rC (n:Nat) (t:FF):Prop:= ∀v:Nat->Int,∃y,∀j,j<n->mV n t y j=v j
theorem rC.of {t t':FF} (h:rC n t) (k: ∀x,∃y,∀j,j<n->mV n t' y j=mV n t x j):rC n t':=fun v=>by
 obtain⟨x,hx⟩:=h v;obtain⟨y,hy⟩:=k x;exact⟨y,fun j hj=>by rw[hy j hj,hx j hj]⟩
theorem rC.one:rC n (fun i j=>if i=j then 1 else 0):=fun v=>⟨v,fun j hj=>by
 show b9 (fun a=>v a*(if j=a then 1 else 0)) n=v j;rw[ii hj (fun p _ hne=>by rw[if_neg (Ne.symm hne),Int.mul_zero]),if_pos rfl,Int.mul_one]⟩
theorem rC.congr {t t':FF} (h:rC n t) (e: ∀i j,i<n->j<n->t' i j=t i j):rC n t':=h.of fun x=>⟨x,fun j hj=>aS n fun a ha=>by rw[e j a hj ha]⟩
theorem rC.swap {t:FF} (h:rC n t) {p q:Nat} (hp:p<n) (hq:q<n):rC n (fun i c=>if c=p then t i q else if c=q then t i p else t i c):=h.of fun x=>
 ⟨fun a=>if a=p then x q else if a=q then x p else x a,fun j _=>by
  unfold mV;rw[<- Ou (F:=fun a=>x a*t j a) hp hq];refine aS n fun a _=>?_
  show(if a=p then x q else if a=q then x p else x a)*(if a=p then t j q else if a=q then t j p else t j a)=if a=p then x q*t j q else if a=q then x p*t j p else x a*t j a
  by_cases e:a=p
  ·rw[if_pos e,if_pos e,if_pos e]
  rw[if_neg e,if_neg e,if_neg e];by_cases e2:a=q
  ·rw[if_pos e2,if_pos e2,if_pos e2]
  rw[if_neg e2,if_neg e2,if_neg e2]⟩
theorem rC.comb {t:FF} (h:rC n t) {i:Nat} (hi:i<n) {c:Nat->Int} (hc:c i=1):rC n (di t i (mV n t c)):=h.of fun x=>
 ⟨fun a=>if a=i then x i else x a-x i*c a,fun j _=>by
  have h1:=rW (F:=fun a=>(x a-x i*c a)*t j a) (G:=fun a=>(if a=i then x i else x a-x i*c a)*di t i (mV n t c) j a) hi (fun a _ hne=>by
   show _=(if a=i then x i else x a-x i*c a)*di t i (mV n t c) j a;unfold di;rw[if_neg hne,if_neg hne])
  have h2:b9 (fun a=>(x a-x i*c a)*t j a) n=b9 (fun a=>x a*t j a) n-x i*b9 (fun a=>c a*t j a) n:=by
   rw[<- cx];have: ∀(F G:Nat->Int) m,b9 (fun a=>F a-G a) m=b9 F m-b9 G m:=fun F G m=>by
    induction m with
    |zero=>rfl
    |succ m ih=>rw[b9,b9,b9,ih];omega
   rw[<- this];exact aS _ fun a _=>by grind
  have e1:(if i=i then x i else x i-x i*c i)*di t i (mV n t c) j i=x i*b9 (fun a=>c a*t j a) n:=by
   unfold di mV;rw[if_pos rfl,if_pos rfl]
  show b9 (fun a=>(if a=i then x i else x a-x i*c a)*di t i (mV n t c) j a) n=b9 (fun a=>x a*t j a) n;rw[h1,h2,e1,hc];have e2:(x i-x i*1)*t j i=0:=by rw[Int.mul_one,Int.sub_self,Int.zero_mul]
  rw[e2];omega⟩
theorem rC.sign {t:FF} (h:rC n t) {s:Nat->Int} (hs: ∀a,s a=1\/s a= -1):rC n (fun i c=>s c*t i c):=h.of fun x=>
 ⟨fun a=>s a*x a,fun j _=>aS n fun a _=>by
  show s a*x a*(s a*t j a)=x a*t j a;rcases hs a with e|e<;>rw[e]<;>grind⟩
/-! The program's loop. -/
/-! The reference's loop. -/
end
theorem NM (f:FF):dk f 2=f 0 0*f 1 1-f 0 1*f 1 0:=by
 simp[dk,om,dn,jV];grind
end Go.Proofs.YtiollbhgpiiodaaGreatDoor
