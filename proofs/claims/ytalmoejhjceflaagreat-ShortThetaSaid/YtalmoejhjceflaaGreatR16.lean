/-
  Part 17 of a proof (walks and plain facts).
-/
import Derived.Test.YtalmoejhjceflaaGreatR15
set_option linter.all false
set_option maxRecDepth 100000
set_option maxHeartbeats 64000000
open List renaming replicate → ae
namespace Go.Proofs.YtalmoejhjceflaaGreat
open Go.RowKit Go.Proofs.Tryz
variable {n m:Nat} {w:World} {x:Int} {b:Nat->Prop} {c:FF} {e:List Int} {f:Value} {g:OH}
def yw (f:FF):Nat->Nat->Int:=fun a b=>f b a
def GY (f:FF) (i j:Nat):Nat->Nat->Int:=fun a b=>if b<i\/(b=i/\a<j)then f b a else 0
theorem PG (f:FF) (i j a b:Nat):upd (GY f i j) j i (f i j) a b=GY f i (j+1) a b:=by
 unfold upd GY;by_cases c:a=j
 ·subst c;grind
 have:a<j+1↔a<j:=by omega
 simp_all
theorem Ty (f:FF) (i a b:Nat) (e:a<n):GY f i n a b=GY f (i+1) 0 a b:=by
 grind [GY]
theorem Tx (f:FF) (a b:Nat) (c:b<n):GY f n 0 a b=yw f a b:=by
 grind [GY,yw]
theorem PH (f:FF):GY f 0 0=fun _ _=>0:=by
 grind [GY]
theorem tV (n c:Nat) (f:FF) (h:1<=n) (x:n<=16) (o:1<=c) (w:c<=16) (C: ∀i j:Nat,i<n->j<c->Bg (f i j)):
  CallC prog 114 [dF (mat n c f)] ⟨[],.tup [(false,[.p (.sl (ls (fR fZ) (mat c n (yw f))))]),(false,[.p (.raw (.bool true))])]⟩:=by
 have m:=qv (mat n c f);rw[iN (mQ f h x o w),aU,iI f h]at m;have u:=aU n c f;have v:=wu c n w x;rw[rh,p7]at v;refine ay func114 rfl ntmps114 (aA (k:=bM [⟨1,_,_,_,m⟩] (k:=ai (bz (k:=aq rfl (ak (bM [⟨2,_,_,_,v⟩] (k:=ai (fL u (k:=?_))))))))));refine aF (G:=jo n) (fun g=>⟨(dF (mat n c f)::j4 (jk::jk::.one (.sl 20 0 0 c)::j4 (j4 (j4 (jk::jk::rN n::rN g.i::j16 (j4 (j4 (jk::jk::jk::[])))))))),Hm [(20,iT 20 c n (GY f g.i 0))]⟩) (fun g=>n-g.i) ⟨0,by omega⟩ ?_ ?_
 ·refine aj ⟨?_,trivial⟩ ?_
  ·rw[PH];exact gz 0 20 c n _
  simp[wk]
 rintro⟨i,D⟩;simp only;by_cases t:i<n
 ·have y:=bE c f t;refine ar (k:=bi rfl (ai (am (bz (k:=aK (aH y @aI) (k:=?_))))));refine aF (G:=jo c) (fun g=>⟨(dF (mat n c f)::j4 (jk::jk::.one (.sl 20 0 0 c)::rN i::j4 (j4 (j4 (jk::rN n::rN i::j4 (jk::jk::rN c::rN g.i::j16 (jk::jk::jk::[]))))))),Hm [(20,iT 20 c n (GY f i g.i))]⟩) (fun g=>c-g.i) ⟨0,by omega⟩ ?_ ?_
  ·refine aj ⟨rfl,trivial⟩ ?_;simp[wk]
  rintro⟨j,E⟩;simp only;by_cases b:j<c
  ·have s:=aB (f i) b;have m:=Pk (f i j) (C i j t b);have z:=ch (n:=c) (i:=j) 20 n b;have A:=fG n (GY f i j) b;have B:=aB (GY f i j j) t;refine ar (k:=bi rfl (ai (am (bz (k:=gf [⟨12,_,_,_,m⟩] (aH z (aH y (aH s (aH A (aH B @k9))))) (k:=bL (k:=?_)))))));refine⟨⟨j+1,by omega⟩,by grind,aj ⟨?_,trivial⟩ ?_⟩
   ·show _::_=_::_;simp_all[ca,PG]
   simp[wk]
  have r:j=c:=by omega
  subst r;refine ar (k:=bv rfl (bL (k:=?_)));refine⟨⟨i+1,by omega⟩,by grind,aj ⟨?_,trivial⟩ ?_⟩
  ·grind [ca,Ty]
  simp[wk]
 have q:i=n:=by omega
 subst q;refine ar (k:=bv rfl ?_);show bo _ _ _ _;have e:iT 20 c i (GY f i 0)=iT 20 c i (yw f):=by
  grind [ca,Tx]
 rw[e];refine bo.weak ((bH 20 (j1 rfl)).trans (aj (tm:=(j4 (jk::jk::jk::dF (mat c i (yw f))::j16 (j16 (j4 (j4 (jk::jk::jk::[]))))))) (l:=[]) trivial (by simp[wk];exact(SJ (H:=Hm [(20,iT 20 c i (yw f))]) (d:=20) (n:=c) (c:=i) (f:=yw f) rfl).symm))) ?_;refine bz (k:=aG @results114)
def idF:Nat->Nat->Int:=fun a b=>if a=b then 1 else 0
def PC (i:Nat):Nat->Nat->Int:=fun a b=>if a<i/\a=b then 1 else 0
theorem PE (i a b:Nat):upd (PC i) i i 1 a b=PC (i+1) a b:=by
 unfold upd PC;by_cases c:a=i
 ·subst c;grind
 have:a<i+1↔a<i:=by omega
 simp_all
theorem Tw (a b:Nat) (c:a<n):PC n a b=idF a b:=by grind [PC,idF]
theorem PF:PC 0=fun _ _=>0:=by rfl
theorem vR (n:Nat) (u:1<=n) (h:n<=16):
  CallC prog 56 [.raw (.int .i64 (n:Int))] ⟨iT 0 n n idF,.tup [(false,[.sl 0 0 0 n]),(false,[.p (.raw (.bool true))])]⟩:=by
 have f:=wu n n h h;rw[rh,p7]at f;have s:=fh 1 (by omega) (by omega);refine ay func56 rfl ntmps56 (aA (k:=ai (ar (k:=aq rfl (ak (bM [⟨2,_,_,_,f⟩] (k:=ai (bz (k:=?_)))))))));refine aF (G:=jo n) (fun g=>⟨(j4 (.one (.sl 14 0 0 n)::j4 (j4 (jk::jk::jk::rN n::rN g.i::j4 (j4 (jk::jk::jk::[])))))),Hm [(14,iT 14 n n (PC g.i))]⟩) (fun g=>n-g.i) ⟨0,by omega⟩ ?_ ?_
 ·refine aj ⟨?_,trivial⟩ ?_
  ·rw[PF];exact gz 0 14 n n _
  simp[wk]
 rintro⟨i,w⟩;simp only;by_cases c:i<n
 ·have o:=ch (n:=n) (i:=i) 14 n c;have q:=fG n (PC i) c;have r:=aB (PC i i) c;have v:=k9 (n:=n) (i:=i) (j:=i) n (PC i) 1;refine ar (k:=bi rfl (ai (am (bz (k:=gf [⟨5,_,_,_,s⟩] (aH o (aH q r)) (k:=bL (k:=?_)))))));refine⟨⟨i+1,by omega⟩,by grind,aj ⟨?_,trivial⟩ ?_⟩
  ·show _::_=_::_;simp_all[ca,PE]
  simp[wk]
 have b:i=n:=by omega
 subst b;refine ar (k:=bv rfl ?_);show bo _ _ _ _;have e:iT 14 i i (PC i)=iT 14 i i idF:=by
  grind [ca,Tw]
 rw[e];refine bz (k:=?_);refine aW ⟨.inr rfl,_,bD.refl _,?_⟩;refine⟨.tup [(false,[.sl 14 0 0 i]),(false,[.p (.raw (.bool true))])],14,?_,?_,?_,rfl⟩
 ·simp(disch:=omega) only[kd,results56]
 ·intro t l x m;simp at l;rcases l with rfl|rfl<;>(simp at m;subst m)<;>first|rfl|trivial
 grind [gz]
def jT (k:Nat) (f g:FF):Nat->Nat->Int:=fun i j=>dC (aQ k (f i)) (aQ k (yw g j)) k
theorem Yr (n k m:Nat) (f g:FF) (v:1<=n) (L:n<=16) (r:1<=k) (K:k<=16) (y:1<=m) (u:m<=16) (S: ∀i j:Nat,i<n->j<k->Sz (f i j) 16777216) (F: ∀i j:Nat,i<k->j<m->Sz (g i j) 16777216):
  CallC prog 115 [dF (mat n k f),dF (mat k m g)] ⟨[],.tup [(false,[.p (.sl (ls (fR fZ) (mat n m (jT k f g))))]),(false,[.p (.raw (.bool true))])]⟩:=by
 have D:=qv (mat n k f);rw[iN (mQ f v L r K),aU,iI f v]at D;have Q:=tV k m g r K y u (fun i j I J=>(F i j I J).mono (by omega));have s:=aU n k f;have t:=aU k m g;have b:=aU m k (yw g);have E:=wu n m L u;rw[rh,p7]at E;refine ay func115 rfl ntmps115 (aA (k:=bM [⟨1,_,_,_,D⟩] (k:=bM [⟨1,_,_,_,Q⟩] (k:=ai (aK t (k:=aq rfl (ak (fj [⟨4,_,_,_,E⟩] (aH s b) (k:=ai (fL s (k:=?_)))))))))));refine aF (G:=jo n) (fun q=>⟨(dF (mat n k f)::j4 (j4 (dF (mat m k (yw g))::jk::.one (.sl 41 0 0 n)::j16 (j4 (j4 (j4 (jk::jk::jk::rN n::rN q.i::j16 (j4 (j4 (jk::[])))))))))),Hm [(41,iT 41 n m (part (jT k f g) q.i 0))]⟩) (fun q=>n-q.i) ⟨0,by omega⟩ ?_ ?_
 ·refine aj ⟨?_,trivial⟩ ?_
  ·rw[tz];exact gz 0 41 n m _
  simp[wk]
 rintro⟨i,I⟩;simp only;by_cases h:i<n
 ·have R:=bE k f h;refine ar (k:=bi rfl (ai (am (bz (k:=fL b (k:=?_))))));refine aF (G:=jo m) (fun q=>⟨(dF (mat n k f)::j4 (j4 (dF (mat m k (yw g))::jk::.one (.sl 41 0 0 n)::rN i::j16 (j4 (j4 (j4 (jk::jk::rN n::rN i::jk::jk::jk::rN m::rN q.i::j16 (j4 ([]))))))))),Hm [(41,iT 41 n m (part (jT k f g) i q.i))]⟩) (fun q=>m-q.i) ⟨0,by omega⟩ ?_ ?_
  ·refine aj ⟨rfl,trivial⟩ ?_;simp[wk]
  rintro⟨j,J⟩;simp only;by_cases o:j<m
  ·have A:=bE k (yw g) o;have C:=Im (aQ k (f i)) (aQ k (yw g j)) (by rw[aI];omega) (by grind [aI]) (fun z B=>by
    obtain⟨p,M,rfl⟩:=aai.1 B;grind) (fun z B=>by
    obtain⟨p,M,rfl⟩:=aai.1 B;exact(F p j (aaK.1 M) o).mono (by omega))
   rw[aI,show dC (aQ k (f i)) (aQ k (yw g j)) k=jT k f g i j from rfl]at C;have N:=ch (n:=n) (i:=i) 41 m h;have O:=fG m (part (jT k f g) i j) h;have P:=aB (part (jT k f g) i j i) o;refine ar (k:=bi rfl (ai (am (bz (k:=gf [⟨13,_,_,_,C⟩] (aH N (aH R (aH A (aH O (aH P @k9))))) (k:=bL (k:=?_)))))));refine⟨⟨j+1,by omega⟩,by grind,aj ⟨?_,trivial⟩ ?_⟩
   ·show _::_=_::_;grind [ca,io]
   simp[wk]
  have x:j=m:=by omega
  subst x;refine ar (k:=bv rfl (bL (k:=?_)));refine⟨⟨i+1,by omega⟩,by grind,aj ⟨?_,trivial⟩ ?_⟩
  ·grind [ca,jK]
  simp[wk]
 have w:i=n:=by omega
 subst w;refine ar (k:=bv rfl ?_);show bo _ _ _ _;have e:iT 41 i m (part (jT k f g) i 0)=iT 41 i m (jT k f g):=by
  grind [ca,jJ]
 rw[e];refine bo.weak ((bH 41 (j1 rfl)).trans (aj (tm:=(j4 (j4 (jk::jk::jk::dF (mat i m (jT k f g))::j16 (j16 (j16 (j4 (j4 (jk::jk::[]))))))))) (l:=[]) trivial (by simp[wk];exact(SJ (H:=Hm [(41,iT 41 i m (jT k f g))]) (d:=41) (n:=i) (c:=m) (f:=jT k f g) rfl).symm))) ?_;refine bz (k:=aG @results115)
theorem sI (n k m:Nat) (f g:FF) (h:1<=n) (r:n<=16) (b:1<=k) (q:k<=16) (c:1<=m) (e:m<=16) (o: ∀i j:Nat,i<n->j<k->Sz (f i j) 16777216) (p: ∀i j:Nat,i<k->j<m->Sz (g i j) 16777216):
  CallC prog 60 [dF (mat n k f),dF (mat k m g)] ⟨[],dF (mat n m (jT k f g))⟩:=by
 have l:=Yr n k m f g h r b q c e o p;refine ay func60 rfl ntmps60 (aA (k:=bM [⟨2,_,_,_,l⟩] (k:=bz (k:=aG @results60))))
theorem Tb {k:Nat} {f g:FF} {b c i:Nat} (m: ∀p,p<k->Sz (f i p) b) (l: ∀p,p<k->Sz (g p n) c):Sz (jT k f g i n) (b+c+k):=by
 refine my (gp fun z e=>?_) (gp fun z e=>?_) k
 ·obtain⟨p,h,rfl⟩:=aai.1 e;grind
 obtain⟨p,h,rfl⟩:=aai.1 e;exact l p (aaK.1 h)
def F1 (n:Nat) (h t:FF):Nat->Nat->Int:=jT n (jT n (yw t) h) t
theorem Cx (n:Nat) (h t:FF) (e:1<=n) (l:n<=16) (q: ∀i j:Nat,i<n->j<n->Sz (h i j) 500) (m: ∀i j:Nat,i<n->j<n->Sz (t i j) 500):
  CallC prog 59 [dF (mat n n h),dF (mat n n t)] ⟨[],dF (mat n n (F1 n h t))⟩:=by
 have r:=tV n n t e l e l (fun i j f g=>(m i j f g).mono (by omega));have s:=sI n n n (yw t) h e l e l e l (fun i j f g=>(m j i g f).mono (by omega)) (fun i j f g=>(q i j f g).mono (by omega));have u:=sI n n n (jT n (yw t) h) t e l e l e l (fun i j f g=>(Tb (b:=500) (c:=500) (fun p o=>m p i o f) (fun p o=>q p j o g)).mono (by omega)) (fun i j f g=>(m i j f g).mono (by omega));refine ay func59 rfl ntmps59 (aA (k:=bM [⟨1,_,_,_,r⟩] (k:=bM [⟨2,_,_,_,s⟩,⟨4,_,_,_,u⟩] (k:=aG (aH @results59 @F1.eq_1)))))
def dJ (F:Nat->Int):Nat->Int
 |0=>0
 |k+1=>dJ F k+F k
theorem bA {F G:Nat->Int}: ∀k,(∀p,p<k->F p=G p)->dJ F k=dJ G k
 |0,_=>rfl
 |k+1,h=>by rw[dJ,dJ,bA k (fun p b=>h p (by omega)),h k (by omega)]
theorem vE (F G:Nat->Int): ∀k,dJ (fun p=>F p+G p) k=dJ F k+dJ G k
 |0=>rfl
 |k+1=>by rw[dJ,dJ,dJ,vE F G k];omega
theorem iO: ∀k,dJ (fun _=>0) k=0
 |0=>rfl
 |k+1=>by rw[dJ,iO k];rfl
theorem pc {F:Nat->Int} {a:Nat}: ∀{k},a<k->(∀p,p<k->p≠a->F p=0)->dJ F k=F a
 |k+1,h,b=>by
  by_cases e:a=k
  ·subst e;rw[dJ,bA a (G:=fun _=>0) (fun p f=>b p (by omega) (by omega)),iO];omega
  rw[dJ,pc (show a<k by omega) (fun p f c=>b p (by omega) c),b k (by omega) (by omega)];omega
theorem qD {k:Nat} (x y:Nat->Int): ∀l,l<=k->dC (aQ k x) (aQ k y) l=dJ (fun p=>x p*y p) l
 |0,_=>rfl
 |l+1,h=>by
  show dC (aQ k x) (aQ k y) l+(aQ k x).getD l 0*(aQ k y).getD l 0=_;rw[qD x y l (by omega),aav,aav,aB _ (by omega),aB _ (by omega)];rfl
theorem rk (k:Nat) (f g:FF) (i j:Nat):jT k f g i j=dJ (fun p=>f i p*g p j) k:=qD _ _ k (aaq _)
def Rw (i j:Nat) (c:Int):Nat->Nat->Int:=upd idF j i c
def Qx (m:Nat):Nat->Nat->Int:=fun a=>idF (ql m a)
theorem TW (m a:Nat):ql m (ql m a)=a:=by
 grind [ql]
theorem VW {i:Nat} (f:n≠i) (p b:Nat):Rw i n x p b=idF p b+(if p=n then(if b=i then x else 0)else 0):=by
 unfold Rw upd idF;by_cases e:p=n
 ·subst e;grind
 simp[e]
theorem Qw {y:Nat->Int} (c:m<n):dJ (fun p=>y p*idF p m) n=y m:=by
 grind [pc,idF]
theorem GK {i:Nat} {c:Int} (e:m≠i) (g:m<n) (x:FF) (a b:Nat) (f:b<n):jT n x (Rw i m c) a b=x a b+(if b=i then c*x a m else 0):=by
 rw[rk,bA n (G:=fun p=>x a p*idF p b+x a p*(if p=m then(if b=i then c else 0)else 0)) (fun p _=>by rw[VW e,Int.mul_add]),vE,Qw f];grind [pc]
theorem VX {i:Nat} (f:m≠i) (h:m<n) (e:FF) (a b:Nat) (g:a<n):jT n (yw (Rw i m x)) e a b=e a b+(if a=i then x*e m b else 0):=by
 have:=GK (c:=x) f h (yw e) b a g;grind [rk,yw]
theorem Ss {i:Nat} (e:m≠i) (l:m<n) (f:FF) (a b:Nat) (g:a<n) (h:b<n):F1 n f (Rw i m x) a b=eZ f i m x a b:=by
 unfold F1;grind [GK,VX,eZ]
theorem SN (m p b:Nat):idF (ql m p) b=idF p (ql m b):=by
 grind [idF,TW]
theorem GL (e:m+1<n) (x:FF) (a b:Nat) (c:b<n):jT n x (Qx m) a b=x a (ql m b):=by
 rw[rk,bA n (G:=fun p=>x a p*idF p (ql m b)) (fun p _=>by rw[<- SN];rfl),Qw (qm e c)]
theorem XC (e:m+1<n) (x:FF) (a b:Nat) (c:a<n):jT n (yw (Qx m)) x a b=x (ql m a) b:=by
 have:=GL e (yw x) b a c;grind [rk,yw]
theorem Wm (c:m+1<n) (f:FF) (a b:Nat) (e:a<n) (g:b<n):F1 n f (Qx m) a b=lO f m a b:=by
 unfold F1;rw[GL c _ a b g,XC c f a _ e];rfl
/-! Which change is made. -/
inductive Ch where
 |add (i j:Nat)
 |swp (m:Nat)
instance (f:FF) (i j:Nat):Decidable (SizF f i j):=by unfold SizF;exact inferInstance
instance (f:FF) (i:Nat):Decidable (LovF f i):=by unfold LovF;exact inferInstance
def scanJ (f:FF) (i:Nat):Nat->Option Nat
 |0=>none
 |j+1=>if SizF f i j then scanJ f i j else some j
def scanI (f:FF):Nat->Nat->Option Ch
 |0,_=>none
 |m+1,i=>match scanJ f i i with
  |some j=>some (.add i j)
  |none=>if 0<i/\ ¬LovF f i then some (.swp (i-1))else scanI f m (i+1)
def scanF (f:FF) (n:Nat):Option Ch:=scanI f n 0
theorem nd {f:FF} {i:Nat}: ∀{k},scanJ f i k=none-> ∀j,j<k->SizF f i j
 |k+1,h,j,b=>by
  unfold scanJ at h;split at h
  ·rename_i c;by_cases e:j=k
   ·grind
   exact nd h j (by omega)
  cases h
theorem yf {f:FF} {i j:Nat}: ∀{k},scanJ f i k=some j->j<k/\ ¬SizF f i j/\ ∀b,j<b->b<k->SizF f i b
 |k+1,h=>by
  unfold scanJ at h;split at h
  ·rename_i l;obtain⟨c,e,g⟩:=yf h;grind
  grind
def tU (f:FF) (i:Nat):Prop:=(∀j,j<i->SizF f i j)/\(0<i->LovF f i)
theorem yc {f:FF}: ∀{m i},scanI f m i=none-> ∀b,i<=b->b<i+m->tU f b
 |0,i,_,b,c,g=>by omega
 |m+1,i,h,b,c,g=>by
  unfold scanI at h;split at h
  ·cases h
  rename_i j;split at h
  ·cases h
  rename_i n;by_cases e:b=i
  ·subst e;exact⟨nd j,fun l=>by
    grind⟩
  exact yc h b (by omega) (by omega)
def Zk (f:FF):Ch->Prop
 | .add i j=>j<i/\ ¬SizF f i j/\(∀c,j<c->c<i->SizF f i c)/\ ∀b,b<i->tU f b
 | .swp m=> ¬LovF f (m+1)/\(∀j,j<m+1->SizF f (m+1) j)/\ ∀b,b<m+1->tU f b
def II:Ch->Nat
 | .add i _=>i
 | .swp m=>m+1
theorem ye {f:FF} {c:Ch}: ∀{m i},(∀b,b<i->tU f b)->scanI f m i=some c->Zk f c/\II c<i+m
 |m+1,i,p,h=>by
  unfold scanI at h;split at h
  ·rename_i j g;injection h with h
   subst h;obtain⟨l,n,o⟩:=yf g;exact⟨⟨l,n,o,p⟩,by simp[II]⟩
  rename_i g;split at h
  ·rename_i q;injection h with h
   subst h;have e:i-1+1=i:=by omega
   refine⟨⟨by grind,by grind [nd],by grind⟩,by grind [II]⟩
  rename_i q;have:=ye (m:=m) (i:=i+1) (fun b r=>by
   by_cases e:b=i
   ·subst e;exact⟨nd g,fun s=>by
     grind⟩
   grind) h
  grind
theorem je {b:Ch} (h:scanF c n=some b):Zk c b/\II b<n:=by
 have:=ye (f:=c) (m:=n) (i:=0) (fun e h=>by omega) h;grind
theorem G8 (h:scanF c n=none):VH c n:=fun i b=>yc (m:=n) (i:=0) h i (by omega) (by omega)
def yx (i:Nat):Nat:=i*(i-1)/2
def Eg:Ch->Nat
 | .add i j=>yx i+(i-1-j)
 | .swp m=>yx (m+2)
theorem mq (i:Nat):yx (i+1)=yx i+i:=by
 unfold yx;cases i with
 |zero=>rfl
 |succ i=>
  grind
theorem ko {i:Nat} (h:i<=n):yx i<=yx n:=by
 induction n with
 |zero=>grind
 |succ n b=>
  grind [mq]
def rankF (f:FF) (n:Nat):Nat:=match scanF f n with
 |some c=>Eg c
 |none=>yx n
theorem xU (f:FF) (n:Nat):rankF f n<=yx n:=by
 unfold rankF;split
 ·rename_i c e;obtain⟨g,b⟩:=je e;cases c with
  |add i j=>
   have b:i<n:=b;have:=ko (show i+1<=n by omega);grind [mq,Eg]
  |swp m=>
   have b:m+1<n:=b;exact ko (show m+2<=n by omega)
 omega
theorem TB {i:Nat} (z:m<i) (y:i<n) (s: ∀g,g<i->tU c g) (x: ∀l,m<=l->l<i->SizF c i l):yx i+(i-1-m)<rankF c n:=by
 have p:=ko (show i+1<=n by omega);rw[mq]at p;unfold rankF;split
 ·rename_i b u;obtain⟨r,w⟩:=je u;cases b with
  |add g l=>
   obtain⟨o,q,t,v⟩:=r;simp only[Eg];rcases abx g i with h|h|h
   ·exact absurd ((s g h).1 l o) q
   ·grind
   have:=ko (show i+1<=g by omega);grind [mq]
  |swp e=>
   obtain⟨o,q,t⟩:=r;simp only[Eg];by_cases h:e+1<i
   ·exact absurd ((s (e+1) h).2 (by omega)) o
   have:=ko (show i+1<=e+2 by omega);grind [mq]
 omega
section
theorem C3 {d1 d0 y u v:Int} (j:0<d1) (c:d0.natAbs<=n) (h:d1*x=d0*y+u*v):x.natAbs<=n*y.natAbs+u.natAbs*v.natAbs:=by
 have e:d1.natAbs*x.natAbs=(d0*y+u*v).natAbs:=by rw[<- abv,h]
 have b:=adF (d0*y) (u*v);rw[abv,abv]at b;have f:d0.natAbs*y.natAbs<=n*y.natAbs:=aat _ c;have g:x.natAbs<=d1.natAbs*x.natAbs:=acM _ (by omega);omega
theorem Ph {d1 d0 y l:Int} (c:0<d1) (b:0<d0) (e:0<x) (f:0<y) (h:d1*x=d0*y+l*l):d1.natAbs*x.natAbs=d0.natAbs*y.natAbs+l.natAbs*l.natAbs:=by
 grind [Int.natAbs_mul_self']
structure Def (f:FF) (n B:Nat):Prop where
 sym:SymF f n
 pos: ∀t,t<n->0<dk f (t+1)
 le: ∀k,k<=n->(dk f k).natAbs<=B
section
variable {f:FF} {n B:Nat}
theorem Def.ne (h:Def f n B): ∀t,t<n->dk f (t+1)≠0:=fun t b=>by have:=h.pos t b;omega
theorem Def.pos0 (h:Def f n B) {k:Nat} (b:k<=n):0<dk f k:=by
 cases k with
 |zero=>rw[cu];omega
 |succ k=>exact h.pos k (by omega)
theorem Def.sylv (h:Def f n B) {k a b:Nat} (e:k<n) (j:a<n) (c:b<n):dk f (k+1)*bk f k a b=dk f k*bk f (k+1) a b+bk f k a k*bk f k b k:=by
 have s:=Go.Proofs.YtalmoejhjceflaaGreat.sylv f k (fun t g=>h.ne t (by omega)) a b;rw[iD h.sym k (by omega) (fun t g=>h.ne t (by omega)) k b e c]at s;omega
theorem Def.diag (h:Def f n B) {a:Nat} (b:a<n): ∀m k,a-k=m->k<=a->0<bk f k a a
 |0,k,e,c=>by
  have:k=a:=by omega
  subst this;rw[<- cb];exact h.pos k b
 |m+1,k,e,c=>by
  have g:=h.diag b m (k+1) (by omega) (by omega);have s:=h.sylv (k:=k) (by omega) b b;have l:=h.pos k (by omega);have j:=h.pos0 (k:=k) (by omega);have o:=aeb j g;have p:0<=bk f k a k*bk f k a k:=by
   rcases acm 0 (bk f k a k)with h|h
   ·exact aaZ h h
   exact aa4 h h
  rcases acy 0 (bk f k a a)with h|h
  ·exact h
  have:=ac4 (acd l) h;omega
theorem Def.down (h:Def f n B) {a k:Nat} (b:a<n) (e:k<a):(bk f k a k).natAbs*(bk f k a k).natAbs<=B*(bk f k a a).natAbs/\(bk f (k+1) a a).natAbs<=B*(bk f k a a).natAbs:=by
 have s:=Ph (h.pos k (by omega)) (h.pos0 (k:=k) (by omega)) (h.diag b _ k rfl (by omega)) (h.diag b _ (k+1) rfl (by omega)) (h.sylv (k:=k) (by omega) b b);have c:=aat (bk f k a a).natAbs (h.le (k+1) (by omega));have g:=h.pos0 (k:=k) (by omega);have:=acM (bk f (k+1) a a).natAbs (show 0<(dk f k).natAbs by omega);omega
theorem Def.nm (h:Def f n B) {a:Nat} (b:a<n): ∀k,k<=a->(bk f k a a).natAbs<=B^k*(f a a).natAbs
 |0,_=>by rw[dr];simp
 |k+1,g=>by
  have c:=(h.down b (show k<a by omega)).2;have e:=aao B (h.nm b k (by omega));grind
theorem Def.lam_le (h:Def f n B) {a k:Nat} (b:a<n) (j:k<a) (e:1<=B) (g:(f a a).natAbs<=m):(bk f k a k).natAbs<=B^n*m:=by
 have l:=(h.down b j).1;have o:=aao B (h.nm b k (by omega));have p:(bk f k a k).natAbs<=(bk f k a k).natAbs*(bk f k a k).natAbs:=Nat.le_mul_self _;have q:B*(B^k*(f a a).natAbs)=B^(k+1)*(f a a).natAbs:=by grind
 have c:B^(k+1)<=B^n:=aaE e (by omega);have r:B^(k+1)*(f a a).natAbs<=B^n*m:=aaU c g;omega
theorem Def.up (h:Def f n B) {a L:Nat} (b:a<n) (c: ∀k,k<a->(bk f k a k).natAbs<=L): ∀m k,a-k=m->k<=a->(bk f k a a).natAbs<=(B+L*L)*(B+1)^m
 |0,k,j,g=>by
  have:k=a:=by omega
  subst this;rw[<- cb];have:=h.le (k+1) (by omega)
  simp;omega
 |m+1,k,j,g=>by
  have l:=h.up b c m (k+1) (by omega) (by omega);have s:=C3 (h.pos k (by omega)) (h.le k (by omega)) (h.sylv (k:=k) (by omega) b b);have e:=c k (by omega);have o:=aaU e e;have p:=aao B l;have q:L*L<=(B+L*L)*(B+1)^m:=aaj (by omega) (abK _ (abk (by omega)));grind [Nat.mul_add]
theorem Def.norm_le (h:Def f n B) {a:Nat} (e:a<n) (c: ∀k,k<a->(bk f k a k).natAbs<=m):(f a a).natAbs<=(B+m*m)*(B+1)^n:=by
 have b:=h.up e c a 0 rfl (by omega);rw[dr]at b;exact aaj b (aao _ (aaE (by omega) (by omega)))
theorem Def.ent_up (h:Def f n B) {a b L:Nat} (e:a<n) (g:b<a) (c: ∀a k,a<n->k<a->(bk f k a k).natAbs<=L): ∀m k,b-k=m->k<=b->(bk f k a b).natAbs<=(L+L*L)*(B+1)^m
 |0,k,l,j=>by
  grind
 |m+1,k,l,j=>by
  have o:=h.ent_up e g c m (k+1) (by omega) (by omega);have s:=C3 (h.pos k (by omega)) (h.le k (by omega)) (h.sylv (k:=k) (a:=a) (b:=b) (by omega) e (by omega));have p:=aaU (c a k e (by omega)) (c b k (by omega) (by omega));have q:=aao B o;have r:L*L<=(L+L*L)*(B+1)^m:=aaj (by omega) (abK _ (abk (by omega)));grind [Nat.mul_add]
theorem Def.ent_le (h:Def f n B) (l: ∀a k,a<n->k<a->(bk f k a k).natAbs<=m) {a b:Nat} (c:a<n) (j:b<n):(f a b).natAbs<=(B+m+m*m)*(B+1)^n:=by
 have key: ∀a b,a<n->b<a->(f a b).natAbs<=(B+m+m*m)*(B+1)^n:=fun a b c j=>by
  have g:=h.ent_up c j l b 0 rfl (by omega);rw[dr]at g;refine aaj g (aaU (by omega) (aaE (by omega) (by omega)))
 rcases abx a b with e|e|e
 ·rw[h.sym a c b j];grind
 ·subst e;have g:=h.norm_le c (fun k o=>l a k c o);grind
 grind
end
/-! The numbers of the reduction. -/
section
variable {f:FF} {n B:Nat}
def cN (n B:Nat):Nat:=(B+B*B)*(B+1)^n
def l0 (n B:Nat):Nat:=B^n*cN n B
theorem yl (h:Def f n B) {i:Nat} (b:i<n) (c:m<i):SizF f i m↔2*((bk f m i m).natAbs:Int)<=dk f (m+1):=by
 rw[SizF,pU h.pos (by omega),kT h.pos (by omega)]
theorem GH (h:Def f n B) {i:Nat} (c:i<n) (b:0<i):LovF f i↔3*(dk f i*dk f i)<=4*(dk f (i-1)*dk f (i+1)+bk f (i-1) i (i-1)*bk f (i-1) i (i-1)):=by
 rw[LovF,pU h.pos (by omega),kT h.pos (by omega),kT h.pos (by omega),kT h.pos (by omega)]
theorem Hd (h:Def f n B) {i:Nat} (b:i<n) (c:m<i) (e:SizF f i m):(bk f m i m).natAbs<=B:=by
 have g:=(yl h b c).1 e;have l:=h.le (m+1) (by omega);omega
theorem tE (h:Def f n B) {i:Nat} (b:i<n) (e: ∀j,j<i->SizF f i j):(f i i).natAbs<=cN n B:=h.norm_le b fun k c=>Hd h b c (e k c)
def Jn (f:FF) (n B:Nat):Prop:=(∀a,a<n->(f a a).natAbs<=cN n B)\/
 ∃i,i<n/\(∀a,a<n->a≠i->(f a a).natAbs<=cN n B)/\(∀c,c<i->tU f c)/\ ∃s,s<=i/\(∀b,s<=b->b<i->SizF f i b)/\ ∀k,k<i->(bk f k i k).natAbs+2<=(l0 n B+2)*(B+2)^(i-s)
def lM (n B:Nat):Nat:=(l0 n B+2)*(B+2)^n
theorem Jn.lam (h:Def f n B) (l:1<=B) (c:Jn f n B): ∀a k,a<n->k<a->(bk f k a k).natAbs<=lM n B:=by
 have j:l0 n B<=lM n B:=aaj (by omega) (abK _ (abk (by omega)));have o: ∀e,e<=n->(l0 n B+2)*(B+2)^e<=lM n B:=fun e m=>aao _ (aaE (by omega) m)
 rcases c with c|⟨i,p,c,_,s,r,_,q⟩
 ·exact fun a k b g=>aaj (h.lam_le b g l (c a b)) j
 intro a k b g;by_cases e:a=i
 ·grind
 exact aaj (h.lam_le b g l (c a b e)) j
def eN (n B:Nat):Nat:=(B+lM n B+lM n B*lM n B)*(B+1)^n
theorem Jn.ent (h:Def f n B) (c:1<=B) (j:Jn f n B) {a:Nat} (e:a<n) (g:m<n):(f a m).natAbs<=eN n B:=h.ent_le (j.lam h c) e g
end
end
section
theorem Tz {d:Int} (f:0<d):2*((x+ -(qF x d)*d).natAbs:Int)<=d:=by
 unfold qF;have b:=ad4 (2*x+d) (2*d);have c:=adZ (2*x+d) (show 2*d≠0 by omega);have e:=adt (2*x+d) (show 0<2*d by omega);grind
theorem GZ {l d:Int} (n:0<d):(qF l d).natAbs<=l.natAbs+1:=by
 unfold qF;have b:=ad4 (2*l+d) (2*d);have g:=adZ (2*l+d) (show 2*d≠0 by omega);have j:=adt (2*l+d) (show 0<2*d by omega);generalize(2*l+d)/(2*d)=q at*
 have e:2*d*q=2*(d*q):=aem 2 d q;rw[e]at b;have c:(d*q).natAbs=d.natAbs*q.natAbs:=abv d q;have f:l.natAbs<=d.natAbs*l.natAbs:=acM _ (by omega);rcases acO (l.natAbs+1) q.natAbs with h|h
 ·exfalso;have m:=aao d.natAbs (show l.natAbs+2<=q.natAbs by omega);grind
 exact h
section
variable {f:FF} {n B:Nat}
theorem No (g:SymF f n) {i:Nat} (c:Int) (p:m<n):SymF (eZ f i m c) n:=fun a l b o=>by
 by_cases q:a=b
 ·grind
 unfold eZ;rw[g a l b o];by_cases h:a=i
 ·by_cases e:b=i
  ·omega
  simp only[h,e,if_true,if_false];rw[g m p b o];omega
 by_cases e:b=i
 ·simp only[h,e,if_true,if_false];rw[g a l m p];omega
 omega
theorem Def.add (h:Def f n B) {i:Nat} (c:Int) (b:m<i) (l:i<n):Def (eZ f i m c) n B:=by
 obtain⟨e,_⟩:=ky h.sym h.ne c b l;exact⟨No h.sym c (by omega),fun t o=>by rw[e (t+1) (by omega)];exact h.pos t o,fun k g=>by rw[e k g];exact h.le k g⟩
theorem Aq (h:Def f n B) {i:Nat} (c:Int) (e:m<i) (r:i<n) {b:Nat} (t:b<i) (s:tU f b):tU (eZ f i m c) b:=by
 have p:=h.add c e r;obtain⟨l,u,v⟩:=ky h.sym h.ne c e r;have q: ∀k,k<b->bk (eZ f i m c) k b k=bk f k b k:=fun k g=>by
  grind [wy]
 refine⟨fun k g=>?_,fun o=>?_⟩
 ·rw[yl p (by omega) g,q k g,l _ (by omega)];exact(yl h (by omega) g).1 (s.1 k g)
 rw[GH p (by omega) o,q _ (by omega),l _ (by omega),l _ (by omega),l _ (by omega)];exact(GH h (by omega) o).1 (s.2 o)
def cF (f:FF) (i j:Nat):Int:= -(qF (lam f i j) (dd f (j+1)))
theorem NC (h:Def f n B) {i:Nat} (b:m<n):cF f i m= -(qF (bk f m i m) (dk f (m+1))):=by rw[cF,pU h.pos b,kT h.pos (by omega)]
theorem Ce (h:Def f n B) {i:Nat} (c:m<i) (g:i<n) {b:Nat} (s:m<=b) (q:b<i) (t:m<b->SizF f i b):SizF (eZ f i m (cF f i m)) i b:=by
 have p:=h.add (cF f i m) c g;obtain⟨l,o,r⟩:=ky h.sym h.ne (cF f i m) c g;rw[yl p g q,l _ (by omega)];by_cases e:b=m
 ·subst e;rw[o b i b (by omega)];have:eZ (bk f b) i b (cF f i b) i b=bk f b i b+cF f i b*dk f (b+1):=by
   unfold eZ;grind [cb]
  rw[this,NC h (by omega)];exact Tz (h.pos b (by omega))
 grind [yl]
theorem VC (h:Def f n B) (F:1<=B) (Q:Jn f n B) {i:Nat} (P:Zk f (.add i m)) (g:i<n):Jn (eZ f i m (cF f i m)) n B:=by
 obtain⟨b,z,X,A⟩:=P;obtain⟨g1,L,g3⟩:=ky h.sym h.ne (cF f i m) b g;have H: ∀a,a≠i->eZ f i m (cF f i m) a a=f a a:=fun a o=>wy o o
 -- the new lambdas of row i
 have u: ∀M:Nat,(∀k,k<i->(bk f k i k).natAbs+2<=M)-> ∀k,k<i->(bk (eZ f i m (cF f i m)) k i k).natAbs+2<=M*(B+2):=fun M v k l=>by
  have S:=v k l;have R:=v m b;have e0:M*(B+2)=M*B+2*M:=by grind
  rcases abx k m with e|e|e
  ·rw[L k i k (by omega)];have K:eZ (bk f k) i m (cF f i m) i k=bk f k i k+cF f i m*bk f k m k:=by
    grind [eZ]
   rw[K];have I:=adF (bk f k i k) (cF f i m*bk f k m k);rw[abv]at I;have a2:(cF f i m).natAbs<=(bk f m i m).natAbs+1:=by rw[NC h (by omega),Int.natAbs_neg];exact GZ (h.pos m (by omega))
   have J:(bk f k m k).natAbs<=B:=Hd h (by omega) e ((A m b).1 k e);have a4:=aaU (show(cF f i m).natAbs<=M by omega) J;omega
  ·subst e;have hz:=Ce h b g (aaq k) l (fun h=>by omega);have:=Hd (h.add (cF f i k) b g) g l hz;have:B<=M*B:=acM _ (by omega);omega
  grind
 have c: ∀M e:Nat,1<=e->e<=i-m->M*(B+2)<=(l0 n B+2)*(B+2)^e->(∀a,a<n->a≠i->(f a a).natAbs<=cN n B)->(∀k,k<i->(bk f k i k).natAbs+2<=M)->Jn (eZ f i m (cF f i m)) n B:=fun M e T x w q v=>by
  refine .inr ⟨i,g,fun a o W=>by grind,fun i' t=>Aq h _ b g t (A i' t),m,by omega,fun j' N E=>Ce h b g N E (fun O=>X j' O E),fun k l=>?_⟩;refine aaj (u M v k l) (aaj w (aao _ (aaE (by omega) x)))
 rcases Q with q|⟨p,y,q,C,s,Y,Z,V⟩
 ·refine c (l0 n B+2) 1 (by omega) (by omega) (by simp) (fun a o _=>q a o) (fun k l=>?_);have:(bk f k i k).natAbs<=l0 n B:=h.lam_le g l F (q i g);omega
 by_cases e:p=i
 ·subst e;have U:m<s:=by
   grind
  refine c ((l0 n B+2)*(B+2)^(p-s)) (p-s+1) (by omega) (by omega) (by grind) q V
 have G:(f p p).natAbs<=cN n B:=by
  rcases acO p i with D|D
  ·exact tE h y (A p D).1
  exact absurd ((C i (by omega)).1 m b) z
 have r: ∀a,a<n->(f a a).natAbs<=cN n B:=fun a o=>by
  grind
 refine c (l0 n B+2) 1 (by omega) (by omega) (by simp) (fun a o _=>r a o) (fun k l=>?_);have:(bk f k i k).natAbs<=l0 n B:=h.lam_le g l F (r i g);omega
theorem AC (h:Def f n B) (c:m+1<n) (o: ¬LovF f (m+1)):4*dk (lO f m) (m+1)<3*dk f (m+1)/\0<dk (lO f m) (m+1):=by
 obtain⟨e,g⟩:=yv h.sym h.pos c;refine⟨?_,g⟩;have j: ¬3*(dk f (m+1)*dk f (m+1))<=4*(dk f m*dk f (m+2)+bk f m (m+1) m*bk f m (m+1) m):=fun l=>o ((GH h c (by omega)).2 l)
 rw[<- e]at j;have p:=h.pos m (by omega);rcases acy (4*dk (lO f m) (m+1)) (3*dk f (m+1))with b|b
 ·exact b
 exfalso;have q:=aaB b (acd p);grind
theorem Def.swap (h:Def f n B) (c:m+1<n) (q: ¬LovF f (m+1)):Def (lO f m) n B:=by
 obtain⟨j,_⟩:=oF h.sym h.pos c;obtain⟨s,u⟩:=AC h c q;have p:=h.pos m (by omega);refine⟨fun a l b o=>h.sym _ (qm c l) _ (qm c o),fun t r=>?_,fun k g=>?_⟩
 ·by_cases e:t=m
  ·grind
  rw[j (t+1) (by omega) (by omega)];exact h.pos t r
 by_cases e:k=m+1
 ·subst e;have:=h.le (m+1) g;omega
 rw[j k g e];exact h.le k g
theorem RK (h:Def f n B) (p:Jn f n B) (o:Zk f (.swp m)) (q:m+1<n):Jn (lO f m) n B:=by
 obtain⟨j,t,r⟩:=o;have c: ∀a,a<n->(f a a).natAbs<=cN n B:=by
  rcases p with c|⟨i,s,c,l,_⟩
  ·exact c
  intro a g;by_cases e:a=i
  ·subst e;rcases abx a (m+1)with b|b|b
   ·exact tE h g (r a b).1
   ·grind [tE]
   exact absurd ((l (m+1) b).2 (by omega)) j
  grind
 exact .inl fun a g=>c _ (qm q g)
def prD (f:FF):Nat->Nat
 |0=>1
 |k+1=>prD f k*(dk f (k+1)).natAbs
theorem tA {g:FF}: ∀k,(∀t,t<k->dk g (t+1)=dk f (t+1))->prD g k=prD f k
 |0,_=>rfl
 |k+1,h=>by rw[prD,prD,tA k (fun t b=>h t (by omega)),h k (by omega)]
theorem JB (h:Def f n B): ∀k,k<=n->0<prD f k
 |0,_=>by simp[prD]
 |k+1,b=>by
  have:=h.pos k (by omega);exact adI (JB h k (by omega)) (by omega)
theorem PB (h:Def f n B): ∀k,k<=n->prD f k<=B^k
 |0,_=>by simp[prD]
 |k+1,b=>by rw[prD,aby];exact aaU (PB h k (by omega)) (h.le (k+1) b)
theorem Eb (h:Def f n B) {m:Nat} (c:m+1<n) (j: ¬LovF f (m+1)): ∀k,m<k->k<=n->4*prD (lO f m) k<=3*prD f k
 |k+1,r,b=>by
  obtain⟨g,_⟩:=oF h.sym h.pos c;obtain⟨o,q⟩:=AC h c j;have p:=h.pos m (by omega);rw[prD,prD];by_cases e:k=m
  ·subst e;rw[tA k (fun t s=>g (t+1) (by omega) (by omega)),ac9,ac9 3];exact aao _ (by omega)
  have l:=Eb h c j k (by omega) (by omega);rw[g (k+1) b (by omega),<- ace,<- ace];exact aat _ l
end
/-! Bounds of the minors of a matrix of small entries. -/
theorem ON {E:Nat} {r:Nat->Int} (f: ∀c,(r c).natAbs<=E) {M:Nat}: ∀(b:List Nat) (N:Nat) (F:List Nat->Int),b.length<=N->(∀l,l.length<=N->(F l).natAbs<=M)->(gG r F b).natAbs<=b.length*(E*M)
 |[],_,_,_,_=>by simp[gG]
 |c::b,N,F,m,e=>by
  rw[gG];have g:=Int.natAbs_sub_le (r c*F b) (gG r (fun l=>F (c::l)) b);have h:=ON f b (N-1) (fun l=>F (c::l)) (by grind) (fun l n=>e (c::l) (by grind));rw[abv]at g;have j:=aaU (f c) (e b (by grind));grind [Nat.add_mul]
theorem Ve {E L:Nat} {f:FF} (e: ∀a b,(f a b).natAbs<=E): ∀k l,l.length<=L->(om f k l).natAbs<=(L*E)^k
 |0,l,_=>by simp[om]
 |k+1,l,c=>by
  rw[om];have:=ON (e k) l L (om f k) c (fun l c=>Ve e k l c);have g:l.length*(E*(L*E)^k)<=L*(E*(L*E)^k):=aat _ c;grind
theorem IS: ∀k,(yC k).length=k
 |0=>rfl
 |k+1=>by rw[yC,aaG,IS k]
abbrev bB:Nat:=722204136308736
theorem Wv {L:Nat} (e:1<=L*n) (g: ∀a b,(c a b).natAbs<=n) {k:Nat} (h:k<=L):(dk c k).natAbs<=(L*n)^L:=
 aaj (Ve g k (yC k) (by grind [IS])) (aaE e h)
theorem YK (e: ∀a b,(c a b).natAbs<=9) {k:Nat} (g:k<=8):(dk c k).natAbs<=bB:=by
 have h:=Wv (L:=8) (by decide) e g;omega
end
section
def ZN (f:FF):Ch->Nat->Nat->Int
 | .add i j=>eZ f i j (cF f i j)
 | .swp m=>lO f m
def UW (f:FF):Ch->Nat->Nat->Int
 | .add i j=>Rw i j (cF f i j)
 | .swp m=>Qx m
inductive Rch (n:Nat):(Nat->Nat->Int)->(Nat->Nat->Int)->(Nat->Nat->Int)->(Nat->Nat->Int)->Prop
 |done (f t:FF) (h:scanF f n=none):Rch n f t f t
 |step (f t h T:FF) (c:Ch) (hc:scanF f n=some c) (hr:Rch n (ZN f c) (jT n t (UW f c)) h T):Rch n f t h T
structure E8 (N B S Z:Nat):Prop where
 n8:N<=8
 b1:9<=B
 lMs: ∀n,n<N+1->lM n B+1<4294967296^Z
 eNs: ∀n,n<N+1->eN n B<4294967296^400
 pt: ¬4^S<=3^S*B^N
 sz:(Z+4)*(28*S+28)+1<=16000000
 z4:Z<=400
structure RedI (N B Z n:Nat) (f0 f t:FF) (s adds:Nat):Prop where
 dfn:Def f n B
 jn:Jn f n B
 det:dk f n=dk f0 n
 pot:4^s*prD f n<=3^s*B^N
 cnt:adds<=28*s+rankF f n
 szt: ∀a b,a<n->b<n->Sz (t a b) (1+(Z+4)*adds)
theorem ZL:E8 8 bB 970 41:=⟨by decide,by decide,by decide+kernel,by decide+kernel,by decide+kernel,by decide,by decide⟩
theorem Hn (h:n<=8):yx n<=28:=aaj (ko h) (by decide)
theorem Tu (K:Nat) (e: ¬4^K<=3^K*n) (s:Nat) (f:K<=s) (b:4^s<=3^s*n):False:=by
 obtain⟨r,rfl⟩: ∃r,s=K+r:=⟨s-K,by omega⟩;rw[abM,abM]at b;have c:3^K*3^r*n<=3^K*n*4^r:=by
  rw[ace,abj (3^r),<- ace];simp_all[aao,aaD]
 exact e (Nat.le_of_mul_le_mul_right (aaj b c) (abk (by omega)))
section
variable {N B S Z:Nat} {n:Nat} {f0 f t:FF} {s adds:Nat}
theorem RedI.s_le (k:E8 N B S Z) (h:RedI N B Z n f0 f t s adds):s<S:=by
 rcases acO s S with b|b
 ·exact b
 exfalso;have e:=JB h.dfn n (aaq _);have c:4^s<=3^s*B^N:=aaj (abK _ e) h.pot;exact Tu S k.pt s b c
theorem RedI.adds_le (k:E8 N B S Z) (h:RedI N B Z n f0 f t s adds) (b:n<=N):adds<=28*S+28:=by
 have c:=h.s_le k;have e:=h.cnt;have g:=xU f n;have j:=Hn (aaj b k.n8);omega
theorem RedI.szf (k:E8 N B S Z) (h:RedI N B Z n f0 f t s adds) (j:n<=N) {a:Nat} (e:a<n) (g:m<n):Sz (f a m) 400:=by
 have c:=h.jn.ent h.dfn (aaj (by decide) k.b1) e g;exact abZ c (k.eNs n (by omega))
theorem RedI.szc (k:E8 N B S Z) (h:RedI N B Z n f0 f t s adds) (p:n<=N) {i:Nat} (b:i<n) (c:m<i):Sz (cF f i m) Z:=by
 rw[NC h.dfn (by omega)];have e:=GZ (l:=bk f m i m) (h.dfn.pos m (by omega));have g:=h.jn.lam h.dfn (aaj (by decide) k.b1) i m b c;have o:=k.lMs n (by omega);grind [Sz]
theorem LT {c:Ch} (h:scanF f n=some c):rankF f n=Eg c:=by grind [rankF]
theorem RedI.add (k:E8 N B S Z) (h:RedI N B Z n f0 f t s adds) (C:n<=N) {i:Nat} (w:scanF f n=some (.add i m)):RedI N B Z n f0 (eZ f i m (cF f i m)) (jT n t (Rw i m (cF f i m))) s (adds+1)/\rankF f n<rankF (eZ f i m (cF f i m)) n:=by
 obtain⟨r,e⟩:=je w;have e:i<n:=e;obtain⟨c,D,F,E⟩:=id r;have o:rankF f n<rankF (eZ f i m (cF f i m)) n:=by
  rw[LT w];exact TB c e (fun G g=>Aq h.dfn _ c e g (E G g)) (fun H y q=>Ce h.dfn c e y q (fun z=>F H z q))
 obtain⟨p,_⟩:=ky h.dfn.sym h.dfn.ne (cF f i m) c e;have A:=h.cnt;refine⟨⟨h.dfn.add _ c e,VC h.dfn (aaj (by decide) k.b1) h.jn r e,by rw[p n (aaq _)];exact h.det,by rw[tA n (fun t J=>p (t+1) (by omega))];exact h.pot,by omega,fun a b u v=>?_⟩,o⟩;rw[GK (by omega) (by omega) t a b v];have x:=h.szt a b u v;split
 ·have I:=(h.szc k C e c).mul (h.szt a m u (by omega));exact(Sz.add (x.mono (l:=Z+(1+(Z+4)*adds)) (by omega)) I).mono (by grind)
 rw[Int.add_zero];exact x.mono (by grind)
theorem RedI.swap (k:E8 N B S Z) (h:RedI N B Z n f0 f t s adds) (y:n<=N) (w:scanF f n=some (.swp m)):RedI N B Z n f0 (lO f m) (jT n t (Qx m)) (s+1) adds:=by
 obtain⟨g,c⟩:=je w;have c:m+1<n:=c;obtain⟨e,_,_⟩:=id g;obtain⟨u,_⟩:=oF h.dfn.sym h.dfn.pos c;have x:=h.cnt;have z:=xU f n;have A:=Hn (aaj y k.n8);refine⟨h.dfn.swap c e,RK h.dfn h.jn g c,by rw[u n (aaq _) (by omega)];exact h.det,?_,by omega,fun a b v j=>?_⟩
 ·have p:=Eb h.dfn c e n (by omega) (aaq _);have q:=aao (4^s) p;have l:4^(s+1)*prD (lO f m) n=4^s*(4*prD (lO f m) n):=by grind
  have o:4^s*(3*prD f n)=3*(4^s*prD f n):=ac9 _ _ _;have r:3^(s+1)*B^N=3*(3^s*B^N):=by grind
  rw[l,r];rw[o]at q;exact aaj q (aao 3 h.pot)
 rw[GL c t a b j];exact h.szt a _ v (qm c j)
def U9 (S n:Nat) (f:FF) (s:Nat):Nat:=(S-s)*30+(29-rankF f n)
theorem RedI.mu_add (k:E8 N B S Z) (h:RedI N B Z n f0 f t s adds) (b:n<=N) {i:Nat} (c:scanF f n=some (.add i m)):U9 S n (eZ f i m (cF f i m)) s<U9 S n f s:=by
 have e:=(h.add k b c).2;have g:=xU (eZ f i m (cF f i m)) n;have l:=Hn (aaj b k.n8);unfold U9;omega
theorem RedI.mu_swap (k:E8 N B S Z) (h:RedI N B Z n f0 f t s adds) (c:n<=N) (b:scanF f n=some (.swp m)):U9 S n (lO f m) (s+1)<U9 S n f s:=by
 have e:=(h.swap k c b).s_le k;grind [U9]
theorem qg (k:E8 N B S Z) (e:n<=N): ∀m f t s adds,U9 S n f s<=m->RedI N B Z n f0 f t s adds-> ∃h T,Rch n f t h T
 |0,f,t,s,adds,o,h=>by
  cases b:scanF f n with
  |none=>exact⟨f,t,.done f t b⟩
  |some c=>
   cases c with
   |add i j=>have:=h.mu_add k e b;omega
   |swp m=>have:=h.mu_swap k e b;omega
 |m+1,f,t,s,adds,o,h=>by
  cases b:scanF f n with
  |none=>exact⟨f,t,.done f t b⟩
  |some c=>
   cases c with
   |add i j=>
    have:=h.mu_add k e b;obtain⟨g,T,l⟩:=qg k e m _ _ _ _ (by omega) (h.add k e b).1;exact⟨g,T,.step f t g T _ b l⟩
   |swp q=>
    have:=h.mu_swap k e b;obtain⟨g,T,l⟩:=qg k e m _ _ _ _ (by omega) (h.swap k e b);exact⟨g,T,.step f t g T _ b l⟩
theorem RedI.red (h:RedI N B Z n f0 f t s adds) (b:1<=n) (g:dk f0 n<=10000) (e:scanF f n=none):RedR f n:=by
 refine(vt b).1 ⟨h.dfn.sym,fun k c=>?_,?_,G8 e⟩
 ·rw[qM h.dfn.pos k c];exact h.dfn.pos k c
 have:=qM h.dfn.pos (n-1) (by omega);rw[show n-1+1=n by omega]at this;rw[this,h.det];exact g
theorem RedI.start_ (k:E8 N B S Z) (m:n<=N) (p:SymF f n) (o:CF f n) (j: ∀k,k<=n->(dk f k).natAbs<=B) (h: ∀a,a<n->(f a a).natAbs<=B) (q: ∀a b,a<n->b<n->Sz (t a b) 1):RedI N B Z n f f t 0 0:=by
 have e: ∀k,k<n->0<dk f (k+1):=fun k l=>(BO o k l).1
 have c:Def f n B:=⟨p,e,j⟩;have r:=k.b1;refine⟨c,.inl fun a g=>aaj (h a g) ?_,rfl,?_,by omega,fun a b g h=>(q a b g h).mono (by omega)⟩
 ·unfold cN;exact aaj (adS B (B*B)) (abK _ (abk (by omega)))
 simp only[aeC,ach];exact aaj (PB c n (aaq _)) (aaE (by omega) m)
theorem RedI.start (g:1<=n) (e:n<=8) (j:SymF f n) (h:CF f n) (c: ∀a b,(f a b).natAbs<=9) (l: ∀a b,a<n->b<n->Sz (t a b) 1):RedI 8 bB 41 n f f t 0 0:=
 RedI.start_ ZL e j h (fun k m=>YK c (by omega)) (fun a _=>aaj (c a a) (by decide)) l
end
end
theorem Dw {b:World} (h:Ext w b):Keep (fun _=>False) w b:=⟨h.os,h.tape,h.output,h.size,fun k c _=>h.block k c⟩
theorem OG {b:World} (h:Keep (fun _=>False) w b):Ext w b:=⟨h.os,h.tape,h.output,h.size,fun k c=>h.block k c (fun h=>h)⟩
theorem Ja {j:World} (h:Ext w j) (l: ∀f,b f->f<w.heap.size):Inv w (fun _=>False) b (famH 0 []) (fun _ _=>none) j:=by
 have e: ∀a,famH 0 [] a=[]:=fun a=>by grind [famH]
 refine⟨Dw h,fun a r o g=>?_,fun a r n s o q f c p g=>?_,fun a r o f c g=>?_,fun f m=>aas (l f m) h.size,fun a r o g=>?_⟩<;>(grind)
theorem lZ {P:Program} {f:FuncId} {args:List TV} {r:TV} (q:callable P f=true) (h: ∀(X:Nat->Prop) (w:World) (vs:Array Value),(∀b,X b->b<w.heap.size)->vs.size=args.length->
  (∀(j:Nat) t,args[j]?=some t-> ∃v:Value,vs[j]?=some v/\t.rel (fun _ _=>none) (fun _=>[]) X w v)->Calls P f vs w fun e g=> ∃v,e= .returned v/\(∀s H Y,r.rel s H Y g v)/\Ext w g):CallC P f args ⟨[],r⟩:=
 ⟨q,fun X w vs l c p=>(h X w vs l c p).mono fun e g ⟨v,m,n,o⟩=>⟨v,m,fun _ _=>none,Ja o l,n _ _ _⟩⟩
theorem CallC.calls {P:Program} {f:FuncId} {args:List TV} {r:TV} (h:CallC P f args ⟨[],r⟩) {vs:Array Value} (c:vs.size=args.length) (p: ∀(j:Nat) t,args[j]?=some t-> ∃v:Value,vs[j]?=some v/\t.rel (fun _ _=>none) (fun _=>[]) (fun _=>False) w v):Calls P f vs w fun e g=> ∃v,e= .returned v/\(∃l H X,r.rel l H X g v)/\Ext w g:=
 (h.2 (fun _=>False) w vs (fun b h=>h.elim) c p).mono fun e g ⟨v,m,l,n,o⟩=>⟨v,m,⟨_,_,_,o⟩,OG n.keep⟩
theorem Ej {e:Rho} (c:Bool):(TV.raw (.bool c)).rel e g b w (.bool c):=bQ.raw _ rfl
theorem o8 {v:Value} (h:bQ b w (.raw f) v):v=f:=by cases h;rfl
theorem BV (h:bQ b w (.sl (ls fI e)) f): ∃A c,f= .slice A e.length c/\e.length<=c/\e.length<=9223372036854775807/\RdI .i64 w A e:=by
 generalize m:PV.sl (ls fI e)=x at h;cases h with
 |raw f h=>cases m
 |ptr g o F j y B r t=>cases m
 |nil a c=>
  injection m with m
  have D:e=[]:=by simp_all[ls]
  subst D;exact⟨a,c,rfl,aaW _,by simp,RdI.nil _ _ _⟩
 |sl g o u cap J j y B q n s r t=>
  injection m with m
  subst m;rw[dU]at n s;refine⟨some ⟨g,o,none⟩,cap,by rw[dU],n,s,fun E=>⟨g,o,rfl,fun i x m=>?_⟩⟩;rw[u9]at m;obtain⟨z,I,rfl⟩:=u6.1 m;have p:(ls fI e)[i]?=some (fI z):=by grind [fX]
  have C:u=1:=by rw[<- q _ (u5 p)];rfl
  subst C;have G:=r i _ 0 _ p rfl;have H:=o8 (t i _ 0 _ p rfl);grind
theorem rG {M:List (List Int)} (h:bQ b w (.sl (ls (fR fI) M)) f): ∃A c,f= .slice A M.length c/\M.length<=c/\M.length<=9223372036854775807/\sG .i64 w A M:=by
 generalize l:PV.sl (ls (fR fI) M)=x at h;cases h with
 |raw f h=>cases l
 |ptr e m F g z B q t=>cases l
 |nil a c=>
  injection l with l
  have D:M=[]:=by simp_all[ls]
  subst D;exact⟨a,c,rfl,aaW _,by simp,sG.nil _ _ _⟩
 |sl e m u cap H g z B o j s q t=>
  injection l with l
  subst l;rw[dU]at j s;refine⟨some ⟨e,m,none⟩,cap,by rw[dU],j,s,fun E=>⟨e,m,rfl,fun i r G=>?_⟩⟩;have n:(ls (fR fI) M)[i]?=some (fR fI r):=by grind [fX]
  have C:u=1:=by rw[<- o _ (u5 n)];rfl
  subst C;have p:=q i _ 0 _ n rfl;have y:=BV (t i _ 0 _ n rfl);rw[ac7,aa3]at p;exact⟨_,p,y⟩
/-! The program's functions. -/
theorem wA {args:List TV} {vs:Array Value} (h: ∀(j:Nat) t,args[j]?=some t-> ∃v:Value,vs[j]?=some v/\t.rel (fun _ _=>none) (fun _=>[]) b w v) {j:Nat} {x:PV} (c:args[j]?=some (.one (.p x))): ∃v:Value,vs[j]?=some v/\bQ b w x v:=h j _ c
def Hi (v:Value) (a:Nat) (g:Nat->Value):Nat->Value:=fun j=>if j=0 then v else if j=1 then .int .i64 (a:Int)else g j
theorem Ls (tx n:Nat) (A:Option Addr) (c:Nat) (l:List Int) (a:Nat) (g:Nat->Value) (w:World) (hn:2<=n) (hl:RdI .i8 w A l) (hb: ∀z∈l,-128<=z/\z<=127) (ll:l.length<=9223372036854775807) (ha:a<=l.length) (hT:w.rowIs tx 104 n (Hi (.slice A l.length c) a g)) (hne:l≠[]-> ∀p,A=some p->p.block≠tx):
  Calls prog 61 #[.pointer (some ⟨tx,0,none⟩)] w fun e w'=>e= .returned (.int .i64 (l.getD a 0))/\w'.rowIs tx 104 n (Hi (.slice A l.length c) (ia l a) g)/\w.grownBy w' (some tx):=by
 have HT:=aae hT;have HL:=aae hl;have HB:=aae hb;have HN:=aae hne;clear hT hl hb hne;have t0:w.cell? ⟨tx,0,none⟩=some (.slice A l.length c):=HT.out.cell (by omega);have t1:w.cell? ⟨tx,1,none⟩=some (.int .i64 (a:Int)):=HT.out.cell (by omega);have t2:w.frozen? ⟨tx,1,none⟩=false:=HT.out.frozen 1;by_cases hlt:a<l.length
 ·obtain⟨z,hz⟩:=getElem?_of_lt hlt;obtain⟨b,off,rfl,hc⟩:=HL.out.at_ hz;have hbt:b≠tx:=HN.out (by grind) _ rfl;have hzb:=HB.out z (u5 hz);have hz1:=hzb.1;have hz2:=hzb.2;have HZ:Hid (l.getD a 0=z):=aae (by grind);have HNx:Hid (ia l a=a+1):=aae (if_pos hlt);clear hz hzb
  go_enter func61,ntmps61
  go_wp2_with fail
  go_quiet (fail)
  go_wp2_with fail
  have hrow:=((oB HT.out nq).set 1 (.int .i64 ((a:Int)+1))).congr (g:=Hi (.slice (some ⟨b,off,none⟩) l.length c) (a+1) g) (fun j hj=>by
   grind [Hi])
  have HROW:=aae hrow;have HG:=aae (Bj (fz ((Ext.refl w).drewN nq) tx) 1 (.int .i64 ((a:Int)+1)));have s0:((w.drewN nq).setCell ⟨tx,1,none⟩ (.int .i64 ((a:Int)+1))).cell? ⟨tx,0,none⟩=some (.slice (some ⟨b,off,none⟩) l.length c):=HROW.out.cell (i:=0) (by omega);have s1:((w.drewN nq).setCell ⟨tx,1,none⟩ (.int .i64 ((a:Int)+1))).cell? ⟨tx,1,none⟩=some (.int .i64 ((a:Int)+1)):=by
   have:=HROW.out.cell (i:=1) (by omega);grind [Hi]
  have s2:((w.drewN nq).setCell ⟨tx,1,none⟩ (.int .i64 ((a:Int)+1))).cell? ⟨b,off+a,none⟩=some (.int .i8 z):=oR HG.out hc hbt;have a1:IntKind.i64.wrap ((a:Int)+1-1)=(a:Int):=by grind [IntWalk.i64_in]
  have a2:(a:Int)<(l.length:Int):=by omega
  clear t0 t1 t2 hc hrow;generalize(w.drewN nq).setCell ⟨tx,1,none⟩ (.int .i64 ((a:Int)+1))=w3 at*
  go_quiet (fail)
  go_wp2_with fail
  go_ret
  rw[HZ.out,HNx.out];exact⟨rfl,oB HROW.out _,jz HG.out (fz ((Ext.refl _).drewN _) tx)⟩
 go_enter func61,ntmps61
 have HZ:Hid (l.getD a 0=0):=aae (by grind);have HNx:Hid (ia l a=a):=aae (if_neg hlt)
 go_wp2_with fail
 go_quiet (fail)
 go_wp2_with fail
 go_ret
 rw[HZ.out,HNx.out];exact⟨rfl,oB HT.out _,fz ((Ext.refl _).drewN _) tx⟩
def f8 (z:Int):List PV:=[.raw (.int .i8 z)]
abbrev Ma (L:List Int) (a:Nat):List PV:=[.sl (ls f8 L),.raw (.int .i64 (a:Int))]
abbrev df (b:Nat):TV:= .raw (.pointer (some ⟨b,0,none⟩))
def I8 (L:List Int):Prop:= ∀z∈L,-128<=z/\z<=127
theorem I8.getD (h:I8 e) (a:Nat): -128<=e.getD a 0/\e.getD a 0<=127:=by
 rw[aav];cases b:e[a]? with
 |none=>simp
 |some z=>exact h z (u5 b)
theorem TH (h:bQ b w (.sl (ls f8 e)) f): ∃A c,f= .slice A e.length c/\e.length<=9223372036854775807/\RdI .i8 w A e/\(e≠[]-> ∀p,A=some p-> ¬b p.block):=by
 generalize m:PV.sl (ls f8 e)=x at h;cases h with
 |raw f h=>cases m
 |ptr g n G j B C s u=>cases m
 |nil a c=>
  injection m with m
  have E:e=[]:=by simp_all[ls]
  subst E;exact⟨a,c,rfl,by simp,RdI.nil _ _ _,fun h=>absurd rfl h⟩
 |sl g n y cap L j B C r o t s u=>
  injection m with m
  subst m;rw[dU]at o t;refine⟨some ⟨g,n,none⟩,cap,by rw[dU],t,fun F=>⟨g,n,rfl,fun i x m=>?_⟩,fun _ p J=>by grind⟩;rw[u9]at m;obtain⟨z,K,rfl⟩:=u6.1 m;have q:(ls f8 e)[i]?=some (f8 z):=by grind [fX]
  have D:y=1:=by rw[<- r _ (u5 q)];rfl
  subst D;have H:=s i _ 0 _ q rfl;have I:=o8 (u i _ 0 _ q rfl);grind
theorem MR (b:Nat) (L:List Int) (a:Nat) (U:I8 L) (W:a<=L.length):CallT prog b 104 61 [df b] (Ma L a) ⟨[],.raw (.int .i64 (L.getD a 0))⟩ (Ma L (ia L a)):=by
 refine⟨by kernel_rfl,fun X w vs V B s aa l=>?_⟩;obtain⟨cells,c,P,Q,R,S,T,I⟩:=s;obtain⟨v0,e0,r0⟩:=l 0 _ rfl;have H:v0= .pointer (some ⟨b,0,none⟩):=o8 r0;subst H;obtain rfl:vs= #[.pointer (some ⟨b,0,none⟩)]:=by
  grind
 obtain⟨v,c0,_,O⟩:=I 0 _ rfl;obtain⟨u,c1,_,r2⟩:=I 1 _ rfl;have M:=o8 r2;subst M;obtain⟨A,cap,rfl,hl,F,Y⟩:=TH O;have G:cells.size=c*2:=Q;have z:w.rowIs b 104 (c*2) (Hi (.slice A L.length cap) a fun j=>(cells[j]?).getD undef):=by
  refine⟨cells,P,G,fun i hi=>?_⟩;grind [Hi]
 have q:L≠[]-> ∀p,A=some p->p.block≠b:=fun y p K Z=>Y y p K (by rw[Z];exact B)
 refine(Ls b (c*2) A cap L a _ w (by omega) F U hl W z q).mono fun e w' ⟨q1,⟨f,q2,q3,N⟩,n⟩=>?_
 have t: ∀k,k<w.heap.size->k≠b->w'.heap[k]?=w.heap[k]?:=fun k D y=>n.block k D (by grind)
 have C: ∀j,Xo X (fun _ _=>none) (famH 0 []) j->X j:=fun j m=>by
  rcases m with m|⟨_,_,_,_,_,g⟩
  ·exact m
  cases g
 refine⟨_,q1,fun _ _=>none,?_,bQ.raw _ rfl,f,c,q2,q3,R,S,T,fun j x h=>?_⟩
 ·have e: ∀a,famH 0 [] a=[]:=fun a=>by grind [famH]
  refine⟨⟨n.os,n.tape,n.output,n.size,fun k D J=>t k D J⟩,fun a r o E=>?_,fun a r a' r' o o' b c c' E=>?_,fun a r o b c E=>?_,fun j m=>aas (V j m) n.size,fun a r o E=>?_⟩<;>(grind)
 match j,h with
 |0,h=>
  have h:x= .sl (ls f8 L):=by grind
  subst h;refine⟨.slice A L.length cap,N 0 (by omega),rfl,O.later (fun j _ m=>C j m) n.size fun p u K J M=>?_⟩;grind [gm]
 |1,h=>
  have h:x= .raw (.int .i64 (ia L a:Nat)):=by grind
  subst h;exact⟨_,N 1 (by omega),rfl,bQ.raw _ rfl⟩
 |j+2,h=>simp at h
def nC (L:List Int) (a n:Nat):Nat:=((L.getD a 0)%256).toNat%n
theorem mE {n:Nat} (L:List Int) (a:Nat) (h:0<n):nC L a n<n:=aaQ _ h
theorem KC (L:List Int) (a n:Nat):Int.tmod (L.getD a 0%256) (n:Int)=(nC L a n:Int):=by
 grind [nC]
theorem XZ (x:Int):IntKind.u8.wrap x=x%256:=by rfl
theorem tp {a:Nat} (h:a<=e.length):ia e a<=e.length:=by grind [ia]
theorem AM (b:Nat) (L:List Int) (a n:Nat) (g:I8 L) (h:a<=L.length) (j:0<n) (l:n<=100):CallT prog b 104 82 [df b,.raw (.int .i64 (n:Int))] (Ma L a) ⟨[],.raw (.int .i64 (nC L a n:Int))⟩ (Ma L (ia L a)):=by
 have c:=MR b L a g h;have e:=KC L a n;have f:=XZ (L.getD a 0);refine kA func82 rfl (by kernel_rfl) ?_;rw[ntmps82];refine FI @df.eq_1 (k:=?_);refine sV 1 c [] [] (by kernel_rfl) (by rfl) (by rfl) fun _ K=>?_;simp(disch:=omega) only[kd,List.map,df,Nat.reduceAdd,f,aR,e];apply K
 (refine mw ⟨.inr rfl,rfl,cd rfl ?_ rfl⟩;simp(disch:=omega) only[kd,results82])
section
def JJ (r:List Int):OObj:=⟨2,1,lc fI r⟩
abbrev kI (d n c i:Nat) (f:FF):List OObj:=⟨35,1,kG d (ae i c)++ae (n-i) uS⟩::(mat i c f).map JJ
abbrev mT (d n c:Nat) (f:FF):List OObj:=⟨35,1,kG d (ae n c)⟩::(mat n c f).map JJ
theorem GC (d n c:Nat) (f:FF):kI d n c n f=mT d n c f:=by simp
theorem n9 {i n:Nat} (d c:Nat) (h:i<=n):(kG d (ae i c)++ae (n-i) uS).length=n:=by grind [dj]
theorem xo {i k n:Nat} (d c:Nat) (h:k<i):(kG d (ae i c)++ae (n-i) uS)[k]?=some [.sl d (k+1) 0 c]:=by
 grind [dj,ch]
theorem Bp {i n:Nat} (d c:Nat) (h:i<n):(kG d (ae i c)++ae (n-i) uS)[i]?=some uS:=by
 grind [dj]
theorem ee {n i:Nat} (c:Nat) (f:FF) (h:i<n):((mat n c f).map JJ)[i]?=some ⟨2,1,lc fI (aQ c (f i))⟩:=by
 rw[u9,bE _ _ h];rfl
theorem iJ {n i j:Nat} (c:Nat) (f:FF) (v:Int):((mat n c f).map JJ).set i ⟨2,1,(lc fI (aQ c (f i))).set j [.p (.raw (.int .i64 v))]⟩=(mat n c (upd f i j v)).map JJ:=by
 have e:(⟨2,1,(lc fI (aQ c (f i))).set j [.p (.raw (.int .i64 v))]⟩:OObj)=JJ (aQ c fun b=>if b=j then v else f i b):=by
  rw[<- mn,JJ,<- tg];rfl
 rw[e,<- adr,Jm];rfl
theorem gY {g:FF} (h: ∀i j,i<n->j<m->c i j=g i j):(mat n m c).map JJ=(mat n m g).map JJ:=by rw[gu h]
theorem vm {i n c:Nat} (d:Nat) (f:FF) (l:i<n) (e: ∀j,j<c->f i j=0):
  (⟨35,1,(kG d (ae i c)++ae (n-i) uS).set i [.sl d (i+1) 0 c]⟩::((mat i c f).map JJ++[⟨2,1,ae c [.raw (.int .i64 0)]⟩]):List OObj)=kI d n c (i+1) f:=by
 have g:(kG d (ae i c)++ae (n-i) uS).set i [.sl d (i+1) 0 c]=kG d (ae (i+1) c)++ae (n-(i+1)) uS:=by
  rw[abU _ _ (by simp[dj]),dj,aaX,abQ,acB (n:=i),rU,aaX,aaL]
  congr 1
  rw[show n-i=n-(i+1)+1 by omega,acG];rfl
 have h:(⟨2,1,ae c [.raw (.int .i64 0)]⟩:OObj)=JJ (aQ c (f i)):=by
  rw[JJ]
  congr 1
  apply aay;intro j;rw[aaY,Bu];by_cases b:j<c
  ·rw[if_pos b,aB _ b,e j b];rfl
  grind [aI]
 grind [DV]
theorem dR (d e n c:Nat) (f:FF):(mT d n c f).map (renO e)=mT e n c f:=by
 grind [renO,JQ,List.map_congr_left,JJ,iH]
theorem fQ {d n c:Nat} {f:FF} (h:g d=mT d n c f):uQ g d:=fun r o b e j x m=>by
 rw[h]at b;cases r with
 |succ r=>
  rw[abJ,u9]at b;obtain⟨l,p,rfl⟩:=u6.1 b;exact .inl (bF _ _ l e j x m)
 |zero=>
  grind [List.mem_iff_getElem?,dj,ch,JJ,bF,bE]
theorem xg {H:OH} {d n c:Nat} {f:FF} (h:H d=mT d n c f):fc H d (.one (.sl d 0 0 n))=dn (mat n c f):=by
 have e:((kG d (ae n c)).map (List.map (nr H d)))=ls (fR fI) (mat n c f):=by
  apply aay;intro i;rw[u9,fX];by_cases b:i<n
  ·rw[ch d c b,bE _ _ b];simp only[aaT,aaC,aaR,nr,h,abJ,ee _ _ b,fR,gR,Bt,oS];grind [aI]
  grind [dj,aU]
 grind [fc,dN,dj]
abbrev WG (k:Nat) (b:Bool):TV:= .tup [(false,[.sl 0 0 0 k]),(false,[.p (.raw (.bool b))])]
theorem Xc {f:Func} {d k:Nat} {b:Bool} {s:AS} (j:s.H d=mT d k n c) (e:pj prog s f.results.toList=some (.tup [(false,[.sl d 0 0 k]),(false,[.p (.raw (.bool b))])])) (h:d<=4999):
  ∃g,bD s g/\np prog f ⟨mT 0 k n c,WG k b⟩ g:=
 ⟨s,bD.refl s,_,d,e,yh (by simp[selfTV,bs]) h,by rw[j,dR],rfl⟩
section
variable {P:Program} {fu:FuncId} {args:List TV} {n c:Nat} {g:FF}
theorem CallC.fzI (h:CallC P fu args ⟨mT 0 n c g,.one (.sl 0 0 0 n)⟩):CallC P fu args ⟨[],dn (mat n c g)⟩:=
 h.weak ((bH 0 (fQ (d:=0) (n:=n) (c:=c) (f:=g) rfl)).trans (aj (tm:=[dn (mat n c g)]) (l:=[(0,[])]) ⟨rfl,trivial⟩ (by
  grind [wk,xg,famH])))
end
def lN (L:List Int) (a:Nat):Nat->Nat
 |0=>a
 |i+1=>ia L (lN L a i)
theorem AX {L:List Int} {a:Nat} (h:a<=L.length): ∀i,lN L a i<=L.length
 |0=>h
 |i+1=>tp (AX h i)
def iv (L:List Int) (a b:Nat):Nat->Nat->Int:=fun i j=>if i=j then 1+(nC L (lN L a i) b:Int)else 0
def MG (L:List Int) (a b i:Nat):Nat->Nat->Int:=fun x y=>if x<i then iv L a b x y else 0
theorem NV (L:List Int) (a b i x y:Nat):upd (MG L a b i) i i (1+(nC L (lN L a i) b:Int)) x y=MG L a b (i+1) x y:=by
 unfold upd MG iv;by_cases c:x=i
 ·subst c;grind
 have:x<i+1↔x<i:=by omega
 simp_all
theorem mK (b:Nat) (L:List Int) (a n f:Nat) (r:I8 L) (s:a<=L.length) (C:n<=8) (h:0<f) (p:f<=100):
  CallT prog b 104 83 [df b,.raw (.int .i64 (n:Int)),.raw (.int .i64 (f:Int))] (Ma L a) ⟨mT 0 n n (iv L a f),.one (.sl 0 0 0 n)⟩ (Ma L (lN L a n)):=by
 refine kA func83 rfl (by kernel_rfl) ?_;rw[ntmps83];refine FI @df.eq_1 (k:=db (k:=b8 (db (k:=?_))));refine kv (G:=jo n) (fun g=>⟨(df b::rN n::rN f::j4 (.one (.sl 10 0 0 n)::j4 (.raw (.int .i64 (n:Int))::rN g.i::j16 (jk::jk::jk::[])))),Hm [(10,kI 10 n n g.i (MG L a f g.i))]⟩) (fun g=>Ma L (lN L a g.i)) (fun g=>n-g.i) ⟨0,by omega⟩ ?_ rfl ?_
 ·refine aj ⟨?_,trivial⟩ ?_
  ·rfl
  simp[wk]
 rintro⟨i,u⟩;simp only;by_cases o:i<n
 ·have q:=AM b L (lN L a i) f r (AX s i) h p;have t:=mE (n:=f) L (lN L a i) h;have v:=Bp (i:=i) (n:=n) 10 n o;have D:=n9 (i:=i) (n:=n) 10 n u;have w:=aU i n (MG L a f i);have x:=vm (i:=i) (n:=n) (c:=n) 10 (MG L a f i) o (fun j B=>by grind [MG]);have y:=xo (i:=i+1) (k:=i) (n:=n) 10 n (by omega);have E:=n9 (i:=i+1) (n:=n) 10 n (by omega);have z:=ee (n:=i+1) n (MG L a f i) (i:=i) (by omega);have A:=aB (MG L a f i i) o;refine kP @df.eq_1 (k:=sU rfl (b8 (cY (db (k:=kP (aH v (aH @aaX (aH @acr (aH w x)))) (k:=?_))))));refine dW.weak (aj (tm:=(df b::rN n::rN f::j4 (.one (.sl 10 0 0 n)::rN i::jk::jk::jk::rN n::rN i::j16 (jk::jk::jk::[])))) (l:=[(10,kI 10 n n (i+1) (MG L a f i))]) ⟨?_,trivial⟩ (by simp[wk])) ?_
  ·rfl
  refine kw cf 7 q [] [] (by kernel_rfl) (by kernel_rfl) (by rfl) (by rfl) fun _ K=>?_;simp(disch:=omega) only[kd,df,Nat.reduceAdd,y,aR,z,A,iJ];apply K
  show dW _ _ _ _ _ _ _;refine uM (k:=?_);refine⟨⟨i+1,by omega⟩,by grind,aj ⟨?_,trivial⟩ ?_,rfl⟩
  ·show _::_=_::_;grind [gY,NV]
  simp[wk]
 have m:i=n:=by omega
 subst m;refine kP @df.eq_1 (k:=sT rfl ?_);show dW _ _ _ _ _ _ _;have e:kI 10 i i i (MG L a f i)=mT 10 i i (iv L a f):=by
  grind [gY,MG]
 rw[e];refine db (k:=?_);refine mw ⟨.inr rfl,rfl,_,bD.refl _,?_⟩;refine⟨.one (.sl 10 0 0 i),10,?_,rfl,?_,rfl⟩
 ·simp(disch:=omega) only[kd,results83]
 grind [dR]
end
theorem Ua (m:Nat):swp (m+1) m idF=Qx m:=by
 grind [swp,Qx,ql]
def Yd (n:Nat) (f:FF):Option Ch->TV
 |none=> .tup [(false,[.p (.raw (.slice none 0 0))]),(false,[.p (.raw (.bool false))])]
 |some c=> .tup [(false,[.p (.sl (ls (fR fZ) (mat n n (UW f c))))]),(false,[.p (.raw (.bool true))])]
structure StG (n:Nat) (f:FF) where
 i:Nat
 hi:i<=n
 h:scanF f n=scanI f (n-i) i
structure StJ (i:Nat) (f:FF) where
 k:Nat
 hk:k<=i
 h:scanJ f i i=scanJ f i k
theorem Xt (n:Nat) (f:FF) (t:1<=n) (T:n<=8) (U: ∀k,k<n->0<dk f (k+1)) (r: ∀i j,i<n->j<n->Sz (f i j) 1024):
  CallC prog 57 [dF (mat n n f)] ⟨[],Yd n f (scanF f n)⟩:=by
 have N:=lS n f t (by omega) r;have M:=vR n t (by omega);have s:=aU n n f;refine ay func57 rfl ntmps57 (aA (k:=fj [⟨1,_,_,_,N⟩] @WO.eq_1 (k:=fj [⟨2,_,_,_,M⟩] s (k:=ai (fL s (k:=?_))))));refine aF (G:=StG n f) (fun g=>⟨(dF (mat n n f)::jk::jk::jk::y6 (yR n f)::jk::.one (.sl 18 0 0 n)::j4 (j4 (j4 (jk::jk::jk::rN n::rN g.i::j16 (j16 (j16 (j4 (j4 (jk::jk::jk::[]))))))))),Hm [(18,iT 18 n n idF)]⟩) (fun g=>n-g.i) ⟨0,by omega,rfl⟩ ?_ ?_
 ·refine aj ⟨?_,trivial⟩ ?_
  ·exact gz 0 18 n n _
  simp[wk]
 rintro⟨i,R,C⟩;simp only;by_cases m:i<n
 ·have v:scanI f (n-i) i=match scanJ f i i with
   |some j=>some (.add i j)
   |none=>if 0<i/\ ¬LovF f i then some (.swp (i-1))else scanI f (n-(i+1)) (i+1):=by
   rw[show n-i=n-(i+1)+1 by omega];rfl
  refine ar (k:=bi rfl (ai (am (bz (k:=ai (ar (k:=?_)))))));refine aF (G:=StJ i f) (fun g=>⟨(dF (mat n n f)::jk::jk::jk::y6 (yR n f)::jk::.one (.sl 18 0 0 n)::jk::rN i::.raw (.int .i64 ((g.k:Int)-1))::j4 (j4 (j4 (.raw (.int .i64 (n:Int))::rN i::j16 (j16 (j16 (j4 (j4 (jk::jk::jk::[]))))))))),Hm [(18,iT 18 n n idF)]⟩) (fun g=>g.k) ⟨i,by omega,rfl⟩ ?_ ?_
  ·refine aj ⟨rfl,trivial⟩ ?_;simp[wk]
  rintro⟨k,S,q⟩;simp only;cases k with
  |zero=>
   refine ai (ar (k:=aq rfl (aY ?_)));show bo _ _ _ _;have w:scanJ f i i=none:=q;rw[w]at v;by_cases K:0<i
   ·have e:=CE n f i (by omega) m K r;by_cases o:LovF f i
    ·rw[decide_eq_true (show 3*(dd f i*dd f i)<=4*(dd f (i-1)*dd f (i+1)+lam f i (i-1)*lam f i (i-1))from o)]at e;have b:scanF f n=scanI f (n-(i+1)) (i+1):=by grind
     refine bK [⟨6,_,_,_,e⟩] (k:=aq rfl (ak (bL (k:=?_))));refine⟨⟨i+1,by omega,b⟩,by grind,aj ⟨rfl,trivial⟩ ?_⟩;simp[wk]
    rw[decide_eq_false (show ¬3*(dd f i*dd f i)<=4*(dd f (i-1)*dd f (i+1)+lam f i (i-1)*lam f i (i-1))from o)]at e;have b:scanF f n=some (.swp (i-1)):=by grind
    rw[b];have O:((i:Int)-1).toNat=i-1:=by omega
    have x:=ch (n:=n) (i:=i) 18 n m;have y:=ch (n:=n) (i:=i-1) 18 n (by omega);have J:((kG 18 (ae n n)).set i [.sl 18 (i-1+1) 0 n])[i-1]?=some [.sl 18 (i-1+1) 0 n]:=by
     grind
    refine bK [⟨6,_,_,_,e⟩] (k:=aC rfl (gW (aH O (aH y (aH x J))) (k:=?_)));refine bo.weak ((It 18 (i+1) (i-1+1) (iT 18 n n (swp i (i-1) idF)) (Js idF m (by omega) (by omega))).trans (aj (tm:=(j4 (jk::jk::.one (.sl 18 0 0 n)::j16 (j16 (j16 (j16 (j4 (j4 (j4 ([])))))))))) (l:=[(18,iT 18 n n (swp i (i-1) idF))]) ⟨rfl,trivial⟩ (by simp[wk,XA,mW,Zc,fY,T9,OA,sw]))) ?_;rw[show swp i (i-1) idF=Qx (i-1) by grind [Ua]];refine bo.weak ((bH 18 (j1 rfl)).trans (aj (tm:=(j4 (jk::jk::dF (mat n n (Qx (i-1)))::j16 (j16 (j16 (j16 (j4 (j4 (j4 ([])))))))))) (l:=[]) trivial (by simp[wk];exact(SJ (H:=Hm [(18,iT 18 n n (Qx (i-1)))]) (d:=18) (n:=n) (c:=n) (f:=Qx (i-1)) rfl).symm))) ?_;refine bz (k:=aG (aH @results57 (aH @Yd.eq_1 @UW.eq_1)))
   have z:i=0:=by omega
   subst z;have b:scanF f n=scanI f (n-(0+1)) (0+1):=by grind
   refine ar (k:=aq rfl (ak (bL (k:=?_))));refine⟨⟨1,by omega,b⟩,by grind,aj ⟨rfl,trivial⟩ ?_⟩;simp[wk]
  |succ j=>
   have P:((j+1:Nat):Int)-1=(j:Int):=by omega
   rw[P];have e:=Ir n f i j (by omega) m (by omega) r;by_cases o:SizF f i j
   ·rw[decide_eq_true (show 2*((lam f i j).natAbs:Int)<=dd f (j+1)from o)]at e;have b:scanJ f i i=scanJ f i j:=by rw[q];exact if_pos o
    refine ai (ar (k:=aC rfl (ak (ai (am (bM [⟨4,_,_,_,e⟩] (k:=aq rfl (ak (bL (k:=?_))))))))));refine⟨⟨j,by omega,b⟩,by simp,aj ⟨rfl,trivial⟩ ?_⟩;simp[wk]
   rw[decide_eq_false (show ¬2*((lam f i j).natAbs:Int)<=dd f (j+1)from o)]at e;have b:scanJ f i i=some j:=by rw[q];exact if_neg o
   have u:scanF f n=some (.add i j):=by grind
   rw[u,show Yd n f (some (.add i j))= .tup [(false,[.p (.sl (ls (fR fZ) (mat n n (upd idF j i (cF f i j)))))]),(false,[.p (.raw (.bool true))])]from rfl];have h:0<dd f (j+1):=by grind [kT]
   have D:=GD (n:=n) (i:=i) (j:=j) (by omega) m (by omega) r;have F:=Di (n:=n) (k:=j+1) (by omega) (by omega) r;have d1:=vT n f i j (by omega) m (by omega) r;have d2:=rj n f (j+1) (by omega) (by omega);rw[show((j+1:Nat):Int)=(j:Int)+1 by omega]at d2;have d3:=vX (lam f i j) (dd f (j+1)) h (D.mono (by omega)) (F.mono (by omega));have B:=p8 (n:=lam f i j) h;have d4:=Kd (nN (lam f i j) (dd f (j+1))) (nD (lam f i j) (dd f (j+1))) B ((zZ D).mono (by omega)) ((zY F).mono (by omega));rw[ZV h]at d4;have sq:Sz (qF (lam f i j) (dd f (j+1))) 67174401:=by
    have Q:=GZ (l:=lam f i j) h;have L:Sz ((lam f i j).natAbs+1:Int) (67174400+1):=Sz.add (D.le (by omega)) (oG (by omega));exact L.le (by omega)
   have d5:=Jv (qF (lam f i j) (dd f (j+1))) (sq.mono (by omega));rw[show -(qF (lam f i j) (dd f (j+1)))=cF f i j from rfl]at d5;have x:=ch (n:=n) (i:=j) 18 n (by omega);have y:=fG n idF (show j<n by omega);have I:=aB (idF j) m;generalize cF f i j=E at*
   generalize qF (lam f i j) (dd f (j+1))=X at*
   generalize nN (lam f i j) (dd f (j+1))=V at*
   generalize nD (lam f i j) (dd f (j+1))=W at*
   refine ai (ar (k:=aC rfl (ak (ai (am (bM [⟨4,_,_,_,e⟩] (k:=aC rfl (gh [⟨8,_,_,_,d1⟩,⟨12,_,_,_,d2⟩,⟨13,_,_,_,d3⟩,⟨14,_,_,_,d4⟩,⟨15,_,_,_,d5⟩] (aH x (aH y (aH I @k9))) (k:=?_)))))))));refine bo.weak ((aj (tm:=(j4 (jk::jk::.one (.sl 18 0 0 n)::j16 (j16 (j16 (j16 (j4 (j4 (j4 ([])))))))))) (l:=[(18,iT 18 n n (upd idF j i E))]) ⟨rfl,trivial⟩ (by simp[wk])).trans ((bH 18 (j1 rfl)).trans (aj (tm:=(j4 (jk::jk::dF (mat n n (upd idF j i E))::j16 (j16 (j16 (j16 (j4 (j4 (j4 ([])))))))))) (l:=[]) trivial (by
    simp[wk];grind [SJ,Hm])))) ?_
   refine bz (k:=aG @results57)
 have A:i=n:=by omega
 subst A;have b:scanF f i=none:=by rw[C,abQ];rfl
 rw[b];refine ar (k:=bv rfl (bz (k:=aG (aH @results57 @Yd.eq_1))))
end Go.Proofs.YtalmoejhjceflaaGreat
