/-
  Part 34 of a proof (walks and plain facts).
-/
import Derived.Test.YtalmoejhjceflaaGreatR32
set_option linter.all false
set_option maxRecDepth 100000
set_option maxHeartbeats 64000000
namespace Go.Proofs.YtalmoejhjceflaaGreat
open Go.RowKit Go.Proofs.Tryz
variable {n m j:Nat} {b c:Nat->Int} {x:Int} {e:List Int} {f:FF}
section
variable {n:Nat}
theorem V9 (R:FF) {k:Nat} (i:Nat) (h:n<k):bk R k i n=0:=by
 obtain⟨f,e,_⟩:=KK h;unfold bk;rw[e];have g:=qw k;rw[e,aaV,aaP]at g;exact uy (k:=k+1) (fun l c d m b=>AJ l k (om R k) (Bw R k) c d m b) n (lg n) f [] (by simp;omega)
def mU (p k a:Nat):Nat:=if a=p then k else if a=k then p else a
theorem UH (p k a:Nat):mU p k (mU p k a)=a:=by unfold mU;grind
theorem p7 {k a:Nat} (e:m<n) (c:k<n) (b:a<n):mU m k a<n:=by unfold mU;split<;>(try split)<;>omega
theorem Cn {k a:Nat} (c:k<=n) (b:a<k):mU n k a=a:=by unfold mU;rw[if_neg (by omega),if_neg (by omega)]
theorem Rm {k a:Nat} (c:k<=n) (b:k<=a):k<=mU n k a:=by unfold mU;split<;>(try split)<;>omega
def exQ (p c k:Nat) (f:FF):Nat->Nat->Int:=fun i j=>f (mU p k i) (mU c k j)
theorem Wa (f:FF) {k:Nat} (q:k<=n) (o:k<=m) (i j:Nat):bk (exQ n m k f) k i j=bk f k (mU n k i) (mU m k j):=by
 have b:om (exQ n m k f) k=om (fun i j=>f i (mU m k j)) k:=wX fun t s=>by unfold exQ;rw[Cn q s]
 have e:om (fun i j=>f i (mU m k j)) k=fun l=>om f k (l.map (mU m k)):=funext fun l=>wY (R:=f) (mU m k) k l
 have g:(lg k).map (mU m k)=lg k:=by
  have:(lg k).map (mU m k)=(lg k).map id:=aaN fun a h=>Cn o (jp h)
  rw[this,ab7]
 unfold bk;rw[b,e];have:=uF (r:=f (mU n k i)) (mU m k) (j::lg k) (om f k);rw[aaI,g]at this;exact this
theorem NS (f:FF) {k:Nat} (g:k<=n) (e:k<=m) (o:j<=k):dk (exQ n m k f) j=dk f j:=ny fun i b h l=>by
 unfold exQ;rw[Cn g (by omega),Cn e (by omega)]
def Ip (n:Nat) (W:FF) (r:Nat):Prop:= ∃R C:Nat->Nat,(∀t,t<r->R t<n/\C t<n)/\
 (∀a:Nat->Int,(∀t,t<r->smF (fun s=>W (R t) (C s)*a s) r=0)-> ∀s,s<r->a s=0)/\
 ∀u:Nat->Int,(∀t,t<r->smF (fun j=>W (R t) j*u j) n=0)-> ∀i,i<n->smF (fun j=>W i j*u j) n=0
theorem Ua {F:Nat->Int} {k:Nat} (f:m<n) (c:k<n):smF (fun j=>F (mU m k j)) n=smF F n:=by
 rw[<- Qg (F:=F) f c];exact aF n fun j _=>by
  unfold mU;by_cases e:j=m
  ·rw[if_pos e,if_pos e]
  rw[if_neg e,if_neg e];by_cases b:j=k
  ·rw[if_pos b,if_pos b]
  rw[if_neg b,if_neg b]
theorem Ip.exQ {p c k:Nat} (o:p<n) (l:c<n) (b:k<n) (h:Ip n (exQ p c k f) m):Ip n f m:=by
 obtain⟨R,C,g,q,s⟩:=h;refine⟨fun t=>mU p k (R t),fun t=>mU c k (C t),fun t e=>⟨p7 o b (g t e).1,p7 l b (g t e).2⟩,q,fun u w i v=>?_⟩;have key: ∀i,smF (fun j=>Go.Proofs.YtalmoejhjceflaaGreat.exQ p c k f i j*u (mU c k j)) n=smF (fun j=>f (mU p k i) j*u j) n:=fun i=>Ua (F:=fun j=>f (mU p k i) j*u j) l b
 have:=s (fun j=>u (mU c k j)) (fun t e=>by rw[key];exact w t e) (mU p k i) (p7 o b v);rw[key,UH]at this;exact this
theorem Ip.done {k:Nat} (x:k<=n) (p: ∀t,t<k->dk f (t+1)≠0) (w: ∀i j,k<=i->i<n->k<=j->j<n->bk f k i j=0):Ip n f k:=by
 have b: ∀t,t<=k->dk f t≠0:=fun t l=>by
  cases t with
  |zero=>rw[cu];omega
  |succ t=>exact p t l
 refine⟨id,id,fun t l=>⟨by show t<n;omega,by show t<n;omega⟩,fun a r=>Gu (b k (aar k)) r,fun u q i s=>?_⟩;by_cases g:i<k
 ·exact q i g
 have key: ∀m,m<=k-> ∀i,smF (fun j=>bk f m i j*u j) n=dk f m*smF (fun j=>f i j*u j) n:=fun m=>by
  induction m with
  |zero=>exact fun _ i=>by rw[cu,adu];exact aF n fun j _=>by rw[dc]
  |succ m c=>
   intro y i;have c:=c (by omega);apply abE (b m (by omega));have e:dk f m*smF (fun j=>bk f (m+1) i j*u j) n=dk f (m+1)*smF (fun j=>bk f m i j*u j) n+(- bk f m i m)*smF (fun j=>bk f m m j*u j) n:=by
    rw[<- bX,<- bX,<- bX,<- mJ];exact aF n fun j _=>by
     have:=sylv f m (fun t l=>p t (by omega)) i j;grind
   rw[e,c i,c m,show smF (fun j=>f m j*u j) n=0 from q m (by omega)];grind
 have o:=key k (aar k) i;rw[aF n (G:=fun _=>0) (fun j v=>by
  by_cases e:j<k
  ·rw[V9 f i e,acB]
  rw[w i j (by omega) s (by omega) v,acB]),dC]at o
 rcases adf.1 o.symm with h|h
 ·exact absurd h (b k (aar k))
 exact h
/-! The computation. -/
def pvC (r:Nat->Int):Nat->Nat->Option Nat
 |0,_=>none
 |m+1,j=>if r j=0 then pvC r m (j+1)else some j
def pvQ (n:Nat) (b:FF) (k:Nat):Nat->Nat->Option (Nat×Nat)
 |0,_=>none
 |m+1,i=>match pvC (b i) (n-k) k with
  |some j=>some (i,j)
  |none=>pvQ n b k m (i+1)
theorem rc {r:Nat->Int}: ∀m j c,pvC r m j=some c->j<=c/\c<j+m/\r c≠0
 |0,_,_,h=>by cases h
 |m+1,j,c,h=>by
  rw[pvC]at h;split at h
  ·have:=rc m (j+1) c h;omega
  rename_i b;injection h with h;subst h;exact⟨aar _,by omega,b⟩
theorem xo {r:Nat->Int}: ∀m j,pvC r m j=none-> ∀c,j<=c->c<j+m->r c=0
 |0,_,_=>fun c b f=>by omega
 |m+1,j,h=>by
  rw[pvC]at h;split at h
  ·rename_i g;intro c b f;by_cases e:c=j
   ·rw[e];exact g
   exact xo m (j+1) h c (by omega) (by omega)
  cases h
theorem xp {b:FF} {k:Nat}: ∀m i p c,pvQ n b k m i=some (p,c)->i<=p/\p<i+m/\k<=c/\c<k+(n-k)/\b p c≠0
 |0,_,_,_,h=>by cases h
 |m+1,i,p,c,h=>by
  rw[pvQ]at h;split at h
  ·rename_i j q;injection h with h
   injection h with l o
   subst l;subst o;obtain⟨f,g,e⟩:=rc _ _ _ q;exact⟨aar _,by omega,f,g,e⟩
  obtain⟨f,g,e⟩:=xp m (i+1) p c h;exact⟨by omega,by omega,e⟩
theorem Ec {b:FF} {k:Nat}: ∀m i,pvQ n b k m i=none-> ∀p c,i<=p->p<i+m->k<=c->c<k+(n-k)->b p c=0
 |0,_,_=>fun p c j l=>by omega
 |m+1,i,h=>by
  rw[pvQ]at h;split at h
  ·cases h
  rename_i o;intro p c j l f g;by_cases e:p=i
  ·rw[e];exact xo _ _ o c f g
  exact Ec m (i+1) h p c (by omega) (by omega) f g
def rkQ (n:Nat):Nat->Nat->(Nat->Nat->Int)->Int->Nat
 |0,k,_,_=>k
 |m+1,k,b,last=>match pvQ n b k (n-k) k with
  |none=>k
  |some (p,c)=>rkQ n m (k+1) (MJ k last (exQ p c k b)) (exQ p c k b k k)
theorem Eg: ∀m k (W b:FF),n-k=m->k<=n->(∀t,t<k->dk W (t+1)≠0)->(∀i j,k<=i->i<n->k<=j->j<n->b i j=bk W k i j)->Ip n W (rkQ n m k b (dk W k))
 |0,k,W,b,F,w,r,_=>by
  show Ip n W k;exact Ip.done w r fun i j l u=>by omega
 |m+1,k,W,b,F,w,r,A=>by
  have v:dk W k≠0:=by
   cases k with
   |zero=>rw[cu];omega
   |succ k=>exact r k (by omega)
  rw[rkQ];split
  ·rename_i G;exact Ip.done w r fun i j l u o z=>by rw[<- A i j l u o z];exact Ec _ _ G i j l (by omega) o (by omega)
  rename_i p c y;obtain⟨l,u,o,z,E⟩:=xp _ _ _ _ y;refine Ip.exQ (p:=p) (c:=c) (k:=k) (by omega) (by omega) (by omega) ?_;have f: ∀i j,k<=i->i<n->k<=j->j<n->Go.Proofs.YtalmoejhjceflaaGreat.exQ p c k b i j=bk (Go.Proofs.YtalmoejhjceflaaGreat.exQ p c k W) k i j:=fun i j B g C h=>by
   rw[Wa W l o];exact A _ _ (Rm l B) (p7 (by omega) (by omega) g) (Rm o C) (p7 (by omega) (by omega) h)
  have q:Go.Proofs.YtalmoejhjceflaaGreat.exQ p c k b k k=dk (Go.Proofs.YtalmoejhjceflaaGreat.exQ p c k W) (k+1):=by rw[f k k (aar _) (by omega) (aar _) (by omega),cd]
  have x:Go.Proofs.YtalmoejhjceflaaGreat.exQ p c k b k k≠0:=by
   have:Go.Proofs.YtalmoejhjceflaaGreat.exQ p c k b k k=b p c:=by unfold Go.Proofs.YtalmoejhjceflaaGreat.exQ mU;grind
   rw[this];exact E
  have s: ∀t,t<k+1->dk (Go.Proofs.YtalmoejhjceflaaGreat.exQ p c k W) (t+1)≠0:=fun t H=>by
   by_cases e:t=k
   ·rw[e,<- q];exact x
   rw[NS W l o (by omega)];exact r t (by omega)
  rw[q];refine Eg m (k+1) _ _ (by omega) (by omega) s fun i j B g C h=>?_
  have D:=sylv (Go.Proofs.YtalmoejhjceflaaGreat.exQ p c k W) k (fun t H=>s t (by omega)) i j;rw[NS W l o (aar k)]at D;show(if k<i/\k<j then _ else _)=_;rw[if_pos ⟨by omega,by omega⟩,q,f i j (by omega) g (by omega) h,f i k (by omega) g (by omega) (by omega),f k j (by omega) (by omega) (by omega) h,<- D,adD _ v]
def rkF (n:Nat) (W:FF):Nat:=rkQ n n 0 W 1
theorem nR (n:Nat) (W:FF):Ip n W (rkF n W):=
 Eg n 0 W W rfl (by omega) (fun t b=>by omega) fun i j _ _ _ _=>(dc W i j).symm
/-! Gram matrices of lists of vectors. -/
def oZ (m:Nat) (X:FF):Nat->Nat->Int:=fun i j=>smF (fun a=>X a i*X a j) m
def uf (n m:Nat) (X:FF):Prop:= ∀c:Nat->Int,(∀i,i<n->smF (fun a=>c a*X a i) m=0)-> ∀a,a<m->c a=0
def dt (n:Nat) (x y:Nat->Int):Int:=smF (fun j=>x j*y j) n
theorem XW (m:Nat) (X:FF) (u:Nat->Int) (i:Nat):smF (fun j=>oZ m X i j*u j) n=smF (fun a=>X a i*dt n (X a) u) m:=by
 unfold oZ dt;rw[aF n (G:=fun j=>smF (fun a=>X a i*(X a j*u j)) m) (fun j _=>by rw[<- nY];exact aF m fun a _=>by grind),jg];exact aF m fun a _=>by rw[bX]
theorem Y5 (x:Int):0<=x*x:=by
 rcases abU 0 x with h|h
 ·exact aaS h h
 exact aaU h h
theorem Hh {F:Nat->Int}: ∀m,0<=smF (fun a=>F a*F a) m/\(smF (fun a=>F a*F a) m=0-> ∀a,a<m->F a=0)
 |0=>⟨by simp[smF],fun _ a c=>by omega⟩
 |m+1=>by
  obtain⟨f,b⟩:=Hh (F:=F) m;have g:=Y5 (F m);rw[smF];refine⟨by omega,fun h a c=>?_⟩;by_cases e:a=m
  ·rw[e];rcases adf.1 (show F m*F m=0 by omega)with h|h<;>exact h
  exact b (by omega) a (by omega)
theorem NL (h:n<m) (E:FF): ∃c:Nat->Int,(∃a,a<m/\c a≠0)/\ ∀t,t<n->smF (fun a=>E t a*c a) m=0:=by
 obtain⟨c,⟨a,e,f⟩,j⟩:=AZ n (fun a t=>E t a);refine⟨fun a=>if a<=n then c a else 0,⟨a,by omega,by show(if a<=n then c a else 0)≠0;rw[if_pos e];exact f⟩,fun t g=>?_⟩;have b: ∀d,smF (fun a=>E t a*(if a<=n then c a else 0)) (n+1+d)=smF (fun a=>c a*E t a) (n+1):=fun d=>by
  induction d with
  |zero=>exact aF _ fun a e=>by rw[if_pos (by omega),adj]
  |succ d l=>
   show smF _ (n+1+d+1)=_;rw[smF,l,if_neg (by omega),ab3,adN]
 have:=b (m-(n+1));rw[show n+1+(m-(n+1))=m by omega]at this;rw[this];exact j t g
theorem SI (m:Nat) (X:FF) (c:Nat->Int) (y:Nat->Int):dt n y (fun j=>smF (fun a=>c a*X a j) m)=smF (fun a=>c a*dt n y (X a)) m:=by
 unfold dt;rw[aF n (G:=fun j=>smF (fun a=>c a*(y j*X a j)) m) (fun j _=>by rw[<- bX];exact aF m fun a _=>by grind),jg];exact aF m fun a _=>by rw[bX]
theorem PZ {r:Nat} {Y:FF} (z:Ip n (oZ m f) r) (A: ∀b,b<j-> ∃a,a<m/\ ∀i,i<n->Y b i=f a i) (y:uf n j Y):j<=r:=by
 obtain⟨R,C,K,_,p⟩:=z;refine acP fun H=>?_
 obtain⟨c,⟨a,h,D⟩,J⟩:=NL H (fun t a=>smF (fun g=>oZ m f (R t) g*Y a g) n);obtain⟨u,o⟩: ∃u:Nat->Int,u=fun g=>smF (fun a=>c a*Y a g) j:=⟨_,rfl⟩
 have q:=p u (fun t I=>by
  rw[<- J t I,o];rw[aF n (G:=fun g=>smF (fun a=>c a*(oZ m f (R t) g*Y a g)) j) (fun g _=>by rw[<- bX];exact aF j fun a _=>by grind),jg];exact aF j fun a _=>by rw[bX,adj])
 have v:smF (fun a=>dt n (f a) u*dt n (f a) u) m=0:=by
  have e:smF (fun i=>u i*smF (fun g=>oZ m f i g*u g) n) n=0:=by
   rw[aF n (G:=fun _=>0) (fun i l=>by rw[q i l,ab3]),dC]
  rw[<- e,aF n (F:=fun i=>u i*smF (fun g=>oZ m f i g*u g) n) (G:=fun i=>smF (fun a=>dt n (f a) u*(f a i*u i)) m) (fun i _=>by rw[XW,<- bX];exact aF m fun a _=>by grind),jg];exact aF m fun a _=>by rw[bX];rfl
 have w:=(Hh m).2 v;have x:smF (fun g=>u g*u g) n=0:=by
  have:=SI j Y c u (n:=n);rw[<- o,aF j (G:=fun _=>0) (fun b B=>by
   obtain⟨a,h,e⟩:=A b B;have e:dt n u (Y b)=dt n (f a) u:=aF n fun g E=>by rw[e g E];exact adj _ _
   rw[e,w a h,ab3]),dC]at this
  exact this
 exact D (y c (fun i l=>by have:=(Hh n).2 x i l;rwa[o]at this) a h)
theorem PY (e:Ip n (oZ m f) j) (c:uf n m f):m<=j:=PZ e (fun b g=>⟨b,g,fun _ _=>rfl⟩) c
def ZY (n m s:Nat) (X Y:FF):Prop:= ∀a,a<m-> ∃(q:Int) (c:Nat->Int),q≠0/\ ∀i,i<n->q*X a i=smF (fun b=>c b*Y b i) s
theorem Jz {m s:Nat} {X Y:FF} (p:Ip n (oZ m X) j) (o:ZY n m s X Y):j<=s:=by
 obtain⟨R,C,g,l,_⟩:=p;refine acP fun z=>?_
 obtain⟨c,⟨t0,f,x⟩,D⟩:=NL z (fun b t=>Y b (C t));refine x (l c (fun t E=>?_) t0 f);have v: ∀a,a<m->smF (fun u=>X a (C u)*c u) j=0:=fun a e=>by
  obtain⟨q,d,A,y⟩:=o a e;have:q*smF (fun u=>X a (C u)*c u) j=0:=by
   rw[<- bX,aF j (G:=fun u=>smF (fun b=>d b*(Y b (C u)*c u)) s) (fun u B=>by rw[<- ac9,y _ (g u B).2,<- nY];exact aF s fun b _=>by grind),jg,
    aF s (G:=fun _=>0) (fun b w=>by rw[bX,D b w,ab3]),dC]
  rcases adf.1 this with h|h
  ·exact absurd h A
  exact h
 unfold oZ;rw[aF j (G:=fun u=>smF (fun a=>X a (R t)*(X a (C u)*c u)) m) (fun u _=>by rw[<- nY];exact aF m fun a _=>by grind),jg,
  aF m (G:=fun _=>0) (fun a e=>by rw[bX,v a e,ab3]),dC]
end
section
variable {n:Nat}
def vL (l:List (Int×List Int)) (a:Nat):Nat->Int:=fun i=>((l.getD a (0,[])).2).getD i 0
def kL (l:List (Int×List Int)) (a:Nat):Int:=(l.getD a (0,[])).1
theorem lI {b:Type} (l:List b) (x d:b) {a:Nat}:(a<l.length->(l++[x]).getD a d=l.getD a d)/\(l++[x]).getD l.length d=x:=by
 refine⟨fun h=>?_,?_⟩
 ·rw[aaw,aaw,aaB h]
 rw[aaw,aaE (aar _),abC];rfl
theorem Ig (l:List (Int×List Int)) (x:Int×List Int) {a:Nat} (h:a<l.length):vL (l++[x]) a=vL l a:=by unfold vL;rw[(lI l x (0,[])).1 h]
theorem Ci (l:List (Int×List Int)) (x:Int×List Int):vL (l++[x]) l.length=fun i=>x.2.getD i 0:=by unfold vL;rw[(lI l x (0,[]) (a:=0)).2]
theorem WO {l:List (Int×List Int)} {a:Nat} (h:a<l.length): ∃x∈l,kL l a=x.1/\vL l a=fun i=>x.2.getD i 0:=by
 refine⟨l[a],List.getElem_mem h,?_,?_⟩
 ·unfold kL;rw[aaw,aay h];rfl
 unfold vL;rw[aaw,aay h];rfl
theorem ze {a:Nat} (e:a<n) (F:Nat->Int):1*F a=smF (fun b=>(if b=a then 1 else 0)*F b) n:=by
 rw[kT (a:=a) e fun p _ c=>by rw[if_neg c,acB],if_pos rfl]
theorem SB {s:Nat} (g:s<=n) (c F:Nat->Int):smF (fun b=>(if b<s then c b else 0)*F b) n=smF (fun b=>c b*F b) s:=by
 obtain⟨d,rfl⟩: ∃d,n=s+d:=⟨n-s,by omega⟩
 induction d with
 |zero=>exact aF _ fun b e=>by rw[if_pos (show b<s from e)]
 |succ d f=>show smF _ (s+d+1)=_;rw[smF,f (by omega),if_neg (by omega),acB,adN]
theorem Oo (u:uf n m f) (w: ¬uf n (m+1) f): ∃(q:Int) (c:Nat->Int),q≠0/\ ∀i,i<n->q*f m i=smF (fun b=>c b*f b i) m:=by
 obtain⟨c,v⟩:=adZ.1 w;obtain⟨o,r⟩:=Classical.not_imp.1 v;obtain⟨a,p⟩:=adZ.1 r;obtain⟨p,g⟩:=Classical.not_imp.1 p;have key: ∀i,i<n->c m*f m i=smF (fun b=> -c b*f b i) m:=fun i j=>by
  have h:=o i j;rw[smF]at h;have s:smF (fun b=> -c b*f b i) m= -1*smF (fun b=>c b*f b i) m:=by rw[<- bX];exact aF m fun b _=>by grind
  rw[s];omega
 refine⟨c m,fun b=> -c b,fun l=>?_,key⟩;have t: ∀b,b<m->c b=0:=u c fun i j=>by
  have h:=o i j;rw[smF,l]at h;omega
 by_cases e:a=m
 ·rw[e]at g;exact g l
 exact g (t a (by omega))
def Rw (n:Nat):List (Int×List Int)->List (Int×List Int)->List (Int×List Int)
 |[],b=>b
 |x::r,b=>if b.length<rkF n (oZ (b.length+1) (vL (b++[x])))then Rw n r (b++[x])else Rw n r b
end
section
section
variable {n:Nat} {X:FF} {p:Nat->Nat}
def spM (X:FF) (p:Nat->Nat) (k a j:Nat):Int:=dK (X a) (om X k) (j::(lg k).map p)
def pvD (X:FF) (p:Nat->Nat) (k:Nat):Int:=om X k ((lg k).map p)
theorem Ez (a j:Nat):spM X p 0 a j=X a j:=by simp[spM,lg,dK,om]
theorem JG {f:Nat->Nat} {k:Nat} (a:Nat) (h: ∀t,t<k->f t=p t):spM X p k a (f n)=bk (fun i t=>X i (f t)) k a n:=by
 have b:(lg k).map p=(lg k).map f:=aaN fun t e=>(h t (jp e)).symm
 unfold spM bk;rw[b,<- aaI,<- uF]
 congr 1
 exact funext fun l=>(wY (R:=X) f k l).symm
theorem PI {f:Nat->Nat} {k:Nat} (h: ∀t,t<k->f t=p t):pvD X p k=dk (fun i t=>X i (f t)) k:=by
 have b:(lg k).map p=(lg k).map f:=aaN fun t c=>(h t (jp c)).symm
 unfold pvD dk;rw[b];exact(wY (R:=X) f k (lg k)).symm
theorem JH {k:Nat} (l: ∀t,t<k->pvD X p (t+1)≠0) (a j:Nat):
  pvD X p k*spM X p (k+1) a j=pvD X p (k+1)*spM X p k a j-spM X p k a (p k)*spM X p k k j:=by
 obtain⟨f,b⟩: ∃f:Nat->Nat,f=fun t=>if t<=k then p t else j:=⟨_,rfl⟩
 have h: ∀m,m<=k+1-> ∀t,t<m->f t=p t:=fun m o t c=>by rw[b];exact if_pos (by omega)
 have e:j=f (k+1):=by rw[b];exact(if_neg (by omega)).symm
 have g:p k=f k:=(h (k+1) (aar _) k (by omega)).symm;rw[e,g,JG a (h (k+1) (aar _)),JG a (h k (by omega)),JG a (h k (by omega)),JG k (h k (by omega)),PI (h k (by omega)),PI (h (k+1) (aar _))];exact sylv _ k (fun t c=>by rw[<- PI (h (t+1) (by omega))];exact l t c) a (k+1)
theorem Xm {k:Nat} (b: ∀t,t<k->pvD X p (t+1)≠0) (a j:Nat):
  spM X p (k+1) a j=(pvD X p (k+1)*spM X p k a j-spM X p k a (p k)*spM X p k k j)/pvD X p k:=by
 have c:pvD X p k≠0:=by
  cases k with
  |zero=>show(1:Int)≠0;omega
  |succ k=>exact b k (by omega)
 rw[<- JH b,adD _ c]
theorem OG (c:Nat->Int) (X:FF) (F:List Nat->Int) (b:List Nat): ∀m,dK (fun i=>smF (fun a=>c a*X a i) m) F b=smF (fun a=>c a*dK (X a) F b) m
 |0=>oy b F fun c _=>rfl
 |m+1=>by
  have:=Bc 1 (c m) (fun i=>smF (fun a=>c a*X a i) m) (X m) b F;simp only[adu]at this;rw[smF,<- OG c X F b m,<- this];rfl
theorem Qj: ∀s,(∀t,t<s->pvD X p (t+1)≠0/\p t<n)->uf n s X
 |0,_=>fun c _ a f=>by omega
 |s+1,g=>fun c m=>by
  have b:=OG c X (om X s) ((lg (s+1)).map p) (s+1);rw[oy _ _ fun i j=>by
   obtain⟨t,o,rfl⟩:=aau.1 j;exact m _ (g t (jp o)).2]at b
  have q:smF (fun a=>c a*dK (X a) (om X s) ((lg (s+1)).map p)) s=0:=by
   rw[aF s (G:=fun _=>0) fun a f=>by rw[Bx X f,ab3],dC]
  rw[smF,q]at b;have r:c s*pvD X p (s+1)=0:=by
   have w:(0:Int)+c s*pvD X p (s+1)=0:=b.symm;omega
  have l:c s=0:=by
   rcases adf.1 r with h|h
   ·exact h
   exact absurd h (g s (by omega)).1
  have u:=Qj s (fun t o=>g t (by omega)) c fun i j=>by
   have v:=m i j;rw[smF,l]at v;omega
  intro a f;by_cases e:a=s
  ·rw[e];exact l
  exact u a (by omega)
theorem B8: ∀k,(∀t,t<k->pvD X p (t+1)≠0)-> ∀a,∃(e q:Int) (c:Nat->Int),e≠0/\q≠0/\ ∀j,e*spM X p k a j=q*X a j+smF (fun b=>c b*X b j) k
 |0,_,a=>⟨1,1,fun _=>0,by decide,by decide,fun j=>by rw[Ez];simp[smF]⟩
 |k+1,h,a=>by
  obtain⟨f,G,l,A,B,C⟩:=B8 k (fun t s=>h t (by omega)) a;obtain⟨g,o,m,r,J,x⟩:=B8 k (fun t s=>h t (by omega)) k;have y:pvD X p k≠0:=by
   cases k with
   |zero=>show(1:Int)≠0;omega
   |succ k=>exact h k (by omega)
  have D:=h k (by omega);obtain⟨z,F⟩: ∃z,z=spM X p k a (p k):=⟨_,rfl⟩;refine⟨f*g*pvD X p k,pvD X p (k+1)*g*G,fun b=>if b=k then-z*f*o else pvD X p (k+1)*g*l b-z*f*m b,abN (abN A r) y,abN (abN D r) B,fun j=>?_⟩;have E:=JH (fun t s=>h t (by omega)) a j (k:=k) (X:=X) (p:=p);have H:=C j;have I:=x j;rw[<- F]at E;have e:smF (fun b=>(if b=k then-z*f*o else pvD X p (k+1)*g*l b-z*f*m b)*X b j) (k+1)=(pvD X p (k+1)*g)*smF (fun b=>l b*X b j) k+(- (z*f))*smF (fun b=>m b*X b j) k+(- z*f*o)*X k j:=by
   rw[smF,if_pos rfl,<- bX,<- bX,<- mJ]
   congr 1
   exact aF k fun b K=>by
    rw[if_neg (by omega)];grind
  rw[e];generalize smF (fun b=>l b*X b j) k=s1 at*
  generalize smF (fun b=>m b*X b j) k=s2 at*
  generalize spM X p (k+1) a j=u at*
  generalize spM X p k a j=v at*
  generalize spM X p k k j=w at*
  generalize pvD X p k=d0 at*
  generalize pvD X p (k+1)=d1 at*
  grind
theorem T4 {a:Nat} (o: ∀t,t<m->pvD X p (t+1)≠0) (f: ∀j,j<n->spM X p m a j=0): ∃(q:Int) (c:Nat->Int),q≠0/\ ∀i,i<n->q*X a i=smF (fun b=>c b*X b i) m:=by
 obtain⟨e,q,c,u,g,h⟩:=B8 m o a;refine⟨q,fun b=> -1*c b,g,fun i r=>?_⟩;have l:=h i;rw[f i r,ab3]at l;rw[aF m (G:=fun b=> -1*(c b*X b i)) fun b _=>by rw[ac9],bX];omega
theorem Y2 {Y:FF} (g: ∀b,b<j-> ∃a,a<m/\ ∀i,i<n->Y b i=f a i) (e:uf n j Y) (c:ZY n m j f Y):rkF n (oZ m f)=j:=
 Nat.le_antisymm (Jz (nR n _) c) (PZ (nR n _) g e)
end
end
section
variable {n:Nat}
def ME (a r:Int):Prop:=0<=r/\r*r<=a/\a<(r+1)*(r+1)
theorem qH {a u:Int} (h:ME a x):u*u<=a↔ -x<=u/\u<=x:=by
 obtain⟨b,f,g⟩:=h;constructor
 ·intro l;constructor
  ·refine ab9 fun e=>?_
   have:=aa7 (show x+1<= -u by omega) (show x+1<= -u by omega) (by omega) (by omega);grind
  refine ab9 fun e=>?_
  have:=aa7 (show x+1<=u by omega) (show x+1<=u by omega) (by omega) (by omega);omega
 rintro⟨j,c⟩;rcases abU 0 u with h|h
 ·have:=aa7 c c h b;omega
 have:=aa7 (show -u<=x by omega) (show -u<=x by omega) (by omega) b;grind
theorem ME.uniq {a s:Int} (h:ME a x) (k:ME a s):x=s:=by
 have b:=(qH h).1 k.2.1;have c:=(qH k).1 h.2.1;omega
theorem Gw {a:Int} (h:0<=a): ∃r,ME a r:=by
 obtain⟨m,rfl⟩:=aaK h;clear h
 induction m with
 |zero=>exact⟨0,by grind [ME]⟩
 |succ m c=>
  obtain⟨r,b,e,f⟩:=c;by_cases h:((m+1:Nat):Int)<(r+1)*(r+1)
  ·exact⟨r,b,by omega,h⟩
  refine⟨r+1,by omega,by omega,?_⟩;grind
open Classical in
noncomputable def isqF (a:Int):Int:=if h: ∃r,ME a r then Classical.choose h else 0
theorem eF {a:Int} (h:0<=a):ME a (isqF a):=by
 grind [isqF,Gw]
def uS (h:FF) (n k:Nat) (x:Nat->Int):Int:=smF (fun j=>if j<=k then 0 else bk h k k j*x j) n
def mK (h:FF) (n:Nat) (B:Int) (k:Nat) (x:Nat->Int):Int:=dk h k*(B*dk h (k+1)-BF n (bk h (k+1)) x x)
noncomputable def eB (h:FF) (n:Nat) (B:Int) (k:Nat) (x:Nat->Int):Int:= -((isqF (mK h n B k x)+uS h n k x)/dk h (k+1))
noncomputable def fC (h:FF) (n:Nat) (B:Int) (k:Nat) (x:Nat->Int):Int:=(isqF (mK h n B k x)-uS h n k x)/dk h (k+1)
def gM (h:FF) (n:Nat) (B:Int) (k:Nat) (x:Nat->Int):Prop:=BF n (bk h k) x x<=B*dk h k
theorem BZ {k:Nat} (e: ∀i,k<i->i<n->b i=c i):uS f n k b=uS f n k c:=aF n fun j g=>by
 grind
section
variable {h:FF} (hr:PD h n)
include hr
theorem AM {k i:Nat} (e:k<=n) (b:i<n) (c:m<k):bk h k i m=0:=by
 rw[jo hr.1 k e (fun t f=>by have:=hr.2 t (by omega);omega) i m b (by omega)];exact mg h c i
theorem Au {k:Nat} (m:k<=n) {x' y':Nat->Int} (e: ∀i,k<=i->i<n->b i=x' i) (l: ∀i,k<=i->i<n->c i=y' i):BF n (bk h k) b c=BF n (bk h k) x' y':=by
 have z: ∀u:Nat->Int,∀i,i<k->smF (fun j=>bk h k i j*u j) n=0:=fun u i f=>by
  rw[aF n (G:=fun _=>0*0) fun j _=>by grind [mg],bX,acB]
 refine aF n fun i f=>?_
 by_cases g:i<k
 ·simp_all
 grind [aF,AM]
theorem gM.tail {k:Nat} (c:k<=n) {x':Nat->Int} (e: ∀i,k<=i->i<n->b i=x' i):gM h n x k b↔gM h n x k x':=by
 grind [gM,Au]
theorem zY {k:Nat} (c:k<n) (x:Nat->Int):smF (fun j=>bk h k k j*x j) n=dk h (k+1)*x k+uS h n k x:=by
 have b:=rD (F:=fun j=>if j<=k then 0 else bk h k k j*x j) (G:=fun j=>bk h k k j*x j) c (fun j f e=>by
  grind [AM])
 rw[b,show(if k<=k then 0 else bk h k k k*x k)=(0:Int)from if_pos (aar k)];show uS h n k x+(dk h (k+1)*x k-0)=_;omega
theorem B9 {B:Int} {k:Nat} (f:k<n) (e: ∀i,k<i->i<n->b i=c i):mK h n B k b=mK h n B k c:=by
 grind [mK,Au]
theorem I7 {k:Nat} (f:k<n) (e: ∀i,k<i->i<n->b i=c i):eB h n x k b=eB h n x k c:=by
 grind [eB,B9,BZ]
theorem I0 {k:Nat} (f:k<n) (e: ∀i,k<i->i<n->b i=c i):fC h n x k b=fC h n x k c:=by
 grind [fC,B9,BZ]
theorem Af {k:Nat} (e:k<n) (c:gM h n x (k+1) b):0<=mK h n x k b:=by
 have:0<dk h k:=iA fun t f=>hr.2 t (by omega)
 exact aaS (by omega) (by grind [gM])
theorem zi {k:Nat} (c:k<n) (g:gM h n x (k+1) b):gM h n x k b↔eB h n x k b<=b k/\b k<=fC h n x k b:=by
 have e:0<dk h (k+1):=hr.2 k c;have key:=lX hr.1 hr.2 b c;rw[zY hr c]at key;have j:=eF (Af hr c g);have f:gM h n x k b↔(dk h (k+1)*b k+uS h n k b)*(dk h (k+1)*b k+uS h n k b)<=mK h n x k b:=by
  unfold gM mK;have l:dk h (k+1)*BF n (bk h k) b b<=dk h (k+1)*(x*dk h k)↔BF n (bk h k) b b<=x*dk h k:=⟨fun h=>acR h e,fun h=>aaH h (by omega)⟩;grind
 rw[f,qH j];unfold eB fC;generalize isqF (mK h n x k b)=r at*
 generalize uS h n k b=s at*
 generalize dk h (k+1)=d at*
 have m:b k<=(r-s)/d↔b k*d<=r-s:=ab2 e;have o: -(b k)<=(r+s)/d↔ -(b k)*d<=r+s:=ab2 e;grind
theorem gM.up {k:Nat} (e:k<n) (f:gM h n x k b):gM h n x (k+1) b:=by
 have m:0<dk h (k+1):=hr.2 k e;have c:0<dk h k:=iA fun t o=>hr.2 t (by omega)
 have key:=lX hr.1 hr.2 b e;generalize smF (fun j=>bk h k k j*b j) n=L at*
 have g:0<=L*L:=by
  rcases abU 0 L with h|h
  ·exact aaS h h
  exact aaU h h
 unfold gM at*
 have l:=aaH f (show 0<=dk h (k+1) by omega);refine acR (a:=dk h k) ?_ c;grind
theorem gM.ups {k:Nat} (c:gM h n x k b): ∀m,k+m<=n->gM h n x (k+m) b
 |0,_=>c
 |m+1,e=>(gM.ups c m (Nat.le_of_succ_le e)).up hr e
end
theorem qb:gM f n x 0 b↔BF n f b b<=x:=by
 unfold gM;rw[cu,Int.mul_one,jW (fun i j _ _=>dc f i j) (fun _ _=>rfl) (fun _ _=>rfl)]
theorem kv (c:PD f n) (j:0<=x):gM f n x n b:=by
 have z:BF n (bk f n) b b=0:=by
  rw[Au c (aar n) (x':=fun _=>0) (y':=fun _=>0) (fun i e g=>by omega) (fun i e g=>by omega)];grind [uv]
 have l:0<dk f n:=iA fun t m=>c.2 t (by omega)
 unfold gM;rw[z];exact aaS j (by omega)
/-! Lists. -/
def aY (n:Nat) (y:List Int):Nat->Int:=fun i=>if i+y.length<n then 0 else y.getD (i+y.length-n) 0
theorem EJ {k i:Nat} (f:e.length+(k+1)=n) (b:k<i):aY n (x::e) i=aY n e i:=by
 grind [aY]
theorem EK {k:Nat} (b:e.length+(k+1)=n):aY n (x::e) k=x:=by
 grind [aY]
theorem Uj {k:Nat}: ∀{p:List Int},p.length=k->e.length+k=n-> ∀i,k<=i->aY n (p++e) i=aY n e i
 |p,f,c,i,b=>by
  grind [aY]
theorem rQ (b:e.length=n) (i:Nat):aY n e i=e.getD i 0:=by
 grind [aY]
def rng (a b:Int):List Int:=(List.range (b-a+1).toNat).map fun i:Nat=>a+(i:Int)
theorem oD {a c:Int}:c∈rng a x↔a<=c/\c<=x:=by
 simp only[rng,aau,aa9];constructor
 ·omega
 rintro⟨e,f⟩;exact⟨(c-a).toNat,by omega,by omega⟩
noncomputable def gE (h:FF) (n:Nat) (B:Int):Nat->List Int->List (List Int)
 |0,y=>[y]
 |k+1,y=>(rng (eB h n B k (aY n y)) (fC h n B k (aY n y))).flatMap fun c=>gE h n B k (c::y)
theorem Bo {h:FF} (g:PD h n) {B:Int}: ∀k (y:List Int),y.length+k=n->gM h n B k (aY n y)-> ∀z,z∈gE h n B k y↔(∃p,p.length=k/\z=p++y)/\BF n h (aY n z) (aY n z)<=B
 |0,y,o,l,z=>by
  rw[gE,aaq];constructor
  ·rintro rfl;exact⟨⟨[],rfl,rfl⟩,qb.1 l⟩
  grind
 |k+1,y,o,l,z=>by
  have step: ∀c,gM h n B k (aY n (c::y))↔eB h n B k (aY n y)<=c/\c<=fC h n B k (aY n y):=fun c=>by
   have w: ∀i,k<i->i<n->aY n (c::y) i=aY n y i:=fun i r _=>EJ o r
   grind [zi,gM.tail,EK,I7,I0]
  rw[gE,adH];constructor
  ·rintro⟨c,s,v⟩;obtain⟨⟨p,m,rfl⟩,b⟩:=(Bo g k (c::y) (by grind) ((step c).2 (oD.1 s)) z).1 v;exact⟨⟨p++[c],by simp[m],by simp⟩,b⟩
  rintro⟨⟨p,m,rfl⟩,b⟩;obtain⟨q,c,rfl⟩: ∃q c,p=q++[c]:=by
   have f:p≠[]:=fun h=>by grind
   exact⟨p.dropLast,p.getLast f,(List.dropLast_concat_getLast f).symm⟩
  have u:q.length=k:=by grind
  have e:q++[c]++y=q++c::y:=by simp
  rw[e]at b⊢;have t:(c::y).length+k=n:=by grind
  have j:gM h n B k (aY n (c::y)):=by
   have:=gM.ups g (qb.2 b) k (by omega);grind [gM.tail,Uj]
  exact⟨c,oD.2 ((step c).1 j),(Bo g k (c::y) t j _).2 ⟨⟨q,u,rfl⟩,b⟩⟩
theorem Tb (g:PD f n) (j:0<=x) (z:List Int):z∈gE f n x n []↔z.length=n/\BF n f (fun i=>z.getD i 0) (fun i=>z.getD i 0)<=x:=by
 rw[Bo g n [] (by simp) (kv g j)];constructor
 ·rintro⟨⟨p,e,rfl⟩,b⟩;rw[aa8]at b⊢;exact⟨e,by rwa[show aY n p=fun i=>p.getD i 0 from funext (rQ e)]at b⟩
 rintro⟨c,b⟩;exact⟨⟨z,c,by simp⟩,by rwa[show aY n z=fun i=>z.getD i 0 from funext (rQ c)]⟩
end
theorem uT {F:Nat->Int} {B:Nat}: ∀k,(∀p,p<k->(F p).natAbs<=B)->(smF F k).natAbs<=k*B
 |0,_=>by simp[smF]
 |k+1,h=>by
  have b:=uT k fun p c=>h p (by omega)
  grind [smF]
section
variable {n:Nat}
theorem Ae {F:Nat->Int} {k:Nat} (h: ∀i,i<k->F i=0): ∀m,smF F (k+m)=smF (fun a=>F (k+a)) m
 |0=>by
  rw[aa5,aF k (G:=fun _=>0) h,dC];rfl
 |m+1=>by rw[<- adE,smF,smF,Ae h m]
theorem sB {m:Nat} (g:Nat->Int) (y:List Int): ∀l,l<=m->fo (aN m g) y l=smF (fun b=>g b*y.getD b 0) l
 |0,_=>rfl
 |l+1,h=>by
  show fo (aN m g) y l+(aN m g).getD l 0*y.getD l 0=_;rw[sB g y l (by omega),aaw,aw _ (by omega)];rfl
theorem XE {k a:Nat} (b:e.length+(k+1)=n):aY n e (k+1+a)=e.getD a 0:=by
 grind [aY]
def stF (f:FF) (k:Nat):Nat->Nat->Int:=fun a b=>bk f k (k+a) (k+b)
theorem Xg (f:FF) {k:Nat} (g:e.length+(k+1)=n):fo (aN e.length fun j=>stF f k 0 (j+1)) e e.length=uS f n k (aY n e):=by
 rw[sB _ _ _ (aar _),uS,show n=k+1+e.length by omega,Ae fun i c=>if_pos (by omega)];refine aF _ fun a b=>?_
 rw[if_neg (by omega),XE (by omega)];show bk f k (k+0) (k+(a+1))*_=_;grind
theorem Ww (f:0<n) (h:x.natAbs<=n*m):(x/(n:Int)).natAbs<=m:=by
 have e:((n*m:Nat):Int)=(m:Int)*(n:Int):=by grind
 have b:x/(n:Int)<(m:Int)+1:=Int.ediv_lt_of_lt_mul (by omega) (by grind);have c: -(m:Int)<=x/(n:Int):=adU (by omega) (by grind);omega
end
section
theorem BK (a b:Int):(rng a b).length=(b-a+1).toNat:=by
 simp_all[rng]
def sL (n:Nat) (c:List Int):Int:=smF (fun i=>c.getD i 0) n
def ZL (m:Nat) (d:Int) (c:List Int):List Int:=c.set m (c.getD m 0+(d+1))
section
variable (n:Nat) (f:FF) (B bud:Int)
end
section
variable {n:Nat} {f:FF} {B bud:Int}
theorem Og {i:Nat} (b:n<e.length):(e.set n x).getD i 0=if i=n then x else e.getD i 0:=by
 grind
theorem NK {m i:Nat} {d:Int} {c:List Int} (b:m<c.length):(ZL m d c).getD i 0=if i=m then c.getD m 0+(d+1)else c.getD i 0:=Og b
theorem SA {m:Nat} {d:Int} (b:e.length=n) (g:m<n):sL n (ZL m d e)=sL n e+(d+1):=by
 grind [sL,rD,NK]
theorem ou (k:Nat) (y:List Int):(gE f n B (k+1) y).length=((rng (eB f n B k (aY n y)) (fC f n B k (aY n y))).map fun x=>(gE f n B k (x::y)).length).sum:=by
 simp_all[gE]
theorem Ca {b:Type} (l:List b):(l.map fun _=>1).sum=l.length:=by
 induction l with
 |nil=>rfl
 |cons x l c=>grind
end
end
theorem G0 (x y:List Int):CallC prog 21 [mY x,mY y] ⟨[],.raw (.int .i64 (dj x y))⟩:=by
 refine jK (by kernel_rfl) fun X w vs u p f=>?_
 obtain⟨C,s,q⟩:=sC f (j:=0) rfl;obtain⟨D,t,r⟩:=sC f (j:=1) rfl;obtain⟨A,c,rfl,v,o,l⟩:=uO q;obtain⟨B,d,rfl,z,b,m⟩:=uO r;obtain rfl:vs= #[.slice A x.length c,.slice B y.length d]:=by
  grind
 refine(nQ A B c d x y w l m o b).mono fun e E ⟨g,h⟩=>?_
 obtain⟨n,rfl⟩:=h;exact⟨_,g,fun _ _ _=>bM.raw _ rfl,(Ext.refl _).drewN n⟩
end Go.Proofs.YtalmoejhjceflaaGreat
