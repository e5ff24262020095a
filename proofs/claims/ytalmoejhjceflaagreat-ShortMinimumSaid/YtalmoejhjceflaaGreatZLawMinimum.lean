/-
  Proved: the statement ShortMinimumSaid: for every input the law quadformlaw13.ShortMinimum returns true, and each argument reads afterwards as it read before. No condition.
-/
import Derived.Test.YtalmoejhjceflaaGreatQ49
import Derived.OpenShut
set_option linter.all false
set_option maxRecDepth 100000
set_option maxHeartbeats 64000000
open Nat renaming reduceAdd → aa
open Nat renaming reduceEqDiff → ab
open List renaming replicate → ae
namespace Go.Proofs.YtalmoejhjceflaaGreat
open Go.RowKit Go.Proofs.Tryz
section
open Go.ChangeShapes Go.WideShapes Go.ChangeAt Go.RowKit
theorem s8:joinedFacts Tryz.pinned.checked.prog 3 Tryz.f3 Rows.shortMinimumSpec Rows.shortMinimumRow=true:=by kernel_rfl
end
variable {n m:Nat} {b:List Nat} {c:FuncId} {e:List Int} {f:FF} {g:Array Oper} {x:Int} {h:TV}
section
theorem CallC.nilA {P:Program} {args:List TV} {res:CallRes} {k:Nat} (h:CallC P c args res) (m:args[k]?=some (.one (.p (.sl [])))):CallC P c (args.set k (.one (.p (.raw (.slice none 0 0))))) res:=by
 have o:=(aci.1 m).1;refine⟨h.1,fun X w vs n e g=>h.2 X w vs n (by simpa using e) fun j t b=>?_⟩;by_cases l:j=k
 ·subst l;obtain⟨v,q,r⟩:=g j _ (acS o);rw[m]at b;injection b with b
  subst b;have:=(aZ (ρ:=fun _ _=>none) (H:=fun _=>[]) r).1;subst this;exact⟨_,q,bS.nil _ _⟩
 exact g j t (by rw[ac4 (aed l)];exact b)
theorem iW.nilA {P:Program} {args:List TV} {F x:List OObj} {k:Nat} (g:iW P c args n m F x h) (A:args[k]?=some (.one (.p (.sl [])))) (E:k≠n):iW P c (args.set k (.one (.p (.raw (.slice none 0 0))))) n m F x h:=by
 have D:=(aci.1 A).1;refine⟨g.able,g.noref,g.head,fun X w vs B b e C u s q y=>g.calls X w vs B b e C u (by simpa using s) q fun j t l o=>?_⟩;by_cases z:j=k
 ·subst z;obtain⟨v,G,I⟩:=y j _ l (acS D);rw[A]at o;injection o with o
  subst o;have:=(aZ (ρ:=fun _ _=>none) (H:=fun _=>[]) I).1;subst this;exact⟨_,G,bS.nil _ _⟩
 exact y j t l (by rw[ac4 (aed z)];exact o)
section
variable {P:Program} {s:AS} {Q:Exit->AS->Prop}
theorem Bv {T w:World} {O X:Nat->Prop} {a:Act} (B:dq T O X s a w) {o:Oper} {g:Call} (ho:o.op= .call g) (z:g.callee= .value (.func c)) {args:List TV} {res:CallRes} (q:CallC P c args res) {d:Nat} (G:fz s.ev g.args.toList=some args) (M:args.all oX=true) (hd:res.fam≠[]->s.H d=[]) (A:o.dst=some d) {K:Act->World->Prop} {Q:Exit->Act->World->Prop} (hK: ∀v S,dq T O X (jJ s d (renTV d res.r) (res.fam.map (renO d))) (a.put o.dst v) S->K (a.put o.dst v) S):o.wp P a w K Q:=by
 obtain⟨Z,I,D,l,p⟩:=B;have p:bo X D s a w:=p;obtain⟨U,V⟩:=bP G;have C:=fW (w:=w) ho z (e:=a.eval) rfl q.1;unfold Oper.wp;rw[C];simp only[Oper.upon];rw[acr]at M;have L: ∀b,(if res.plain then(fun _=>False)else Xo X D s.H:Nat->Prop) b->Xo X D s.H b:=fun b m=>by
  split at m
  ·exact m.elim
  exact m
 have t: ∀b,Xo X D s.H b->b<w.heap.size:=fun b m=>by
  rcases m with m|⟨x,y,o',n,W,Y⟩
  ·exact l.bar b m
  exact bz (l.objs x y o' W) Y
 refine(q.2 (if res.plain then(fun _=>False)else Xo X D s.H) w (g.args.map a.eval) (fun b m=>t b (L b m)) (by simp[U]) fun j u N=>?_).mono ?_
 ·obtain⟨y,R,J⟩:=V j u N;exact⟨a.eval y,by rw[adp];simp at R;rw[R];rfl,oY L (M u (acd N)) (bv p y u J)⟩
 rintro e F ⟨v,rfl,E,hi,hr⟩;show K (a.put o.dst v) F;have:=kn (P:=P) (it:=(⟨0,c,args,res⟩:cG P)) (d:=d) (v:=v) (w1:=F) (ρc:=E) Z I l p rfl rfl (fun h:res.fam.map (renO d)≠[]=>hd (by simpa using h)) hi hr;rw[<- A]at this;exact hK v F this
structure P9 (ops:Array Oper) (m:Nat) (f:FuncId) (args:List TV) (res:CallRes) (s:AS):Prop where
 ts:cwTs ops m s=some (f,args)
 dst: ∃d,cwD ops m=some d/\(res.fam≠[]->s.H d=[])
theorem vG (m:Nat) {args:List TV} {res:CallRes} (r:CallC P c args res) (R:args.all oX=true) (l:List (aq P)) (y:List Nat) {id:Nat} (C:m<g.toList.length) (h:aY P (l.map aq.a) y (aK g (g.toList.take m) 0) (some s) (fun A=>P9 g m c args res A/\aY P (l.map aq.a) y (aK g (g.toList.drop (m+1)) (m+1)) (some (Yo g m res A)) (Q .normal))):bA P (.region id g false) Q s:=fun Y O X a w W=>by
 obtain⟨A,J,⟨n,⟨d,z,U⟩⟩,K⟩:=aP P (l.map aq.a) y g _ 0 s _ h;obtain⟨x,L,M⟩:=aP P (l.map aq.a) y g _ (m+1) _ _ K;obtain⟨o,E⟩: ∃o,g[m]?=some o:=⟨g[m],by simp at C;simp[C]⟩;have t:o.dst=some d:=by
  unfold cwD at z;rw[E]at z;exact z
 unfold cwTs at n;rw[E]at n;simp only at n;split at n
 ·rename_i b N u;split at n
  ·rename_i Z q;split at n
   ·rename_i ts H;injection n with n
    injection n with n T
    subst n T;refine wp_region ?_;have G:g.size=(g.toList.take m).length+(1+(g.toList.drop (m+1)).length):=by simp at C⊢;omega
    rw[G,acK,<- ac7,acQ];have D:(g.toList.take m).length=m:=by rw[acY];omega
    refine kN (aq.ok l) (g.toList.take m) 0 s A a w (fun j o p=>?_) J W fun B I V=>?_
    ·rw[adm]at p;split at p
     ·simpa using p
     cases p
    rw[D,adN 1,acW];simp only[wpOps,E];rw[if_pos (by simp[Region.wanted,N])];refine .inl (Bv V u q r H R U t fun v w1 F=>?_);refine gn (aq.ok l) (Q:=fun e B I=> ∃x,Q e x/\dq Y O X x B I) (g.toList.drop (m+1)) (m+1) _ x _ _ (fun j o p=>?_) L ?_ (fun B I S=>⟨x,M,S⟩)
    ·rw[adq]at p;simpa using p
    unfold Yo;rw[z];exact F
   cases n
  cases n
 cases n
theorem rS (m:Nat) {args:List TV} {res:CallRes} (e:CallC P c args res) (p:args.all oX=true) (b:List (aq P)) (l:List Nat) {id:Nat} {y:Code} (o:m<g.toList.length) (h: ∀K:AS->Prop,(∀j,(P9 g m c args res j/\ ∀K:AS->Prop,(∀n,bA P y Q n->K n)->aY P (b.map aq.a) l (aK g (g.toList.drop (m+1)) (m+1)) (some (Yo g m res j)) K)->K j)->aY P (b.map aq.a) l (aK g (g.toList.take m) 0) (some s) K):bA P (.seq (.region id g false) y) Q s:=
 ai (vG m e p b l o (h _ fun j ⟨q,r⟩=>⟨q,r _ fun _ h=>h⟩))
end
end
def Ae (f:FF) (k i j:Nat):Nat->Nat->Int:=fun a b=>f (if a<k then a else i) (if b<k then b else j)
theorem uO {c:Type} (k i:Nat) (g:Nat->c):(List.range k++[i]).map g=(List.range (k+1)).map fun a=>g (if a<k then a else i):=by
 rw[ade,ac1,ac1]
 congr 1
 ·exact acH fun a b=>by rw[if_pos (acV.1 b)]
 simp
theorem Ku (k i j:Nat) (f:FF):((List.range k++[i]).map fun r=>(List.range k++[j]).map (f r))=mat (k+1) (k+1) (Ae f k i j):=by
 rw[uO];exact acH fun a _=>uO k j _
theorem Rq {k i:Nat} (g:m<=k):dk (Ae f k i n) m=dk f m:=nk fun a b c e=>by unfold Ae;rw[if_pos (by omega),if_pos (by omega)]
theorem QR (f:FF) (k i j:Nat):dk (Ae f k i j) (k+1)=bk f k i j:=by
 have e:om (Ae f k i j) k=om (fun a b=>f a (if b<k then b else j)) k:=Ap fun t n=>by unfold Ae;rw[if_pos n]
 have g:om (fun a b=>f a (if b<k then b else j)) k=fun l=>om f k (l.map fun b=>if b<k then b else j):=funext fun l=>Et (R:=f) (fun b=>if b<k then b else j) k l
 have h:(ry k).map (fun b=>if b<k then b else j)=ry k:=by
  have:(ry k).map (fun b=>if b<k then b else j)=(ry k).map id:=acH fun a m=>if_pos (lX m)
  rw[this,adL]
 rw[ca];unfold bk;rw[e,g];have:=x4 (r:=f i) (fun b=>if b<k then b else j) (k::ry k) (om f k);rw[acA,h,if_neg (by omega)]at this;rw[<- this]
 congr 1
 funext c;unfold Ae;rw[if_neg (by omega)]
theorem Jp {k:Nat} (b: ∀t,t<k->dk f (t+1)≠0) (i j:Nat):detF (k+1) (Ae f k i j)=bk f k i j:=by
 rw[jj fun t c=>by rw[Rq (by omega)];exact b t (by omega),QR]
theorem J2 {k i:Nat} (h:k<n) (e:i<n) (g:m<n) (b: ∀i m,i<n->m<n->Sz (f i m) 1024): ∀r c,r<k+1->c<k+1->Sz (Ae f k i m r c) 1024:=fun r c _ _=>by
 unfold Ae;exact b _ _ (by split<;>omega) (by split<;>omega)
def nO (n:Nat) (f:FF) (m:Nat):List (List (List Int)):=(List.range m).map fun k=>mat (n-k) (n-k) (ec f k)
theorem A6 (m:Nat):nO n f m++[mat (n-m) (n-m) (ec f m)]=nO n f (m+1):=by
 unfold nO;rw[ade,ac1];rfl
theorem uV (n:Nat) (f:FF) (m:Nat):(nO n f m).length=m:=by simp[nO]
theorem uU (f:FF) {k:Nat} (h:k<m):(nO n f m)[k]?=some (mat (n-k) (n-k) (ec f k)):=by
 unfold nO;rw[ach,agB h];rfl
abbrev fB:List (List Int)->List PV:=fR (fR fZ)
theorem Aa (l:List (List (List Int))) (M:List (List Int)):lc fB l++[[.p (.sl (ls (fR fZ) M))]]=lc fB (l++[M]):=by simp[lc,fR]
theorem Dv (n:Nat) (f:FF) (k:Nat) (U:n<=8) (O:k<n) (M: ∀t,t<k->dk f (t+1)≠0) (N: ∀i j,i<n->j<n->Sz (f i j) 1024):
  CallC prog 149 [dr (mat n n f),.raw (.int .i64 (k:Int))] ⟨[],dr (mat (n-k) (n-k) (ec f k))⟩:=by
 have v:=aU n n f;obtain⟨m,P,Q⟩: ∃m,n-k=m/\1<=m:=⟨n-k,rfl,by omega⟩;have E:IntKind.i64.wrap ((n:Int)-(k:Int))=(m:Int):=by rw[aL (by omega) (by omega)];omega
 have B:=rU m m (by omega) (by omega);rw[oQ,oU]at B;rw[P];refine ax func149 rfl ntmps149 (aA (k:=dR (aC v E) (k:=bj [⟨2,_,_,_,B⟩] (k:=ai (bi (k:=?_))))));refine ay (G:=fY m) (fun g=>⟨(dr (mat n n f)::rN k::j4 (.one (.sl 15 0 0 m)::j4 (j4 (jk::jk::rN m::rN g.i::j16 (j16 ([])))))),Hm [(15,ij 15 m m (part (ec f k) g.i 0))]⟩) (fun g=>m-g.i) ⟨0,by omega⟩ ?_ ?_
 ·refine aj ⟨?_,trivial⟩ ?_
  ·rw[qW];exact gk 0 15 m m _
  simp[wk]
 rintro⟨i,S⟩;simp only;by_cases o:i<m
 ·have z:=cf (n:=m) (i:=i) 15 m o;have A:=ez m (part (ec f k) i 0) o;refine ar (k:=aV rfl (ai (am (bi (k:=aH z (k:=?_))))));refine ay (G:=fY m) (fun g=>⟨(dr (mat n n f)::rN k::j4 (.one (.sl 15 0 0 m)::rN i::j4 (j4 (jk::rN m::rN i::j4 (jk::jk::rN m::rN g.i::j16 (j4 (j4 ([])))))))),Hm [(15,ij 15 m m (part (ec f k) i g.i))]⟩) (fun g=>m-g.i) ⟨0,by omega⟩ ?_ ?_
  ·refine aj ⟨rfl,trivial⟩ ?_;simp[wk]
  rintro⟨j,T⟩;simp only;by_cases p:j<m
  ·have A:=ez m (part (ec f k) i j) o;have J:=aB (part (ec f k) i j i) p;have C:=tX k (k+i) (by omega) (by omega);have D:=tX k (k+j) (by omega) (by omega);have r: ∀q,q<m-> ∀x∈List.range k++[k+q],x<n:=fun q V x R=>by
    rcases adh.1 R with h|h
    ·have:=acV.1 h;omega
    rw[aco.1 h];omega
   have w:=tn n n f (List.range k++[k+i]) (List.range k++[k+j]) (by omega) (by omega) (r i o) (r j p) (by simp;omega) (by simp;omega);rw[Ku]at w;have y:=gD (k+1) (Ae f k (k+i) (k+j)) (by omega) (by omega) (J2 O (by omega) (by omega) N);rw[Jp M,show bk f k (k+i) (k+j)=ec f k i j from rfl]at y;have F:IntKind.i64.wrap ((k:Int)+(i:Int))=((k+i:Nat):Int):=by rw[aL (by omega) (by omega)];omega
   have I:IntKind.i64.wrap ((k:Int)+(j:Int))=((k+j:Nat):Int):=by rw[aL (by omega) (by omega)];omega
   refine ar (k:=aV rfl (ai (am (bi (k:=eQ [⟨10,_,_,_,C⟩,⟨15,_,_,_,D⟩,⟨16,_,_,_,w⟩,⟨17,_,_,_,y⟩] (aC z (aC F (aC I (aC A (aC J @js))))) (k:=bu (k:=?_)))))));refine⟨⟨j+1,by omega⟩,by simp only;omega,aj ⟨?_,trivial⟩ ?_⟩
   ·show _::_=_::_;rw[bO fun a b _ _=>ik (ec f k) i j a b]
   simp[wk]
  have u:j=m:=by omega
  subst u;refine ar (k:=aW rfl (bu (k:=?_)));refine⟨⟨i+1,by omega⟩,by simp only;omega,aj ⟨?_,trivial⟩ ?_⟩
  ·show _::_=_::_;rw[bO fun a b _ L=>jx (ec f k) i a b L]
  simp[wk]
 have s:i=m:=by omega
 subst s;refine ar (k:=aW rfl ?_);show bA _ _ _ _;have e:ij 15 i i (part (ec f k) i 0)=ij 15 i i (ec f k):=by
  show _::_=_::_;rw[bO fun a b K _=>jw (ec f k) a b K]
 rw[e];refine bA.weak ((bF 15 (jo rfl)).trans (aj (tm:=(j4 (jk::jk::dr (mat i i (ec f k))::j16 (j16 (j4 (j4 (j4 ([])))))))) (l:=[]) trivial (by simp[wk];exact(RG (H:=Hm [(15,ij 15 i i (ec f k))]) (d:=15) (n:=i) (c:=i) (f:=ec f k) rfl).symm))) ?_;refine bi (k:=aE @results149)
theorem wv (n:Nat) (f:FF) (s:1<=n) (F:n<=8) (e: ∀t,t<n->dk f (t+1)≠0) (h: ∀i j,i<n->j<n->Sz (f i j) 1024):
  CallC prog 97 [dr (mat n n f)] ⟨[],.tup [(false,[.p (.sl (ls fB (nO n f n)))]),(false,[.p (.raw (.bool true))])]⟩:=by
 have r:=aU n n f;have A:=jO n f s (by omega) h;have c:(xe n f).length=n:=aD _ _;have B:IntKind.i64.wrap ((n:Int)-1)=((n-1:Nat):Int):=by rw[aL (by omega) (by omega)];omega
 have v:((xe n f).take (n-1)).length=n-1:=by rw[acY,c];omega
 refine ax func97 rfl ntmps97 (aA (k:=dU [⟨1,_,_,_,A⟩] @V6.eq_1 (k:=ai (bi (k:=ao rfl (ak (ai (aH (aC c (aC B (aC @acL (aC @Nat.sub_le (aC (dW oF) v))))) (k:=?_)))))))));refine ay (G:=fY (n-1)) (fun g=>⟨(dr (mat n n f)::j16 (j4 (xr ((xe n f).take (n-1))::.raw (.int .i64 ((n-1:Nat):Int))::rN g.i::j16 (j4 ([]))))),Hm []⟩) (fun g=>n-1-g.i) ⟨0,by omega⟩ ?_ ?_
 ·refine aj trivial ?_;simp[wk]
 rintro⟨i,L⟩;simp only;by_cases E:i<n-1
 ·have w:((xe n f).take (n-1))[i]?=some (detF (i+1) f):=by rw[adm,if_pos E,aB _ (by omega)]
  have x:detF (i+1) f=dk f (i+1):=jj fun t H=>e t (by omega)
  rw[x]at w;have y:=kW (dk f (i+1)) (by rw[<- x];exact(oB (by omega) fun a b J K=>h a b (by omega) (by omega)).mono (by omega));have I:=Hz (e i (by omega));generalize sg (dk f (i+1))=q at*
  generalize dk f (i+1)=D at*
  refine ar (k:=aV rfl (ai (am (aH w (k:=cj [⟨1,_,_,_,y⟩] I (k:=ao rfl (ak (bu (k:=?_)))))))));refine⟨⟨i+1,by omega⟩,by simp only;omega,aj trivial ?_⟩;simp[wk]
 have l:i=n-1:=by omega
 subst l;refine ar (k:=aW rfl (bi (k:=ai (dR r (k:=?_)))));refine ay (G:=fY n) (fun g=>⟨(dr (mat n n f)::j4 (jk::jk::jk::.one (.sl 41 0 0 g.i)::j16 (j4 (jk::jk::jk::rN n::rN g.i::j4 (j4 (jk::jk::[])))))),Hm [(41,[⟨42,1,lc fB (nO n f g.i)⟩])]⟩) (fun g=>n-g.i) ⟨0,by omega⟩ ?_ ?_
 ·refine(cz (k:=8) (d:=41) 42 1 (by omega) rfl rfl).trans (aj ⟨rfl,trivial⟩ ?_);simp[wk]
 rintro⟨k,M⟩;simp only;by_cases o:k<n
 ·have z:=Dv n f k F o (fun t H=>e t (by omega)) h;have u:=uV n f k;refine ar (k:=aV rfl (ai (am (bi (k:=vU [⟨3,_,_,_,z⟩] (aC u (aC @Aa @A6)) (k:=bu (k:=?_)))))));refine⟨⟨k+1,by omega⟩,by simp only;omega,aj ⟨rfl,trivial⟩ ?_⟩;simp[wk]
 have m:k=n:=by omega
 subst m;refine ar (k:=aW rfl (bi (k:=?_)));have C:List.take k (nO k f k)=nO k f k:=ack (by rw[uV];omega);refine aQ ⟨.inr rfl,dp 41 (bf rfl) ?_ rfl⟩;simp(disch:=omega) only[kd,results97,C]
section
structure Nr (a len:Nat) where
 t:Nat
 O:List Nat
 ht:t<=32*len
 len:O.length=len
 lmb:Lmb O
 q:Nat
 val:natV O=q*2^t
 lo:natV O*natV O<=a
 hi:a<(natV O+2^t)*(natV O+2^t)
theorem tN {k q:Nat} (v:k+1<=32*n) (len:b.length=n) (lmb:Lmb b) (val:natV b=q*2^(k+1)) (h:b[k/32]?=some m):
  m|||2^(k%32)=m+2^(k%32)/\m+2^(k%32)<4294967296/\natV (b.set (k/32) (m+2^(k%32)))=natV b+2^k/\(m+2^(k%32))&&&(4294967295-2^(k%32))=m:=by
 have c:=bV lmb h;have s:k%32<32:=acM _ (by omega);have l:=l7 lmb h;have t:2^(k+1)=2^(32*(k/32))*2^(k%32+1):=by rw[<- adv];congr 1;omega
 rw[uC]at l;have p:m=q%2^(31-k%32)*2^(k%32+1):=by
  rw[<- l,val,t,adu (2^(32*(k/32))),<- ad1,aff _ (adg (by omega))];rw[show(4294967296:Nat)=2^(31-k%32)*2^(k%32+1) by rw[<- adv,show 31-k%32+(k%32+1)=32 by omega],afo]
 have f:m|||2^(k%32)=m+2^(k%32):=by
  have:=qm (q%2^(31-k%32)) (2^(k%32)) (k%32+1) (adw (by omega) (by omega));rw[<- p]at this;exact this
 have g:m|||2^(k%32)<4294967296:=afY (n:=32) c (adw (by omega) s);have o:=nB b (k/32) (m+2^(k%32)) m h;rw[uC]at o;rw[ae0,<- adv,show k%32+32*(k/32)=k by omega]at o;refine⟨f,by rw[<- f];exact g,by omega,?_⟩;rw[<- f];apply agw;intro i;have u:(4294967295-2^(k%32))=2^32-(2^(k%32)+1):=by omega
 rw[Nat.testBit_and,agx,u,afC (adw (by omega) s),afI];by_cases r:i<32
 ·by_cases e:k%32=i
  ·have j:m.testBit i=false:=by
    rw[p,<- e,af7,decide_eq_false (by omega),afi]
   rw[j];simp[e]
  simp[r,e]
 have:m.testBit i=false:=agb (acp c (acl (by decide:4294967296<=2^32) (acF (by omega) (show 32<=i by omega))));rw[this];simp[r]
theorem yY (b:n<4294967296) (c:m<4294967296):IntKind.u32.wrap (((BitVec.ofInt IntKind.u32.bits (n:Int)&&& ~~~BitVec.ofInt IntKind.u32.bits (m:Int)).toNat:Nat):Int)=((n&&&(4294967295-m):Nat):Int):=by
 rw[BT];show(((BitVec.ofInt 32 (n:Int)&&& ~~~BitVec.ofInt 32 (m:Int)).toNat%4294967296:Nat):Int)=_;rw[BitVec.toNat_and,BitVec.toNat_not];have e: ∀y:Nat,y<4294967296->(BitVec.ofInt 32 (y:Int)).toNat=y:=fun y f=>by rw[agG];show((y:Int)%4294967296).toNat=y;omega
 rw[e n b,e m c,adR];exact adn Nat.and_le_left b
theorem TI {a len k:Nat} (g:Nr a len) (e:g.t=k+1) (j:g.O[k/32]?=some n) (h:(natV g.O+2^k)*(natV g.O+2^k)<=a): ∃c:Nr a len,c.t=k/\c.O=g.O.set (k/32) (n+2^(k%32)):=by
 obtain⟨t,O,o,f,lmb,q,val,r,m⟩:=g;simp only at e j h;subst e;obtain⟨p,l,b,_⟩:=tN o f lmb val j;refine⟨⟨k,_,by omega,by simp[f],oL lmb l,2*q+1,?_,by rw[b];exact h,?_⟩,rfl,rfl⟩
 ·rw[b,val,adk];grind
 rw[b,aeU,<- Nat.two_mul,adu 2,<- adk];exact m
theorem TK {a len k:Nat} (g:Nr a len) (c:g.t=k+1) (h:a<(natV g.O+2^k)*(natV g.O+2^k)): ∃b:Nr a len,b.t=k/\b.O=g.O:=by
 obtain⟨t,O,l,e,lmb,q,val,f,j⟩:=g;simp only at c h;subst c;exact⟨⟨k,_,by omega,e,lmb,2*q,by rw[val,adk];grind,f,h⟩,rfl,rfl⟩
theorem KC {a len:Nat} (g:Nr a len) (h:g.t=0):(natV g.O:Int)=isqF (a:Int):=by
 obtain⟨t,O,f,e,lmb,q,val,c,b⟩:=g;simp only at h;subst h;refine Ls.uniq (a:=(a:Int)) ⟨by omega,by exact_mod_cast c,?_⟩ (de (by omega));have:=Int.ofNat_lt.2 b;simpa using this
theorem Bf {a len:Nat} (h:(au a).length<=2*len):a<(0+2^(32*len))*(0+2^(32*len)):=by
 have b:=fF (aI a);rw[aG,uC]at b;rw[acQ,<- adv];exact acp b (acF (by omega) (by omega))
/-! A call that reads an own row: the callee is right wherever the row's block holds these numbers. -/
def Hs (L:List Nat):List PV:=L.map fun n:Nat=> .raw (.int .u32 (n:Int))
section
variable {P:Program} {b:Nat} {ty:TypeId}
theorem Kq {w:World} {L:List Nat} {i:Nat} (h:nX b ty (Hs L) w) (f:L[i]?=some n):w.cell? ⟨b,i,none⟩=some (.int .u32 (n:Int)):=by
 obtain⟨v,c,e,_⟩:=h.2 i (.raw (.int .u32 (n:Int))) (by simp[Hs,f]);injection c with c
 rw[c];exact e
theorem CallG.ofO {L:List Nat} {cap:Nat} {res:CallRes} (l:CallC P c [cW L] res) (m:rh res) (hL:L.length<=cap) (hm:L.length<=9223372036854775807):CallG P b ty c [.raw (.slice (some ⟨b,0,none⟩) L.length cap)] (Hs L) res:=by
 refine⟨l.1,fun w M=>⟨l.1,fun X vs K J O=>?_⟩⟩;refine(l.2 (fun _=>False) w vs (fun _ h=>h.elim) J fun j t I=>?_).mono ?_
 ·obtain⟨v,v1,v2⟩:=O 0 _ rfl;cases j with
  |succ j=>simp at I
  |zero=>
   simp at I;subst I;refine⟨v,v1,?_⟩;obtain rfl:=(aZ (ρ:=fun _ _=>none) (H:=fun _=>[]) v2).1;have e:(ls fU L).length=L.length:=by simp[ls]
   have:=bS.sl (X:=fun _=>False) (w:=w) b 0 1 cap (ls fU L) (fun i _=> .int .u32 (L.getD i 0:Nat)) (fun h=>h) M.lt (fun e p=>by
    obtain⟨z,_,rfl⟩:=acn.1 p;rfl) (by omega) (by omega) (fun i e j x p s=>by
    simp only[ls,ach]at p;obtain⟨z,y,rfl⟩:=acf.1 p;cases j with
    |succ j=>simp[fU]at s
    |zero=>simp only[acQ,afh,ac9,acm,y,ads];exact Kq M y) (fun i e j x p s=>by
    simp only[ls,ach]at p;obtain⟨z,y,rfl⟩:=acf.1 p;cases j with
    |succ j=>simp[fU]at s
    |zero=>
     simp[fU]at s;subst s;simp only[acm,y,ads];exact bS.raw _ rfl)
   rw[e]at this;exact this
 rintro e w1 ⟨v,rfl,E,A,Q⟩;have C: ∀(x r:Nat) o,(famH 0 res.fam x)[r]?=some o->o∈res.fam:=fun x r o q=>by
  unfold famH at q;split at q
  ·exact acd q
  simp at q
 refine⟨v,rfl,E,⟨A.keep,fun x r o q=>?_,A.inj,fun x r o B g q G=>?_,fun B G=>acp (K B G) A.keep.size,A.self⟩,sY m.1 Q⟩
 ·obtain⟨z1,z2,F⟩:=A.objs x r o q;refine⟨z1,z2,?_⟩;cases D:E x r with
  |none=>rw[D]at F;exact F
  |some N=>
   obtain⟨B,n⟩:=N;rw[D]at F;obtain⟨cells,R,S,T,U,V⟩:=F;refine⟨cells,R,S,T,U,fun i e j z p y=>?_⟩;obtain⟨u,W,Y,Z⟩:=V i e j z p y;exact⟨u,W,Y,nM (m.2 o (C x r o q) e (acd p) z (acd y)) Z⟩
 have:=(A.old x r o B g q G).1;rcases this with h|h
 ·exact⟨.inl h,fun s=>by have:=K B s;omega⟩
 exact h.elim
variable {s:AS} {w0 w:World} {O X:Nat->Prop} {a:Act}
structure YX (ops:Array Oper) (m:Nat) (f:FuncId) (x:Bool) (fa:Nat) (ty:TypeId) (L:List Nat) (s:AS):Prop where
 ts:cwTs ops m s=some (f,[.raw (.bool x),.one (.sl fa 0 0 L.length)])
 row:s.H fa=[⟨ty,1,lc fU L⟩]
theorem y8 (T:dq w0 O X s a w) {o:Oper} {g:Call} (ho:o.op= .call g) (M:g.callee= .value (.func c)) {x:Bool} {L:List Nat} (C: ∀b cap,L.length<=cap->CallG P b ty c [.raw (.bool x),.raw (.slice (some ⟨b,0,none⟩) L.length cap)] (Hs L) ⟨[],h⟩) (S:CallRes.plain ⟨[],h⟩=false) (aa:fz s.ev g.args.toList=some [.raw (.bool x),.one (.sl n 0 0 L.length)]) (U:s.H n=[⟨ty,1,lc fU L⟩]) (hL:0<L.length) {d:Nat} (N:o.dst=some d) {K:Act->World->Prop} {Q:Exit->Act->World->Prop} (hK: ∀v w',dq w0 O X (AS.put s o.dst (renTV d h)) (a.put o.dst v) w'->K (a.put o.dst v) w'):o.wp P a w K Q:=by
 obtain⟨h1,ab,E,q,t⟩:=T;have t:bo X E s a w:=t;obtain⟨e1,e2⟩:=bP aa;obtain⟨y0,ae,ac⟩:=e2 0 _ rfl;obtain⟨y1,af,ad⟩:=e2 1 _ rfl;have r0:=(aZ (ρ:=E) (H:=s.H) (bv t y0 _ ac)).1;have I: ∀j,Xo X E s.H j->j<w.heap.size:=fun b hb=>by
  rcases hb with hb|⟨x,y,o',m,G,g2⟩
  ·exact q.bar b hb
  exact bz (q.objs x y o' G) g2
 obtain⟨o',G,g2,g3⟩:=bv t y1 _ ad;have D:(s.H n)[0]?=some ⟨ty,1,lc fU L⟩:=by rw[U];rfl
 rw[D]at G;injection G with G
 subst G;obtain⟨b,Z,cap,W,hv,B⟩: ∃b Z cap,E n 0=some (b,Z)/\a.eval y1= .slice (some ⟨b,0,none⟩) L.length cap/\L.length<=cap:=by
  rcases g3 with⟨_,_,g4,_⟩|⟨b,Z,cap,g3,g5,g6,_⟩
  ·omega
  exact⟨b,Z,cap,g3,by rw[g5,aeS],g6⟩
 have R:=q.objs n 0 _ D;have J:nX b ty (Hs L) w:=by
  refine⟨bz R W,fun j x hj=>?_⟩;obtain⟨_,_,q3⟩:=R;rw[W]at q3;obtain⟨cells,p1,p2,p3,p4,p5⟩:=q3;simp only[Hs,ach]at hj;obtain⟨z,hz,rfl⟩:=acf.1 hj;obtain⟨v,v1,v2,v3⟩:=p5 j [.p (.raw (.int .u32 (z:Int)))] 0 _ (by simp[lc,fU,hz]) rfl;have:=(aZ (ρ:=E) (H:=s.H) v3).1;subst this;refine⟨_,rfl,?_,v2⟩;simp only[afh,ac9]at v1;simp[World.cell?,p1,v1]
 have V:=fW (w:=w) ho M (e:=a.eval) rfl (C b cap B).1;unfold Oper.wp;rw[V];simp only[Oper.upon];have F:g.args.size=2:=by simpa using e1.symm
 refine(((C b cap B).2 w J).2 (Xo X E s.H) (g.args.map a.eval) I (by simp[F]) fun j u A=>?_).mono ?_
 ·match j,A with
  |0,A=>
   simp at A;subst A;refine⟨a.eval y0,?_,by rw[r0];exact bS.raw _ rfl⟩;rw[adp];have:g.args[0]?=some y0:=by simpa using ae
   rw[this];rfl
  |1,A=>
   simp at A;subst A;refine⟨a.eval y1,?_,by rw[hv];exact bS.raw _ rfl⟩;rw[adp];have:g.args[1]?=some y1:=by simpa using af
   rw[this];rfl
  |j+2,A=>simp at A
 rintro e w1 ⟨v,rfl,Y,hi,hr⟩;show K (a.put o.dst v) w1;have:=kn (P:=P) (it:=(⟨0,c,[],⟨[],h⟩⟩:cG P)) (d:=d) (v:=v) (w1:=w1) (ρc:=Y) h1 ab q t rfl rfl (fun l=>(l rfl).elim) (by rw[if_neg (by rw[S];decide)];exact hi) (by rw[if_neg (by rw[S];decide)];exact hr);rw[N]at hK⊢;exact hK v w1 this
theorem rR (m:Nat) {x:Bool} {L:List Nat} (C: ∀b cap,L.length<=cap->CallG P b ty c [.raw (.bool x),.raw (.slice (some ⟨b,0,none⟩) L.length cap)] (Hs L) ⟨[],h⟩) (M:CallRes.plain ⟨[],h⟩=false) (U:Nat) (hL:0<L.length) (p:List (aq P)) (E:List Nat) {id:Nat} {y:Code} {Q:Exit->AS->Prop} {d:Nat} (G:cwD g m=some d) (H:m<g.toList.length) (n: ∀K:AS->Prop,(∀A,(YX g m c x U ty L A/\ ∀K:AS->Prop,(∀u,bA P y Q u->K u)->aY P (p.map aq.a) E (aK g (g.toList.drop (m+1)) (m+1)) (some (A.put (some d) (renTV d h))) K)->K A)->aY P (p.map aq.a) E (aK g (g.toList.take m) 0) (some s) K):bA P (.seq (.region id g false) y) Q s:=ai fun w0 O X a w r0=>by
 obtain⟨A,V,⟨q,q2⟩,W⟩:=aP P (p.map aq.a) E g _ 0 s _ (n _ fun A n=>n);obtain⟨u,Y,Z⟩:=aP P (p.map aq.a) E g _ (m+1) _ _ (W (iH (bA P y Q) Q .normal) fun _ n=>n);obtain⟨o,J⟩: ∃o,g[m]?=some o:=⟨g[m],by simp at H;simp[H]⟩;have t:o.dst=some d:=by
  unfold cwD at G;rw[J]at G;exact G
 unfold cwTs at q;rw[J]at q;simp only at q;split at q
 ·rename_i l hg D;split at q
  ·rename_i f' B;split at q
   ·rename_i ts S;injection q with q
    injection q with q q3
    subst q q3;refine wp_region ?_;have R:g.size=(g.toList.take m).length+(1+(g.toList.drop (m+1)).length):=by simp at H⊢;omega
    rw[R,acK,<- ac7,acQ];have I:(g.toList.take m).length=m:=by rw[acY];omega
    refine kN (aq.ok p) (g.toList.take m) 0 s A a w (fun j o z=>?_) V r0 fun F T r'=>?_
    ·rw[adm]at z;split at z
     ·simpa using z
     cases z
    rw[I,adN 1,acW];simp only[wpOps,J];rw[if_pos (by simp[Region.wanted,hg])];refine .inl (y8 r' D B C M S q2 hL t fun v w1 N=>?_);refine gn (aq.ok p) (Q:=fun e F T=> ∃u,iH (bA P y Q) Q e u/\dq w0 O X u F T) (g.toList.drop (m+1)) (m+1) _ u _ _ (fun j o z=>?_) Y ?_ (fun F T hr=>⟨u,Z,hr⟩)
    ·rw[adq]at z;simpa using z
    rw[<- t];exact N
   cases q
  cases q
 cases q
end
theorem KP (l:List Nat) (r:l.length<=1073741824):CallC prog 72 [cW l] ⟨[⟨165,1,lc fU (co l)⟩],.one (.sl 0 0 0 (co l).length)⟩:=by
 refine ax func72 rfl ntmps72 (aA (k:=bi (k:=?_)));refine Dy (G:={n:Nat//n<=l.length/\co l=co (l.take n)}) (fun n=>⟨(cW l::jk::.raw (.slice none 0 0)::.raw (.int .i64 n.1)::j16 (jk::jk::[])),Hm []⟩) (fun n=>n.1) ⟨l.length,acs _,by simp⟩ ?_ ?_
 ·refine aj trivial ?_;simp[wk]
 rintro⟨n,s,j⟩;simp only;by_cases q:0<n
 ·obtain⟨a,o⟩:=getElem?_of_lt (l:=l) (k:=n-1) (by omega);have p:((n:Int)-1).toNat=n-1:=by omega
  refine ai (aH (aC p o) (k:=?_));have h:l.take n=l.take (n-1)++[a]:=by
   have:=ad4 (i:=n-1) (l:=l) (by omega);rw[show n-1+1=n by omega]at this;rw[this,(aci.1 o).2]
  refine bs rfl (fun g=>ak ?_) (fun g=>aX ?_)
  ·have f:a=0:=by simpa using g
   refine am (bu (k:=?_));refine⟨⟨n-1,by omega,?_⟩,by simp only;omega,aj trivial ?_⟩
   ·rw[j,h,f,jG]
   have e:((n-1:Nat):Int)=(n:Int)-1:=by omega
   simp[wk,e]
  have f:a≠0:=by intro e;simp[e]at g
  have b:co l=l.take n:=by rw[j,h,rp f]
  show bA _ _ _ _;have c:(l.take n).length=n:=by simp;omega
  rw[b,c];refine aH (aC @acL (aC (dW mP) (aC c (iz mP)))) (k:=?_);refine aQ ⟨.inr rfl,_,bJ.refl _,?_⟩;refine⟨.one (.sl 21 0 0 n),21,?_,rfl,?_,rfl⟩
  ·simp(disch:=omega) only[kd,results72]
  simp[Hm,aF,renO,gT]
 have m:n=0:=by omega
 subst m;have b:co l=[]:=by rw[j];simp[co]
 rw[b];refine ai (ar (k:=bs rfl (fun g=>by cases g) (fun g=>aX (aH (aC @acL (dW mP)) (k:=?_)))));refine aQ ⟨.inr rfl,_,bJ.refl _,?_⟩;refine⟨.one (.sl 21 0 0 0),21,?_,rfl,?_,rfl⟩
 ·simp(disch:=omega) only[kd,results72]
 simp[Hm,aF,renO,lc]
theorem ss {H:OH} {d:Nat} {t:TypeId} {l:List Nat} (h:H d=[⟨t,1,lc fU l⟩]):fk H d (.one (.sl d 0 0 l.length))=cW l:=by
 simp only[fk,dP,if_true,h,adZ,acQ,adC];rw[ack (by simp[lc]),gz]
theorem AX (l:List Nat):rh ⟨[⟨165,1,lc fU l⟩],.one (.sl 0 0 0 l.length)⟩:=by
 refine⟨rfl,fun o c e b x f=>?_⟩;simp at c;subst c;simp only[lc,fU,acn]at b;obtain⟨y,_,rfl⟩:=b;simp at f;subst f;rfl
theorem J0 {b:Nat} (l:List Nat) (h:Lmb l) (e:l.length<=1073741824) {cap:Nat} (f:l.length<=cap):CallG prog b 165 105 [.raw (.bool false),.raw (.slice (some ⟨b,0,none⟩) l.length cap)] (Hs l) ⟨[],tZ (natV l:Int)⟩:=by
 have c:=CallG.ofO (b:=b) (ty:=165) (KP l e) (AX _) f (by omega);rw[dw h]at c;refine zh func105 rfl (by kernel_rfl) ?_;rw[ntmps105];refine Ye (k:=?_);refine rT [⟨1,_,_,_,c,rfl⟩] [] [] fun _ K=>?_;simp(disch:=omega) only[kd,fJ.a,aa,ab];apply K
 refine WpG.weak ((aj (tm:=(.raw (.bool false)::jk::jk::jk::.one (.ptr 4 0 0 0)::.one (.sl 7 0 0 (au (natV l)).length)::j4 (j4 (jk::jk::[])))) (l:=[(4,ru),(7,[⟨165,1,lc fU (au (natV l))⟩])]) ⟨rfl,rfl,trivial⟩ (by simp[wk])).trans ((bF 7 (bf rfl)).trans (aj (tm:=(.raw (.bool false)::jk::jk::jk::.one (.ptr 4 0 0 0)::cW (au (natV l))::j4 (j4 (jk::jk::[])))) (l:=[(4,ru)]) ⟨rfl,trivial⟩ (by
  simp[wk]
  (repeat' apply ace)<;>first|rfl|exact(ss (d:=7) (t:=165) (l:=au (natV l)) rfl).symm)))) ?_
 refine abg (k:=?_)
 (refine Dz ⟨.inr rfl,rfl,b8 rfl ?_ rfl⟩;simp(disch:=omega) only[kd,results105,aa,tZ])
 simp[tZ]
end
theorem Ab (c:Int) (y:List Int):[AV.p (.raw (.int .i64 c))]::lc fI y=lc fI (c::y):=rfl
theorem qj (c:Int) (y:List Int) (b:y.length<=16):CallC prog 100 [.raw (.int .i64 c),eF y] ⟨[],eF (c::y)⟩:=by
 refine ax func100 rfl ntmps100 (aA (k:=?_));refine bC [] [6] fun _ K=>?_;simp(disch:=omega) only[kd,aa,Nat.reduceMul,Nat.reduceLeDiff,iz DU,Ab];apply K
 refine aQ ⟨.inr rfl,dp 6 (bf rfl) ?_ rfl⟩;simp(disch:=omega) only[kd,results100,eF];rw[ack (by simp;omega)]
theorem Fd (n:Nat) (f:FF) (y:List Int) (e:1<=n) (q:n<=8) (o:y.length=n) (m: ∀i j:Nat,Sz (f i j) 1024) (h: ∀z∈y,Sz z 65536):
  CallC prog 156 [dr (mat n n f),xr y] ⟨[],tZ (dt y (DF n n f y) n)⟩:=by
 have p:=Lm n n f y e (by omega) e (by omega) o m h;have l:=BW y (DF n n f y) (by omega) (by rw[aD];omega) (fun z g=>(h z g).mono (by omega)) (fun z g=>by
  obtain⟨j,_,rfl⟩:=acn.1 g;exact(jg (b:=1024) (c:=65536) (dD fun z g=>by obtain⟨j,_,rfl⟩:=acn.1 g;exact m _ _) (dD h) n).mono (by omega))
 rw[o]at l;generalize DF n n f y=Y at*
 refine ax func156 rfl ntmps156 (aA (k:=bj [⟨2,_,_,_,p⟩] (k:=bE [⟨2,_,_,_,l⟩] (k:=aE @results156))))
def dL (n:Nat) (f:FF):List Int:=aN (n+1) (dk f)
theorem zA {k:Nat} (f:FF) (h:k<=n):(dL n f)[k]?=some (dk f k):=aB _ (by omega)
theorem DS (n:Nat) (f:FF):(1:Int)::aN n (fun k=>dk f (k+1))=dL n f:=by
 unfold dL aN;rw[ad3,acA,adH];rfl
def qy (n:Nat) (f:FF):TV:= .agg [.p (.raw (.int .i64 (n:Int))),.p (.sl (ls fB (nO n f n))),.p (.sl (ls fZ (dL n f)))]
theorem D5 (l:List Int):[AV.p (.raw (.bool false)),.p (.sl (ls fU (au (Int.natAbs 1))))]::lc fZ l=lc fZ (1::l):=rfl
theorem zP (n:Nat) (f:FF) (b:1<=n) (y:n<=8) (l: ∀t,t<n->dk f (t+1)≠0) (m: ∀i j,i<n->j<n->I64 (f i j)):
  CallC prog 48 [cw (mat n n f)] ⟨[],qy n f⟩:=by
 have h:=aU n n f;have o: ∀i j,i<n->j<n->Sz (f i j) 1024:=fun i j u v=>(m i j u v).sz (by omega)
 have p:=Nn n n f b (by omega) b (by omega) m;have q:=wv n f b y l o;have g:=jO n f b (by omega) o;have e:xe n f=aN n fun k=>dk f (k+1):=acH fun k w=>jj fun t z=>l t (by have:=acV.1 w;omega)
 unfold V6 at g;rw[e]at g;have r:=fh 1 (by omega) (by omega);have x:(aN n fun k=>dk f (k+1)).length=n:=aD _ _;have s:(dL n f).length=n+1:=aD _ _;have c:=DS n f;unfold qy;generalize aN n (fun k=>dk f (k+1))=L at*
 refine ax func48 rfl ntmps48 (aA (k:=bj [⟨1,_,_,_,p⟩] (k:=bj [⟨1,_,_,_,q⟩] (k:=bj [⟨1,_,_,_,g⟩] (k:=?_)))));refine ia 7 [⟨3,_,_,_,r⟩] [24] (by simp[wk]) (by decide) fun _ K=>?_;simp(disch:=omega) only[kd,tZ,aa,h,Nat.reduceMul,Nat.reduceLeDiff,ab,x,iz oF,D5,c,Nat.reduceBEq];apply K
 refine⟨_,bF 24 (bf rfl),by simp[wk],?_⟩;simp only[acA,acT,fk,dP];intro _ K;simp(disch:=omega) only[kd,tZ,aa,ab,Nat.reduceLeDiff];apply K
 (refine aQ ⟨.inr rfl,b8 rfl ?_ rfl⟩;simp(disch:=omega) only[kd,results48,ab,aa])
 rw[ack (by omega)]
theorem Em (h:Lmb b) (c:b.length<=n):Sz ((natV b:Nat):Int) n:=by
 show((natV b:Nat):Int).natAbs<_;rw[afM];exact acp (fF h) (acF (by omega) c)
theorem ER {b:Type} {l:List b} {i:Nat} {x:b} (h:l[i]?=some x):l.set i x=l:=by
 apply acz;intro j;by_cases e:i=j
 ·subst e;rw[acS (aci.1 h).1,h]
 rw[ac4 e]
theorem IM (a:Int) (h0:0<=a) (I:Sz a 1000000):CallC prog 154 [tZ a] ⟨[],.tup [(true,cZ (isqF a)),(false,[.p (.raw (.bool true))])]⟩:=by
 have cs:=kW a (I.mono (by omega));have hs:0<=sg a:=by unfold sg;split<;>(try split)<;>omega
 have hl:=I.len;have W:=jE (au a.natAbs) (by omega);rw[dw (aI _),aG]at W;obtain⟨N,hN⟩: ∃N,N=((au a.natAbs).length+1)/2:=⟨_,rfl⟩;have ac:N<=1000000:=by omega
 have st:=Bf (a:=a.natAbs) (len:=N) (by omega);have e1:IntKind.i64.wrap (((au a.natAbs).length:Int)+1)=(((au a.natAbs).length+1:Nat):Int):=by rw[aL (by omega) (by omega)];omega
 have e2:IntKind.i64.wrap (Int.tdiv (((au a.natAbs).length+1:Nat):Int) 2)=(N:Int):=by
  rw[adi (by omega),aL (by omega) (by omega)];omega
 have D:IntKind.i64.wrap (IntKind.i64.wrap (32*(N:Int))-1)=((32*N:Nat):Int)-1:=by
  rw[aL (n:=32*(N:Int)) (by omega) (by omega),aL (by omega) (by omega)];omega
 have E:((a.natAbs:Nat):Int)=a:=by omega
 refine ax func154 rfl ntmps154 (aA (k:=ai (bE [⟨1,_,_,_,cs⟩] (k:=ao rfl (ak (bj [⟨2,_,_,_,W⟩] (k:=aH (aC e1 (aC e2 @lj)) (k:=ai (ar (k:=?_))))))))));refine ay (G:=Nr a.natAbs N) (fun g=>⟨(jk::.one (.ptr 1 0 0 0)::.one (.ptr 2 0 0 0)::jk::jk::.one (.sl 19 0 0 N)::.raw (.int .i64 ((g.t:Int)-1))::j16 (j16 (j16 (jk::jk::jk::[])))),Hm [(1,tc false (au a.natAbs)),(2,ru),(19,[⟨165,1,lc fU g.O⟩])]⟩) (fun g=>g.t) ⟨32*N,ae N 0,by omega,by simp,fun x u=>by simp at u;omega,0,by rw[ju,aeS],by rw[ju];omega,by rw[ju];exact st⟩ ?_ ?_
 ·refine aj ⟨rfl,rfl,rfl,trivial⟩ ?_;simp[wk]
 rintro g;obtain⟨t,A⟩: ∃t,t=g.t:=⟨_,rfl⟩;have f:=g.len;have j:=g.lmb;have ad:=g.ht;cases t with
 |zero=>
  have Z:=KC g A.symm;rw[E]at Z;have M:((g.t:Int)-1)= -1:=by omega
  rw[M];have m:=jZ false g.O j (by omega);rw[show iq false (natV g.O)=(natV g.O:Int)from rfl,Z]at m;refine ai (bi (k:=ao rfl (aX ?_)));show bA _ _ _ _;have w:=ss (H:=Hm [(1,tc false (au a.natAbs)),(2,ru),(19,[⟨165,1,lc fU g.O⟩])]) (d:=19) (t:=165) (l:=g.O) rfl;rw[f]at w;refine bA.weak ((aj (tm:=(jk::.one (.ptr 1 0 0 0)::.one (.ptr 2 0 0 0)::jk::jk::.one (.sl 19 0 0 N)::j16 (j16 (j16 (j4 ([])))))) (l:=[(1,tc false (au a.natAbs)),(2,ru),(19,[⟨165,1,lc fU g.O⟩])]) ⟨rfl,rfl,rfl,trivial⟩ (by simp[wk])).trans ((bF 19 (bf rfl)).trans (aj (tm:=(jk::.one (.ptr 1 0 0 0)::.one (.ptr 2 0 0 0)::jk::jk::cW g.O::j16 (j16 (j16 (j4 ([])))))) (l:=[(1,tc false (au a.natAbs)),(2,ru)]) ⟨rfl,rfl,trivial⟩ (by
   simp[wk]
   (repeat' apply ace)<;>first|rfl|exact w.symm)))) ?_
  refine bE [⟨1,_,_,_,m⟩] (k:=aE @results154)
 |succ k=>
  have af:k/32<N:=by omega
  have ek:(g.t:Int)-1=(k:Int):=by omega
  rw[ek];obtain⟨x,u⟩:=getElem?_of_lt (show k/32<g.O.length by omega);obtain⟨b1,T,C,b4⟩:=tN (show k+1<=32*N by omega) f j (by rw[A];exact g.val) u;have Q:=bV j u;have s:2^(k%32)<4294967296:=adw (a:=2) (n:=32) (by omega) (acM _ (by omega));have hq:IntKind.i64.wrap (Int.tdiv (k:Int) 32)=((k/32:Nat):Int):=by
   rw[adi (by omega),afp];omega
  have hr:Int.tmod (k:Int) 32=((k%32:Nat):Int):=by rw[aet (by omega)];omega
  have D:IntKind.u32.wrap (1*2^min (k%32) IntKind.u32.bits)=((2^(k%32):Nat):Int):=by
   rw[show min (k%32) IntKind.u32.bits=k%32 from by show min (k%32) 32=_;omega,afV,show((2:Int)^(k%32))=((2^(k%32):Nat):Int) by rw[agh];rfl,BT,adR s]
  have X:=Wx x (2^(k%32)) Q s;rw[b1]at X;have Y:=yY T s;rw[b4]at Y;have o:(g.O.set (k/32) (x+2^(k%32)))[k/32]?=some (x+2^(k%32)):=acS (by omega);have e:(g.O.set (k/32) (x+2^(k%32))).set (k/32) x=g.O:=by
   rw[agV];exact ER u
  have r:(g.O.set (k/32) (x+2^(k%32))).length=N:=by rw[afA,f]
  have h:Lmb (g.O.set (k/32) (x+2^(k%32))):=oL j T;obtain⟨c,q⟩: ∃c,c=g.O.set (k/32) (x+2^(k%32)):=⟨_,rfl⟩;rw[<- q]at o e r h C;have m:=fun(b cap:Nat) (hc:c.length<=cap)=>J0 (b:=b) c h (by omega) hc
  have z:Sz ((natV c:Nat):Int) 1000000:=Em h (by omega);have V:=io (natV c:Int) (natV c:Int) (z.mono (by omega)) (z.mono (by omega));have U:=yv ((natV c:Int)*(natV c:Int)) a ((z.mul z).mono (by omega)) (I.mono (by omega));have y:=ss (H:=Hm [(1,tc false (au a.natAbs)),(2,ru),(19,[⟨165,1,lc fU c⟩])]) (d:=19) (t:=165) (l:=c) rfl;rw[r]at y;generalize L:2^(k%32)=p2 at*
  generalize R:x+p2=y2 at*
  refine ai (ar (k:=az rfl (ak (ai (am (gM (aC hq (aC u (aC hr (aC D (aC X @cX))))) (k:=?_)))))));rw[<- q];refine rR 1 m rfl 19 (by omega) [] [] rfl (by decide) fun K v=>?_
  simp only[kd];apply v;clear v K;refine⟨⟨by rw[r];rfl,rfl⟩,?_⟩;intro K v;simp(disch:=omega) only[kd,aa,ab];apply v;clear v K;by_cases P:(natV c:Int)*(natV c:Int)<=a
  ·have J:mN ((natV c:Int)*(natV c:Int)) a<=0:=by unfold mN;split<;>(try split)<;>omega
   obtain⟨F,S,B⟩:=TI g A.symm u (by
    have:((natV g.O+2^k:Nat):Int)*((natV g.O+2^k:Nat):Int)<=((a.natAbs:Nat):Int):=by rw[<- C,E];exact P
    exact_mod_cast this)
   rw[L,R,<- q]at B;refine da [⟨2,_,_,_,V⟩,⟨4,_,_,_,U⟩] (k:=ao rfl (ak (bu (k:=?_))));refine⟨F,by omega,aj ⟨rfl,rfl,by rw[B];rfl,trivial⟩ ?_⟩;simp[wk,S]
  have J:0<mN ((natV c:Int)*(natV c:Int)) a:=by unfold mN;split<;>(try split)<;>omega
  obtain⟨F,S,B⟩:=TK g A.symm (by
   have:((a.natAbs:Nat):Int)<((natV g.O+2^k:Nat):Int)*((natV g.O+2^k:Nat):Int):=by rw[<- C,E];omega
   exact_mod_cast this)
  refine da [⟨2,_,_,_,V⟩,⟨4,_,_,_,U⟩] (k:=az rfl (pQ (aC hq (aC o (aC hr (aC D (aC Y (aC @cX e)))))) (k:=bu (k:=?_))));refine⟨F,by omega,aj ⟨rfl,rfl,by rw[B];rfl,trivial⟩ ?_⟩;simp[wk,S]
theorem tG (x y:List Int): ∀l,dt x y l=bW (fun i=>x.getD i 0*y.getD i 0) l
 |0=>rfl
 |l+1=>by rw[bW,<- tG x y l];rfl
def G8 (n:Nat) (f:FF) (y:List Int):Int:=BF n f (fun i=>y.getD i 0) fun i=>y.getD i 0
theorem Ao (f:FF) (c:e.length=n):dt e (DF n n f e) n=G8 n f e:=by
 rw[tG];refine aO n fun i b=>?_
 show _=e.getD i 0*bW (fun j=>f i j*e.getD j 0) n;rw[acm (l:=DF n n f e),aB _ b,ads,lC _ _ _ (acs _)]
theorem Af (v:Int):nN v 1=v/\nD v 1=1:=by
 unfold nN nD;rw[Int.gcd_one]
 simp
def Ji (n:Nat) (f:FF):Nat->Nat->Int:=fun i j=>if i<n/\j<n then f i j else 0
theorem zl {i:Nat} (b:i<n) (c:m<n):Ji n f i m=f i m:=if_pos ⟨b,c⟩
theorem Bi (f:FF):mat n n (ec f 0)=mat n n (Ji n f):=gI fun i j b c=>by
 rw[zl b c];show bk f 0 (0+i) (0+j)=_;rw[cH,acQ,acQ]
theorem pY (n:Nat) (f:FF) (y:List Int) (o:1<=n) (B:n<=8) (g:y.length=n) (w: ∀i j,i<n->j<n->I64 (f i j)) (r: ∀z∈y,I64 z):
  CallC prog 101 [qy n f,eF y] ⟨[],tR (G8 n f y) 1⟩:=by
 have s:=th y (by omega) r;have szf: ∀i j:Nat,Sz (Ji n f i j) 1024:=fun i j=>by
  unfold Ji;split
  ·rename_i h;exact(w i j h.1 h.2).sz (by omega)
  exact pc _
 have e: ∀z∈y,Sz z 65536:=fun z l=>(r z l).sz (by omega)
 have m:=Fd n (Ji n f) y o B g szf e;rw[Ao _ g]at m;have q:G8 n (Ji n f) y=G8 n f y:=dI (fun i j x A=>zl x A) (fun _ _=>rfl) (fun _ _=>rfl);have C:Sz (G8 n f y) 200000:=by
  rw[<- q,<- Ao _ g];refine(jg (b:=65536) (c:=70000) (dD e) (dD fun z l=>?_) n).mono (by omega);obtain⟨j,_,rfl⟩:=acn.1 l;exact(jg (b:=1024) (c:=65536) (dD fun z l=>by obtain⟨j,_,rfl⟩:=acn.1 l;exact szf _ _) (dD e) n).mono (by omega)
 rw[q]at m;have p:=rO (G8 n f y) 1 (by omega) (C.mono (by omega)) (pb (by omega));rw[(Af _).1,(Af _).2]at p;have u:(nO n f n)[0]?=some (mat n n (Ji n f)):=by rw[uU f (by omega),Nat.sub_zero,Bi]
 have v:(dL n f)[0]?=some 1:=zA f (by omega);have t:IntKind.i64.wrap ((n:Int)-(n:Int))=0:=by rw[Int.sub_self];rfl
 generalize G8 n f y=V at*
 unfold qy;generalize nO n f n=S at*
 generalize dL n f=D at*
 refine ax func101 rfl ntmps101 (jS @fB.eq_1 (k:=ai (aH g (k:=ao rfl (ak (dR (aC g t) (k:=ch [⟨6,_,_,_,s⟩,⟨7,_,_,_,m⟩,⟨13,_,_,_,p⟩] (aC u v) (k:=aE @results101))))))))
theorem KD (o:RedR f n) (y:n<=4) {k i:Nat} (x:k<n) (p:i<n-k) (q:m<n-k):Sz (ec f k i m) 2:=by
 have c:=o.pd;have l: ∀t,t<n->dk f (t+1)≠0:=fun t g=>by have:=c.2 t g;omega
 have e:=eZ (by omega) (by omega) o;have w:0<dk f k/\dk f k<65536:=by
  cases k with
  |zero=>rw[ce];omega
  |succ k=>exact⟨c.2 k (by omega),e k (by omega)⟩
 have key: ∀a b,a<n-k->b<=a->Sz (bk f k (k+a) (k+b)) 2:=fun a b u v=>by
  have r:=tO c.1 c.2 e (fun t g=>(o.2.2.2 t g).1) (i:=k+a) (by omega) b (k+b) k rfl (by omega);have s:(65535+(b:Int)*16384)*dk f k<=(65535+4*16384)*65536:=acZ (by omega) (by omega) (by omega) (by omega);show(bk f k (k+a) (k+b)).natAbs<_;omega
 rcases Nat.le_total m i with h|h
 ·exact key i m p h
 show Sz (bk f k (k+i) (k+m)) 2;rw[iO c.1 k (by omega) (fun t g=>l t (by omega)) _ _ (by omega) (by omega)];exact key m i q h
noncomputable def VY (n:Nat) (f:FF) (B:Int) (k:Nat) (y:List Int):TV:= .tup [(false,[.p (.raw (.int .i64 (b9 f n B k (aJ n y))))]),(false,[.p (.raw (.int .i64 (cq f n B k (aJ n y))))])]
theorem AO (m:Nat) (g:Nat->Int):(aN (m+1) g).drop 1=aN m fun j=>g (j+1):=by
 unfold aN;rw[ad3,acA,adK,adC,adH];rfl
theorem oH (h:I64 x):ky x= .tup [(false,[.p (.raw (.int .i64 x))]),(false,[.p (.raw (.bool true))])]:=if_pos h
theorem jm (n:Nat) (f:FF) (B:Int) (k:Nat) (y:List Int) (hn:n<=4) (u:RedR f n) (hf: ∀i j,i<n->j<n->I64 (f i j)) (h0:0<=B) (hB:B<=262144) (Z:y.length+(k+1)=n) (hy:xQ y) (V:fj f n B (k+1) (aJ n y)):
  CallC prog 99 [qy n f,.raw (.int .i64 B),eF y] ⟨[],VY n f B k y⟩:=by
 have hp:=u.pd;have o:k<n:=by omega
 obtain⟨m,F⟩: ∃m,m=y.length:=⟨_,rfl⟩;have iy: ∀z∈y,I64 z:=fun z t=>by
  have h1:=hy.bd z t;have h2:=iG y.length (by omega);constructor<;>omega
 have P: ∀z∈y,Sz z 2:=fun z t=>(iy z t).sz (by omega)
 have sg: ∀i j,i<n-k->j<n-k->Sz (ec f k i j) 2:=fun i j h Y=>KD u hn o h Y
 have hd:=u.2.1 k o;have I:Sz (dk f (k+1)) 1:=kO (by have:=eZ (by omega) (by omega) u k o;omega) (by omega);have N:0<dk f k/\dk f k<65536:=by
  cases k with
  |zero=>rw[ce];omega
  |succ k=>exact⟨u.2.1 k (by omega),eZ (by omega) (by omega) u k (by omega)⟩
 have sd:Sz (dk f k) 1:=kO (by omega) (by omega);have sB:Sz B 1:=kO (by omega) (by omega);obtain⟨b1,b2⟩:=j9 u hn h0 hB Z hy V;have tb:=iG (y.length+1) (by omega);have K:=Ky f Z;have Q:=LZ hp Z B;have w:=nR hp o V;have g1:(nO n f n)[k]?=some (mat (m+1) (m+1) (ec f k)):=by rw[uU f (by omega),show n-k=m+1 by omega]
 have g2:(dL n f)[k]?=some (dk f k):=zA f (by omega);have e0:IntKind.i64.wrap ((n:Int)-(m:Int))=((k+1:Nat):Int):=by rw[aL (by omega) (by omega)];omega
 have e1:IntKind.i64.wrap (((k+1:Nat):Int)-1)=(k:Int):=by rw[aL (by omega) (by omega)];omega
 have hw:dk f (k+1)=ec f k 0 0:=rfl;have c1:=th y (by omega) iy;have rs: ∀i,i<=m-> ∀z∈aN m (fun j=>ec f k i (j+1)),Sz z 2:=fun i h z t=>by
  obtain⟨j,Y,rfl⟩:=acn.1 t;have:=acV.1 Y;exact sg i (j+1) (by omega) (by omega)
 have c2: ∀i,i<=m->CallC prog 153 [xr (aN m fun j=>ec f k i (j+1)),xr y] ⟨[],tZ (dt (aN m fun j=>ec f k i (j+1)) y m)⟩:=fun i h=>by
  have:=BW (aN m fun j=>ec f k i (j+1)) y (by rw[aD];omega) (by rw[aD];omega) (fun z t=>(rs i h z t).mono (by omega)) (fun z t=>(P z t).mono (by omega));rw[aD]at this;exact this
 have O: ∀i,i<=m->Sz (dt (aN m fun j=>ec f k i (j+1)) y m) 8:=fun i h=>(jg (dD (rs i h)) (dD P) m).mono (by omega)
 have sq: ∀i,i<=m->Sz (AD (ec f k) y i) (16+i):=fun i=>by
  induction i with
  |zero=>exact fun _=>pc _
  |succ i ih=>
   intro h;have:=O (i+1) (by omega);rw[F]at this;exact((ih (by omega)).add (((dD P i).mul this).mono (by omega))).mono (by omega)
 have b:Sz (dt (aN m fun j=>ec f k 0 (j+1)) y m) 8:=O 0 (by omega);rw[F,K]at b;have sQ:=sq m (acs _);rw[F]at sQ;have sC:Sz (AD (ec f k) y y.length-B*dk f k) 24:=(Sz.sub (k:=20) (sQ.mono (by omega)) ((sB.mul sd).mono (by omega))).mono (by omega);have J:Sz (fH f n B k (aJ n y)) 40:=by
  rw[<- Q];exact(Sz.sub (k:=30) ((b.mul b).mono (by omega)) ((I.mul sC).mono (by omega))).mono (by omega)
 have x:=de w;have UQ:Sz (isqF (fH f n B k (aJ n y))) 40:=J.le (by
  have h1:=x.1;have h2:=x.2.1;generalize isqF (fH f n B k (aJ n y))=r at*
  generalize fH f n B k (aJ n y)=q at*
  by_cases e:r=0
  ·rw[e];simp
  have:=acw (show 1<=r by omega) h1;omega)
 have k1:=fh B (by omega) (by omega);have m1:=io B (dk f k) (sB.mono (by omega)) (sd.mono (by omega));have m2:=wQ (AD (ec f k) y y.length) (B*dk f k) (sQ.mono (by omega)) ((sB.mul sd).mono (by omega));have m3:=io (jb f n k (aJ n y)) (jb f n k (aJ n y)) (b.mono (by omega)) (b.mono (by omega));have m4:=io (dk f (k+1)) (AD (ec f k) y y.length-B*dk f k) (I.mono (by omega)) (sC.mono (by omega));have m5:=wQ (jb f n k (aJ n y)*jb f n k (aJ n y)) (dk f (k+1)*(AD (ec f k) y y.length-B*dk f k)) ((b.mul b).mono (by omega)) ((I.mul sC).mono (by omega));rw[Q]at m5;have m6:=IM (fH f n B k (aJ n y)) w (J.mono (by omega));have m7:=wQ (isqF (fH f n B k (aJ n y))) (jb f n k (aJ n y)) (UQ.mono (by omega)) (b.mono (by omega));have m8:=wO (isqF (fH f n B k (aJ n y))-jb f n k (aJ n y)) (dk f (k+1)) (by omega) ((Sz.sub UQ (b.mono (by omega))).mono (by omega)) (I.mono (by omega));have s:I64 (b9 f n B k (aJ n y)):=by constructor<;>omega
 have v:I64 (cq f n B k (aJ n y)):=by constructor<;>omega
 have m9:=nY (cq f n B k (aJ n y)) (v.sz (by omega));rw[oH v]at m9;have aa:=rD (isqF (fH f n B k (aJ n y))) (jb f n k (aJ n y)) (UQ.mono (by omega)) (b.mono (by omega));have ab:=wO (isqF (fH f n B k (aJ n y))+jb f n k (aJ n y)) (dk f (k+1)) (by omega) ((Sz.add UQ (b.mono (by omega))).mono (by omega)) (I.mono (by omega));have ac:=G5 ((isqF (fH f n B k (aJ n y))+jb f n k (aJ n y))/dk f (k+1)) (by
  have:=(s.sz (k:=2) (by omega)).neg;rw[show b9 f n B k (aJ n y)= -((isqF (fH f n B k (aJ n y))+jb f n k (aJ n y))/dk f (k+1))from rfl,Int.neg_neg]at this;exact this.mono (by omega))
 have C:=nY (b9 f n B k (aJ n y)) (s.sz (by omega));rw[oH s]at C;rw[show b9 f n B k (aJ n y)= -((isqF (fH f n B k (aJ n y))+jb f n k (aJ n y))/dk f (k+1))from rfl]at C;rw[show cq f n B k (aJ n y)=(isqF (fH f n B k (aJ n y))-jb f n k (aJ n y))/dk f (k+1)from rfl]at m9;unfold VY;rw[show b9 f n B k (aJ n y)= -((isqF (fH f n B k (aJ n y))+jb f n k (aJ n y))/dk f (k+1))from rfl];rw[show cq f n B k (aJ n y)=(isqF (fH f n B k (aJ n y))-jb f n k (aJ n y))/dk f (k+1)from rfl];have f0:(mat (m+1) (m+1) (ec f k))[0]?=some (aN (m+1) (ec f k 0)):=bD _ _ (by omega);have f1:(aN (m+1) (ec f k 0))[0]?=some (dk f (k+1)):=aB _ (by omega);have fl: ∀i,(aN (m+1) (ec f k i)).length=m+1:=fun i=>aD _ _
 have ft: ∀i,((aN (m+1) (ec f k i)).take (m+1)).drop 1=aN m fun j=>ec f k i (j+1):=fun i=>by rw[ack (by rw[aD];omega),AO]
 have fi: ∀i,i<m->(mat (m+1) (m+1) (ec f k))[i+1]?=some (aN (m+1) (ec f k (i+1))):=fun i h=>bD _ _ (by omega)
 have qs: ∀i,AD (ec f k) y (i+1)=AD (ec f k) y i+y.getD i 0*dt (aN y.length fun j=>ec f k (i+1) (j+1)) y y.length:=fun i=>rfl
 have E:=c2 0 (by omega);rw[<- F]at K;rw[K]at E;subst F;generalize isqF (fH f n B k (aJ n y))=r at*
 generalize fH f n B k (aJ n y)=q at*
 generalize jb f n k (aJ n y)=l at*
 generalize hg:ec f k=g at*
 generalize dk f (k+1)=D at*
 generalize dk f k=d at*
 have ad:(mat (y.length+1) (y.length+1) g).length=y.length+1:=aU _ _ _;generalize hM:mat (y.length+1) (y.length+1) g=M at*
 unfold qy;generalize nO n f n=S at*
 generalize dL n f=dl at*
 clear b1 b2 tb K V s v x Q w hp u hf hg hM;refine ax func99 rfl ntmps99 (jS @fB.eq_1 (k:=dR (aC e0 e1) (k:=aH g1 (k:=bj [⟨1,_,_,_,c1⟩] (k:=cj [⟨5,_,_,_,E⟩] (aC f0 (aC fl (aC @afB (aC (dW oF) ft)))) (k:=ar (k:=ai (bi (k:=?_)))))))));refine ay (G:=fY y.length) (fun L=>⟨(jk::.raw (.int .i64 B)::jk::.one (.ptr 3 0 0 0)::j4 (.raw (.int .i64 (k:Int))::dr M::xr y::.one (.ptr 11 0 0 0)::.one (.ptr 12 0 0 0)::j16 (j4 (j4 (j4 (.raw (.int .i64 (y.length:Int))::rN L.i::j16 (j16 (j16 (j16 (j4 (j4 ([])))))))))))),Hm [(3,[⟨87,3,[[.p (.raw (.int .i64 (n:Int))),.p (.sl (ls fB S)),.p (.sl (ls fZ dl))]]⟩]),(11,vz l),(12,vz (AD g y L.i))]⟩) (fun L=>y.length-L.i) ⟨0,by omega⟩ ?_ ?_
 ·refine(g7 12).trans (aj ⟨rfl,rfl,?_,trivial⟩ ?_)
  ·show _=vz 0;simp[zH,aF,zO,Fl,IA,vz,tc,cn,ls]
  simp[wk]
 rintro⟨i,h⟩;simp only;by_cases H:i<y.length
 ·obtain⟨c,N⟩:=getElem?_of_lt H;have W:y.getD i 0=c:=by rw[acm,N];rfl
  have sc:=P c (acd N);have d1:=c2 (i+1) (by omega);have d2:=io c (dt (aN y.length fun j=>g (i+1) (j+1)) y y.length) (sc.mono (by omega)) ((O (i+1) (by omega)).mono (by omega));have d3:=rD (AD g y i) (c*dt (aN y.length fun j=>g (i+1) (j+1)) y y.length) ((sq i (by omega)).mono (by omega)) ((sc.mul (O (i+1) (by omega))).mono (by omega));have q1:=qs i;rw[W]at q1;rw[<- q1]at d3;have R:=fi i H;have T:=fl (i+1);have U:=ft (i+1);have ei:IntKind.i64.wrap ((i:Int)+1)=((i+1:Nat):Int):=by rw[aL (by omega) (by omega)];omega
  generalize dt (aN y.length fun j=>g (i+1) (j+1)) y y.length=A at*
  refine aH @fB.eq_1 (k:=aV rfl (ai (am (bi (k:=eQ [⟨12,_,_,_,d1⟩,⟨13,_,_,_,d2⟩,⟨14,_,_,_,d3⟩] (aC N (aC ei (aC R (aC T (aC @afB (aC (dW oF) U)))))) (k:=bu (k:=?_)))))));refine⟨⟨i+1,by omega⟩,by simp only;omega,aj ⟨rfl,rfl,rfl,trivial⟩ ?_⟩;simp[wk]
 have X:i=y.length:=by omega
 subst X;refine aH @fB.eq_1 (k:=aW rfl (ch [⟨2,_,_,_,k1⟩,⟨8,_,_,_,m1⟩,⟨9,_,_,_,m2⟩] g2 (k:=ch [⟨2,_,_,_,m3⟩,⟨9,_,_,_,m4⟩,⟨10,_,_,_,m5⟩,⟨11,_,_,_,m6⟩] (aC f0 f1) (k:=ch [⟨2,_,_,_,m7⟩,⟨8,_,_,_,m8⟩,⟨9,_,_,_,m9⟩] (aC f0 f1) (k:=ch [⟨2,_,_,_,aa⟩,⟨8,_,_,_,ab⟩,⟨9,_,_,_,ac⟩,⟨10,_,_,_,C⟩] (aC f0 f1) (k:=bi (k:=aE @results99)))))))
abbrev mO (c:List Int):List OObj:=[⟨3,1,lc fI c⟩]
theorem ji (c:List Int): ∀o∈mO c,selfO 0 o:=fun o b e g x f=>by
 simp only[aco]at b;subst b;obtain⟨z,_,rfl⟩:=acn.1 g;simp only[fI,acA,acT,aco]at f;subst f;trivial
theorem tV (d:Nat) (c:List Int):(mO c).map (renO d)=mO c:=by simp[mO,renO,gT]
theorem jC {F:Nat->Int} {i:Nat} (h:i<=n) (b: ∀a,a<n->0<=F a):bW F i<=bW F n:=by
 induction n with
 |zero=>rw[show i=0 by omega];exact adT _
 |succ n c=>
  by_cases e:i=n+1
  ·rw[e];exact adT _
  have f:=c (by omega) fun a j=>b a (by omega)
  have g:=b n (by omega);show _<=bW F n+F n;omega
structure CtG (n:Nat) (bud lo hi:Int) (g:Int->List Int->Bool×List Int) (R:Bool×List Int) where
 x:Int
 c:List Int
 h1:lo<=x
 h2:x<=hi+1
 hc:CtP n bud c
 e:ctL g (rng x hi) c=R
theorem lW (n:Nat) (f:FF) (B b:Int) (k:Nat) (y c:List Int) (hn:n<=4) (Q:RedR f n) (hf: ∀i j,i<n->j<n->I64 (f i j)) (h0:0<=B) (hB:B<=262144) (hb:0<=b) (ab:b<=1000000) (hk:y.length+(k+1)=n) (Z:xQ y) (J:fj f n B (k+1) (aJ n y)) (C:CtP n b c)
  (g:Int->List Int->Bool×List Int) (hg: ∀x c,CtP n b c->(g x c).1=true->CtP n b (g x c).2)
  (L:(zz n f B b k y c fun e=>if k=0 then(true,e)else ctL g (rng (b9 f n B k (aJ n y)) (cq f n B k (aJ n y))) e).2.length=n)
  (E:k≠0-> ∀x c,b9 f n B k (aJ n y)<=x->x<=cq f n B k (aJ n y)->CtP n b c->iW prog 96 [qy n f,.raw (.int .i64 B),eF (x::y),jk,.raw (.int .i64 b)] 3 n (mO c) (mO (g x c).2) (.raw (.bool (g x c).1))):
  iW prog 96 [qy n f,.raw (.int .i64 B),eF y,jk,.raw (.int .i64 b)] 3 n (mO c)
   (mO (zz n f B b k y c fun e=>if k=0 then(true,e)else ctL g (rng (b9 f n B k (aJ n y)) (cq f n B k (aJ n y))) e).2)
   (.raw (.bool (zz n f B b k y c fun e=>if k=0 then(true,e)else ctL g (rng (b9 f n B k (aJ n y)) (cq f n B k (aJ n y))) e).1)):=by
 have cI:=jm n f B k y hn Q hf h0 hB hk Z J;have cL:=fun x=>qj x y (by omega)
 obtain⟨b1,b2⟩:=j9 Q hn h0 hB hk Z J;have tb:=iG (y.length+1) (by omega);unfold VY at cI;generalize h:(zz n f B b k y c fun e=>if k=0 then(true,e)else ctL g (rng (b9 f n B k (aJ n y)) (cq f n B k (aJ n y))) e)=R at*
 unfold zz at h;generalize b9 f n B k (aJ n y)=o at*
 generalize cq f n B k (aJ n y)=m at*
 unfold qy at*
 generalize nO n f n=S at*
 generalize dL n f=H at*
 clear J Q hf Z;have r:=C.1;refine F6 func96 rfl (by kernel_rfl) (by simp) (by omega) ⟨_,_,rfl,rfl,by simp only[jY];exact r,by simp only[jY];exact L,rfl⟩ rfl ?_;rw[ntmps96];refine fX.weak (aj (tm:=(.agg [.p (.raw (.int .i64 (n:Int))),.p (.sl (ls fB S)),.p (.sl (ls fZ H))]::.raw (.int .i64 B)::eF y::.one (.sl 0 0 0 n)::.raw (.int .i64 b)::j16 (j16 (j16 (j16 (j4 (j4 (jk::jk::jk::[])))))))) (l:=[(0,mO c)]) ⟨rfl,trivial⟩ (by simp[wk,ae])) ?_;refine dm (k:=Yf [⟨3,_,_,_,cI⟩] (k:=dm (k:=?_)));by_cases I:m<o
 ·rw[if_pos I]at h;subst h;refine bG (dc I (k:=f9 rfl (dm (k:=?_))));refine eK ⟨.inr rfl,_,aj (tm:=(jk::jk::jk::.one (.sl 0 0 0 n)::j4 (jk::jk::.raw (.bool true)::j16 (j16 (j16 (j16 (j4 (jk::[])))))))) (l:=[(0,mO c)]) ⟨rfl,trivial⟩ (by simp[wk]),rfl,dA _,?_⟩;simp(disch:=omega) only[kd,results96]
 rw[if_neg I]at h;refine bG (dm (k:=fK rfl (db ?_)));by_cases h2:b<=m-o
 ·rw[if_pos h2]at h;subst h;refine bG (dm (k:=f9 rfl (dm (k:=?_))));refine eK ⟨.inr rfl,_,aj (tm:=(jk::jk::jk::.one (.sl 0 0 0 n)::j4 (jk::jk::.raw (.bool false)::j16 (j16 (j16 (j16 (j4 (jk::[])))))))) (l:=[(0,mO c)]) ⟨rfl,trivial⟩ (by simp[wk]),rfl,dA _,?_⟩;simp(disch:=omega) only[kd,results96]
 rw[if_neg h2]at h;refine bG (dm (k:=fK rfl (db ?_)));obtain⟨v,hv⟩:=getElem?_of_lt (show y.length<c.length by omega);have ev:c.getD y.length 0=v:=by rw[acm,hv];rfl
 have hm:zw y.length (m-o) c=c.set y.length (v+(m-o+1)):=by unfold zw;rw[ev]
 have X:=C.2.1 y.length (by omega);have hv1:=To C.2.1 (show y.length<n by omega);rw[ev]at X hv1;have O:(zw y.length (m-o) c).length=n:=by rw[qK];exact r
 have s:=zy r (show y.length<n by omega) (show 0<=m-o by omega) C.2.1;have ac:=tU (d:=m-o) r (show y.length<n by omega);have af:=C.2.2;refine dc (aC hv @Mo) (k:=?_);rw[<- hm];generalize zw y.length (m-o) c=e at*
 refine dm (k:=bG (dm (k:=?_)));refine gQ (G:=fY n) (fun g=>⟨(jk::.raw (.int .i64 B)::eF y::.one (.sl 0 0 0 n)::.raw (.int .i64 b)::.one (.ptr 5 0 0 0)::j4 (jk::.raw (.int .i64 o)::.raw (.int .i64 m)::rN y.length::.raw (.int .i64 (sL g.i e))::j16 (j4 (j4 (j4 (jk::jk::.one (.sl 0 0 0 n)::rN n::rN g.i::j16 (j16 ([])))))))),Hm [(0,mO e),(5,[⟨87,3,[[.p (.raw (.int .i64 (n:Int))),.p (.sl (ls fB S)),.p (.sl (ls fZ H))]]⟩])]⟩) (fun g=>n-g.i) ⟨0,by omega⟩ ?_ ?_
 ·refine aj ⟨rfl,rfl,trivial⟩ ?_;simp[wk,sL,bW]
 rintro⟨i,ad⟩;simp only;by_cases P:i<n
 ·obtain⟨u,hu⟩:=getElem?_of_lt (show i<e.length by omega);have eu:e.getD i 0=u:=by rw[acm,hu];rfl
  have U:sL (i+1) e=sL i e+u:=by rw[<- eu];rfl
  have V:=jC (F:=fun j=>e.getD j 0) (show i+1<=n by omega) fun a ha=>s a ha
  have W:=jC (F:=fun j=>e.getD j 0) (show 0<=i by omega) fun a ha=>s a (by omega)
  have hu0:=s i P;rw[eu]at hu0
  change sL (i+1) e<=sL n e at V
  change 0<=sL i e at W
  have ei:IntKind.i64.wrap ((i:Int)+1)=((i+1:Nat):Int):=by rw[aL (by omega) (by omega)];omega
  refine dm (k:=vL rfl (bG (eG (dc hu (k:=I2 (k:=rF ei (k:=?_)))))));refine⟨⟨i+1,by omega⟩,by simp only;omega,aj ⟨rfl,rfl,trivial⟩ ?_⟩;simp[wk,U]
 have N:i=n:=by omega
 subst N;refine dm (k:=vK rfl ?_);show fX _ _ _ _ _;by_cases h3:b<sL i e
 ·rw[if_pos h3]at h;subst h;refine bG (dm (k:=f9 rfl (dm (k:=?_))));refine eK ⟨.inr rfl,_,aj (tm:=(jk::jk::jk::.one (.sl 0 0 0 i)::j4 (jk::jk::.raw (.bool false)::j16 (j16 (j16 (j16 (j4 (jk::[])))))))) (l:=[(0,mO e)]) ⟨rfl,trivial⟩ (by simp[wk]),rfl,dA _,?_⟩;simp(disch:=omega) only[kd,results96]
 rw[if_neg h3]at h
 replace h:(if k=0 then(true,e)else ctL g (rng o m) e)=R:=h
 refine bG (dm (k:=fK rfl (db (bG (dm (k:=?_))))));have em:IntKind.i64.wrap ((y.length:Int)+1)=((y.length+1:Nat):Int):=by rw[aL (by omega) (by omega)];omega
 by_cases z:k=0
 ·rw[if_pos z]at h;subst h;refine gQ (G:=Unit) (fun g=>⟨(jk::.raw (.int .i64 B)::eF y::.one (.sl 0 0 0 i)::.raw (.int .i64 b)::.one (.ptr 5 0 0 0)::j4 (jk::.raw (.int .i64 o)::.raw (.int .i64 m)::rN y.length::jk::jk::jk::.raw (.int .i64 o)::j16 (j16 (j16 (j4 (j4 (j4 (jk::jk::[])))))))),Hm [(0,mO e),(5,[⟨87,3,[[.p (.raw (.int .i64 (i:Int))),.p (.sl (ls fB S)),.p (.sl (ls fZ H))]]⟩])]⟩) (fun g=>0) () ?_ ?_
  ·refine aj ⟨rfl,rfl,trivial⟩ ?_;simp[wk]
  intro _;simp only;refine bG (dc em (k:=fK rfl (je (dm (k:=?_)))));refine eK ⟨.inr rfl,_,aj (tm:=(jk::jk::jk::.one (.sl 0 0 0 i)::j4 (jk::jk::.raw (.bool true)::j16 (j16 (j16 (j16 (j4 (jk::[])))))))) (l:=[(0,mO e)]) ⟨rfl,trivial⟩ (by simp[wk]),rfl,dA _,?_⟩;simp(disch:=omega) only[kd,results96]
 rw[if_neg z]at h;refine gQ (G:=CtG i b o m g R) (fun g=>⟨(jk::.raw (.int .i64 B)::eF y::.one (.sl 0 0 0 i)::.raw (.int .i64 b)::.one (.ptr 5 0 0 0)::j4 (jk::.raw (.int .i64 o)::.raw (.int .i64 m)::rN y.length::jk::jk::jk::.raw (.int .i64 g.x)::j16 (j16 (j16 (j4 (j4 (j4 (jk::jk::[])))))))),Hm [(0,mO g.c),(5,[⟨87,3,[[.p (.raw (.int .i64 (i:Int))),.p (.sl (ls fB S)),.p (.sl (ls fZ H))]]⟩])]⟩) (fun g=>(m+1-g.x).toNat) ⟨o,e,by omega,by omega,⟨O,s,by omega⟩,h⟩ ?_ ?_
 ·refine aj ⟨rfl,rfl,trivial⟩ ?_;simp[wk]
 rintro⟨x,t,h4,h5,D,w⟩;simp only;by_cases hx:x<=m
 ·have T:=E z x t h4 hx D;have ex:IntKind.i64.wrap (x+1)=x+1:=aL (by omega) (by omega);rw[uN hx,ctL]at w;refine bG (dc em (k:=f9 rfl (db (bG (eG (yQ cu 7 T 0 [⟨4,_,_,_,cL x⟩] [] (by kernel_rfl) (by kernel_rfl) (by kernel_rfl) (by simp[wk]) (by omega) rfl (ji _) (ji _) (by decide) rfl (by simp[D6]) (by decide) fun K A=>?_))))));simp only[kd,eF,aa,reduceCtorEq];apply A;clear A K;refine⟨⟨rfl,?_⟩,?_⟩
  ·rw[tV];rfl
  intro K A;simp only[kd,aa,cm1,cwD,PY];apply A;clear A K;by_cases q:(g x t).1=true
  ·rw[if_pos q]at w;rw[q];refine fK rfl (db (rF ex (k:=?_)));refine⟨⟨x+1,(g x t).2,by omega,by omega,hg x t D q,w⟩,by simp only;omega,?_⟩;refine aj ⟨rfl,rfl,trivial⟩ ?_;simp[wk]
  rw[if_neg q]at w;subst w;have M:(g x t).1=false:=by simpa using q
  rw[M];refine f9 rfl (dm (k:=?_));refine eK ⟨.inr rfl,_,aj (tm:=(jk::jk::jk::.one (.sl 0 0 0 i)::j4 (jk::jk::.raw (.bool false)::j16 (j16 (j16 (j16 (j4 (jk::[])))))))) (l:=[(0,mO (g x t).2)]) ⟨rfl,trivial⟩ (by simp[wk]),rfl,dA _,?_⟩;simp(disch:=omega) only[kd,results96]
 have Y:x=m+1:=by omega
 subst Y;rw[o7 (by omega),ctL]at w;subst w;refine bG (dm (k:=fK rfl (je (dm (k:=?_)))));refine eK ⟨.inr rfl,_,aj (tm:=(jk::jk::jk::.one (.sl 0 0 0 i)::j4 (jk::jk::.raw (.bool true)::j16 (j16 (j16 (j16 (j4 (jk::[])))))))) (l:=[(0,mO t)]) ⟨rfl,trivial⟩ (by simp[wk]),rfl,dA _,?_⟩;simp(disch:=omega) only[kd,results96]
theorem tT (n:Nat) (f:FF) (B b:Int) (v:n<=4) (l:RedR f n) (z: ∀i j,i<n->j<n->I64 (f i j)) (t:0<=B) (u:B<=262144) (w:0<=b) (o:b<=1000000): ∀(k:Nat) (y c:List Int),y.length+(k+1)=n->xQ y->fj f n B (k+1) (aJ n y)->CtP n b c->
  iW prog 96 [qy n f,.raw (.int .i64 B),eF y,jk,.raw (.int .i64 b)] 3 n (mO c) (mO (BD n f B b k y c).2) (.raw (.bool (BD n f B b k y c).1))
 |0,y,c,g,s,q,p=>by
  have m:=(oz (f:=f) (B:=B) 0 y c g p).1;exact lW n f B b 0 y c v l z t u w o g s q p (fun _ c=>(true,c)) (fun _ _ h _=>h) m (fun h=>absurd rfl h)
 |k+1,y,c,g,s,q,p=>by
  have m:=(oz (f:=f) (B:=B) (k+1) y c g p).1;have e: ∀(x:Int),(x::y).length+(k+1)=n:=fun x=>by rw[acC];omega
  refine lW n f B b (k+1) y c v l z t u w o g s q p (fun x=>BD n f B b k (x::y)) (fun x c h r=>((oz k (x::y) c (e x) h).2 r).1) m fun _ x c D C p=>?_
  obtain⟨E,F⟩:=j9 l v t u g s q;have r: ∀i,k+1<i->i<n->aJ n (x::y) i=aJ n y i:=fun i m _=>iI g m
  refine tT n f B b v l z t u w o k (x::y) c (e x) (s.cons (by omega)) ?_ p;rw[iY l.pd (by omega) ((fj.tail l.pd (by omega) fun i m A=>r i m A).2 q),jD g,mw l.pd (by omega) r,ms l.pd (by omega) r];exact⟨D,C⟩
theorem oI (b:1<=n) (e:n<=4) (c:RedR f n):isReducedM (mat n n f)=true:=(fP _).2 ((tl b).2 ⟨rfl,by omega,c⟩)
theorem mn (n:Nat) (f:FF) (B b c:Int) (e:1<=n) (l:n<=4) (h:RedR f n) (m:0<=B) (o:B<=b) (p:0<=c) (j:c<=1000000):
  CallC prog 46 [cw (mat n n f),.raw (.int .i64 B),.raw (.int .i64 b),.raw (.int .i64 c)] ⟨[],.raw (.int .i64 0)⟩:=by
 have g:=pG (mat n n f) (II e (by omega) h);rw[oI e l h]at g;generalize mat n n f=M at*
 refine ax func46 rfl ntmps46 (aA (k:=ai (bj [⟨1,_,_,_,g⟩] (k:=ao rfl (ak (ai (ar (k:=ao rfl (ak (bi (k:=aE @results46)))))))))))
theorem Tl (n:Nat) (c:List Int) (v:n<=4) (s:c.length=n) (b: ∀i,i<n->0<=c.getD i 0) (w:sL n c<=1000000):
  CallC prog 70 [eF c] ⟨[],.raw (.int .i64 (sL n c))⟩:=by
 refine ax func70 rfl ntmps70 (aA (k:=bi (k:=ai (dR s (k:=?_)))));refine ay (G:=fY n) (fun g=>⟨(jk::jk::jk::.raw (.int .i64 (sL g.i c))::jk::jk::eF c::rN n::rN g.i::j4 (j4 ([]))),Hm []⟩) (fun g=>n-g.i) ⟨0,by omega⟩ ?_ ?_
 ·refine aj trivial ?_;simp[wk,sL,bW]
 rintro⟨i,t⟩;simp only;by_cases f:i<n
 ·obtain⟨u,q⟩:=getElem?_of_lt (show i<c.length by omega);have o:c.getD i 0=u:=by rw[acm,q];rfl
  have h:sL (i+1) c=sL i c+u:=by rw[<- o];rfl
  have l:=jC (F:=fun j=>c.getD j 0) (show i+1<=n by omega) fun a p=>b a p
  have m:=jC (F:=fun j=>c.getD j 0) (show 0<=i by omega) fun a p=>b a (by omega)
  have hu0:=b i f;rw[o]at hu0
  change sL (i+1) c<=sL n c at l
  change 0<=sL i c at m
  have r:IntKind.i64.wrap ((i:Int)+1)=((i+1:Nat):Int):=by rw[aL (by omega) (by omega)];omega
  refine ar (k:=aV rfl (ai (am (aH q (k:=bu (k:=gL r (k:=?_)))))));refine⟨⟨i+1,by omega⟩,by simp only;omega,aj trivial ?_⟩;simp[wk,h]
 have e:i=n:=by omega
 subst e;refine ar (k:=aW rfl (bi (k:=aE @results70)))
theorem jy (n i:Nat):(ae n (0:Int)).getD i 0=0:=by
 rw[acm,ac5];split<;>rfl
theorem oA (b:0<=x):CtP n x (ae n 0):=⟨by simp,fun i _=>by rw[jy];omega,by
 have:sL n (ae n 0)=0:=by
  unfold sL;rw[aO n fun i _=>jy n i,dV]
 omega⟩
noncomputable def rC (n:Nat) (f:FF) (B b:Int):Bool×List Int:=BD n f B b (n-1) [] (ae n 0)
theorem E4 {f:FF} {B bud:Int} (c:1<=n) (b:0<=bud):(rC n f B bud).2.length=n/\((rC n f B bud).1=true->CtP n bud (rC n f B bud).2/\(rC n f B bud).2.getD (n-1) 0=((dO f n B n []).length:Int)):=by
 have:=oz (f:=f) (B:=B) (n-1) [] (ae n 0) (by simp;omega) (oA b);rw[jy,show n-1+1=n by omega,aeO]at this;exact this
abbrev Ph (d:List Int) (e:Int):TV:= .tup [(false,[.p (.sl (ls fI d))]),(false,[.p (.raw (.int .i64 e))])]
theorem AI (n:Nat):ae n [AV.p (.raw (.int .i64 0))]=lc fI (ae n 0):=by simp[lc,fI]
theorem Dw (n:Nat) (f:FF) (B e:Int) (g:1<=n) (v:n<=4) (m:RedR f n) (r: ∀i j,i<n->j<n->I64 (f i j)) (q:0<=B) (z:B<=262144) (o:0<=e) (l:e<=1000000):
  CallC prog 47 [cw (mat n n f),.raw (.int .i64 B),.raw (.int .i64 e)] ⟨[],if(rC n f B e).1=true then Ph (rC n f B e).2 0 else Ph [] 9⟩:=by
 have w:=mn n f B 4611686018427387904 e g v m q (by omega) o l;have x:=zP n f g (by omega) (fun t C=>by have:=m.pd.2 t C;omega) r;have u:fj f n B (n-1+1) (aJ n []):=by rw[show n-1+1=n by omega];exact gZ m.pd q
 have A:CtP n e (ae n 0):=oA o;have p:=(tT n f B e v m r q z o l (n-1) [] (ae n 0) (by simp;omega) xQ.nil u A).nilA (k:=2) rfl (by decide);have E:=(E4 (f:=f) (B:=B) g o).1
 change iW _ _ _ _ _ _ (mO (rC n f B e).2) (.raw (.bool (rC n f B e).1))at p
 simp only[aeP,aew]at p;generalize(rC n f B e).1=b at*
 generalize(rC n f B e).2=c at*
 have s:=aU n n f;generalize mat n n f=M at*
 unfold qy at*
 generalize nO n f n=S at*
 generalize dL n f=D at*
 clear u m r;refine ax func47 rfl ntmps47 (aA (k:=ai (bj [⟨3,_,_,_,w⟩] (k:=ar (k:=ao rfl (ak (aH s (k:=?_))))))));rw[AI];refine ai (ai (FD (k:=9) (by simp[wk]) (yP 5 p 19 [⟨1,_,_,_,x⟩] [] (by kernel_rfl) (by simp[wk]) g rfl (ji _) (ji _) (by decide) (by simp[wk]) (by decide) fun K h=>?_)));simp only[kd,cw,aa];apply h;clear h K;refine⟨⟨rfl,(tV _ _).symm⟩,by simp[wk],?_⟩;intro K h;simp only[kd,cw,aa,cmS,cwD,kM,bne_self_eq_false];apply h;clear h K;show bA _ _ _ _;cases b with
 |true=>
  refine ao rfl (ak (bi (k:=?_)));refine aQ ⟨.inr rfl,dp 19 (bf rfl) ?_ rfl⟩;have y:List.take n c=c:=ack (by omega);simp(disch:=omega) only[kd,results47,y,Ph]
 |false=>
  refine az rfl (bi (k:=?_));refine aQ ⟨.inr rfl,qr 6 rfl rfl ?_ rfl⟩;simp(disch:=omega) only[kd,results47,Ph]
theorem fc (a:Int×List Int):(Mb a).length=2:=rfl
theorem l5 (l:List (Int×List Int)) (k:Int) (x:List Int):lc Mb l++[[AV.p (.raw (.int .i64 k)),.p (.sl (ls fI x))]]=lc Mb (l++[(k,x)]):=by simp[lc,Mb]
theorem rM (k:Int) (x:List Int) (b:Int) (y:List Int):CallC prog 143 [tIt k x,tIt b y] ⟨[],.raw (.bool (decide (pD (k,x) (b,y))))⟩:=by
 have g:=iT x y;by_cases e:k<b
 ·rw[decide_eq_true (show pD (k,x) (b,y)from .inl e)];refine ax func143 rfl ntmps143 (aA (k:=ar (k:=aE @results143)))
 by_cases f:k=b
 ·rw[show decide (pD (k,x) (b,y))=decide (dn x y<0) by
   unfold pD;simp[f]]
  generalize dn x y=c at*
  refine ax func143 rfl ntmps143 (aA (k:=bE [⟨16,_,_,_,g⟩] (k:=aE @results143)))
 rw[decide_eq_false (show ¬pD (k,x) (b,y) by unfold pD;simp[e,f])];refine ax func143 rfl ntmps143 (aA (k:=ar (k:=aE @results143)))
theorem X9 (l:List (Int×List Int)) (k:Int) (x:List Int) (D:l.length<=1000000):CallC prog 93 [EX l,tIt k x] ⟨[],EX (kV (k,x) l)⟩:=by
 have v:=Ez (k,x) l;have m:=Kg (k,x) l;have j:=Kf (k,x) l;have b:=uF (k,x) l;obtain⟨p,z⟩: ∃p,p=Fk (k,x) l:=⟨_,rfl⟩;rw[<- z]at v m j b;clear z;refine ax func93 rfl ntmps93 (aA (k:=bi (k:=?_)));refine ai (ay (G:=fY p) (fun g=>⟨(EX l::jk::jk::.one (.ptr 3 0 0 0)::jk::rN g.i::j16 (j16 (j4 (j4 (jk::jk::[]))))),Hm [(3,[⟨75,2,[[.p (.raw (.int .i64 k)),.p (.sl (ls fI x))]]⟩])]⟩) (fun g=>p-g.i) ⟨0,by omega⟩ ?_ ?_)
 ·refine aj ⟨rfl,trivial⟩ ?_;simp[wk]
 rintro⟨i,C⟩;simp only;by_cases A:i<p
 ·obtain⟨a,e⟩:=getElem?_of_lt (show i<l.length by omega);have n:=m i a e A;obtain⟨o,q⟩:=a;have h:=rM o q k x;rw[decide_eq_true n]at h;refine ai (ch [⟨10,_,_,_,h⟩] e (k:=az rfl (ak (am (bu (k:=?_))))));refine⟨⟨i+1,by omega⟩,by simp only;omega,aj ⟨rfl,trivial⟩ ?_⟩;simp[wk]
 have u:i=p:=by omega
 subst u;by_cases y:i<l.length
 ·obtain⟨a,e⟩:=getElem?_of_lt y;have w:=j a e;obtain⟨o,q⟩:=a;have h:=rM o q k x;rw[decide_eq_false w]at h;have r:=rM k x o q;rw[e]at b;simp only at b;refine ai (ch [⟨10,_,_,_,h⟩] e (k:=ao rfl (aX ?_)));show bA _ _ _ _;by_cases c:pD (k,x) (o,q)
  ·rw[decide_eq_true c]at r;rw[if_pos c]at b;rw[b];refine ai (ch [⟨10,_,_,_,r⟩] e (k:=ao rfl (ak ?_)));have f:(l.take i).length=i:=by rw[acY];omega
   have s:(l.take i++[(k,x)]).length=i+1:=by rw[acJ,f];rfl
   have t:(l.drop i).length=l.length-i:=aea;refine aH (aC @acL (aC (dW fc) (aC f (iz fc)))) (k:=aH (aC f @l5) (k:=aH (aC (dW fc) (aC @adJ (aC s (aC t (iz fc))))) (k:=?_)));refine aQ ⟨.inr rfl,dp 38 (bf rfl) ?_ rfl⟩;simp(disch:=omega) only[kd,results93,acI,ab,EX];rw[ack (by rw[acJ,acC];omega)]
  rw[decide_eq_false c]at r;rw[if_neg c]at b;rw[b];refine ai (ch [⟨10,_,_,_,r⟩] e (k:=az rfl (bi (k:=aE @results93))))
 have B:l.length=i:=by omega
 rw[ad6 (by omega)]at b;simp only at b;rw[b];refine ai (LG (k:=ao rfl (aX (ai (LG (k:=ao rfl (ak ?_)))))));have f:(l.take i).length=i:=by rw[acY];omega
 have s:(l.take i++[(k,x)]).length=i+1:=by rw[acJ,f];rfl
 have t:(l.drop i).length=0:=by rw[aea];omega
 refine aH (aC @acL (aC (dW fc) (aC f (iz fc)))) (k:=aH (aC f @l5) (k:=aH (aC (dW fc) (aC @adJ (aC s (aC t (iz fc))))) (k:=?_)));refine aQ ⟨.inr rfl,dp 38 (bf rfl) ?_ rfl⟩;simp(disch:=omega) only[kd,results93,acI,ab,EX];rw[ack (by rw[acJ,acC];omega)]
theorem B5 (l:List (Int×List Int)) (o:l.length<=1000000):CallC prog 69 [EX l] ⟨[],cw (l.map Prod.snd)⟩:=by
 have c:(l.map Prod.snd).length=l.length:=ac0 _;refine ax func69 rfl ntmps69 (aA (k:=bi (k:=ai (bi (k:=?_)))));refine ay (G:=fY l.length) (fun g=>⟨(jk::jk::jk::.one (.sl 16 0 0 g.i)::jk::jk::EX l::rN l.length::rN g.i::j4 (j4 (jk::jk::[]))),Hm [(16,[⟨35,1,lc (fR fI) ((l.map Prod.snd).take g.i)⟩])]⟩) (fun g=>l.length-g.i) ⟨0,by omega⟩ ?_ ?_
 ·refine(cz (k:=3) (d:=16) 35 1 (by omega) rfl rfl).trans (aj ⟨rfl,trivial⟩ ?_);simp[wk]
 rintro⟨i,n⟩;simp only;by_cases j:i<l.length
 ·obtain⟨a,e⟩:=getElem?_of_lt j;obtain⟨p,m⟩:=a;have f:((l.map Prod.snd).take i).length=i:=by rw[acY,c];omega
  have h:(l.map Prod.snd).take i++[m]=(l.map Prod.snd).take (i+1):=by
   rw[adU,ach,e];rfl
  generalize l.map Prod.snd=V at*
  refine ar (k:=aV rfl (ai (am (aH e (k:=dF (aC f (aC @lH h)) (k:=bu (k:=?_)))))));refine⟨⟨i+1,by omega⟩,by simp only;omega,aj ⟨rfl,trivial⟩ ?_⟩;simp[wk]
 have b:i=l.length:=by omega
 subst b;refine ar (k:=aW rfl (bi (k:=?_)));refine aQ ⟨.inr rfl,dp 16 (bf rfl) ?_ rfl⟩;simp(disch:=omega) only[kd,results69,ack,cw]
def Jm (x:List Int):TV:=match gS x with|none=>Gd [] false|some y=>Gd y true
theorem zr (h:vD e=true) (b:cQ e≠0):Jm e=Gd (e.map fun a=>cQ e*a) true:=by
 unfold Jm;rw[lV h,if_neg b]
theorem tQ (h:vD e=true) (b:cQ e=0):Jm e=Gd [] false:=by
 unfold Jm;rw[lV h,if_pos b]
theorem xW (h:vD e=false):Jm e=Gd [] false:=by
 unfold Jm gS;rw[h];rfl
theorem Hh (x:List Int) (C:x.length<=17592186043904):CallC prog 92 [eF x] ⟨[],Jm x⟩:=by
 have l:=GH x;cases j:vD x with
 |false=>
  rw[j]at l;rw[xW j];refine ax func92 rfl ntmps92 (aA (k:=ai (bj [⟨1,_,_,_,l⟩] (k:=az rfl (bi (k:=?_))))));refine aQ ⟨.inr rfl,qr 2 rfl rfl ?_ rfl⟩;simp(disch:=omega) only[kd,results92,Gd]
 |true=>
  rw[j]at l;have y: ∀i c,x[i]?=some c-> -1099511627776<=c/\c<=1099511627776:=fun i c e=>jN j e
  refine ax func92 rfl ntmps92 (aA (k:=ai (bj [⟨1,_,_,_,l⟩] (k:=ao rfl (ak (bi (k:=ai (bi (k:=?_)))))))));refine ay (G:=fY x.length) (fun g=>⟨(eF x::jk::jk::jk::.raw (.int .i64 (cQ (x.take g.i)))::j4 (j4 (eF x::rN x.length::rN g.i::j16 (j4 (j4 (j4 ([]))))))),Hm []⟩) (fun g=>x.length-g.i) ⟨0,by omega⟩ ?_ ?_
  ·refine aj trivial ?_;simp[wk,cQ]
  rintro⟨i,A⟩;simp only;by_cases n:i<x.length
  ·obtain⟨c,e⟩:=getElem?_of_lt n;have b:=C8 (x.take i) c;rw[<- Bo e]at b;generalize cQ (x.take i)=s at*
   refine ar (k:=aV rfl (ai (am (aH e (k:=?_)))));by_cases v:s=0
   ·by_cases w:c=0
    ·rw[if_neg (by omega)]at b;refine ar (k:=ao rfl (ak (bu (k:=?_))));refine⟨⟨i+1,by omega⟩,by simp only;omega,aj trivial ?_⟩;simp[wk,b]
    rw[if_pos ⟨v,w⟩]at b;by_cases q:c<0
    ·rw[if_pos q]at b;refine ar (k:=az rfl (bi (k:=ar (k:=az rfl (aAl (k:=bu (k:=?_)))))));refine⟨⟨i+1,by omega⟩,by simp only;omega,aj trivial ?_⟩;simp[wk,b]
    rw[if_neg q]at b;refine ar (k:=az rfl (bi (k:=ar (k:=ao rfl (ak (bu (k:=?_)))))));refine⟨⟨i+1,by omega⟩,by simp only;omega,aj trivial ?_⟩;simp[wk,b]
   rw[if_neg (by omega)]at b;refine ar (k:=ao rfl (ak (bu (k:=?_))));refine⟨⟨i+1,by omega⟩,by simp only;omega,aj trivial ?_⟩;simp[wk,b]
  have f:i=x.length:=by omega
  subst f;rw[adJ];have m:=iV x;refine ar (k:=aW rfl ?_);show bA _ _ _ _;by_cases p:cQ x=0
  ·rw[tQ j p,p];refine ai (ar (k:=az rfl (bi (k:=?_))));refine aQ ⟨.inr rfl,qr 2 rfl rfl ?_ rfl⟩;simp(disch:=omega) only[kd,results92,Gd]
  rw[zr j p];have o:(x.map fun a=>cQ x*a).length=x.length:=ac0 _;generalize cQ x=s at*
  refine ai (ar (k:=ao rfl (ak (bi (k:=ai (bi (k:=?_)))))));refine ay (G:=fY x.length) (fun g=>⟨(j4 (.raw (.int .i64 s)::jk::jk::.one (.sl 41 0 0 g.i)::j16 (j4 (jk::jk::eF x::rN x.length::rN g.i::j4 (j4 (jk::jk::jk::[])))))),Hm [(41,[⟨2,1,lc fI ((x.map fun a=>s*a).take g.i)⟩])]⟩) (fun g=>x.length-g.i) ⟨0,by omega⟩ ?_ ?_
  ·refine(cz (k:=7) (d:=41) 2 1 (by omega) rfl rfl).trans (aj ⟨rfl,trivial⟩ ?_);simp[wk]
  rintro⟨i,A⟩;simp only;by_cases n:i<x.length
  ·obtain⟨c,e⟩:=getElem?_of_lt n;have z:=y i c e;have t:((x.map fun a=>s*a).take i).length=i:=by rw[acY,o];omega
   have u:(x.map fun a=>s*a).take i++[s*c]=(x.map fun a=>s*a).take (i+1):=by
    rw[adU,ach,e];rfl
   have r: -9223372036854775808<=s*c/\s*c<=9223372036854775807:=by
    rcases m with h|h|h<;>rw[h]<;>omega
   have B:IntKind.i64.wrap (s*c)=s*c:=aL r.1 r.2;generalize(x.map fun a=>s*a)=V at*
   refine ar (k:=aV rfl (ai (am (aH e (k:=dF (aC B (aC t (aC @qb u))) (k:=bu (k:=?_)))))));refine⟨⟨i+1,by omega⟩,by simp only;omega,aj ⟨rfl,trivial⟩ ?_⟩;simp[wk]
  have f:i=x.length:=by omega
  subst f;refine ar (k:=aW rfl (bi (k:=?_)));refine aQ ⟨.inr rfl,dp 41 (bf rfl) ?_ rfl⟩;simp(disch:=omega) only[kd,results92,ack,Gd]
abbrev ug (l:List (Int×List Int)):List OObj:=[⟨75,2,lc Mb l⟩]
theorem p7 (l:List (Int×List Int)): ∀o∈ug l,selfO 0 o:=fun o b e f x c=>by
 simp only[aco]at b;subst b;obtain⟨z,_,rfl⟩:=acn.1 f;simp only[Mb,acA,acT,acR,ado,or_false]at c;rcases c with rfl|rfl<;>trivial
theorem D1 (d:Nat) (l:List (Int×List Int)):(ug l).map (renO d)=ug l:=by simp[ug,renO,gT]
def kP (n:Nat) (f:FF) (z:List Int):Int×List Int:=(G8 n f z,z)
structure LvG (lo hi:Int) (g:Int->List (List Int)) (it:List Int->Int×List Int) (T:List (Int×List Int)) where
 x:Int
 acc:List (Int×List Int)
 h1:lo<=x
 e:acc++((rng x hi).flatMap g).map it=T
theorem kC (n:Nat) (f:FF) (B:Int) (k:Nat) (y:List Int) (out:List (Int×List Int)) (hn:n<=4) (h:RedR f n) (H: ∀i j,i<n->j<n->I64 (f i j)) (W:0<=B) (X:B<=262144) (w:y.length+(k+1)=n) (C:xQ y) (t:fj f n B (k+1) (aJ n y))
  (g:Int->List (List Int)) (s:(out++((rng (b9 f n B k (aJ n y)) (cq f n B k (aJ n y))).flatMap g).map (kP n f)).length<=1000000)
  (r:(k=0/\ ∀x,g x=[x::y])\/(k≠0/\ ∀x acc,b9 f n B k (aJ n y)<=x->x<=cq f n B k (aJ n y)->(acc++(g x).map (kP n f)).length<=1000000->
   pn prog 49 [qy n f,.raw (.int .i64 B),eF (x::y),.one (.sl 0 0 0 acc.length)] (ug acc) (ug (acc++(g x).map (kP n f))) (.one (.sl 0 0 0 (acc++(g x).map (kP n f)).length)))):
  pn prog 49 [qy n f,.raw (.int .i64 B),eF y,.one (.sl 0 0 0 out.length)] (ug out) (ug (out++((rng (b9 f n B k (aJ n y)) (cq f n B k (aJ n y))).flatMap g).map (kP n f)))
   (.one (.sl 0 0 0 (out++((rng (b9 f n B k (aJ n y)) (cq f n B k (aJ n y))).flatMap g).map (kP n f)).length)):=by
 have U:=jm n f B k y hn h H W X w C t;have cL:=fun x=>qj x y (by omega)
 obtain⟨b1,b2⟩:=j9 h hn W X w C t;have tb:=iG (y.length+1) (by omega);have A: ∀x i,k<i->i<n->aJ n (x::y) i=aJ n y i:=fun x i e _=>iI w e
 have cP: ∀x,b9 f n B k (aJ n y)<=x->x<=cq f n B k (aJ n y)->k=0->CallC prog 101 [qy n f,eF (x::y)] ⟨[],tR (kP n f (x::y)).1 1⟩/\0<=(kP n f (x::y)).1/\(kP n f (x::y)).1<=262144:=fun x e E c=>by
  subst c;have Z:(x::y).length=n:=by rw[acC];omega
  have P:xQ (x::y):=C.cons (by omega);have N:fj f n B 0 (aJ n (x::y)):=by
   rw[iY h.pd (by omega) ((fj.tail h.pd (by omega) fun i e E=>A x i e E).2 t),jD w,mw h.pd (by omega) (A x),ms h.pd (by omega) (A x)];exact⟨e,E⟩
  have F:=m0.1 N;rw[show aJ n (x::y)=fun i=>(x::y).getD i 0 from funext (nS Z)]at F;have M:=(h.pd.pos fun i=>(x::y).getD i 0).1;have Y:(kP n f (x::y)).1=BF n f (fun i=>(x::y).getD i 0) fun i=>(x::y).getD i 0:=rfl
  refine⟨pY n f (x::y) (by omega) (by omega) Z H fun z hz=>?_,?_,?_⟩
  ·have h3:=P.bd z hz;have h4:=iG (x::y).length (by omega);constructor<;>omega
  ·rw[Y];exact M
  rw[Y];omega
 have L: ∀z,kP n f z=((kP n f z).1,z):=fun _=>rfl
 unfold VY at U;generalize hT:(out++((rng (b9 f n B k (aJ n y)) (cq f n B k (aJ n y))).flatMap g).map (kP n f))=T at*
 generalize b9 f n B k (aJ n y)=lo at*
 generalize cq f n B k (aJ n y)=u at*
 generalize kP n f=m at*
 unfold qy at*
 generalize nO n f n=S at*
 generalize dL n f=V at*
 clear t h H C A;refine F5 func49 rfl (by kernel_rfl) (by simp[selfTV,bH]) (by simp[selfTV,bH]) (p7 _) (p7 _) ?_;rw[ntmps49];refine bA.weak (aj (tm:=(.agg [.p (.raw (.int .i64 (n:Int))),.p (.sl (ls fB S)),.p (.sl (ls fZ V))]::.raw (.int .i64 B)::eF y::.one (.sl 0 0 0 out.length)::j16 (j16 (j16 (j4 ([])))))) (l:=[(0,ug out)]) ⟨rfl,trivial⟩ (by simp[wk,ae])) ?_;refine ar (k:=bj [⟨3,_,_,_,U⟩] (k:=ai (bi (k:=?_))));refine ay (G:=LvG lo u g m T) (fun g=>⟨(jk::.raw (.int .i64 B)::eF y::.one (.sl 0 0 0 g.acc.length)::.one (.ptr 4 0 0 0)::j4 (jk::.raw (.int .i64 u)::.raw (.int .i64 g.x)::j16 (j16 (j4 (j4 (j4 ([]))))))),Hm [(0,ug g.acc),(4,[⟨87,3,[[.p (.raw (.int .i64 (n:Int))),.p (.sl (ls fB S)),.p (.sl (ls fZ V))]]⟩])]⟩) (fun g=>(u+1-g.x).toNat) ⟨lo,out,by omega,hT⟩ ?_ ?_
 ·refine aj ⟨rfl,rfl,trivial⟩ ?_;simp[wk]
 rintro⟨x,acc,e,o⟩;simp only;by_cases Q:x<=u
 ·rw[uN Q,aeF,ac1,<- acI]at o;have ex:IntKind.i64.wrap (x+1)=x+1:=aL (by omega) (by omega);have b:(acc++(g x).map m).length<=1000000:=by
   rw[<- o,acJ]at s;omega
  refine ai (ar (k:=az rfl (ak (ai (am (bj [⟨2,_,_,_,cL x⟩] (k:=?_)))))));rcases r with⟨c,r⟩|⟨c,r⟩
  ·obtain⟨D,n0,n1⟩:=cP x e Q c;have R:=nY (m (x::y)).1 ((show I64 (m (x::y)).1 by constructor<;>omega).sz (by omega));rw[oH (by constructor<;>omega)]at R;have J:=L (x::y);have I:(g x).map m=[((m (x::y)).1,x::y)]:=by rw[r,<- J];rfl
   rw[I]at b o;rw[acJ]at b;have b:acc.length+1<=1000000:=b;generalize(m (x::y)).1=v at*
   refine ai (ar (k:=ao rfl (ak (bE [⟨2,_,_,_,D⟩,⟨4,_,_,_,R⟩] (k:=dF @l5 (k:=gL ex (k:=?_)))))));refine⟨⟨x+1,acc++[(v,x::y)],by omega,o⟩,by simp only;omega,aj ⟨rfl,rfl,trivial⟩ ?_⟩;simp[wk]
  have O:=r x acc e Q b;refine ai (ar (k:=az rfl (yL 4 O 0 [] [] (by decide) (by decide) fun K q=>?_)));simp only[kd,aa,reduceCtorEq];apply q;clear q K;refine⟨⟨rfl,?_⟩,?_⟩
  ·rw[D1];rfl
  intro K q;simp only[kd,aa,Q2,cwD,kF,Nat.reduceBEq];apply q;clear q K;refine aX (gL ex (k:=?_));refine⟨⟨x+1,acc++(g x).map m,by omega,o⟩,by simp only;omega,aj ⟨rfl,rfl,trivial⟩ ?_⟩;simp[wk]
 rw[o7 (by omega),aer,acT,adc]at o;subst o;refine ai (ar (k:=ao rfl (aX (bi (k:=?_)))));refine aQ ⟨.inr rfl,_,aj (tm:=(j4 (j4 (.one (.sl 0 0 0 acc.length)::j16 (j16 (j4 (j4 (j4 (jk::jk::jk::[]))))))))) (l:=[(0,ug acc)]) ⟨rfl,trivial⟩ (by simp[wk]),dA _,?_⟩;simp(disch:=omega) only[kd,results49]
theorem qf (n:Nat) (f:FF) (B:Int) (o:n<=4) (b:RedR f n) (q: ∀i j,i<n->j<n->I64 (f i j)) (l:0<=B) (m:B<=262144): ∀(k:Nat) (y:List Int) (out:List (Int×List Int)),y.length+(k+1)=n->xQ y->fj f n B (k+1) (aJ n y)->(out++(dO f n B (k+1) y).map (kP n f)).length<=1000000->
  pn prog 49 [qy n f,.raw (.int .i64 B),eF y,.one (.sl 0 0 0 out.length)] (ug out) (ug (out++(dO f n B (k+1) y).map (kP n f))) (.one (.sl 0 0 0 (out++(dO f n B (k+1) y).map (kP n f)).length))
 |0,y,out,c,h,e,g=>kC n f B 0 y out o b q l m c h e (fun x=>[x::y]) g (.inl ⟨rfl,fun _=>rfl⟩)
 |k+1,y,out,c,h,e,g=>by
  refine kC n f B (k+1) y out o b q l m c h e (fun x=>dO f n B (k+1) (x::y)) g (.inr ⟨by omega,fun x acc g u t=>?_⟩);obtain⟨v,w⟩:=j9 b o l m c h e;have r: ∀i,k+1<i->i<n->aJ n (x::y) i=aJ n y i:=fun i p _=>iI c p
  refine qf n f B o b q l m k (x::y) acc (by rw[acC];omega) (h.cons (by omega)) ?_ t;rw[iY b.pd (by omega) ((fj.tail b.pd (by omega) fun i p s=>r i p s).2 e),jD c,mw b.pd (by omega) r,ms b.pd (by omega) r];exact⟨g,u⟩
section
theorem nW (h:(Lit.int .u16 x).wf=true):0<=x/\x<=65535:=by
 have:=Go.bounds_u16 h;omega
section
variable {n:Nat} {f:FF} {B bud:Int}
def P8 (n:Nat) (bud:Int) (c:List Int) (T:Nat) (r:Bool×List Int):Prop:=
 (r.1=true↔sL n c+(T:Int)<=bud)/\(r.1=true->CtP n bud r.2/\sL n r.2=sL n c+(T:Int))
theorem Gg {g:Int->List Int->Bool×List Int} {m:Int->Nat}: ∀(l:List Int) (c:List Int),(∀x∈l,∀c,CtP n bud c->P8 n bud c (m x) (g x c))->CtP n bud c->P8 n bud c (l.map m).sum (ctL g l c)
 |[],c,_,b=>⟨by have:=b.2.2;simp[ctL];exact this,fun _=>⟨b,by simp[ctL]⟩⟩
 |x::l,c,p,b=>by
  obtain⟨q,r⟩:=p x (by simp) c b;rw[ctL,acA,af0];by_cases e:(g x c).1=true
  ·rw[if_pos e];obtain⟨s,t⟩:=r e;obtain⟨o,j⟩:=Gg l (g x c).2 (fun z u=>p z (by simp[u])) s;rw[t]at o j;exact⟨o.trans ⟨fun h=>by omega,fun h=>by omega⟩,fun h=>⟨(j h).1,by rw[(j h).2];omega⟩⟩
  rw[if_neg e];have: ¬(sL n c+(m x:Int)<=bud):=fun h=>e (q.2 h)
  exact⟨⟨fun h=>(by cases h),fun h=>by omega⟩,fun h=>by cases h⟩
theorem Gf {k:Nat} {c:List Int} {K:List Int->Bool×List Int} (v:e.length+(k+1)=n) (b:CtP n bud c) {M:Nat} (r:cq f n B k (aJ n e)<b9 f n B k (aJ n e)->M=0) (q: ∀g,CtP n bud g->P8 n bud g M (K g)):
  P8 n bud c ((rng (b9 f n B k (aJ n e)) (cq f n B k (aJ n e))).length+M) (zz n f B bud k e c K):=by
 have u:0<=sL n c:=l8 n fun a s=>b.2.1 a s
 rw[o6];unfold zz;by_cases j:cq f n B k (aJ n e)<b9 f n B k (aJ n e)
 ·rw[if_pos j,r j];have:=b.2.2;exact⟨⟨fun _=>by omega,fun _=>rfl⟩,fun _=>⟨b,by show sL n c=_;omega⟩⟩
 rw[if_neg j];by_cases m:bud<=cq f n B k (aJ n e)-b9 f n B k (aJ n e)
 ·rw[if_pos m];exact⟨⟨fun h=>(by cases h),fun h=>by omega⟩,fun h=>by cases h⟩
 rw[if_neg m];have t:=tU (d:=cq f n B k (aJ n e)-b9 f n B k (aJ n e)) b.1 (show e.length<n by omega);by_cases o:bud<sL n (zw e.length (cq f n B k (aJ n e)-b9 f n B k (aJ n e)) c)
 ·rw[if_pos o];exact⟨⟨fun h=>(by cases h),fun h=>by omega⟩,fun h=>by cases h⟩
 rw[if_neg o];obtain⟨p,l⟩:=q (zw e.length (cq f n B k (aJ n e)-b9 f n B k (aJ n e)) c) ⟨by rw[qK];exact b.1,zy b.1 (by omega) (by omega) b.2.1,by omega⟩;rw[t]at p l;exact⟨p.trans ⟨fun h=>by omega,fun h=>by omega⟩,fun h=>⟨(l h).1,by rw[(l h).2];omega⟩⟩
theorem Ge: ∀(k:Nat) (y c:List Int),y.length+(k+1)=n->CtP n bud c->P8 n bud c (toL f n B k y) (BD n f B bud k y c)
 |0,y,c,j,e=>Gf (M:=0) (K:=fun b=>(true,b)) j e (fun _=>rfl) fun b h=>⟨⟨fun _=>by have:=h.2.2;omega,fun _=>rfl⟩,fun _=>⟨h,by show sL n b=_;omega⟩⟩
 |k+1,y,c,j,e=>Gf j e (fun h=>by rw[o7 h];rfl) fun b h=>Gg (g:=fun x=>BD n f B bud k (x::y)) (m:=fun x=>toL f n B k (x::y)) _ b (fun x _ c e=>Ge k (x::y) c (by rw[acC];omega) e) h
theorem E3 (c:1<=n) (b:0<=bud):(rC n f B bud).1=true↔(toL f n B (n-1) []:Int)<=bud:=by
 have h:=(Ge (f:=f) (B:=B) (n-1) [] (ae n 0) (by simp;omega) (oA b)).1;have:sL n (ae n 0)=0:=by
  unfold sL;rw[aO n fun i _=>jy n i,dV]
 rw[this,aeO]at h;exact h
def vX (L:List (Int×List Int)) (m:Nat):Int:=((L.filter fun x=>decide (x.1=(m:Int))).length:Int)
theorem F9 (L:List (Int×List Int)) (x:Int×List Int) (m:Nat):vX (L++[x]) m=vX L m+if x.1=(m:Int)then 1 else 0:=by
 unfold vX;rw[afe,acJ];by_cases h:x.1=(m:Int)<;>simp[h]
theorem Q8 (L:List (Int×List Int)) (m:Nat):0<=vX L m/\vX L m<=L.length:=⟨by unfold vX;omega,afj.2 (aey _ _)⟩
theorem Q9 (b m:Nat):vX ((dO f n (b:Int) n []).map (kP n f)) m=lY f n b m:=by
 unfold vX lY;rw[List.filter_map,ac0];have: ∀z,(kP n f z).1=fA n f z:=fun z=>(gA f z).symm
 simp only[afS,this]
end
end
def DP (x:List Int):Bool:=vD x&&decide (cQ x=1)
def Fj (l:List (Int×List Int)):List (Int×List Int):=l.foldl (fun acc x=>if DP x.2=true then kV x acc else acc) []
theorem RX (l:List (Int×List Int)) (x:Int×List Int):Fj (l++[x])=if DP x.2=true then kV x (Fj l)else Fj l:=by
 unfold Fj;rw[List.foldl_append];rfl
theorem Mi (l:List (Int×List Int)):(Fj l).length<=l.length:=by
 have key: ∀(l acc:List (Int×List Int)),(l.foldl (fun acc x=>if DP x.2=true then kV x acc else acc) acc).length<=l.length+acc.length:=by
  intro l
  induction l with
  |nil=>intro acc;simp
  |cons x l b=>
   intro acc;have c:=Hg x acc;simp only[agj,acC];refine acl (b _) ?_;split<;>omega
 unfold Fj;simpa using key l []
noncomputable def Yt (n:Nat) (f:FF) (B:Int):List (Int×List Int):=Fj ((dO f n B n []).map (kP n f))
theorem VX {l:List (Int×List Int)} {x:Int×List Int}:x∈Fj l↔x∈l/\DP x.2=true:=by
 have key: ∀(l acc:List (Int×List Int)),x∈l.foldl (fun acc x=>if DP x.2=true then kV x acc else acc) acc↔(x∈l/\DP x.2=true)\/x∈acc:=by
  intro l
  induction l with
  |nil=>intro acc;simp
  |cons y l e=>
   intro acc;rw[agj,e];by_cases h:DP y.2=true
   ·rw[if_pos h,uE,acR];constructor
    ·rintro(b|rfl|b)
     ·exact .inl ⟨.inr b.1,b.2⟩
     ·exact .inl ⟨.inl rfl,h⟩
     exact .inr b
    rintro(⟨rfl|b,c⟩|b)
    ·exact .inr (.inl rfl)
    ·exact .inl ⟨b,c⟩
    exact .inr (.inr b)
   rw[if_neg h,acR];constructor
   ·rintro(b|b)
    ·exact .inl ⟨.inr b.1,b.2⟩
    exact .inr b
   rintro(⟨rfl|b,c⟩|b)
   ·exact absurd c h
   ·exact .inl ⟨b,c⟩
   exact .inr b
 have:=key l [];unfold Fj;rw[this];simp
theorem VW (l:List (Int×List Int)):BV (Fj l):=by
 have key: ∀(l acc:List (Int×List Int)),BV acc->BV (l.foldl (fun acc x=>if DP x.2=true then kV x acc else acc) acc):=by
  intro l
  induction l with
  |nil=>intro acc h;exact h
  |cons y l b=>
   intro acc h;rw[agj];refine b _ ?_;split
   ·exact AC h
   exact h
 exact key l [] (by simp[BV])
theorem Lt (n:Nat) (f:FF) (B:Int) (F:1<=n) (W:n<=4) (p:RedR f n) (D: ∀i j,i<n->j<n->I64 (f i j)) (m:0<=B) (R:B<=262144) (N:(dO f n B n []).length<=900000):
  CallC prog 43 [cw (mat n n f),.raw (.int .i64 B)] ⟨[],EX (Yt n f B)⟩:=by
 have P:=zP n f F (by omega) (fun t Y=>by have:=p.pd.2 t Y;omega) D;have J:fj f n B (n-1+1) (aJ n []):=by rw[show n-1+1=n by omega];exact gZ p.pd m
 have l:=qf n f B W p D m R (n-1) [] [] (by simp;omega) xQ.nil J (by rw[show n-1+1=n by omega,adP,ac0];omega);rw[show n-1+1=n by omega]at l;have I: ∀x∈(dO f n B n []).map (kP n f),x.2.length<=4:=fun x r=>by
  obtain⟨z,Z,rfl⟩:=acn.1 r;have:=((Ed p.pd m z).1 Z).1;show z.length<=4;omega
 unfold Yt;have U:((dO f n B n []).map (kP n f)).length<=900000:=by simpa using N
 generalize(dO f n B n []).map (kP n f)=L at*
 have l:=(l.toC (k:=3) (by decide) rfl rfl).nilA (k:=2) rfl;simp only[aeP,aew,adP]at l;generalize mat n n f=M at*
 unfold qy at*
 generalize nO n f n=S at*
 generalize dL n f=dl at*
 clear J p D N;refine ax func43 rfl ntmps43 (aA (k:=bi (k:=ai (rS 3 l rfl [⟨1,_,_,_,P⟩] [] (by decide) fun K o=>?_))));simp only[kd,cw,aa];apply o;clear o K;refine⟨⟨rfl,⟨13,rfl,fun _=>rfl⟩⟩,?_⟩;intro K o;simp only[kd,cw,aa,Yo,cwD,jJ];apply o;clear o K;refine ay (G:=fY L.length) (fun g=>⟨(j4 (jk::EX (Fj (L.take g.i))::j4 (jk::jk::jk::.one (.sl 13 0 0 L.length)::rN L.length::rN g.i::j16 (j4 (jk::jk::[]))))),Hm [(13,ug L)]⟩) (fun g=>L.length-g.i) ⟨0,by omega⟩ ?_ ?_
 ·refine(Lz 5 rfl).trans (aj ⟨rfl,trivial⟩ ?_);simp[wk,Fj,ls]
 rintro⟨i,T⟩;simp only;by_cases V:i<L.length
 ·obtain⟨x,r⟩:=getElem?_of_lt V;have w:IntKind.i64.wrap ((i:Int)+1)=((i+1:Nat):Int):=by rw[aL (by omega) (by omega)];omega
  have b:Fj (L.take (i+1))=if DP x.2=true then kV x (Fj (L.take i))else Fj (L.take i):=by
   rw[adU,r];exact RX _ _
  have C:=Mi (L.take i);rw[acY]at C;have H:=I x (acd r);obtain⟨v,z⟩:=x;simp only at b H;have c:=Hh z (by omega);have O:=X9 (Fj (L.take i)) v z (by omega);generalize Fj (L.take i)=A at*
  refine ar (k:=aV rfl (ai (am (aH r (k:=?_)))));cases e:vD z with
  |false=>
   rw[xW e]at c;rw[show DP z=false by unfold DP;rw[e];rfl,if_neg (by decide)]at b;refine bE [⟨2,_,_,_,c⟩] (k:=ar (k:=ao rfl (ak (gL w (k:=?_)))));refine⟨⟨i+1,by omega⟩,by simp only;omega,aj ⟨rfl,trivial⟩ ?_⟩;simp[wk,b]
  |true=>
   rcases iV z with h|h|h
   ·rw[tQ e h]at c;rw[show DP z=false by unfold DP;rw[e,h];rfl,if_neg (by decide)]at b;refine bE [⟨2,_,_,_,c⟩] (k:=ar (k:=ao rfl (ak (gL w (k:=?_)))));refine⟨⟨i+1,by omega⟩,by simp only;omega,aj ⟨rfl,trivial⟩ ?_⟩;simp[wk,b]
   ·rw[zr e (by omega),h,show(z.map fun a=>(1:Int)*a)=z by simp]at c;rw[show DP z=true by unfold DP;rw[e,h];rfl,if_pos rfl]at b;have u:=iT z z;rw[ig]at u;refine bE [⟨2,_,_,_,c⟩] (k:=bE [⟨5,_,_,_,u⟩] (k:=az rfl (Yd [⟨2,_,_,_,O⟩] (k:=gL w (k:=?_)))));refine⟨⟨i+1,by omega⟩,by simp only;omega,aj ⟨rfl,trivial⟩ ?_⟩;simp[wk,b]
   rw[zr e (by omega),h]at c;rw[show DP z=false by unfold DP;rw[e,h];rfl,if_neg (by decide)]at b;have X:dn z (z.map fun a=>(-1:Int)*a)≠0:=fun m=>by
    have Q:=nQ (x:=z) (s:= -1) (.inr rfl);rw[<- qI m,h]at Q;omega
   have u:=iT z (z.map fun a=>(-1:Int)*a);generalize dn z (z.map fun a=>(-1:Int)*a)=q at*
   generalize(z.map fun a=>(-1:Int)*a)=y at*
   refine bE [⟨2,_,_,_,c⟩] (k:=bE [⟨5,_,_,_,u⟩] (k:=ao rfl (ak (gL w (k:=?_)))));refine⟨⟨i+1,by omega⟩,by simp only;omega,aj ⟨rfl,trivial⟩ ?_⟩;simp[wk,b]
 have E:i=L.length:=by omega
 subst E;rw[adJ];refine ar (k:=aW rfl (bi (k:=aE @results43)))
abbrev vcT (l:List (List Int)) (s e:Int):TV:= .tup [(false,[.p (.sl (ls (fR fI) l))]),(false,[.p (.raw (.int .i64 s))]),(false,[.p (.raw (.int .i64 e))])]
theorem Fz (n:Nat) (f:FF) (B b:Int) (e:1<=n) (p:n<=4) (t:RedR f n) (s: ∀i j,i<n->j<n->I64 (f i j)) (q:0<=B) (r:B<=262144) (g:0<=b) (E:b<=900000) (w:(rC n f B b).1=true->(dO f n B n []).length<=8193):
  CallC prog 31 [cw (mat n n f),.raw (.int .i64 B),.raw (.int .i64 b)] ⟨[],if(rC n f B b).1=true then vcT ((Yt n f B).map Prod.snd) (sL n (rC n f B b).2) 0 else vcT [] 0 9⟩:=by
 have l:=Dw n f B b e p t s q r g (by omega);obtain⟨H,I⟩:=E4 (f:=f) (B:=B) (bud:=b) e g;have o:=aU n n f;by_cases m:(rC n f B b).1=true
 ·have w:=w m;obtain⟨⟨_,h,J⟩,F⟩:=I m;have C:=To h (show n-1<n by omega);have x:=Lt n f B e p t s q r (by omega);have y:=Tl n (rC n f B b).2 p H h (by omega);have G:(Yt n f B).length<=8193:=by
   have D:=Mi ((dO f n B n []).map (kP n f));rw[ac0]at D;show(Fj _).length<=8193;omega
  have z:=B5 (Yt n f B) (by omega);rw[if_pos m]at l⊢;generalize Yt n f B=L at*
  obtain⟨v,u⟩:=getElem?_of_lt (show n-1<(rC n f B b).2.length by omega);have ev:(rC n f B b).2.getD (n-1) 0=v:=by rw[acm,u];rfl
  rw[ev]at C F;generalize(rC n f B b).2=c at*
  generalize mat n n f=M at*
  have A:IntKind.i64.wrap ((n:Int)-1)=((n-1:Nat):Int):=by rw[aL (by omega) (by omega)];omega
  refine ax func31 rfl ntmps31 (aA (k:=dU [⟨3,_,_,_,l⟩] @Ph.eq_1 (k:=ai (ar (k:=ao rfl (ak (ai (aH (aC o (aC A u)) (k:=ao rfl (ak (bj [⟨2,_,_,_,x⟩,⟨3,_,_,_,z⟩,⟨5,_,_,_,y⟩] (k:=aE (aC @results31 @vcT.eq_1)))))))))))))
 rw[if_neg m]at l⊢;generalize mat n n f=M at*
 refine ax func31 rfl ntmps31 (aA (k:=dU [⟨3,_,_,_,l⟩] @Ph.eq_1 (k:=ai (ar (k:=az rfl (bi (k:=?_)))))));refine aQ ⟨.inr rfl,qr 6 rfl rfl ?_ rfl⟩;simp(disch:=omega) only[kd,results31,vcT]
section
def Oq (f:FF):Nat->Int
 |0=>0
 |k+1=>if k=0\/f k k<Oq f k then f k k else Oq f k
theorem Sn {n:Nat} (f:FF): ∀k,k<n->Oq f (k+1)=Ei (aN n fun i=>f i i) k
 |0,h=>by rw[Ei,xY h];exact if_pos (.inl rfl)
 |k+1,h=>by
  have:=Sn (n:=n) f k (by omega);rw[Oq,this,Ei,xY h]
  simp
theorem U1 (n:Nat) (f:FF) (u:1<=n) (v:n<=4):CallC prog 42 [cw (mat n n f)] ⟨[],.raw (.int .i64 (gh n f))⟩:=by
 have r:=aU n n f;have q:gh n f=Oq f n:=by
  have:=Sn f (n-1) (show n-1<n by omega);rw[show n-1+1=n by omega]at this;exact this.symm
 rw[q];refine ax func42 rfl ntmps42 (aA (k:=bi (k:=ai (dR r (k:=?_)))));refine ay (G:=fY n) (fun g=>⟨(cw (mat n n f)::jk::jk::.raw (.int .i64 (Oq f g.i))::jk::jk::rN n::rN g.i::j16 (j4 (j4 ([])))),Hm []⟩) (fun g=>n-g.i) ⟨0,by omega⟩ ?_ ?_
 ·refine aj trivial ?_;simp[wk,Oq]
 rintro⟨i,t⟩;simp only;by_cases e:i<n
 ·have j:=bD n f e;have l:=aB (f i) e;have o:IntKind.i64.wrap ((i:Int)+1)=((i+1:Nat):Int):=by rw[aL (by omega) (by omega)];omega
  have b:Oq f (i+1)=if i=0\/f i i<Oq f i then f i i else Oq f i:=rfl
  refine ar (k:=aV rfl (ai (am (bi (k:=?_)))));by_cases s:i=0
  ·have h:((i:Int)=0)=True:=eq_true (by omega);rw[if_pos (.inl s)]at b;refine aH h (k:=az rfl (dF (aC j l) (k:=gL o (k:=?_))));refine⟨⟨i+1,by omega⟩,by simp only;omega,aj trivial ?_⟩;simp[wk,b]
  have h:((i:Int)=0)=False:=eq_false (by omega);by_cases c:f i i<Oq f i
  ·rw[if_pos (.inr c)]at b;have m:(f i i<Oq f i)=True:=eq_true c;refine aH (aC h (aC j (aC l m))) (k:=az rfl (dF (aC j l) (k:=gL o (k:=?_))));refine⟨⟨i+1,by omega⟩,by simp only;omega,aj trivial ?_⟩;simp[wk,b]
  rw[if_neg (by omega)]at b;have m:(f i i<Oq f i)=False:=eq_false c;refine aH (aC h (aC j (aC l m))) (k:=ao rfl (ak (gL o (k:=?_))));refine⟨⟨i+1,by omega⟩,by simp only;omega,aj trivial ?_⟩;simp[wk,b]
 have p:i=n:=by omega
 subst p;refine ar (k:=aW rfl (bi (k:=aE @results42)))
section
variable {M:List (List Int)} {n:Nat} {f:FF} {B:Int}
theorem abu (h:Rf M n f) (g:0<=B) (m:B<=65536):Yt n f B=ma f n B:=DG (VW _) (Bu f n B) fun x=>by
 have e: ∀z,(kP n f z).1=fA n f z:=fun z=>(gA f z).symm
 unfold Yt;rw[VX,ta h g m,acn];constructor
 ·rintro⟨⟨z,p,rfl⟩,l⟩;obtain⟨a,b⟩:=(jW h.r g z).1 p;unfold DP at l;rw[acN,decide_eq_true_eq]at l;exact⟨a,e z,by rw[e];exact b,l.2⟩
 rintro⟨a,b,c,d⟩;refine⟨⟨x.2,(jW h.r g _).2 ⟨a,by omega⟩,Prod.ext (by rw[e];exact b.symm) rfl⟩,?_⟩;unfold DP;rw[acN,decide_eq_true_eq];refine⟨yA (acs _) fun j v _ o=>?_,d⟩;have:=Yp h.r h.n8 g m a (by omega) v (acd o);omega
def H9 (v:Int) (l:List (Int×List Int)):List (List Int):=(l.filter fun p=>decide (p.1=v)).map Prod.snd
theorem TH (v:Int) (l:List (Int×List Int)) (x:Int×List Int):H9 v (l++[x])=if x.1=v then H9 v l++[x.2]else H9 v l:=by
 unfold H9;by_cases h:x.1=v<;>simp[h]
theorem aap (h:Rf M n f) (E:n<=4) (l:Int) (w:0<=l) (J:l<=900000) (X:(dO f n (gh n f) n []).length<=8193):
  CallC prog 16 [cw M,.raw (.int .i64 l)] ⟨[],if(toL f n (gh n f) (n-1) []:Int)<=l then mnT (rz f n) ((Fa (ma f n (gh n f))).map Prod.snd) 0 else mnE 9⟩:=by
 have m:=h.n1;have D: ∀i j,i<n->j<n->I64 (f i j):=fun i j U W=>by have:=h.b i j U W;constructor<;>omega
 have y:=my h;have cR:=pG (mat n n f) (II m (by omega) h.r);rw[oI m E h.r]at cR;have C:=U1 n f m E;have t:=Fz n f (gh n f) l m E h.r D (by omega) (by omega) w J fun _=>X
 have H:=Lt n f (gh n f) m E h.r D (by omega) (by omega) (by omega);rw[abu h (by omega) (by omega)]at t H;rw[<- h.e]at cR C t H;have p:=E3 (f:=f) (B:=gh n f) m w;by_cases u:(toL f n (gh n f) (n-1) []:Int)<=l
 ·rw[if_pos (p.2 u)]at t;rw[if_pos u];have P:=Lj h (B:=gh n f) (by omega) y.2;have A:(Fa (ma f n (gh n f))).map Prod.snd=H9 (rz f n) (ma f n (gh n f)):=by
   have T:((ma f n (gh n f)).getD 0 (0,[])).1=rz f n:=rfl;unfold Fa H9;rw[T,KL _ _ (Bu f n (gh n f)) (sK h).2.2]
  obtain⟨R,q⟩:=getElem?_of_lt (Ix h);have N:rz f n=R.1:=by unfold rz;rw[acm,q];rfl
  rw[A];have L: ∀i,(H9 (rz f n) ((ma f n (gh n f)).take i)).length<=8193:=fun i=>by
   unfold H9;rw[ac0];refine acl (aey _ _) (acl (List.length_take_le' _ _) ?_);omega
  generalize rz f n=o at*
  generalize ma f n (gh n f)=c at*
  generalize sL n (rC n f (gh n f) l).2=sm at*
  generalize gh n f=B at*
  clear p u D h y A;obtain⟨v1,z1⟩:=R;simp only at N;subst N;refine ax func16 rfl ntmps16 (aA (k:=ai (bj [⟨1,_,_,_,cR⟩] (k:=ao rfl (ak (ai (dU [⟨2,_,_,_,C⟩,⟨4,_,_,_,t⟩] @vcT.eq_1 (k:=ar (k:=ao rfl (ak (bj [⟨2,_,_,_,C⟩,⟨3,_,_,_,H⟩] (k:=bi (k:=ai (bi (k:=?_)))))))))))))));refine ay (G:=fY c.length) (fun g=>⟨(j4 (j4 (jk::jk::EX c::.one (.sl 11 0 0 (H9 o (c.take g.i)).length)::j16 (j4 (jk::EX c::rN c.length::rN g.i::j16 (j4 (jk::[]))))))),Hm [(11,[⟨35,1,lc (fR fI) (H9 o (c.take g.i))⟩])]⟩) (fun g=>c.length-g.i) ⟨0,by omega⟩ ?_ ?_
  ·refine(cz (k:=11) (d:=11) 35 1 (by omega) rfl rfl).trans (aj ⟨rfl,trivial⟩ ?_);simp[wk,H9]
  rintro⟨i,V⟩;simp only;by_cases y:i<c.length
  ·obtain⟨x,Q⟩:=getElem?_of_lt y;have O:IntKind.i64.wrap ((i:Int)+1)=((i+1:Nat):Int):=by rw[aL (by omega) (by omega)];omega
   have s:H9 o (c.take (i+1))=if x.1=o then H9 o (c.take i)++[x.2]else H9 o (c.take i):=by
    rw[adU,Q];exact TH _ _ _
   have Y:=L i;obtain⟨v,z⟩:=x;simp only at s;generalize H9 o (c.take i)=S at*
   have Z:(0:Int)<(c.length:Int):=by omega
   refine ar (k:=aV rfl (ai (am (aH Q (k:=?_)))));by_cases F:v=o
   ·rw[if_pos F]at s;have I:(v=o)=True:=eq_true F;refine gM (aC q I) (k:=az rfl (dF @lH (k:=gL O (k:=?_))));refine⟨⟨i+1,by omega⟩,by simp only;omega,aj ⟨by
     show _=[(⟨35,1,lc (fR fI) (H9 o (c.take (i+1)))⟩:OObj)];rw[s];rfl,trivial⟩ ?_⟩
    simp[wk,s]
   rw[if_neg F]at s;have I:(v=o)=False:=eq_false F;refine gM (aC q I) (k:=ao rfl (ak (gL O (k:=?_))));refine⟨⟨i+1,by omega⟩,by simp only;omega,aj ⟨by
    show _=[(⟨35,1,lc (fR fI) (H9 o (c.take (i+1)))⟩:OObj)];rw[s];rfl,trivial⟩ ?_⟩
   simp[wk,s]
  have K:i=c.length:=by omega
  subst K;rw[adJ];refine ar (k:=aW rfl (aH q (k:=?_)));refine aQ ⟨.inr rfl,dp 11 (bf rfl) ?_ rfl⟩;simp(disch:=omega) only[kd,results16];rw[ack (by simp)]
 rw[if_neg (fun h=>u (p.1 h))]at t;rw[if_neg u];generalize gh n f=B at*
 clear p u D h y;refine ax func16 rfl ntmps16 (aA (k:=ai (bj [⟨1,_,_,_,cR⟩] (k:=ao rfl (ak (ai (dU [⟨2,_,_,_,C⟩,⟨4,_,_,_,t⟩] @vcT.eq_1 (k:=ar (k:=az rfl (bi (k:=aE @results16)))))))))))
end
end
theorem Y5 {M:List (List Int)} {k:Int} (h:Rf M n f) (q:0<=k) (b:k<=1000000) (o:k<(toL f n (gh n f) (n-1) []:Int)):
  CallC prog 15 [cw M,.raw (.int .i64 k)] ⟨[],mnE 9⟩:=by
 have p:=my h;have g:=fg M;rw[h.red]at g;have c:=Rk n f h.n1 (by have:=h.n8;omega);rw[<- h.e]at c;have j:=Yz (aN n fun i=>f i i) (by rw[aD];exact h.n1) (by rw[aD];have:=h.n8;omega);rw[aD,show Ei (aN n fun i=>f i i) (n-1)=gh n f from rfl]at j;have l:=Av M (gh n f) k;rw[(Bk h (by omega) p.2 q b).2 o]at l;have m:=Zb M (gh n f) k 9 (by decide) l;generalize gh n f=B at*
 refine ax func15 rfl ntmps15 (aA (k:=ai (bj [⟨1,_,_,_,g⟩] (k:=ao rfl (ak (bj [⟨2,_,_,_,c⟩,⟨3,_,_,_,j⟩,⟨5,_,_,_,m⟩] (k:=ai (ar (k:=az rfl (bi (k:=aE @results15)))))))))))
theorem D4 (b c:Nat) (L B:List Int) (t:Nat) (P:I8 L) (w:b<=255) (j:c<=255) (Z:t<=65535):CallC prog 3 [tL b c L B,.raw (.int .u16 (t:Int))] ⟨[],.raw (.bool true)⟩:=by
 have J:=qG;obtain⟨n,H⟩: ∃n,n=1+b%4:=⟨_,rfl⟩;have m:1<=n:=by omega
 have x:n<=4:=by have:=acM b (show 0<4 by omega);omega
 obtain⟨h,I,cF⟩:=yx b c L B 4 n P w j (by omega) (by omega) H;rw[show((4:Nat):Int)=4 from rfl]at cF;have q:=q9 m (by omega) I;generalize mat n n h=M at*
 clear I;generalize ent M=f at*
 obtain⟨s,D⟩: ∃k,k=t%200:=⟨_,rfl⟩;have S:s<=200:=by omega
 have O:Int.tmod (t:Int) 200=(s:Int):=by rw[D];exact(aeY t 200).symm
 have E:=my q;have u:gh n f<=dk f 1:=by
  have:=Mv (f:=f) m 0 (by omega);have W:dk f 1=f 0 0:=by show bk f 0 0 0=f 0 0;exact cH f 0 0
  omega
 have t1:=Ih (q.vs (B:=gh n f) (by omega) E.2) m x u (by omega);have l1:=oE (f:=f) (n:=n) (B:=gh n f) (n-1) [];rw[show n-1+1=n by omega]at l1;have Q: ∀k:Int,0<=k->k<=20000-> ∃v T e,CallC prog 15 [cw M,.raw (.int .i64 k)] ⟨[],.tup [(false,[.p (.raw (.int .i64 v))]),(false,[.p T]),(false,[.p (.raw (.int .i64 e))])]⟩/\CallC prog 16 [cw M,.raw (.int .i64 k)] ⟨[],.tup [(false,[.p (.raw (.int .i64 v))]),(false,[.p T]),(false,[.p (.raw (.int .i64 e))])]⟩/\
   ((∃l:List (List Int),T= .sl (ls (fR fI) l))\/T= .raw (.slice none 0 0)):=fun k A X=>by
  have o:=aap q x k A (by omega) (by omega);by_cases r:(toL f n (gh n f) (n-1) []:Int)<=k
  ·rw[if_pos r]at o;have z:=xP (k:=k) q A (by omega) r (by omega);exact⟨_,_,_,z,o,.inl ⟨_,rfl⟩⟩
  rw[if_neg r]at o;exact⟨_,_,_,Y5 q A (by omega) (by omega),o,.inr rfl⟩
 clear q H t1 l1 u E;refine ax func3 rfl ntmps3 (jS @tL.eq_1 (k:=dU [⟨1,_,_,_,cF⟩] @tL.eq_1 (k:=ai (aH O (k:=?_)))));refine ay (G:=fY 2) (fun g=>⟨(j4 (jk::cw M::j4 (j4 (j4 (jk::eF [(s:Int),20000]::.raw (.int .i64 2)::rN g.i::j16 (j16 (jk::[]))))))),Hm []⟩) (fun g=>2-g.i) ⟨0,by omega⟩ ?_ ?_
 ·refine aj trivial ?_;simp[wk,ls,fI]
 rintro⟨i,Y⟩;simp only;by_cases E:i<2
 ·have N:IntKind.i64.wrap ((i:Int)+1)=((i+1:Nat):Int):=by rw[aL (by omega) (by omega)];omega
  have C:((i:Int)<2)=True:=eq_true (by omega);obtain⟨k,R,U,V⟩: ∃k:Int,[(s:Int),20000][i]?=some k/\0<=k/\k<=20000:=by
   rcases(show i=0\/i=1 by omega)with rfl|rfl
   ·exact⟨_,rfl,by omega,by omega⟩
   exact⟨_,rfl,by omega,by omega⟩
  have F:([(s:Int),20000]:List Int).length=2:=rfl;generalize[(s:Int),20000]=ks at*
  obtain⟨v,T,e,z,o,r⟩:=Q k U V;have y:CallC prog 17 (match T with| .raw _=>[.one (.p (.sl [])),.one (.p (.sl []))]|T=>[.one (.p T),.one (.p T)]) ⟨[],.raw (.bool true)⟩:=by
   rcases r with⟨l,rfl⟩|rfl
   ·have:=Ks l l;rwa[decide_eq_true rfl]at this
   exact Ks [] []
  refine aH C (k:=aV rfl (ai (am (aH R (k:=bj [⟨2,_,_,_,z⟩] (k:=bj [⟨2,_,_,_,o⟩] (k:=?_)))))));rcases r with⟨l,rfl⟩|rfl
  all_goals
   simp only at y
   (first|refine bC [⟨11,_,_,_,y⟩] [] fun _ K=>?_|refine ai (bC [⟨11,_,_,_,y⟩] [] fun _ K=>?_)|refine ai (ai (bC [⟨11,_,_,_,y⟩] [] fun _ K=>?_)));simp(disch:=omega) only[kd,aa];apply K
   first|refine ao rfl (ak ?_)|refine bs rfl (fun h=>by simp at h<;>omega) (fun _=>ak ?_)
   show bA _ _ _ _;refine gL N (k:=?_);refine⟨⟨i+1,by omega⟩,by simp only;omega,aj trivial ?_⟩;simp[wk]
 obtain rfl:i=2:=by omega
 refine ar (k:=aW rfl (bj [⟨0,_,_,_,J⟩] (k:=aE @results3)))
section
open Go.ChangeShapes Go.WideShapes Go.ChangeAt Go.RowKit
theorem rB (os:Os) (n:os.Started) (H:Type) (f:TypeId×Value->H):
  ReturnsInHanded {} checked os 3 .any (Rows.shortMinimumSpec.pre6 f prog Tryz.f3 Rows.shortMinimumRow.domain false) (Rows.shortMinimumSpec.post f prog Tryz.f3 false true false false):=by
 refine returnsInHanded_of_change_sized (C:=checked) Tryz.ownKnob_ n (by kernel_rfl) func3
  (ae8 (enc:=f) (C:=checked) false ⟨#[],#[.agg #[.int .u8 0,.int .u8 0,.slice none 0 0,.slice none 0 0],.int .u16 0],[]⟩ 8 (by kernel_rfl) (by kernel_rfl) (by kernel_rfl) (by kernel_rfl)) ?_
 intro W w args X gs F l hW aa r _;have g: ∀(j:Nat) t v,Tryz.f3.params[j]?=some t->args[j]?=some v->Value.okWide prog W .any w t v:=l;have M:(DataW.weightsEach prog (Tryz.f3.params.toList++Rows.shortMinimumSpec.plain.varTypes prog) (X++gs)).all (· <=reachBytes)=true:=r;have I:=hW;obtain⟨p,q,A,hV,rfl,ae,af⟩:=hW;have Z:DataW.TrodAll f prog W 0 (fun _=>true) true Tryz.f3.params.toList args.toList X p:=A;rw[params3]at Z g M;obtain⟨v0,an,d0,ab,p0,q0,J,rfl,rfl,Y,r0⟩:=trodAll_cons Z;obtain⟨v1,ap,d1,ac,p1,q1,rfl,rfl,rfl,h1,r1⟩:=trodAll_cons r0;obtain⟨rfl,rfl,rfl⟩:=trodAll_nil r1;obtain rfl:args= #[v0,v1]:=by cases args;simp_all
 obtain⟨rfl,rfl⟩:=trodVars_none hV;have k0:=Y;have N: ∀x∈p0,x.block<W.heap.size:=by obtain⟨m,hm⟩:=k0;exact afw m _ _ _ hm
 obtain⟨ah,al,D,E,av,a0,a2,a3,n0,rfl,rfl,rfl,O,P,Q,R⟩:=Go.Joins.open_agg4 underlying24 (by kernel_rfl) (by kernel_rfl) (g 0 24 v0 rfl rfl) Y;obtain⟨c,rfl,K⟩:=fp underlying5 O;obtain⟨b,rfl,L⟩:=fp underlying5 P;obtain⟨L0,T,G⟩:=fo underlying22 underlying157 (by kernel_rfl) Q;obtain⟨B0,S,ad⟩:=fo underlying22 underlying157 (by kernel_rfl) R;obtain⟨V,rfl,rfl,rfl,U⟩:=open_int underlying25 (g 1 25 v1 rfl rfl) h1;clear A l r;obtain⟨u,B⟩: ∃bn:Nat,V=(bn:Int):=⟨V.toNat,by have:=nW U;omega⟩;have ag:=nW U;subst B;refine((D4 c b L0 B0 u G K L (by omega)).law (vs:= #[.agg #[.int .u8 (c:Int),.int .u8 (b:Int),D,E],.int .u16 (u:Int)]) rfl (LI (vs:=[.agg #[.int .u8 (c:Int),.int .u8 (b:Int),D,E],.int .u16 (u:Int)]) rfl (fun j t v o s=>by
  match j,o,s with
  |0,o,s=>simp at o s;subst o;subst s;exact Hl T S
  |1,o,s=>simp at o s;subst o;subst s;exact bS.raw _ rfl
  |j+2,o,s=>simp at o))).mono fun e W' ⟨he,z⟩=>?_
 have y:Below W.heap.size W W':=z;subst he;exact⟨_,rfl,_,_,_,[],_,[],I,trodAll_mk1 (shut_bool underlying4 _),(trodAll_cons_mk (af9 Tryz.laidOut_ (by kernel_rfl) (of_decide_eq_true (by kernel_rfl)) k0 y N) (trodAll_cons_mk (shut_int underlying25 U) trodAll_mk0)),rfl,y.frame _,fun h=>by cases h⟩
theorem shortMinimum_holds:Rows.ShortMinimumSaid:=
 aeN 3 Tryz.f3 rfl rfl rfl rfl rfl rfl rfl ⟨rfl,rfl,rfl,rfl,rfl⟩ rfl rfl rfl rfl rfl (by kernel_rfl) func3 s8
  (of_decide_eq_true (by kernel_rfl)) (by unfold Func.isWrapper;first|(rw[if_pos (by decide+kernel)];kernel_rfl)|(rw[if_neg (by decide+kernel)];exact⟨rfl,rfl⟩))
  (fun e b H c _=>rB e b H c)
#print axioms shortMinimum_holds
end
end Go.Proofs.YtalmoejhjceflaaGreat
