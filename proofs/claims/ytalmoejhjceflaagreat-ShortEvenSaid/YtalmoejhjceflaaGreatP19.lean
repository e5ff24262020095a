/-
  Part 20 of a proof (walks and plain facts).
-/
import Derived.Test.YtalmoejhjceflaaGreatP18
set_option linter.all false
set_option maxRecDepth 100000
set_option maxHeartbeats 64000000
open Nat renaming reduceAdd → aa
open Nat renaming reduceEqDiff → ab
open List renaming replicate → ae
namespace Go.Proofs.YtalmoejhjceflaaGreat
open Go.RowKit Go.Proofs.Tryz
variable {n m:Nat} {b:List Int} {x:Int} {c:FF}
structure WU (M:List (List Int)) where
 i:Nat
 hi:i<=M.length
 ok: ∀r∈M.take i,r.length=(M.headD []).length
theorem NJ (M:List (List Int)):CallC prog 230 [dq M] ⟨[],Up M⟩:=by
 by_cases q:M.length<1
 ·rw[fG (fun h=>by have:=h.1;omega)];refine aB func230 rfl ntmps230 (aC (k:=ai (ar (k:=aD rfl (bH (k:=aF @results230))))))
 by_cases s:16<M.length
 ·rw[fG (fun h=>by have:=h.2.1;omega)];refine aB func230 rfl ntmps230 (aC (k:=ai (ar (k:=aD rfl (bH (k:=aF @results230))))))
 have f:=mS (M:=M) (by omega);have b:M.headD []∈M:=XH f;by_cases n:(M.headD []).length<1
 ·rw[fG (fun h=>by have:=(h.2.2 _ b).1;omega)];refine aB func230 rfl ntmps230 (aC (k:=ai (ar (k:=ao rfl (ak (aK f (k:=ai (ar (k:=aD rfl (bH (k:=aF @results230)))))))))))
 by_cases o:16<(M.headD []).length
 ·rw[fG (fun h=>by have:=(h.2.2 _ b).2.1;omega)];refine aB func230 rfl ntmps230 (aC (k:=ai (ar (k:=ao rfl (ak (aK f (k:=ai (ar (k:=aD rfl (bH (k:=aF @results230)))))))))))
 refine aB func230 rfl ntmps230 (aC (k:=ai (ar (k:=ao rfl (ak (aK f (k:=ai (ar (k:=ao rfl (ak (ai (bH (k:=?_)))))))))))));refine aG (G:=WU M) (fun g=>⟨(dq M::j4 (.raw (.int .i64 ((M.headD []).length:Int))::j16 (j4 (dq M::rN M.length::rN g.i::j4 (j4 (jk::jk::jk::[])))))),Hm []⟩) (fun g=>M.length-g.i) ⟨0,by omega,fun r e=>by simp at e⟩ ?_ ?_
 ·refine aj trivial ?_;simp[wk]
 rintro⟨i,t,ok⟩;simp only;by_cases l:i<M.length
 ·obtain⟨r,e⟩:=getElem?_of_lt l;have c:r∈M:=XH e;refine ar (k:=bA rfl (ai (am (aK e (k:=?_)))));by_cases p:r.length=(M.headD []).length
  ·refine ar (k:=ao rfl (ak (bK (k:=?_))));refine⟨⟨i+1,by omega,fun u m=>?_⟩,by simp only;omega,aj trivial ?_⟩
   ·grind [List.take_add_one]
   simp[wk]
  rw[fG (fun h=>by have:=(h.2.2 r c).2.2;omega)];refine ar (k:=aD rfl (bH (k:=aF @results230)))
 have j:Kx M:=⟨by omega,by omega,fun r e=>by
  grind⟩
 rw[iE j];refine ar (k:=bG rfl (bH (k:=aF @results230)))
theorem C6 (M:List (List Int)):CallC prog 239 [dZ M] ⟨[],Up M⟩:=by
 by_cases q:M.length<1
 ·rw[fG (fun h=>by have:=h.1;omega)];refine aB func239 rfl ntmps239 (aC (k:=ai (ar (k:=aD rfl (bH (k:=aF @results239))))))
 by_cases s:16<M.length
 ·rw[fG (fun h=>by have:=h.2.1;omega)];refine aB func239 rfl ntmps239 (aC (k:=ai (ar (k:=aD rfl (bH (k:=aF @results239))))))
 have f:=mS (M:=M) (by omega);have b:M.headD []∈M:=XH f;by_cases n:(M.headD []).length<1
 ·rw[fG (fun h=>by have:=(h.2.2 _ b).1;omega)];refine aB func239 rfl ntmps239 (aC (k:=ai (ar (k:=ao rfl (ak (aK f (k:=ai (ar (k:=aD rfl (bH (k:=aF @results239)))))))))))
 by_cases o:16<(M.headD []).length
 ·rw[fG (fun h=>by have:=(h.2.2 _ b).2.1;omega)];refine aB func239 rfl ntmps239 (aC (k:=ai (ar (k:=ao rfl (ak (aK f (k:=ai (ar (k:=aD rfl (bH (k:=aF @results239)))))))))))
 refine aB func239 rfl ntmps239 (aC (k:=ai (ar (k:=ao rfl (ak (aK f (k:=ai (ar (k:=ao rfl (ak (ai (bH (k:=?_)))))))))))));refine aG (G:=WU M) (fun g=>⟨(dZ M::j4 (.raw (.int .i64 ((M.headD []).length:Int))::j16 (j4 (dZ M::rN M.length::rN g.i::j4 (j4 (jk::jk::jk::[])))))),Hm []⟩) (fun g=>M.length-g.i) ⟨0,by omega,fun r e=>by simp at e⟩ ?_ ?_
 ·refine aj trivial ?_;simp[wk]
 rintro⟨i,t,ok⟩;simp only;by_cases l:i<M.length
 ·obtain⟨r,e⟩:=getElem?_of_lt l;have c:r∈M:=XH e;refine ar (k:=bA rfl (ai (am (aK e (k:=?_)))));by_cases p:r.length=(M.headD []).length
  ·refine ar (k:=ao rfl (ak (bK (k:=?_))));refine⟨⟨i+1,by omega,fun u m=>?_⟩,by simp only;omega,aj trivial ?_⟩
   ·grind [List.take_add_one]
   simp[wk]
  rw[fG (fun h=>by have:=(h.2.2 r c).2.2;omega)];refine ar (k:=aD rfl (bH (k:=aF @results239)))
 have j:Kx M:=⟨by omega,by omega,fun r e=>by
  grind⟩
 rw[iE j];refine ar (k:=bG rfl (bH (k:=aF @results239)))
theorem M7 (n:Nat) (f:FF) (b:1<=n) (e:n<=16):CallC prog 252 [dZ (mat n n f)] ⟨[],.tup [(false,[.p (.raw (.int .i64 (n:Int)))]),(false,[.p (.raw (.int .i64 (n:Int)))]),(false,[.p (.raw (.bool true))])]⟩:=by
 have c:=C6 (mat n n f);rw[iE (nO f b e b e),aS,iS f b]at c;refine aB func252 rfl ntmps252 (aC (k:=bQ [⟨1,_,_,_,c⟩] (k:=aF @results252)))
theorem JC (n:Nat) (f:FF) (b:1<=n) (e:n<=16):CallC prog 233 [dZ (mat n n f)] ⟨[],.tup [(false,[.p (.raw (.int .i64 (n:Int)))]),(false,[.p (.raw (.bool true))])]⟩:=by
 have c:=M7 n f b e;refine aB func233 rfl ntmps233 (aC (k:=bQ [⟨1,_,_,_,c⟩] (k:=ar (k:=aF @results233))))
theorem PI (a b c d e:Int) (s:Nat) (w:s<=67174400) (g:Sz a s) (h:Sz b s) (j:Sz c s) (m:Sz d s) (u:Sz e s) (f:e≠0):
  CallC prog 238 [tZ a,tZ b,tZ c,tZ d,tZ e] ⟨[],tZ ((a*d-b*c)/e)⟩:=by
 have n:=g.mul m;have o:=h.mul j;have v:=n.sub o;have p:=Ma a d (g.mono (by omega)) (m.mono (by omega));have q:=Ma b c (h.mono (by omega)) (j.mono (by omega));have r:=TR (a*d) (b*c) (n.mono (by omega)) (o.mono (by omega));have t:=I1 (a*d-b*c) e f (v.mono (by omega)) (u.mono (by omega));refine aB func238 rfl ntmps238 (aC (k:=?_));refine bs.weak (aj (tm:=(j4 (jk::.one (.ptr 5 0 0 0)::.one (.ptr 6 0 0 0)::.one (.ptr 7 0 0 0)::.one (.ptr 8 0 0 0)::.one (.ptr 9 0 0 0)::.one (.ptr 10 0 0 0)::j16 (jk::[])))) (l:=[(5,xP a),(6,xP b),(7,xP c),(8,xP d),(9,xP e),(10,zu)]) ⟨rfl,rfl,rfl,rfl,rfl,rfl,trivial⟩ (by simp[wk])) ?_;refine cQ [⟨2,_,_,_,p⟩,⟨5,_,_,_,q⟩,⟨6,_,_,_,r⟩,⟨8,_,_,_,t⟩] (k:=ar (k:=aF @results238))
abbrev kB (M:List (List Int)):List PV:=[.sl (ls (fR fZ) M)]
theorem Uy {i:Nat} (h:i<n) (l:m<n) (q:n<=16) (g:Bg (c i m)):
  CallC prog 235 [.raw (.int .i64 (i:Int)),.raw (.int .i64 (m:Int)),.one (.p (.ptr (kB (mat n n c))))] ⟨[],tZ (c i m)⟩:=by
 have o:=bu n c h;have b:=az (c i) l;have e:=zK (c i m) g;refine aB func235 rfl ntmps235 (aC (k:=ce [⟨7,_,_,_,e⟩] (aE o b) (k:=aF @results235)))
theorem Uz (b:Nat) {last:Int} {i:Nat} (t:i+1<n) (f:m+1<n) (C:n<=16) (s:Nat) (z:s<=67174400) (e: ∀i m,i<n->m<n->Sz (c i m) s) (y:Sz last s) (u:last≠0):
  gn prog b 65 237 [.raw (.int .i64 (i:Int)),.raw (.int .i64 (m:Int)),.one (.p (.ptr (kB (mat n n c)))),.raw (.pointer (some ⟨b,0,none⟩))] (fZ last)
   ⟨[],tZ ((c 0 0*c (i+1) (m+1)-c (i+1) 0*c 0 (m+1))/last)⟩ (fZ last):=by
 have A:=bu n c (show 0<n by omega);have B:=bu n c t;have h:=az (c 0) (show 0<n by omega);have o:=az (c 0) f;have q:=az (c (i+1)) (show 0<n by omega);have r:=az (c (i+1)) f;have v:((i:Int)+1).toNat=i+1:=by omega
 have w:((m:Int)+1).toNat=m+1:=by omega
 have x:=PI (c 0 0) (c (i+1) 0) (c 0 (m+1)) (c (i+1) (m+1)) last s z (e _ _ (by omega) (by omega)) (e _ _ t (by omega)) (e _ _ (by omega) f) (e _ _ t f) y u;refine jJ func237 rfl (by kernel_rfl) ?_;rw[ntmps237];refine Bx 3 900 rfl rfl ?_;refine fz.weak (aj (tm:=(.raw (.int .i64 (i:Int))::rN m::.one (.p (.ptr (kB (mat n n c))))::.one (.ptr 900 0 0 0)::j16 (j16 (jk::[])))) (l:=[(900,xP last)]) ⟨rfl,trivial⟩ (by simp[wk,Ec,uH,ae])) ?_;refine jG (k:=Pl [⟨29,_,_,_,x⟩] (aE A (aE h (aE v (aE B (aE q (aE w (aE o r))))))) (k:=?_));refine pp ⟨fZ last,rfl,rfl,.inr rfl,rfl,b9 rfl ?_ rfl⟩;simp(disch:=omega) only[kd,results237,rB,jb,ab,aa,tZ]
def elF (f:FF) (k:Nat):Nat->Nat->Int:=fun i j=>bk f k (k+i) (k+j)
abbrev IU (n:Nat) (f:FF) (k:Nat):List (List Int):=mat (n-k) (n-k) (elF f k)
def sT (n:Nat) (f:FF) (k:Nat):List (List (List Int)):=(List.range k).map (IU n f)
theorem NR (n:Nat) (f:FF) (k:Nat):sT n f k++[IU n f k]=sT n f (k+1):=by simp[sT,YU]
theorem qA (n:Nat) (f:FF) (k:Nat):(sT n f k).length=k:=by simp[sT]
theorem LP (n:Nat) (f:FF):mat n n f=IU n f 0:=gA fun i j _ _=>by
 show f i j=bk f 0 (0+i) (0+j);grind [cK]
theorem B6 {f:FF} {k:Nat} (c: ∀t,t<k->dk f (t+1)≠0) (i j:Nat):
  (elF f k 0 0*elF f k (i+1) (j+1)-elF f k (i+1) 0*elF f k 0 (j+1))/dk f k=elF f (k+1) i j:=by
 have b:dk f k≠0:=by
  cases k with
  |zero=>rw[co];decide
  |succ k=>grind
 grind [sylv,elF,b7,Int.mul_ediv_cancel_left]
theorem kV (f:FF) (k:Nat):elF f k 0 0=dk f (k+1):=by
 rfl
def fM (M:List (List Int)):List PV:=[.sl (ls (fR fZ) M)]
theorem Mq (l:List (List (List Int))) (M:List (List Int)):lc fM l++[[.p (.sl (ls (fR fZ) M))]]=lc fM (l++[M]):=by simp[lc,fM]
def NzP (n:Nat) (f:FF):Prop:= ∀t,t+1<n->dk f (t+1)≠0
open Classical in
noncomputable def UA (n:Nat) (f:FF):TV:=if NzP n f then .tup [(false,[.p (.sl (ls fM (sT n f n)))]),(false,[.p (.raw (.bool true))])]else .tup [(false,[.p (.raw (.slice none 0 0))]),(false,[.p (.raw (.bool false))])]
theorem wO (h:NzP n c):UA n c= .tup [(false,[.p (.sl (ls fM (sT n c n)))]),(false,[.p (.raw (.bool true))])]:=if_pos h
theorem Ri (h: ¬NzP n c):UA n c= .tup [(false,[.p (.raw (.slice none 0 0))]),(false,[.p (.raw (.bool false))])]:=if_neg h
structure Xn (n:Nat) (f:FF) where
 k:Nat
 s:Nat
 hk:k<n
 nz: ∀t,t<k->dk f (t+1)≠0
 hs:s+1<=1025*2^k
 sz: ∀i j,i<n-k->j<n-k->Sz (elF f k i j) s
 sl:Sz (dk f k) s
theorem Bf (n:Nat) (f:FF) (m:1<=n) (r:n<=16) (Q: ∀i j,i<n->j<n->Sz (f i j) 1024):CallC prog 202 [dZ (mat n n f)] ⟨[],UA n f⟩:=by
 have O:=JC n f m r;have M:=vn 1 (by omega) (by omega);have P:=Rn 235 (kB (mat n n f)) n n f m r m r (fun i j o q=>Uy o q r ((Q i j o q).mono (by omega)));refine aB func202 rfl ntmps202 (aC (k:=Ik (bQ [⟨1,_,_,_,O⟩] (k:=ai (bH (k:=ao rfl (ak ?_)))))));refine bs.weak ((po 1 1 (cs:=kB (mat n n f)) rfl rfl).trans (aj (tm:=(jk::.one (.p (.ptr (kB (mat n n f))))::.raw (.slice none 0 0)::.raw (.bool false)::rN n::j16 (j16 (j16 (j4 (j4 (jk::[]))))))) (l:=[]) trivial (by simp[wk,fb,dD]))) ?_;refine iH [⟨3,_,_,_,P⟩] @iK.eq_1 (k:=bL [⟨0,_,_,_,M⟩] (k:=bH (k:=ai (Ii (ai (bH (k:=?_)))))));refine aG (G:=Xn n f) (fun g=>⟨(jk::jk::.raw (.slice none 0 0)::.raw (.bool false)::rN n::jk::dZ (IU n f g.k)::.one (.ptr 7 0 0 0)::.one (.sl 30 0 0 g.k)::j4 (j4 (j4 (jk::jk::rN n::rN g.k::j16 (j16 (j4 (jk::[]))))))),Hm [(7,xP (dk f g.k)),(30,[⟨42,1,lc fM (sT n f g.k)⟩])]⟩) (fun g=>n-g.k) ⟨0,1024,by omega,fun t I=>by omega,by omega,fun i j o q=>?_,?_⟩ ?_ ?_
 ·show Sz (bk f 0 (0+i) (0+j)) 1024;grind [cK]
 ·grind [co,pe]
 ·refine(d6 (k:=8) (d:=30) 42 1 (by omega) rfl rfl).trans (aj ⟨?_,rfl,trivial⟩ ?_)
  ·rfl
  simp[wk];grind [LP]
 rintro⟨k,s,U,D,V,sz,T⟩;simp only;have N:=nW (k:=k) (by omega);have B:s<=67174400:=by omega
 have F:=bu (n-k) (elF f k) (show 0<n-k by omega);have v:=az (elF f k 0) (show 0<n-k by omega);have c:=PU (elF f k 0 0) ((sz 0 0 (by omega) (by omega)).mono (by omega));have C:=NR n f k;have y:=qA n f k;refine ar (k:=bA rfl (ai (am (bH (k:=aK (aE y (aE @Mq C)) (k:=ai (am ?_)))))));by_cases R:k=n-1
 ·have A:NzP n f:=fun t I=>D t (by omega)
  rw[wO A];refine ar (k:=aD rfl (be ?_));show bs _ _ _ _;have x:k+1=n:=by omega
  rw[x];have H:=qA n f n;refine bH (k:=?_);refine aZ ⟨.inr rfl,jd 30 (bS rfl) ?_ rfl⟩;have J:List.take n (sT n f n)=sT n f n:=X3 (by omega);simp(disch:=omega) only[kd,results202,ab,J]
 refine ar (k:=ao rfl ?_);by_cases u:dk f (k+1)=0
 ·have z: ¬NzP n f:=fun h=>h k (by omega) u
  rw[Ri z];rw[kV,u]at c;refine ce [⟨5,_,_,_,c⟩] (aE @AB (aE F (aE v (aE @kV u)))) (k:=aD rfl (bH (k:=aF @results202)))
 have S:=NE u;rw[kV]at c v;refine ce [⟨5,_,_,_,c⟩] (aE F v) (k:=ao rfl (ak (ar (k:=?_))));refine bs.weak ((po 10 10 (cs:=kB (IU n f k)) rfl rfl).trans (aj (tm:=(jk::jk::.raw (.slice none 0 0)::.raw (.bool false)::rN n::jk::jk::.one (.ptr 7 0 0 0)::.one (.sl 30 0 0 (k+1))::rN k::.one (.p (.ptr (kB (IU n f k))))::j4 (j4 (j4 (.raw (.int .i64 (n:Int))::rN k::j16 (j16 (j4 (jk::[])))))))) (l:=[(7,xP (dk f k)),(30,[⟨42,1,lc fM (sT n f (k+1))⟩])]) ⟨rfl,rfl,trivial⟩ (by simp[wk,fb,dD]))) ?_;refine ai (uq 7 (cs:=fZ (dk f k)) rfl fun b=>?_);refine dG.weak (aj (tm:=(jk::jk::.raw (.slice none 0 0)::.raw (.bool false)::rN n::jk::jk::cH b::.one (.sl 30 0 0 (k+1))::rN k::.one (.p (.ptr (kB (IU n f k))))::j4 (j4 (j4 (.raw (.int .i64 (n:Int))::rN k::j16 (j16 (j4 (jk::[])))))))) (l:=[(30,[⟨42,1,lc fM (sT n f (k+1))⟩])]) ⟨rfl,trivial⟩ (by simp[wk,rB,jb])) ?_;have w:dk f k≠0:=by
  cases k with
  |zero=>rw[co];decide
  |succ k=>grind
 have e:=Ro 237 (kB (IU n f k)) b 65 (fZ (dk f k)) (n-(k+1)) (n-(k+1)) (fun i j=>(elF f k 0 0*elF f k (i+1) (j+1)-elF f k (i+1) 0*elF f k 0 (j+1))/dk f k) (by omega) (by omega) (by omega) (by omega)
  (fun i j o q=>Uz b (by omega) (by omega) (by omega) s B sz T w)
 rw[gA fun i j _ _=>B6 (f:=f) (k:=k) D i j]at e;have L:((n-(k+1):Nat):Int)=(n:Int)-(k:Int)-1:=by omega
 rw[L]at e;refine gu 9 e [] [] (by kernel_rfl) (by rfl) (by rfl) fun _ K=>?_;simp(disch:=omega) only[kd,dZ,aa,cH,aP,iK];apply K
 refine⟨rfl,?_⟩;show bs _ _ _ _;refine bs.weak (aj (tm:=(jk::jk::.raw (.slice none 0 0)::.raw (.bool false)::rN n::jk::dZ (IU n f (k+1))::.one (.ptr 7 0 0 0)::.one (.sl 30 0 0 (k+1))::jk::.one (.p (.ptr (kB (IU n f k))))::j4 (j4 (j4 (.raw (.int .i64 (n:Int))::rN k::j16 (j16 (j4 (jk::[])))))))) (l:=[(7,xP (dk f k)),(30,[⟨42,1,lc fM (sT n f (k+1))⟩])]) ⟨rfl,rfl,trivial⟩ (by simp[wk,Ec,uH])) ?_;refine dU (aE F v) (k:=bK (k:=?_));have E: ∀t,t<k+1->dk f (t+1)≠0:=fun t I=>by
  grind
 refine⟨⟨k+1,2*s+1,by omega,E,by omega,fun i j o q=>?_,?_⟩,by simp only;omega,aj ⟨rfl,rfl,trivial⟩ ?_⟩
 ·rw[<- B6 D];exact((((sz 0 0 (by omega) (by omega)).mul (sz (i+1) (j+1) (by omega) (by omega))).sub ((sz (i+1) 0 (by omega) (by omega)).mul (sz 0 (j+1) (by omega) (by omega)))).ediv _).mono (by omega)
 ·rw[<- kV];exact(sz 0 0 (by omega) (by omega)).mono (by omega)
 simp[wk]
abbrev oG (M:List (List Int)):AV:= .p (.ptr [.sl (ls (fR fI) M)])
theorem VG {n c:Nat} {f:FF} {i:Nat} (h:i<n) (l:m<c) (q:c<=16) (r:n<=16) (e: -9223372036854775808<=f i m/\f i m<=9223372036854775807):
  CallC prog 232 [.raw (.int .i64 (i:Int)),.raw (.int .i64 (m:Int)),.one (oG (mat n c f))] ⟨[],tZ (f i m)⟩:=by
 have o:=aS n c f;have p:=bu c f h;have b:=az (f i) l;have g:=vn (f i m) e.1 e.2;refine aB func232 rfl ntmps232 (uz @oG.eq_1 (k:=ce [⟨7,_,_,_,g⟩] (aE p b) (k:=aF @results232)))
def Ky (d n c i:Nat) (g:FF):List OObj:=⟨85,1,jU d (ae i c)++ae (n-i) [.p (.sl [])]⟩::(mat i c g).map np
theorem IA (d n c:Nat) (g:FF):([⟨85,1,ae n [.raw (.slice none 0 0)]⟩]:List OObj).map zO=Ky d n c 0 g:=by
 simp[Ky,mat,zO,jU,DH,F5]
theorem Lo (d n c:Nat) (g:FF):Ky d n c n g=i5 d n c g:=by
 simp[Ky]
theorem Lp {d i:Nat} (g:FF) (j:i<n) (l: ∀b,b<m->g i b=0):
  ((⟨85,1,(jU d (ae i m)++ae (n-i) [AV.p (PV.sl [])]).set i [.sl d (i+1) 0 m]⟩::(mat i m g).map np++[⟨65,2,ae m [.raw (.bool false),.raw (.slice none 0 0)]⟩]:List OObj)).map zO=Ky d n m (i+1) g:=by
 have e:(jU d (ae i m)++ae (n-i) [AV.p (PV.sl [])]).set i [.sl d (i+1) 0 m]=jU d (ae (i+1) m)++ae (n-(i+1)) [AV.p (PV.sl [])]:=by
  rw[Zm _ _ (by simp[cO]),cO,Yq,Zj,Z2 (n:=i),qy,Yq,Ye]
  congr 1
  rw[show n-i=n-(i+1)+1 by omega,Z5];rfl
 have f:aN m (g i)=ae m 0:=by
  apply X7;grind [az,aH]
 have h:mat (i+1) m g=mat i m g++[aN m (g i)]:=by simp[mat,YU]
 rw[e];simp only[Z6,X9,YN,Ky,h,Y0]
 congr 1
 ·simp[zO,SB,DH,F5]
 congr 1
 ·grind [List.map_congr_left,zO,np,VW]
 simp[f,zO,np,lc,fZ,DH,F5,cf,ls]
theorem Pq {d n c i k:Nat} (h:k<i):(jU d (ae i c)++ae (n-i) [AV.p (PV.sl [])])[k]?=some [.sl d (k+1) 0 c]:=by
 grind [cO,cd]
theorem Pr {d n c i:Nat} (h:i<=n):(jU d (ae i c)++ae (n-i) [AV.p (PV.sl [])]).length=n:=by grind [cO]
theorem Ps (n c:Nat) (f:FF) (y:1<=n) (x:n<=16) (u:1<=c) (t:c<=16) (v: ∀i j,i<n->j<c-> -9223372036854775808<=f i j/\f i j<=9223372036854775807):
  CallC prog 231 [.raw (.int .i64 (n:Int)),.raw (.int .i64 (c:Int)),.fn 232 [oG (mat n c f)]] ⟨i5 0 n c f,.one (.sl 0 0 0 n)⟩:=by
 refine aB func231 rfl ntmps231 (uz @oG.eq_1 (k:=ar (k:=ai (bH (k:=?_)))));refine aG (G:=jW n) (fun g=>⟨(jk::rN c::.fn 232 [oG (mat n c f)]::j4 (.one (.sl 11 0 0 n)::j4 (jk::rN n::rN g.i::j16 (j4 (j4 (j4 ([]))))))),Hm [(11,Ky 11 n c g.i (part f g.i 0))]⟩) (fun g=>n-g.i) ⟨0,by omega⟩ ?_ ?_
 ·refine(gN 11).trans (aj ⟨IA 11 n c _,trivial⟩ ?_);simp[wk]
 rintro⟨i,B⟩;simp only;by_cases h:i<n
 ·have w:=Ic (d:=11) (c:=c) h;refine aK @oG.eq_1 (k:=bA rfl (ai (am (bH (k:=?_)))));simp only[Ky];refine aK (aE w (aE @Yq (aE @ZR @aS))) (k:=?_);refine bs.weak ((gN 11).trans (aj (tm:=(jk::rN c::.fn 232 [oG (mat n c f)]::j4 (.one (.sl 11 0 0 n)::rN i::j4 (.raw (.int .i64 (n:Int))::rN i::j16 (j4 (j4 (j4 ([])))))))) (l:=[(11,Ky 11 n c (i+1) (part f i 0))]) ⟨Lp (part f i 0) h (fun b _=>by simp[part]),trivial⟩ (by simp[wk]))) ?_;have p:=Pq (d:=11) (n:=n) (c:=c) (show i<i+1 by omega);have z:=Pr (d:=11) (n:=n) (c:=c) (show i+1<=n by omega);have A:=fT (n:=i+1) c (part f i 0) (show i<i+1 by omega);simp only[Ky];refine aK (aE @oG.eq_1 p) (k:=?_);refine aG (G:=jW c) (fun g=>⟨(jk::rN c::.fn 232 [oG (mat n c f)]::j4 (.one (.sl 11 0 0 n)::rN i::j4 (.raw (.int .i64 (n:Int))::rN i::j4 (j4 (jk::jk::jk::rN c::rN g.i::j4 (j4 (j4 (jk::jk::jk::[])))))))),Hm [(11,Ky 11 n c (i+1) (part f i g.i))]⟩) (fun g=>c-g.i) ⟨0,by omega⟩ ?_ ?_
  ·refine aj ⟨rfl,trivial⟩ ?_;simp[wk]
  rintro⟨j,C⟩;simp only;by_cases e:j<c
  ·have s:=VG (n:=n) (c:=c) (f:=f) h e t x (v i j h e);have q:=fT (n:=i+1) c (part f i j) (show i<i+1 by omega);have r:=az (part f i j i) e;refine aK @oG.eq_1 (k:=bA rfl (ai (am (bH (k:=?_)))));simp only[Ky];refine gP [⟨8,_,_,_,s⟩] (aE @oG.eq_1 (aE p (aE q (aE r @l9)))) (k:=bK (k:=?_));refine⟨⟨j+1,by omega⟩,by grind,aj ⟨?_,trivial⟩ ?_⟩
   ·show _::_=_::_;simp_all[cj,iw]
   simp[wk]
  have o:j=c:=by omega
  subst o;refine aK @oG.eq_1 (k:=bG rfl (bK (k:=?_)));refine⟨⟨i+1,by omega⟩,by grind,aj ⟨?_,trivial⟩ ?_⟩
  ·show _::_=_::_;grind [cj,jQ]
  simp[wk]
 have m:i=n:=by omega
 subst m;rw[Lo];refine aK @oG.eq_1 (k:=bG rfl (bH (k:=?_)));refine aZ ⟨.inr rfl,_,bv.refl _,?_⟩;refine⟨.one (.sl 11 0 0 i),11,?_,rfl,?_,rfl⟩
 ·simp(disch:=omega) only[kd,results231]
 show i5 0 i c f=(i5 11 i c (part f i 0)).map (renO 0);rw[fS 11 0];grind [cj,jP]
theorem sJ (n c:Nat) (f:FF) (h:1<=n) (t:n<=16) (b:1<=c) (q:c<=16) (s: ∀i j,i<n->j<c-> -9223372036854775808<=f i j/\f i j<=9223372036854775807):
  CallC prog 201 [dq (mat n c f)] ⟨[],TM (mat n c f)⟩:=by
 have g:=aS n c f;have v:=mS (M:=mat n c f) (by omega);have w:=bu (n:=n) c f (i:=0) (by omega);have e:(mat n c f).headD []=aN c (f 0):=by grind
 have m:Kx (mat n c f):=⟨by omega,by omega,fun r u=>by
  obtain⟨i,_,rfl⟩:=XR.1 u;grind [aH]⟩
 have o:=NJ (mat n c f);rw[iE m,g,e,aH]at o;have p:=Ps n c f h t b q s;unfold TM;refine aB func201 rfl ntmps201 (aC (k:=bQ [⟨1,_,_,_,o⟩] (k:=ai (bH (k:=ao rfl (ak ?_))))));refine bs.weak ((po 1 1 (cs:=[.sl (ls (fR fI) (mat n c f))]) rfl rfl).trans (aj (tm:=(jk::.one (oG (mat n c f))::jk::jk::rN n::rN c::j4 (j4 (j4 (jk::[]))))) (l:=[]) trivial (by simp[wk,fb,dD,aw,Hm]))) ?_;refine iH [⟨3,_,_,_,p⟩] (aE @oG.eq_1 @iK.eq_1) (k:=?_);refine bs.weak (aj (tm:=(jk::jk::.one (.sl 18 0 0 n)::.raw (.bool true)::j4 (j4 (j4 (jk::jk::jk::[]))))) (l:=[(18,i5 18 n c f)]) ⟨fS 0 18 n c f,trivial⟩ (by simp[wk])) ?_;refine bs.weak ((bF 18 (ke rfl)).trans (aj (tm:=(jk::jk::dZ (mat n c f)::.raw (.bool true)::j4 (j4 (j4 (jk::jk::jk::[]))))) (l:=[]) trivial (by simp[wk];exact⟨(Sf (H:=Hm [(18,i5 18 n c f)]) (d:=18) (n:=n) (c:=c) (f:=f) rfl).symm,rfl⟩))) ?_
 (refine aZ ⟨.inr rfl,b9 rfl ?_ rfl⟩;simp(disch:=omega) only[kd,results201,dZ])
theorem VK (h:I64 x):jq x= .tup [(false,[.p (.raw (.int .i64 x))]),(false,[.p (.raw (.bool true))])]:=if_pos h
theorem I64.bg (h:I64 x):Bg x:=(h.sz (XY 2)).mono (by omega)
theorem PS {H:OH} {a:Nat} {f g:OObj} (h:H a=[f,g]) (n: ∀e∈f.elems,∀x∈e,isPure x=true\/ ∃c len,x= .sl a 1 c len) (j:dB g):s9 H a:=fun r o b e l x m=>by
 rw[h]at b
 match r with
 |0=>
  grind
 |1=>
  injection b with b
  subst b;exact .inl (j e l x m)
 |r+2=>simp at b
theorem CZ (z:Int) (h:I64 z):CallC prog 188 [tZ z] ⟨[],.raw (.int .i64 z)⟩:=by
 have b:=Cl z h.bg;rw[VK h]at b;refine aB func188 rfl ntmps188 (aC (k:=bQ [⟨1,_,_,_,b⟩] (k:=bH (k:=aF @results188))))
theorem QZ (n:Nat) (f:FF) (b:1<=n) (l:n<=16) (m:NzP n f) (t: ∀i j,i<n->j<n->I64 (f i j)):
  CallC prog 187 [dq (mat n n f)] ⟨[],.agg [.p (.sl (ls fM (sT n f n))),.p (.sl (ls fZ (aN (n+1) (dk f))))]⟩:=by
 have y:=sJ n n f b l b l t;have r:=Bf n f b l fun i j u z=>(t i j u z).sz (by omega)
 rw[wO m]at r;have w:=vn 1 (by omega) (by omega);have h:=qA n f n;have o: ∀k,k<n->(sT n f n)[k]?=some (IU n f k):=fun k A=>by simp[sT,A]
 have C:[[AV.p (.raw (.bool (decide ((1:Int)<0)))),.p (.sl (ls fU (aq (Int.natAbs 1))))]]=lc fZ (aN 1 (dk f)):=by
  rfl
 refine aB func187 rfl ntmps187 (aC (k:=iH [⟨1,_,_,_,y⟩] @TM.eq_1 (k:=bQ [⟨1,_,_,_,r⟩] (k:=?_))));refine ij 5 [⟨1,_,_,_,w⟩] [22] (by simp[wk]) (by decide) fun _ K=>?_;simp(disch:=omega) only[kd,tZ,aa,Nat.reduceMul,Nat.reduceLeDiff,ab];apply K
 refine⟨_,(kN 7 22 900 rfl rfl rfl (by simp[dB,isPure]) (by simp[dB,isPure]) (by omega) (by omega) (by omega)),by simp[wk],?_⟩;simp only[X9,Yu,P2,aaO,mb,fi,oE];intro _ K;simp(disch:=omega) only[kd,tZ,ab,aa];apply K;refine ai (f5 h (k:=?_));refine aG (G:=jW n) (fun q=>⟨(jk::jk::.one (.ptr 2 0 0 0)::j4 (.one (.ptr 900 0 0 0)::j16 (.one (.p (.sl (ls fM (sT n f n))))::rN n::rN q.i::j4 (j4 (j4 (jk::jk::jk::[])))))),Hm [(2,[⟨224,2,[[.p (.raw (.slice none 0 0)),.p (.raw (.slice none 0 0))]]⟩]),(900,[⟨224,2,[[.p (.sl (ls fM (sT n f n))),.sl 900 1 0 (q.i+1)]]⟩,⟨65,2,lc fZ (aN (q.i+1) (dk f))⟩])]⟩) (fun q=>n-q.i) ⟨0,by omega⟩ ?_ ?_
 ·refine aj ⟨rfl,?_,trivial⟩ ?_
  ·rfl
  simp[wk]
 rintro⟨i,u⟩;simp only;by_cases B:i<n
 ·have D:=o i B;have E:=bu (n-i) (elF f i) (show 0<n-i by omega);have F:=az (elF f i 0) (show 0<n-i by omega);have c:=aH (i+1) (dk f);refine ar (k:=bA rfl (ai (am (aK (aE D @fM.eq_1) (k:=uy (aE E (aE F (aE @kV (aE c @pT)))) (k:=bK (k:=?_)))))));refine⟨⟨i+1,by omega⟩,by grind,aj ⟨rfl,?_,trivial⟩ ?_⟩
  ·rw[jA (i+1)];rfl
  simp[wk]
 have g:i=n:=by omega
 subst g;have c:=aH (i+1) (dk f);refine ar (k:=bG rfl ?_);show bs _ _ _ _;refine ij 1 [] [] (by simp[wk]) (by decide) fun _ K=>?_;simp only[kd,ab,aa];apply K
 refine⟨_,bF 900 (PS rfl (fun e s x v=>?_) (bi _ _ _)),by simp[wk],?_⟩
 ·simp only[XT]at s;subst s;simp only[Yo,Y3,or_false]at v;rcases v with rfl|rfl
  ·exact .inl rfl
  simp
 simp only[X9,Yu,fb,dD];intro _ K;simp(disch:=omega) only[kd,ab,aa];apply K
 (refine aZ ⟨.inr rfl,b9 rfl ?_ rfl⟩;simp(disch:=omega) only[kd,results187,ab,aa])
 grind
def mz (n:Nat) (f:FF) (k:Nat):List Int:=aN (n-k-1) fun b=>bk f k k (k+(b+1))
def eF (n:Nat) (f:FF) (j:Nat):List (List Int):=(List.range j).map (mz n f)
theorem x9 (n:Nat) (f:FF) (j:Nat):eF n f j++[mz n f j]=eF n f (j+1):=by simp[eF,YU]
theorem kX (n:Nat) (f:FF) (j:Nat):(eF n f j).length=j:=by simp[eF]
theorem Mn {k:Nat} (f:FF) (h:k<m):(eF n f m)[k]?=some (mz n f k):=by simp[eF,h]
abbrev UY (a:Nat) (B:Int) (n i j:Nat) (c b:List Int) (L:List (List Int)):List OObj:=[⟨222,4,[[.p (.raw (.int .i64 B)),.sl a 2 0 i,.sl a 3 0 j,.sl a 1 0 n]]⟩,⟨2,1,lc fI c⟩,⟨2,1,lc fI b⟩,⟨35,1,lc (fR fI) L⟩]
theorem RP (a d:Nat) (B:Int) (n i j:Nat) (c b:List Int) (L:List (List Int)):(UY a B n i j c b L).map (renO d)=UY d B n i j c b L:=by
 simp_all[renO,b6,jL]
structure U1 (n:Nat) (f:FF):Prop where
 n1:1<=n
 n16:n<=16
 nz:NzP n f
 i: ∀i j,i<n->j<n->I64 (f i j)
 d: ∀k,k<=n->I64 (dk f k)
 b: ∀k j,k<n->j<n->I64 (bk f k k j)
theorem U7 (n:Nat):ae n [AV.p (.raw (.int .i64 0))]=lc fI (ae n 0):=by simp[lc,fI]
theorem Jo (h:U1 n c) (B:Int):
  CallC prog 130 [dq (mat n n c),.raw (.int .i64 B)] ⟨UY 0 B n (n+1) n (ae n 0) (aN (n+1) (dk c)) (eF n c n),.one (.ptr 0 0 0 0)⟩:=by
 have N:=QZ n c h.n1 h.n16 h.nz h.i;have Q:=h.n1;have X:=h.n16;have H:=aS n n c;have D:=qA n c n;have v:=aH (n+1) (dk c);refine aB func130 rfl ntmps130 (aC (k:=?_));refine ai (Ij 5 19 17 3 (e:=222) (cs:=[.p (.raw (.int .i64 B)),.p (.raw (.slice none 0 0)),.p (.raw (.slice none 0 0)),.sl 17 0 0 n]) (ob:=⟨2,1,lc fI (ae n 0)⟩) (len:=n) [] [] ?_ (fun e O x S=>bi _ _ _ e O x S) (by omega) (by decide) fun K o=>?_)
 rotate_left 1
 ·simp(disch:=omega) only[kd,aa,H,Nat.reduceLeDiff];refine o _ ⟨⟨⟨_,_,rfl,rfl,rfl,rfl,rfl⟩,rfl,congrArg (fun l=>[OObj.mk _ 1 l]) (U7 n),rfl⟩,?_⟩;clear o K;intro K o;simp only[kd,aa,Tj];apply o;clear o K;refine bs.weak ((kO 19 0 0 1 2 1 (by omega) rfl rfl rfl).trans (kO 19 0 0 2 35 1 (by omega) rfl rfl rfl)) ?_;refine bL [⟨1,_,_,_,N⟩] (k:=ai (ar (k:=?_)));refine aG (G:=jW (n+1)) (fun q=>⟨(j4 (jk::.one (.ptr 19 0 0 0)::.one (.ptr 6 0 0 0)::j16 (.one (.p (.sl (ls fZ (aN (n+1) (dk c)))))::.raw (.int .i64 ((n+1:Nat):Int))::rN q.i::j16 (j16 (j16 (jk::[])))))),Hm [(6,[⟨224,2,[[.p (.sl (ls fM (sT n c n))),.p (.sl (ls fZ (aN (n+1) (dk c))))]]⟩]),(19,UY 19 B n q.i 0 (ae n 0) (aN q.i (dk c)) [])]⟩) (fun q=>n+1-q.i) ⟨0,by omega⟩ ?_ ?_
  ·refine aj ⟨rfl,rfl,trivial⟩ ?_;simp[wk,v]
  rintro⟨i,V⟩;simp only;by_cases r:i<n+1
  ·have t:=CZ (dk c i) (h.d i (by omega));have w:=az (dk c) r;have m:=aH i (dk c);refine ar (k:=bA rfl (ai (am (aK w (k:=gP [⟨6,_,_,_,t⟩] (aE m @vu) (k:=bK (k:=?_)))))));refine⟨⟨i+1,by omega⟩,by grind,aj ⟨rfl,?_,trivial⟩ ?_⟩
   ·rw[jA i];rfl
   simp[wk]
  have z:i=n+1:=by omega
  subst z;refine ar (k:=bG rfl (ai (f5 D (k:=?_))));refine aG (G:=jW n) (fun q=>⟨(j4 (jk::.one (.ptr 19 0 0 0)::j16 (j16 (j4 (.one (.p (.sl (ls fM (sT n c n))))::rN n::rN q.i::j16 (j4 (j4 (j4 (jk::jk::[]))))))))),Hm [(19,UY 19 B n (n+1) q.i (ae n 0) (aN (n+1) (dk c)) (eF n c q.i))]⟩) (fun q=>n-q.i) ⟨0,by omega⟩ ?_ ?_
  ·refine aj ⟨rfl,trivial⟩ ?_;simp[wk]
  rintro⟨k,W⟩;simp only;by_cases r:k<n
  ·have I:(sT n c n)[k]?=some (IU n c k):=by simp[sT,r]
   have T:=bu (n-k) (elF c k) (show 0<n-k by omega);have U:=aH (n-k) (elF c k 0);have M:=aS (n-k) (n-k) (elF c k);have J:List.drop 1 (List.take (n-k) (aN (n-k) (elF c k 0)))=mz n c k:=by
    rw[X3 (by omega)];show _=aN _ _;apply X7;intro b;rw[Yr];by_cases L:b<n-k-1
    ·rw[az _ (by omega),az _ L,Z3 1 b];rfl
    grind [aH]
   have C:=kX n c k;have E:(mz n c k).length=n-k-1:=aH _ _;refine ar (k:=bA rfl (ai (am (aK (aE I @fM.eq_1) (k:=bH (k:=?_))))));have s:1<=n-k:=by omega
   have P:=aH (n-k-1) (fun b=>bk c k k (k+(b+1)));refine ai (aK (aE T (aE U (aE s (aE (rC TL) (aE J E))))) (k:=?_));refine aG (G:=jW (n-k-1)) (fun q=>⟨(j4 (jk::.one (.ptr 19 0 0 0)::j4 (jk::.one (.sl 11 0 0 q.i)::j16 (j4 (j4 (j4 (jk::jk::.one (.p (.sl (ls fM (sT n c n))))::rN n::rN k::j4 (jk::jk::.one (.p (.sl (ls fZ (mz n c k))))::.raw (.int .i64 ((n-k-1:Nat):Int))::rN q.i::j16 (j4 (jk::[])))))))))),Hm [(11,[⟨2,1,lc fI (aN q.i fun b=>bk c k k (k+(b+1)))⟩]),(19,UY 19 B n (n+1) k (ae n 0) (aN (n+1) (dk c)) (eF n c k))]⟩) (fun q=>n-k-1-q.i) ⟨0,by omega⟩ ?_ ?_
   ·refine(d6 (k:=11) (d:=11) 2 1 (by omega) rfl rfl).trans (aj ⟨rfl,rfl,trivial⟩ ?_);simp[wk]
   rintro⟨b,L⟩;simp only;by_cases F:b<n-k-1
   ·have t:=CZ (bk c k k (k+(b+1))) (h.b k (k+(b+1)) r (by omega));have w:(mz n c k)[b]?=some (bk c k k (k+(b+1))):=az _ F;have m:=aH b (fun b=>bk c k k (k+(b+1)));refine ar (k:=bA rfl (ai (am (aK w (k:=La [⟨2,_,_,_,t⟩] (aE m @vu) (k:=bK (k:=?_)))))));refine⟨⟨b+1,by omega⟩,by grind,aj ⟨?_,rfl,trivial⟩ ?_⟩
    ·rw[jA b];rfl
    simp[wk]
   have u:b=n-k-1:=by omega
   subst u;refine ar (k:=bG rfl ?_);show bs _ _ _ _;refine bs.weak (bF 11 (bS rfl)) ?_;simp only[X9,Yu,fb,dD];refine dU (aE @X3 (aE C @rz)) (k:=bK (k:=?_));refine⟨⟨k+1,by omega⟩,by grind,aj ⟨?_,trivial⟩ ?_⟩
   ·rw[<- x9 n c k];rfl
   simp[wk]
  have A:k=n:=by omega
  subst A;refine ar (k:=bG rfl (bH (k:=?_)));refine aZ ⟨.inr rfl,_,bv.refl _,?_⟩;refine⟨.one (.ptr 19 0 0 0),19,?_,rfl,?_,rfl⟩
  ·simp(disch:=omega) only[kd,results130]
  grind [RP]
 intro j y g R
 match j with
 |0=>injection g with g;subst g;rfl
 |1=>injection g with g;subst g;rfl
 |2=>injection g with g;subst g;rfl
 |3=>omega
 |j+4=>simp at g
theorem tP {F:Nat->Int} {B:Nat}: ∀k,(∀p,p<k->(F p).natAbs<=B)->(dP F k).natAbs<=k*B
 |0,_=>by simp[dP]
 |k+1,h=>by
  have b:=tP k fun p c=>h p (by omega)
  grind [dP]
section
variable {n:Nat}
theorem yJ {F:Nat->Int} {k:Nat} (h: ∀i,i<k->F i=0): ∀m,dP F (k+m)=dP (fun a=>F (k+a)) m
 |0=>by
  rw[YA,bJ k (G:=fun _=>0) h,jT];rfl
 |m+1=>by rw[<- aaf,dP,dP,yJ h m]
theorem rl {m:Nat} (g:Nat->Int) (y:List Int): ∀l,l<=m->eZ (aN m g) y l=dP (fun b=>g b*y.getD b 0) l
 |0,_=>rfl
 |l+1,h=>by
  show eZ (aN m g) y l+(aN m g).getD l 0*y.getD l 0=_;rw[rl g y l (by omega),Yf,az _ (by omega)];rfl
theorem UK {k a:Nat} (c:b.length+(k+1)=n):aR n b (k+1+a)=b.getD a 0:=by
 grind [aR]
def XE (f:FF) (k:Nat):Nat->Nat->Int:=fun a b=>bk f k (k+a) (k+b)
theorem Uq (f:FF) {k:Nat} (g:b.length+(k+1)=n):eZ (aN b.length fun j=>XE f k 0 (j+1)) b b.length=tc f n k (aR n b):=by
 rw[rl _ _ _ (XY _),tc,show n=k+1+b.length by omega,yJ fun i e=>if_pos (by omega)];refine bJ _ fun a c=>?_
 rw[if_neg (by omega),UK (by omega)];show bk f k (k+0) (k+(a+1))*_=_;grind
theorem TD (f:0<n) (h:x.natAbs<=n*m):(x/(n:Int)).natAbs<=m:=by
 have e:((n*m:Nat):Int)=(m:Int)*(n:Int):=by grind
 have b:x/(n:Int)<(m:Int)+1:=Int.ediv_lt_of_lt_mul (by omega) (by grind);have c: -(m:Int)<=x/(n:Int):=abn (by omega) (by grind);omega
end
section
variable {n:Nat}
def tT:Nat->Nat
 |0=>0
 |m+1=>4*tT m+2147483648
theorem AQ: ∀{a b:Nat},a<=b->tT a<=tT b:=by
 intro a b h
 induction b with
 |zero=>grind
 |succ b c=>
  grind [tT]
theorem WR (h:n<=7):tT n<=11727408201728:=XQ (AQ h) (by decide)
theorem Rq {m:Nat} (h:m<=8):tT m<=46911780290560:=XQ (AQ h) (by decide)
def oy (y:List Int):Prop:= ∀i,i<y.length->(y.getD i 0).natAbs<=tT (y.length-i)
theorem oy.nil:oy []:=fun i h=>by simp at h
theorem oy.cons (h:oy b) (e:x.natAbs<=tT (b.length+1)):oy (x::b):=fun i f=>by
 cases i with
 |zero=>exact e
 |succ i=>
  rw[List.getD_cons_succ,Ym,Nat.add_sub_add_right];exact h i (by grind)
theorem oy.at_ (h:oy b) (i:Nat):(b.getD i 0).natAbs<=tT b.length:=by
 by_cases c:i<b.length
 ·exact XQ (h i c) (AQ (by omega))
 grind
structure mD (n:Nat) (f:FF) (B:Int):Prop where
 r:RedR f n
 n8:n<=8
 b0:0<=B
 b1:B<=1073741824
def sQ (f:FF) (k:Nat) (y:List Int) (m:Nat):Int:=dP (fun b=>bk f k k (k+(b+1))*y.getD b 0) m
def o8 (f:FF) (n:Nat) (B:Int) (k:Nat) (x:Nat->Int):Int:=B*dk f k-BF n (bk f k) x x
theorem n5 (f:FF) {k:Nat} (c:b.length+(k+1)=n):sQ f k b b.length=tc f n k (aR n b):=by
 rw[<- Uq f c,rl _ _ _ (XY _)];rfl
section
variable {f:FF} {B:Int} (hv:mD n f B)
include hv
theorem mD.d {k:Nat} (b:k<=n):0<dk f k/\dk f k<65536:=by
 cases k with
 |zero=>rw[co];omega
 |succ k=>exact⟨hv.r.2.1 k (by omega),kS (by omega) hv.n8 hv.r k (by omega)⟩
theorem mD.sized {k j:Nat} (g:k<j) (b:j<n):2*(bk f k k j).natAbs<=(dk f (k+1)).toNat:=by
 have e:=hv.d (k:=k+1) (by omega);have c:=(hv.r.2.2.2 k (by omega)).1 j b (by omega);rw[i7 hv.r.1 k (by omega) (fun t h=>by have:=hv.r.2.1 t (by omega);omega) k j (by omega) b];omega
theorem mD.shP_bd {k:Nat} (p:b.length+(k+1)=n) (e:oy b) (q:m<=b.length):(sQ f k b m).natAbs<=(dk f (k+1)).toNat*(4*tT b.length):=by
 have r:=hv.n8;refine XQ (tP (B:=(dk f (k+1)).toNat/2*tT b.length) m fun c o=>?_) ?_
 ·rw[Y1];have:=hv.sized (k:=k) (j:=k+(c+1)) (by omega) (by omega);exact Yn (by omega) (e.at_ c)
 have g:m*((dk f (k+1)).toNat/2*tT b.length)<=8*((dk f (k+1)).toNat/2*tT b.length):=XX _ (by omega);have h:8*((dk f (k+1)).toNat/2*tT b.length)=(8*((dk f (k+1)).toNat/2))*tT b.length:=(ZP _ _ _).symm;have l:(8*((dk f (k+1)).toNat/2))*tT b.length<=(4*(dk f (k+1)).toNat)*tT b.length:=XX _ (by omega);grind
theorem mD.shP_c {k:Nat} (c:b.length+(k+1)=n) (g:oy b) (e:m<=b.length): -3074285718752788480<=sQ f k b m/\sQ f k b m<=3074285718752788480:=by
 have h:=hv.shP_bd c g e;have l:=hv.d (k:=k+1) (by omega);have o:=hv.n8;have j:=Yn (show(dk f (k+1)).toNat<=65535 by omega) (show 4*tT b.length<=46909632806912 by grind [WR]);omega
theorem mD.rs0 {k:Nat} (c:k<=n) {x:Nat->Int} (g:fO f n B k x):0<=o8 f n B k x/\o8 f n B k x<=70368744177664:=by
 have b:=hv.r.pd;have h:=hv.d c;have j:=(gE b.1 b.2 x (n-k) k (by omega)).1;have e:B*dk f k<=1073741824*65536:=YG hv.b1 (by omega) (by omega) (by omega);grind [o8,fO]
theorem mD.sq {k:Nat} (c:k<n) {x:Nat->Int} (b:fO f n B (k+1) x):0<=kJ f n B k x/\kJ f n B k x<=4611686018427387904:=by
 have e:=hv.rs0 c b;have h:=hv.d (k:=k) (by omega);refine⟨yK hv.r.pd c b,?_⟩;show dk f k*o8 f n B (k+1) x<=_;have g:dk f k*o8 f n B (k+1) x<=65536*70368744177664:=YG (by omega) e.2 e.1 (by omega);omega
theorem mD.lohi {k:Nat} (j:b.length+(k+1)=n) (v:oy b) (o:fO f n B (k+1) (aR n b)):
  (dR f n B k (aR n b)).natAbs<=tT (b.length+1)/\(eQ f n B k (aR n b)).natAbs<=tT (b.length+1)/\0<=eQ f n B k (aR n b)-dR f n B k (aR n b)+1:=by
 have z:=hv.d (k:=k+1) (by omega);have c:=hv.sq (k:=k) (by omega) o;have A:=mT c.1 c.2;have t:=hv.shP_bd j v (XY _);rw[n5 f j]at t;have s:tT (b.length+1)=4*tT b.length+2147483648:=rfl;rw[s];unfold dR eQ;generalize isqF (kJ f n B k (aR n b))=r at*
 generalize tc f n k (aR n b)=l at*
 have e:dk f (k+1)=(((dk f (k+1)).toNat:Nat):Int):=by omega
 rw[e];generalize(dk f (k+1)).toNat=D at*
 have m:0<D:=by omega
 have g: ∀u:Int,(u.natAbs<=2147483648+D*(4*tT b.length))->(u/(D:Int)).natAbs<=4*tT b.length+2147483648:=fun u C=>TD m (by
  grind)
 have w:=g (r+l) (by omega);have x:=g (r-l) (by omega);refine⟨by omega,by omega,?_⟩;have E:=ZK (r+l) (show(0:Int)<(D:Int) by omega);have F:=ZK (r-l) (show(0:Int)<(D:Int) by omega);generalize(r+l)/(D:Int)=p at*
 generalize(r-l)/(D:Int)=q at*
 refine ZQ fun h=>?_
 have G:(p+1+(q+1))*(D:Int)<=0*(D:Int):=Ys (by omega) (by omega);grind
theorem mD.step {k:Nat} (m:b.length+(k+1)=n) {c:Int} (o:fO f n B (k+1) (aR n b)) (g:dR f n B k (aR n b)<=c) (l:c<=eQ f n B k (aR n b)):
  fO f n B k (aR n (c::b))/\kJ f n B k (aR n b)-(dk f (k+1)*c+tc f n k (aR n b))*(dk f (k+1)*c+tc f n k (aR n b))=dk f (k+1)*o8 f n B k (aR n (c::b)):=by
 have e:=hv.r.pd;have j: ∀i,k<i->i<n->aR n (c::b) i=aR n b i:=fun i g _=>Dh m g
 have p:aR n (c::b) k=c:=Di m;have h:=(fO.tail e (k:=k+1) (by omega) (x':=aR n b) (fun i g l=>j i (by omega) l)).2 o;refine⟨(xY e (by omega) h).2 ?_,?_⟩
 ·grind [GY,GP]
 rw[<- AK (B:=B) e (show k<n by omega) j,<- AE j];have key:=lw e.1 e.2 (aR n (c::b)) (show k<n by omega);grind [yE,kJ,o8]
end
/-! The walk. -/
section
variable {γ:Type} (yd:Nat->Int->γ->γ×Bool)
def lpM (b:Int->γ->γ×Bool):Nat->Int->γ->γ×Bool
 |0,_,g=>(g,true)
 |m+1,x,g=>match b x g with
  |(c,true)=>lpM b m (x+1) c
  |(c,false)=>(c,false)
noncomputable def jf (f:FF) (n:Nat) (B:Int):Nat->List Int->γ->γ×Bool
 |0,y,g=>yd n (eQ f n B 0 (aR n y)-dR f n B 0 (aR n y)+1) g
 |k+1,y,g=>match yd (n-(k+1)) (eQ f n B (k+1) (aR n y)-dR f n B (k+1) (aR n y)+1) g with
  |(b,true)=>lpM (fun c=>jf f n B k (c::y)) (eQ f n B (k+1) (aR n y)-dR f n B (k+1) (aR n y)+1).toNat (dR f n B (k+1) (aR n y)) b
  |(b,false)=>(b,false)
theorem My {e:γ->Prop} {b:Int->γ->γ×Bool} (j: ∀c g,e g->(b c g).2=true->e (b c g).1): ∀(m:Nat) (x:Int) (g:γ),e g->(lpM b m x g).2=true->e (lpM b m x g).1
 |0,_,_,f,_=>f
 |m+1,x,g,f,h=>by
  have k:=j x g f;unfold lpM at h⊢;generalize b x g=r at*
  obtain⟨l,t⟩:=r;cases t with
  |true=>exact My j m _ _ (k rfl) h
  |false=>cases h
theorem OE {lv:γ->Prop} (b: ∀m c g,lv g->(yd m c g).2=true->lv (yd m c g).1) (f:FF) (n:Nat) (B:Int): ∀(k:Nat) (y:List Int) (g:γ),lv g->(jf yd f n B k y g).2=true->lv (jf yd f n B k y g).1
 |0,y,g,e,h=>b _ _ g e h
 |k+1,y,g,e,h=>by
  have q:=b (n-(k+1)) (eQ f n B (k+1) (aR n y)-dR f n B (k+1) (aR n y)+1) g e;unfold jf at h⊢;generalize yd (n-(k+1)) (eQ f n B (k+1) (aR n y)-dR f n B (k+1) (aR n y)+1) g=r at*
  obtain⟨j,t⟩:=r;cases t with
  |true=>exact My (fun c g e h=>OE b f n B k (c::y) g e h) _ _ _ (q rfl) h
  |false=>cases h
end
end
section
def fK (m:Nat):List (List AV):=ae m [.junk]
theorem Mg (m i:Nat) (y:List Int):(fK m++lc fI y)[m+i]?=(lc fI y)[i]?:=by
 grind [fK]
theorem i9 (m:Nat) (y:List Int):(fK m++lc fI y).length=m+y.length:=by simp[fK,lY]
theorem mV (m:Nat) (c:Int) (y:List Int):(fK (m+1)++lc fI y).set m [.p (.raw (.int .i64 c))]=fK m++lc fI (c::y):=by
 simp_all[fK,Z2,lc,fI]
theorem gU (d m:Nat):(fK m).map (List.map (b6 d))=fK m:=by simp[fK,b6]
abbrev qP (a:Nat) (B:Int) (n m:Nat) (y b:List Int) (M:List (List Int)):List OObj:=[⟨222,4,[[.p (.raw (.int .i64 B)),.sl a 2 0 (n+1),.sl a 3 0 n,.sl a 1 0 n]]⟩,⟨2,1,fK m++lc fI y⟩,⟨2,1,lc fI b⟩,⟨35,1,lc (fR fI) M⟩]
theorem AX (a d:Nat) (B:Int) (n m:Nat) (y b:List Int) (M:List (List Int)):(qP a B n m y b M).map (renO d)=qP d B n m y b M:=by
 simp_all[renO,b6,jL,gU]
theorem qQ (a:Nat) (B:Int) (n m:Nat) (y g:List Int) (M:List (List Int)): ∀o∈qP a B n m y g M,selfO a o:=fun o f e b x c=>by
 simp only[Yo,Y3,or_false]at f;rcases f with rfl|rfl|rfl|rfl
 ·simp only[XT]at b;subst b;simp only[Yo,Y3,or_false]at c;rcases c with rfl|rfl|rfl|rfl<;>first|trivial|rfl
 ·simp only[YK]at b;rcases b with b|b
  ·obtain⟨_,rfl⟩:=Zz.1 b;simp only[XT]at c;subst c;trivial
  exact ck (bi 2 1 _ e b x c)
 ·exact ck (bi 2 1 _ e b x c)
 exact ck (bi 35 1 _ e b x c)
theorem UZ (a:Nat) (B:Int) (n m e:Nat) (y f c:List Int) (M:List (List Int)): ∀r∈[0],∀o,(qP a B n m y c M)[r]?=some o-> ∃b,(qP a B n e f c M)[r]?=some b/\b.es=o.es/\o.elems.length<=b.elems.length:=fun r g o h=>by
 grind
theorem Bk {s:AS} {c:Int} {e:List Int} {M:List (List Int)} (f:s.H 0=qP 0 x n m (c::b) e M):bv s ⟨s.tmps,aw s.H 0 (qP 0 x n (m+1) b e M)⟩:=by
 have h:=lE (s:=s) 0 1 (o:=⟨2,1,fK m++lc fI (c::b)⟩) (o':=⟨2,1,fK (m+1)++lc fI b⟩) (by rw[f];rfl) rfl rfl (by simp only[i9,Ym];omega) fun i g j=>by
  rw[<- mV m c b];grind [fK]
 grind
theorem vr (n:Nat) (f:FF) {k:Nat} (b:k<n):(eF n f n)[k]?=some (mz n f k):=Mn f b
structure Xv (γ:Type) (lv:γ->Prop) (lo hi:Int) (b:Int->γ->γ×Bool) (R:γ×Bool) where
 x:Int
 g:γ
 l:lv g
 h1:lo<=x
 h2:x<=hi+1
 e:lpM b (hi-x+1).toNat x g=R
theorem Mz {f:Type} {b:Int->f->f×Bool} {c:Int} {g:f} (h:c<=x):lpM b (x-c+1).toNat c g=match b c g with
  |(e,true)=>lpM b (x-(c+1)+1).toNat (c+1) e
  |(e,false)=>(e,false):=by
 rw[show(x-c+1).toNat=(x-(c+1)+1).toNat+1 by omega];rfl
theorem P9 {e:Type} {b:Int->e->e×Bool} {c:Int} {g:e} (h: ¬c<=x):lpM b (x-c+1).toNat c g=(g,true):=by
 rw[show(x-c+1).toNat=0 by omega];rfl
section
variable {γ:Type} {L:gM γ} {l:Nat} {yd:Nat->Int->γ->γ×Bool} {n:Nat} {f:FF} {B:Int} {lv:γ->Prop}
def S5 (P:Program) (L:gM γ) (l n:Nat) (yd:Nat->Int->γ->γ×Bool) (lv:γ->Prop):Prop:= ∀(m:Nat) (c:Int) (g:γ),lv g->1<=m->m<=n->0<=c->c<=93823560581121->rj P L l [.int .i64 (m:Int),.int .i64 c] g (yd m c g).1 (yd m c g).2
abbrev UX (l:Nat) (k:Nat) (b:Int):List TV:=[.one (.ptr 0 0 0 0),.raw (.int .i64 (k:Int)),.raw (.int .i64 b),.raw (.func (.yield l) #[] #[])]
theorem Ia (s:mD n f B) (hy:S5 prog L l n yd lv) (O: ∀m c g,lv g->(yd m c g).2=true->lv (yd m c g).1) (k:Nat) (y:List Int) (hk:y.length+(k+1)=n) (hT:oy y) (Q:fO f n B (k+1) (aR n y)) (g:γ) (hg:lv g)
  (Z: ∀j,k=j+1-> ∀c,dR f n B k (aR n y)<=c->c<=eQ f n B k (aR n y)-> ∀g,lv g->kL prog L [0] 190 (UX l j (o8 f n B (j+1) (aR n (c::y)))) (qP 0 B n (j+1) (c::y) (aN (n+1) (dk f)) (eF n f n)) (qP 0 B n (j+1) (c::y) (aN (n+1) (dk f)) (eF n f n)) g (jf yd f n B j (c::y) g).1 (.raw (.bool (jf yd f n B j (c::y) g).2))):
  kL prog L [0] 190 (UX l k (o8 f n B (k+1) (aR n y))) (qP 0 B n (k+1) y (aN (n+1) (dk f)) (eF n f n)) (qP 0 B n (k+1) y (aN (n+1) (dk f)) (eF n f n)) g (jf yd f n B k y g).1 (.raw (.bool (jf yd f n B k y g).2)):=by
 have bR:=s.n8;have br:=s.d (k:=k) (by omega);have S:=s.d (k:=k+1) (by omega);have ap:=az (dk f) (show k<n+1 by omega);have av:=az (dk f) (show k+1<n+1 by omega);have bp:=aH (n+1) (dk f);have hM:=vr n f (show k<n by omega);have bq:=kX n f n;have a2:(mz n f k).length=n-k-1:=aH _ _;have C: ∀i,i<y.length->(mz n f k)[i]?=some (bk f k k (k+(i+1))):=fun i E=>az _ (by omega)
 have I:=fun m (hm:m<=y.length)=>s.shP_c hk hT hm
 have z:=n5 f hk;have b0:=s.rs0 (k:=k+1) (by omega) Q;have u:=s.sq (k:=k) (by omega) Q;have X:=s.lohi hk hT Q;have bc:=Rq (m:=y.length+1) (by omega);have b1:=mT u.1 u.2;have cR:=wl (.inl rfl) _ u.1 u.2;have ag:=fun c=>s.step hk (c:=c) Q
 have af:dk f k*o8 f n B (k+1) (aR n y)=kJ f n B k (aR n y):=rfl;have Y:dR f n B k (aR n y)=0-(isqF (kJ f n B k (aR n y))+sQ f k y y.length)/dk f (k+1):=by grind [dR]
 have W:eQ f n B k (aR n y)=(isqF (kJ f n B k (aR n y))-sQ f k y y.length)/dk f (k+1):=by rw[z];rfl
 have bn:=I y.length (XY _);have ah:=nI (.inl rfl) (isqF (kJ f n B k (aR n y))+sQ f k y y.length) (dk f (k+1)) S.1 (by omega) (by omega) (by omega);have al:=nI (.inl rfl) (isqF (kJ f n B k (aR n y))-sQ f k y y.length) (dk f (k+1)) S.1 (by omega) (by omega) (by omega);have N:=hy (n-k) (eQ f n B k (aR n y)-dR f n B k (aR n y)+1) g hg (by omega) (by omega) (by omega) (by omega);have e1:IntKind.i64.wrap ((k:Int)+1)=((k+1:Nat):Int):=aP (by omega) (by omega);have e2:IntKind.i64.wrap ((n:Int)-(k:Int))=((n-k:Nat):Int):=by grind [aP]
 have J:k=0->jf yd f n B k y g=yd (n-k) (eQ f n B k (aR n y)-dR f n B k (aR n y)+1) g:=fun e=>by subst e;rfl
 have hv1: ∀j,k=j+1->jf yd f n B k y g=match yd (n-k) (eQ f n B k (aR n y)-dR f n B k (aR n y)+1) g with
  |(g',true)=>lpM (fun c=>jf yd f n B j (c::y)) (eQ f n B k (aR n y)-dR f n B k (aR n y)+1).toNat (dR f n B k (aR n y)) g'
  |(g',false)=>(g',false):=fun j e=>by subst e;rfl
 have ac:sQ f k y 0=0:=rfl;have ad: ∀i,sQ f k y i+bk f k k (k+(i+1))*y.getD i 0=sQ f k y (i+1):=fun _=>rfl
 rw[<- z]at ag;have ab: ∀c,fO f n B k (aR n (c::y))->0<=o8 f n B k (aR n (c::y))/\o8 f n B k (aR n (c::y))<=70368744177664:=fun c h=>s.rs0 (by omega) h
 have F:=O (n-k) (eQ f n B k (aR n y)-dR f n B k (aR n y)+1) g hg;have bd:=fun j c g hg=>OE yd (lv:=lv) O f n B j (c::y) g hg
 obtain⟨P,b,V⟩: ∃P b,yd (n-k) (eQ f n B k (aR n y)-dR f n B k (aR n y)+1) g=(P,b):=⟨_,_,rfl⟩;rw[V]at N J hv1 F;simp only at N J hv1 F;clear V hy O s Q hT;generalize jf yd f n B k y g=R at*
 generalize dR f n B k (aR n y)=lo at*
 generalize eQ f n B k (aR n y)=E at*
 generalize kJ f n B k (aR n y)=sq at*
 generalize o8 f n B (k+1) (aR n y)=A at*
 generalize isqF sq=rt at*
 generalize aN (n+1) (dk f)=D at*
 generalize eF n f n=M at*
 generalize mz n f k=r at*
 generalize dk f (k+1)=d1 at*
 generalize dk f k=d0 at*
 generalize sQ f k y=w at*
 have bx: -46911780290560<=lo/\lo<=46911780290560:=by omega
 have bt: -46911780290560<=E/\E<=46911780290560:=by omega
 have bl:=X.2.2;clear X bc;have bm:(d1=0)=False:=eq_false (by omega);refine pD func190 rfl (by kernel_rfl) [(0,0)] (by simp) (by simp[selfTV,bz]) (by simp[selfTV,bz]) (qQ 0 _ _ _ _ _ _) (qQ 0 _ _ _ _ _ _) (UZ 0 _ _ _ _ _ _ _ _) ?_;rw[ntmps190];refine dT.weak (aj (tm:=(.one (.ptr 0 0 0 0)::rN k::.raw (.int .i64 A)::.raw (.func (.yield l) #[] #[])::j16 (j16 (j16 (j16 (j16 (j16 (j16 (j4 (j4 ([]))))))))))) (l:=[(0,qP 0 B n (k+1) y D M)]) ⟨rfl,trivial⟩ (by simp[wk,ae])) ?_;refine fC (k:=dK (aE e1 av) (k:=bP (dK (aE hM a2) (k:=?_))));refine jD (G:=jW y.length) (fun q=>⟨(.one (.ptr 0 0 0 0)::rN k::.raw (.int .i64 A)::.raw (.func (.yield l) #[] #[])::j4 (jk::.raw (.int .i64 d1)::.raw (.int .i64 (w q.i))::j16 (j4 (jk::jk::.one (.p (.sl (ls fI r)))::rN y.length::rN q.i::j16 (j16 (j16 (j16 (j16 (j4 (j4 ([]))))))))))),Hm [(0,qP 0 B n (k+1) y D M)]⟩) (fun _=>g) (fun q=>y.length-q.i) ⟨0,by omega⟩ ?_ rfl ?_
 ·refine aj ⟨rfl,trivial⟩ ?_;simp[wk,ac];omega
 rintro⟨i,bw⟩;simp only;by_cases hm:i<y.length
 ·have a1:=C i hm;have s0:=I i (by omega);have s1:=I (i+1) (by omega);have s2:=ad i;have e3:IntKind.i64.wrap (((k+1:Nat):Int)+(i:Int))=((k+1+i:Nat):Int):=by rw[aP (by omega) (by omega)];omega
  have a4:=Mg (k+1) i y;have a5:=i9 (k+1) y;have bh:y[i]?=some (y.getD i 0):=by grind
  generalize bk f k k (k+(i+1))=q at*
  generalize y.getD i 0=yi at*
  refine fC (k:=DY rfl (bP (fo (dK a1 (k:=pu (aE e1 (aE e3 (aE a4 (aE bh s2)))) (k:=sX (k:=?_)))))));refine⟨⟨i+1,by omega⟩,by grind,aj ⟨rfl,trivial⟩ ?_,rfl⟩;simp[wk]
 have a8:i=y.length:=by omega
 subst a8;refine fC (k:=DW rfl (dK (aE ap af) (k:=Ld [⟨1,_,_,_,cR⟩] (k:=?_))));refine mL [⟨4,_,_,_,ah⟩,⟨10,_,_,_,al⟩] [] (by kernel_rfl) fun _ K=>?_;simp(disch:=omega) only[kd,<- W,aa,aP,<- Y,Nat.reduceBEq];apply K
 refine bP (bP ?_);refine Bt 12 N [] [] (by kernel_rfl) (by decide) fun K o=>?_
 simp(disch:=omega) only[kd,aa,e2,aP];refine o _ ⟨rfl,?_⟩;clear o K;intro K o;simp only[kd,aa,yS,mw];apply o;clear o K;show dT _ _ _ _ _ _ _;cases b with
 |false=>
  have C:R=(P,false):=by
   cases k with
   |zero=>grind
   |succ j=>grind
  subst C;refine f4 rfl (fC (k:=?_));refine lH ⟨.inr rfl,rfl,_,aj (tm:=(.one (.ptr 0 0 0 0)::j4 (jk::jk::jk::.raw (.bool false)::j16 (j16 (j16 (j16 (j16 (j16 (j16 (jk::jk::jk::[])))))))))) (l:=[(0,qP 0 B n (k+1) y D M)]) ⟨rfl,trivial⟩ (by simp[wk]),⟨gT _,rfl⟩,by simp⟩
 |true=>
  refine fB rfl (dJ ?_);show dT _ _ _ _ _ _ _;cases k with
  |zero=>
   have C:R=(P,true):=J rfl;subst C;refine bP (fC (k:=f4 rfl (fC (k:=?_))));refine lH ⟨.inr rfl,rfl,_,aj (tm:=(.one (.ptr 0 0 0 0)::j4 (jk::jk::jk::.raw (.bool true)::j16 (j16 (j16 (j16 (j16 (j16 (j16 (jk::jk::jk::[])))))))))) (l:=[(0,qP 0 B n (0+1) y D M)]) ⟨rfl,trivial⟩ (by simp[wk]),⟨gT _,rfl⟩,by simp⟩
  |succ j=>
   have C:=hv1 j rfl;have a9:(((j+1:Nat):Int)=0)=False:=eq_false (by omega);have e4:IntKind.i64.wrap (((j+1:Nat):Int)-1)=(j:Int):=by grind [aP]
   refine bP (dK a9 (k:=fB rfl (dJ (bP (fC (k:=?_))))));refine jD (G:=Xv γ lv lo E (fun c=>jf yd f n B j (c::y)) R) (fun v=>⟨(.one (.ptr 0 0 0 0)::.raw (.int .i64 ((j+1:Nat):Int))::jk::.raw (.func (.yield l) #[] #[])::j4 (jk::.raw (.int .i64 d1)::.raw (.int .i64 (w y.length))::jk::jk::.raw (.int .i64 sq)::jk::jk::.raw (.int .i64 E)::.raw (.int .i64 v.x)::j16 (j16 (j16 (j16 (j16 (j16 (j4 (j4 (jk::jk::[])))))))))),Hm [(0,qP 0 B n (j+1+1) y D M)]⟩) (fun v=>v.g) (fun v=>(E+1-v.x).toNat) ⟨lo,P,F rfl,by omega,by omega,C.symm⟩ ?_ rfl ?_
   ·refine aj ⟨rfl,trivial⟩ ?_;simp[wk]
   rintro⟨x,g2,U,h1,h2,t⟩;simp only;by_cases hx:x<=E
   ·rw[Mz hx]at t;obtain⟨a0,hq⟩:=ag x h1 hx;have bb:=ab x a0;have cV:=Z j rfl x h1 hx g2 U;have H:=bd j x g2 U;obtain⟨g3,b3,a7⟩: ∃g3 b3,jf yd f n B j (x::y) g2=(g3,b3):=⟨_,_,rfl⟩;rw[a7]at cV t H;simp only at cV t H;generalize o8 f n B (j+1) (aR n (x::y))=rx at*
    have b4:(d1*x).natAbs<=65535*46911780290560:=by
     rw[Y1];exact Yn (by omega) (by omega)
    have ba:0<=d1*rx:=Yj (by omega) bb.1;have T:Int.tdiv (sq-(d1*x+w y.length)*(d1*x+w y.length)) d1=rx:=by rw[hq];grind [Int.mul_tdiv_cancel_left]
    have b2:0<=(d1*x+w y.length)*(d1*x+w y.length):=by
     rcases ZM 0 (d1*x+w y.length)with h|h
     ·exact Yj h h
     exact Yx h h
    have a5:=i9 (j+1+1) y;have a6:=mV (j+1) x y;have a3:(fK (j+1+1)++lc fI y)[j+1]?=some [.junk]:=by
     rw[XS (by simp[fK])];simp[fK]
    refine bP (fC (k:=f4 rfl (dJ (bP (fo (dK (aE a3 a6) (k:=fC (k:=bP (ik 11 cV 0 [] [] (by kernel_rfl) (by omega) (by decide) fun K o=>?_)))))))));generalize hU:(d1*x+w y.length)*(d1*x+w y.length)=uu at*
    simp(disch:=omega) only[kd,aa,e4,hU,aP,T];refine o _ ⟨⟨rfl,(AX 0 0 _ _ _ _ _ _).symm⟩,?_⟩;clear o K;intro K o;simp(disch:=omega) only[kd,aa,En,mw,pR,my,Nat.reduceBEq,YN,gU];apply o;clear o K;show dT _ _ _ _ _ _ _;cases b3 with
    |false=>
     simp only at t;subst t;refine f4 rfl (fC (k:=?_));refine lH ⟨.inr rfl,rfl,_,(Bk rfl).trans (aj (tm:=(.one (.ptr 0 0 0 0)::j4 (jk::jk::jk::.raw (.bool false)::j16 (j16 (j16 (j16 (j16 (j16 (j16 (jk::jk::jk::[])))))))))) (l:=[(0,qP 0 B n (j+1+1) y D M)]) ⟨rfl,trivial⟩ (by simp[wk])),⟨gT _,rfl⟩,by simp⟩
    |true=>
     simp only at t;refine fB rfl (dJ (sX (k:=?_)));refine⟨⟨x+1,g3,H rfl,by omega,by omega,t⟩,by simp only;omega,(Bk rfl).trans (aj ⟨rfl,trivial⟩ ?_),rfl⟩;simp[wk]
   rw[P9 hx]at t;subst t;refine bP (fC (k:=fB rfl (mJ (fC (k:=?_)))));refine lH ⟨.inr rfl,rfl,_,aj (tm:=(.one (.ptr 0 0 0 0)::j4 (jk::jk::jk::.raw (.bool true)::j16 (j16 (j16 (j16 (j16 (j16 (j16 (jk::jk::jk::[])))))))))) (l:=[(0,qP 0 B n (j+1+1) y D M)]) ⟨rfl,trivial⟩ (by simp[wk]),⟨gT _,rfl⟩,by simp⟩
end
end
section
section
variable {γ:Type} {L:gM γ} {l:Nat} {yd:Nat->Int->γ->γ×Bool} {n:Nat} {f:FF} {B:Int} {lv:γ->Prop}
theorem RO (r:mD n f B) (s:S5 prog L l n yd lv) (q: ∀m c g,lv g->(yd m c g).2=true->lv (yd m c g).1): ∀(k:Nat) (y:List Int),y.length+(k+1)=n->oy y->fO f n B (k+1) (aR n y)-> ∀g:γ,lv g->
  kL prog L [0] 190 (UX l k (o8 f n B (k+1) (aR n y))) (qP 0 B n (k+1) y (aN (n+1) (dk f)) (eF n f n)) (qP 0 B n (k+1) y (aN (n+1) (dk f)) (eF n f n)) g (jf yd f n B k y g).1 (.raw (.bool (jf yd f n B k y g).2)):=by
 intro k
 induction k with
 |zero=>intro y p h b g o;exact Ia r s q 0 y p h b g o fun j e=>by omega
 |succ k w=>
  intro y p h b g o;refine Ia r s q (k+1) y p h b g o fun j e c t u g o=>?_
  obtain rfl:j=k:=by omega
  have v:=r.lohi p h b;exact w (c::y) (by grind) (h.cons (by omega)) (r.step p b t u).1 g o
noncomputable def H6 (yd:Nat->Int->γ->γ×Bool) (f:FF) (n:Nat) (B:Int) (g:γ):γ:=if n=1 then(yd 1 (2*isqF (B/dk f 1)+1) g).1 else(jf yd f n B (n-1) [] g).1
theorem Fk (b:mD n f B):o8 f n B n (aR n [])=dk f n*B:=by
 grind [aR,ny,o8]
def WA (n:Nat) (f:FF) (B:Int):Prop:=(n=1/\0<dk f 1/\dk f 1<=4611686018427387904/\0<=B/\B<=4611686018427387904)\/(2<=n/\mD n f B)
theorem Rp (h:WA n f B) (y:S5 prog L l n yd lv) (G: ∀m c g,lv g->(yd m c g).2=true->lv (yd m c g).1) (g:γ) (I:lv g):
  pi prog L 131 [.one (.ptr 0 0 0 0),.raw (.func (.yield l) #[] #[])] (qP 0 B n n [] (aN (n+1) (dk f)) (eF n f n)) (qP 0 B n n [] (aN (n+1) (dk f)) (eF n f n)) g (H6 yd f n B g) (.tup []):=by
 have Q:=aH (n+1) (dk f);have s:=az (dk f) (show n<n+1 by omega);refine Lt func131 rfl (by kernel_rfl) (by simp[selfTV,bz]) (by simp[selfTV]) (qQ 0 _ _ _ _ _ _) (qQ 0 _ _ _ _ _ _) ?_;rw[ntmps131];refine qY.weak (aj (tm:=(.one (.ptr 0 0 0 0)::.raw (.func (.yield l) #[] #[])::j16 (j16 (j4 (j4 (jk::jk::jk::[])))))) (l:=[(0,qP 0 B n n [] (aN (n+1) (dk f)) (eF n f n))]) ⟨rfl,trivial⟩ (by simp[wk,ae])) ?_;refine qZ fun _ K=>?_;simp only[kd,aa];apply K
 rcases h with⟨rfl,R,S,z,X⟩|⟨T,j⟩
 ·have w:0<=B/dk f 1:=Zn z (by omega);have V:B/dk f 1<=B:=aal _ z;have W:=mT w (by omega);have cR:=wl (.inl rfl) (B/dk f 1) w (by omega);have o:=y 1 (2*isqF (B/dk f 1)+1) g I (by omega) (by omega) (by omega) (by omega);have u:H6 yd f 1 B g=(yd 1 (2*isqF (B/dk f 1)+1) g).1:=if_pos rfl;rw[u];have P:Int.tdiv B (dk f 1)=B/dk f 1:=Zr z;have H:(dk f 1=0)=False:=eq_false (by omega);obtain⟨p,b,e⟩: ∃p b,yd 1 (2*isqF (B/dk f 1)+1) g=(p,b):=⟨_,_,rfl⟩;rw[e]at o⊢;simp only at o⊢;generalize aN (1+1) (dk f)=D at*
  generalize eF 1 f 1=M at*
  generalize dk f 1=d at*
  generalize B/d=q at*
  generalize isqF q=rt at*
  clear y e u;refine tn (qZ fun _ K=>?_);simp(disch:=omega) only[kd];apply K;refine S3 rfl ?_;refine tn ?_;refine Bq ch o [⟨12,_,_,_,cR⟩] [] (by kernel_rfl) fun K t=>?_
  simp(disch:=omega) only[kd,YW,aa,Nat.reduceSub,Int.reduceToNat,s,P,aP];refine t _ ⟨rfl,?_⟩;clear t K;simp only[qI];refine Pj ⟨.inr rfl,rfl,_,aj (tm:=(.one (.ptr 0 0 0 0)::j16 (j16 (j4 (j4 (j4 ([]))))))) (l:=[(0,qP 0 B 1 1 [] D M)]) ⟨rfl,trivial⟩ ?_,gT _,rfl⟩;simp only[kd,yS,mw];simp[wk]
 have U:=j.n8;have A:fO f n B n (aR n []):=jl j.r.pd j.b0;have x:=RO j y G (n-1) [] (by simp;omega) oy.nil (by grind) g I;rw[show n-1+1=n by omega,Fk j]at x;have u:H6 yd f n B g=(jf yd f n B (n-1) [] g).1:=if_neg (by omega);rw[u];have Y:=j.d (k:=n) (XY n);have v:=j.b0;have C:=j.b1;have J:0<=dk f n*B:=Yj (by omega) v;have N:dk f n*B<=65536*1073741824:=YG (by omega) C v (by omega);have E:((n:Int)=1)=False:=eq_false (by omega);have O:IntKind.i64.wrap ((n:Int)-1)=((n-1:Nat):Int):=by grind [aP]
 obtain⟨p,b,e⟩: ∃p b,jf yd f n B (n-1) [] g=(p,b):=⟨_,_,rfl⟩;rw[e]at x⊢;simp only at x⊢;generalize aN (n+1) (dk f)=D at*
 generalize eF n f n=M at*
 generalize dk f n=d at*
 generalize F:d*B=Z at*
 clear y e u j A;refine tn (qZ fun _ K=>?_);simp only[kd,E];apply K;refine S2 rfl (K0 ?_);show qY _ _ _ _ _ _;refine DU ch x.toL 0 [] [] (by omega) (by kernel_rfl) fun K t=>?_
 simp(disch:=omega) only[kd,YW,aa,Nat.reduceSub,O,s,F,aP];refine t _ ⟨⟨rfl,(AX 0 0 _ _ _ _ _ _).symm⟩,?_⟩;clear t K;refine⟨.inl rfl,rfl,_,aj (tm:=(j16 (j16 (j4 (j4 (j4 (jk::[]))))))) (l:=[(0,qP 0 B n n [] D M)]) ⟨?_,trivial⟩ ?_,gT _,rfl⟩
 ·rw[U3,fj];grind [aI,AX]
 simp only[kd,U3,mw,YW,aa,Nat.reduceSub];simp_all[SL]
end
end
end Go.Proofs.YtalmoejhjceflaaGreat
