/-
  Part 40 of a proof (walks and plain facts).
-/
import Derived.Test.YtalmoejhjceflaaGreatQ38
set_option linter.all false
set_option maxRecDepth 100000
set_option maxHeartbeats 64000000
open Nat renaming reduceAdd → aa
open Nat renaming reduceEqDiff → ab
open List renaming replicate → ae
namespace Go.Proofs.YtalmoejhjceflaaGreat
open Go.RowKit Go.Proofs.Tryz
variable {n m:Nat} {b:FF} {x:Int}
theorem ZQ {a:Int} (g:x≠0) (f:0<=a):a/x=iq (decide (x<0)) (a.natAbs/x.natAbs)/\a%x=iq false (a.natAbs%x.natAbs):=by
 have c:tr a x=iq false (a.natAbs%x.natAbs):=by grind [tr]
 have e:tq a x=iq (decide (x<0)) (a.natAbs/x.natAbs):=by grind [tq]
 grind [Ju,iq]
theorem VM {a:Int} (g:x≠0) (f:a<0) (h:a.natAbs%x.natAbs=0):a/x=iq (!decide (x<0)) (a.natAbs/x.natAbs)/\a%x=iq false (a.natAbs%x.natAbs):=by
 have c:tr a x=iq false (a.natAbs%x.natAbs):=by grind [tr,iq]
 have e:tq a x=iq (!decide (x<0)) (a.natAbs/x.natAbs):=by grind [tq]
 grind [Ju,iq]
theorem ZP {a:Int} (m:x≠0) (e:a<0) (h:a.natAbs%x.natAbs≠0):a/x=iq (!decide (x<0)) (a.natAbs/x.natAbs+1)/\a%x=iq false (x.natAbs-a.natAbs%x.natAbs):=by
 have l:tr a x= -((a.natAbs%x.natAbs:Nat):Int):=by unfold tr;rw[decide_eq_true e];rfl
 have f:a.natAbs%x.natAbs<x.natAbs:=acM _ (by omega);by_cases c:x<0
 ·obtain⟨g,j⟩:=L4 (a:=a) c (by omega);grind [tq,iq]
 obtain⟨g,j⟩:=L5 (a:=a) (show 0<x by omega) (by omega);grind [tq,iq]
def Bd (z:Int):Prop:=Sz z 268435456
theorem Oe (a b:Int) (c:b≠0) (w:Bd a) (y:Bd b):CallC prog 120 [tZ a,tZ b] ⟨[],.tup [(true,cZ (a/b)),(true,cZ (a%b)),(false,[.p (.raw (.bool true))])]⟩:=by
 have B:(au a.natAbs).length<=268435456:=lI w;have C:(au b.natAbs).length<=268435456:=lI y;have t1:=fE (au a.natAbs) (by omega);have t2:=fE (au b.natAbs) (by omega);rw[jF]at t1 t2;have A:(au b.natAbs).length≠0:=fun h=>c (by grind [gU])
 have o:=Of a.natAbs b.natAbs (by omega) B C;unfold Gj at o;have m:=gU (n:=a.natAbs%b.natAbs);have t:a.natAbs%b.natAbs<b.natAbs:=acM _ (by omega);have G:=sH (show a.natAbs/b.natAbs<=a.natAbs from aeC _ _);have D:=sH (aeR t);by_cases l:a<0
 ·by_cases s:a.natAbs%b.natAbs=0
  ·obtain⟨g,j⟩:=VM c l s;have e:=fO (!decide (b<0)) (a.natAbs/b.natAbs);have f:=fO false (a.natAbs%b.natAbs);rw[<- g]at e;rw[<- j]at f;have z:(au (a.natAbs%b.natAbs)).length=0:=m.2 s;clear g j;generalize a.natAbs/b.natAbs=q at*
   generalize a.natAbs%b.natAbs=r at*
   generalize a/b=Q at*
   generalize a%b=R at*
   refine ax func120 rfl ntmps120 (aA (k:=bE [⟨2,_,_,_,t2⟩] (k:=ai (ar (k:=ao rfl (ak (bE [⟨2,_,_,_,t1⟩,⟨4,_,_,_,o⟩] (k:=ar (k:=ai (am (ai (am (ai (am (ai (ai (ar (k:=ao rfl (ak (ar (k:=az rfl (aX (bi (k:=aX (bE [⟨2,_,_,_,e⟩,⟨4,_,_,_,f⟩] (k:=aE @results120))))))))))))))))))))))))))
  obtain⟨g,j⟩:=ZP c l s;have u:=CB (au (a.natAbs/b.natAbs)) [1] (aI _) (by intro x F;grind) (by omega) (by simp);rw[aG,show natV [1]=1 from rfl,show cW [1]= .one (.p (.sl [[.raw (.int .u32 1)]]))from rfl]at u;have v:=wc (au b.natAbs) (au (a.natAbs%b.natAbs)) (aI _) (aI _) D (by grind [aG]) (by omega);rw[aG,aG]at v;have e:=fO (!decide (b<0)) (a.natAbs/b.natAbs+1);have f:=fO false (b.natAbs-a.natAbs%b.natAbs);rw[<- g]at e;rw[<- j]at f;have z:(au (a.natAbs%b.natAbs)).length≠0:=fun h=>s (m.1 h)
  clear g j;generalize b.natAbs-a.natAbs%b.natAbs=E at*
  generalize a.natAbs/b.natAbs=q at*
  generalize a.natAbs%b.natAbs=r at*
  generalize a/b=Q at*
  generalize a%b=R at*
  refine ax func120 rfl ntmps120 (aA (k:=bE [⟨2,_,_,_,t2⟩] (k:=ai (ar (k:=ao rfl (ak (bE [⟨2,_,_,_,t1⟩,⟨4,_,_,_,o⟩] (k:=ar (k:=ai (am (ai (am (ai (am (ai (ai (ar (k:=az rfl (aX (bE [⟨2,_,_,_,u⟩] (k:=abf [⟨2,_,_,_,v⟩] (k:=bi (k:=aX (bE [⟨2,_,_,_,e⟩,⟨4,_,_,_,f⟩] (k:=aE @results120)))))))))))))))))))))))))
 obtain⟨g,j⟩:=ZQ c (show 0<=a by omega);have e:=fO (decide (b<0)) (a.natAbs/b.natAbs);have f:=fO false (a.natAbs%b.natAbs);rw[<- g]at e;rw[<- j]at f;clear g j;generalize a.natAbs/b.natAbs=q at*
 generalize a.natAbs%b.natAbs=r at*
 generalize a/b=Q at*
 generalize a%b=R at*
 refine ax func120 rfl ntmps120 (aA (k:=bE [⟨2,_,_,_,t2⟩] (k:=ai (ar (k:=ao rfl (ak (bE [⟨2,_,_,_,t1⟩,⟨4,_,_,_,o⟩] (k:=ar (k:=ai (am (ai (am (ai (am (ai (ai (ar (k:=ao rfl (ak (ar (k:=ao rfl (ak (aX (bE [⟨2,_,_,_,e⟩,⟨4,_,_,_,f⟩] (k:=aE @results120)))))))))))))))))))))))))
structure SpG (M:List (List Int)) where
 i:Nat
 hi:i<=M.length
 ok: ∀r∈M.take i,r.length=(M.headD []).length
theorem TA (M:List (List Int)):CallC prog 230 [cw M] ⟨[],shT M⟩:=by
 by_cases q:M.length<1
 ·rw[iC (fun h=>by have:=h.1;omega)];refine ax func230 rfl ntmps230 (aA (k:=ai (ar (k:=az rfl (bi (k:=aE @results230))))))
 by_cases s:16<M.length
 ·rw[iC (fun h=>by have:=h.2.1;omega)];refine ax func230 rfl ntmps230 (aA (k:=ai (ar (k:=az rfl (bi (k:=aE @results230))))))
 have f:=kw (M:=M) (by omega);have b:M.headD []∈M:=acd f;by_cases n:(M.headD []).length<1
 ·rw[iC (fun h=>by have:=(h.2.2 _ b).1;omega)];refine ax func230 rfl ntmps230 (aA (k:=ai (ar (k:=ao rfl (ak (aH f (k:=ai (ar (k:=az rfl (bi (k:=aE @results230)))))))))))
 by_cases o:16<(M.headD []).length
 ·rw[iC (fun h=>by have:=(h.2.2 _ b).2.1;omega)];refine ax func230 rfl ntmps230 (aA (k:=ai (ar (k:=ao rfl (ak (aH f (k:=ai (ar (k:=az rfl (bi (k:=aE @results230)))))))))))
 refine ax func230 rfl ntmps230 (aA (k:=ai (ar (k:=ao rfl (ak (aH f (k:=ai (ar (k:=ao rfl (ak (ai (bi (k:=?_)))))))))))));refine ay (G:=SpG M) (fun g=>⟨(cw M::j4 (.raw (.int .i64 ((M.headD []).length:Int))::j16 (j4 (cw M::rN M.length::rN g.i::j4 (j4 (jk::jk::jk::[])))))),Hm []⟩) (fun g=>M.length-g.i) ⟨0,by omega,fun r e=>by simp at e⟩ ?_ ?_
 ·refine aj trivial ?_;simp[wk]
 rintro⟨i,t,ok⟩;simp only;by_cases l:i<M.length
 ·obtain⟨r,e⟩:=getElem?_of_lt l;have c:r∈M:=acd e;refine ar (k:=aV rfl (ai (am (aH e (k:=?_)))));by_cases p:r.length=(M.headD []).length
  ·refine ar (k:=ao rfl (ak (bu (k:=?_))));refine⟨⟨i+1,by omega,fun u m=>?_⟩,by simp only;omega,aj trivial ?_⟩
   ·grind [List.take_add_one]
   simp[wk]
  rw[iC (fun h=>by have:=(h.2.2 r c).2.2;omega)];refine ar (k:=az rfl (bi (k:=aE @results230)))
 have j:IL M:=⟨by omega,by omega,fun r e=>by
  grind⟩
 rw[jB j];refine ar (k:=aW rfl (bi (k:=aE @results230)))
theorem HU (M:List (List Int)):CallC prog 239 [dr M] ⟨[],shT M⟩:=by
 by_cases q:M.length<1
 ·rw[iC (fun h=>by have:=h.1;omega)];refine ax func239 rfl ntmps239 (aA (k:=ai (ar (k:=az rfl (bi (k:=aE @results239))))))
 by_cases s:16<M.length
 ·rw[iC (fun h=>by have:=h.2.1;omega)];refine ax func239 rfl ntmps239 (aA (k:=ai (ar (k:=az rfl (bi (k:=aE @results239))))))
 have f:=kw (M:=M) (by omega);have b:M.headD []∈M:=acd f;by_cases n:(M.headD []).length<1
 ·rw[iC (fun h=>by have:=(h.2.2 _ b).1;omega)];refine ax func239 rfl ntmps239 (aA (k:=ai (ar (k:=ao rfl (ak (aH f (k:=ai (ar (k:=az rfl (bi (k:=aE @results239)))))))))))
 by_cases o:16<(M.headD []).length
 ·rw[iC (fun h=>by have:=(h.2.2 _ b).2.1;omega)];refine ax func239 rfl ntmps239 (aA (k:=ai (ar (k:=ao rfl (ak (aH f (k:=ai (ar (k:=az rfl (bi (k:=aE @results239)))))))))))
 refine ax func239 rfl ntmps239 (aA (k:=ai (ar (k:=ao rfl (ak (aH f (k:=ai (ar (k:=ao rfl (ak (ai (bi (k:=?_)))))))))))));refine ay (G:=SpG M) (fun g=>⟨(dr M::j4 (.raw (.int .i64 ((M.headD []).length:Int))::j16 (j4 (dr M::rN M.length::rN g.i::j4 (j4 (jk::jk::jk::[])))))),Hm []⟩) (fun g=>M.length-g.i) ⟨0,by omega,fun r e=>by simp at e⟩ ?_ ?_
 ·refine aj trivial ?_;simp[wk]
 rintro⟨i,t,ok⟩;simp only;by_cases l:i<M.length
 ·obtain⟨r,e⟩:=getElem?_of_lt l;have c:r∈M:=acd e;refine ar (k:=aV rfl (ai (am (aH e (k:=?_)))));by_cases p:r.length=(M.headD []).length
  ·refine ar (k:=ao rfl (ak (bu (k:=?_))));refine⟨⟨i+1,by omega,fun u m=>?_⟩,by simp only;omega,aj trivial ?_⟩
   ·grind [List.take_add_one]
   simp[wk]
  rw[iC (fun h=>by have:=(h.2.2 r c).2.2;omega)];refine ar (k:=az rfl (bi (k:=aE @results239)))
 have j:IL M:=⟨by omega,by omega,fun r e=>by
  grind⟩
 rw[jB j];refine ar (k:=aW rfl (bi (k:=aE @results239)))
theorem SX (n:Nat) (f:FF) (b:1<=n) (e:n<=16):CallC prog 252 [dr (mat n n f)] ⟨[],.tup [(false,[.p (.raw (.int .i64 (n:Int)))]),(false,[.p (.raw (.int .i64 (n:Int)))]),(false,[.p (.raw (.bool true))])]⟩:=by
 have c:=HU (mat n n f);rw[jB (oP f b e b e),aU,jq f b]at c;refine ax func252 rfl ntmps252 (aA (k:=bj [⟨1,_,_,_,c⟩] (k:=aE @results252)))
theorem OW (n:Nat) (f:FF) (b:1<=n) (e:n<=16):CallC prog 233 [dr (mat n n f)] ⟨[],.tup [(false,[.p (.raw (.int .i64 (n:Int)))]),(false,[.p (.raw (.bool true))])]⟩:=by
 have c:=SX n f b e;refine ax func233 rfl ntmps233 (aA (k:=bj [⟨1,_,_,_,c⟩] (k:=ar (k:=aE @results233))))
theorem VD (a b c d e:Int) (s:Nat) (w:s<=67174400) (g:Sz a s) (h:Sz b s) (j:Sz c s) (m:Sz d s) (u:Sz e s) (f:e≠0):
  CallC prog 238 [tZ a,tZ b,tZ c,tZ d,tZ e] ⟨[],tZ ((a*d-b*c)/e)⟩:=by
 have n:=g.mul m;have o:=h.mul j;have v:=n.sub o;have p:=RS a d (g.mono (by omega)) (m.mono (by omega));have q:=RS b c (h.mono (by omega)) (j.mono (by omega));have r:=Z0 (a*d) (b*c) (n.mono (by omega)) (o.mono (by omega));have t:=Oe (a*d-b*c) e f (v.mono (by omega)) (u.mono (by omega));refine ax func238 rfl ntmps238 (aA (k:=?_));refine bA.weak (aj (tm:=(j4 (jk::.one (.ptr 5 0 0 0)::.one (.ptr 6 0 0 0)::.one (.ptr 7 0 0 0)::.one (.ptr 8 0 0 0)::.one (.ptr 9 0 0 0)::.one (.ptr 10 0 0 0)::j16 (jk::[])))) (l:=[(5,vz a),(6,vz b),(7,vz c),(8,vz d),(9,vz e),(10,ru)]) ⟨rfl,rfl,rfl,rfl,rfl,rfl,trivial⟩ (by simp[wk])) ?_;refine da [⟨2,_,_,_,p⟩,⟨5,_,_,_,q⟩,⟨6,_,_,_,r⟩,⟨8,_,_,_,t⟩] (k:=ar (k:=aE @results238))
abbrev mM (M:List (List Int)):List PV:=[.sl (ls (fR fZ) M)]
theorem aaI {i:Nat} (h:i<n) (l:m<n) (q:n<=16) (g:Bg (b i m)):
  CallC prog 235 [.raw (.int .i64 (i:Int)),.raw (.int .i64 (m:Int)),.one (.p (.ptr (mM (mat n n b))))] ⟨[],tZ (b i m)⟩:=by
 have o:=bD n b h;have c:=aB (b i) l;have e:=DY (b i m) g;refine ax func235 rfl ntmps235 (aA (k:=cj [⟨7,_,_,_,e⟩] (aC o c) (k:=aE @results235)))
theorem aaJ (c:Nat) {last:Int} {i:Nat} (t:i+1<n) (f:m+1<n) (C:n<=16) (s:Nat) (z:s<=67174400) (e: ∀i m,i<n->m<n->Sz (b i m) s) (y:Sz last s) (u:last≠0):
  CallT prog c 65 237 [.raw (.int .i64 (i:Int)),.raw (.int .i64 (m:Int)),.one (.p (.ptr (mM (mat n n b)))),.raw (.pointer (some ⟨c,0,none⟩))] (fZ last)
   ⟨[],tZ ((b 0 0*b (i+1) (m+1)-b (i+1) 0*b 0 (m+1))/last)⟩ (fZ last):=by
 have A:=bD n b (show 0<n by omega);have B:=bD n b t;have h:=aB (b 0) (show 0<n by omega);have o:=aB (b 0) f;have q:=aB (b (i+1)) (show 0<n by omega);have r:=aB (b (i+1)) f;have v:((i:Int)+1).toNat=i+1:=by omega
 have w:((m:Int)+1).toNat=m+1:=by omega
 have x:=VD (b 0 0) (b (i+1) 0) (b 0 (m+1)) (b (i+1) (m+1)) last s z (e _ _ (by omega) (by omega)) (e _ _ t (by omega)) (e _ _ (by omega) f) (e _ _ t f) y u;refine lU func237 rfl (by kernel_rfl) ?_;rw[ntmps237];refine FO 3 900 rfl rfl ?_;refine fX.weak (aj (tm:=(.raw (.int .i64 (i:Int))::rN m::.one (.p (.ptr (mM (mat n n b))))::.one (.ptr 900 0 0 0)::j16 (j16 (jk::[])))) (l:=[(900,vz last)]) ⟨rfl,trivial⟩ (by simp[wk,Jd,y9,ae])) ?_;refine dm (k:=Vf [⟨29,_,_,_,x⟩] (aC A (aC h (aC v (aC B (aC q (aC w (aC o r))))))) (k:=?_));refine eK ⟨fZ last,rfl,rfl,.inr rfl,rfl,b8 rfl ?_ rfl⟩;simp(disch:=omega) only[kd,results237,xI,kU,ab,aa,tZ]
def elF (f:FF) (k:Nat):Nat->Nat->Int:=fun i j=>bk f k (k+i) (k+j)
abbrev N5 (n:Nat) (f:FF) (k:Nat):List (List Int):=mat (n-k) (n-k) (elF f k)
def xv (n:Nat) (f:FF) (k:Nat):List (List (List Int)):=(List.range k).map (N5 n f)
theorem TM (n:Nat) (f:FF) (k:Nat):xv n f k++[N5 n f k]=xv n f (k+1):=by simp[xv,ade]
theorem vg (n:Nat) (f:FF) (k:Nat):(xv n f k).length=k:=by simp[xv]
theorem Rw (n:Nat) (f:FF):mat n n f=N5 n f 0:=gI fun i j _ _=>by
 show f i j=bk f 0 (0+i) (0+j);grind [cH]
theorem Gq {f:FF} {k:Nat} (c: ∀t,t<k->dk f (t+1)≠0) (i j:Nat):
  (elF f k 0 0*elF f k (i+1) (j+1)-elF f k (i+1) 0*elF f k 0 (j+1))/dk f k=elF f (k+1) i j:=by
 have b:dk f k≠0:=by
  cases k with
  |zero=>rw[ce];decide
  |succ k=>grind
 grind [sylv,elF,ca,Int.mul_ediv_cancel_left]
theorem np (f:FF) (k:Nat):elF f k 0 0=dk f (k+1):=by
 rfl
def fM (M:List (List Int)):List PV:=[.sl (ls (fR fZ) M)]
theorem Se (l:List (List (List Int))) (M:List (List Int)):lc fM l++[[.p (.sl (ls (fR fZ) M))]]=lc fM (l++[M]):=by simp[lc,fM]
def NzP (n:Nat) (f:FF):Prop:= ∀t,t+1<n->dk f (t+1)≠0
open Classical in
noncomputable def aaK (n:Nat) (f:FF):TV:=if NzP n f then .tup [(false,[.p (.sl (ls fM (xv n f n)))]),(false,[.p (.raw (.bool true))])]else .tup [(false,[.p (.raw (.slice none 0 0))]),(false,[.p (.raw (.bool false))])]
theorem Bl (h:NzP n b):aaK n b= .tup [(false,[.p (.sl (ls fM (xv n b n)))]),(false,[.p (.raw (.bool true))])]:=if_pos h
theorem Xp (h: ¬NzP n b):aaK n b= .tup [(false,[.p (.raw (.slice none 0 0))]),(false,[.p (.raw (.bool false))])]:=if_neg h
structure SgG (n:Nat) (f:FF) where
 k:Nat
 s:Nat
 hk:k<n
 nz: ∀t,t<k->dk f (t+1)≠0
 hs:s+1<=1025*2^k
 sz: ∀i j,i<n-k->j<n-k->Sz (elF f k i j) s
 sl:Sz (dk f k) s
theorem Fx (n:Nat) (f:FF) (m:1<=n) (r:n<=16) (Q: ∀i j,i<n->j<n->Sz (f i j) 1024):CallC prog 202 [dr (mat n n f)] ⟨[],aaK n f⟩:=by
 have O:=OW n f m r;have M:=zT 1 (by omega) (by omega);have P:=Xt 235 (mM (mat n n f)) n n f m r m r (fun i j o q=>aaI o q r ((Q i j o q).mono (by omega)));refine fL func202 rfl (by kernel_rfl) ?_;rw[ntmps202];refine aw fun _ K=>?_;simp(disch:=omega) only[kd,aa,dr,ae];apply K
 refine Nv ?_;refine bC [⟨1,_,_,_,O⟩] [] fun _ K=>?_;simp only[kd,dr,aa];apply K
 refine ai (aw fun _ K=>?_);simp only[kd];apply K;refine ao rfl (ak ?_);show bA _ _ _ _;refine bA.weak ((tz 1 1 (cs:=mM (mat n n f)) rfl rfl).trans (aj (tm:=(jk::.one (.p (.ptr (mM (mat n n f))))::.raw (.slice none 0 0)::.raw (.bool false)::rN n::j16 (j16 (j16 (j4 (j4 (jk::[]))))))) (l:=[]) trivial (by simp[wk,fk,dP]))) ?_;refine bC [⟨3,_,_,_,P⟩] [] fun _ K=>?_;simp only[kd,dr,aa,ko];apply K
 refine bC [⟨0,_,_,_,M⟩] [] fun _ K=>?_;simp(disch:=omega) only[kd,tZ,aa];apply K
 refine aw fun _ K=>?_;simp only[kd];apply K
 refine ai (Nt ?_);show bA _ _ _ _;refine ai (aw fun _ K=>?_);simp only[kd];apply K;refine ay (G:=SgG n f) (fun g=>⟨(jk::jk::.raw (.slice none 0 0)::.raw (.bool false)::rN n::jk::dr (N5 n f g.k)::.one (.ptr 7 0 0 0)::.one (.sl 30 0 0 g.k)::j4 (j4 (j4 (jk::jk::rN n::rN g.k::j16 (j16 (j4 (jk::[]))))))),Hm [(7,vz (dk f g.k)),(30,[⟨42,1,lc fM (xv n f g.k)⟩])]⟩) (fun g=>n-g.k) ⟨0,1024,by omega,fun t I=>by omega,by omega,fun i j o q=>?_,?_⟩ ?_ ?_
 ·show Sz (bk f 0 (0+i) (0+j)) 1024;grind [cH]
 ·grind [ce,pb]
 ·refine(cz (k:=8) (d:=30) 42 1 (by omega) rfl rfl).trans (aj ⟨?_,rfl,trivial⟩ ?_)
  ·rfl
  simp[wk];grind [Rw]
 rintro⟨k,s,U,D,V,sz,T⟩;simp only;have N:=qX (k:=k) (by omega);have B:s<=67174400:=by omega
 have F:=bD (n-k) (elF f k) (show 0<n-k by omega);have v:=aB (elF f k 0) (show 0<n-k by omega);have c:=VQ (elF f k 0 0) ((sz 0 0 (by omega) (by omega)).mono (by omega));have C:=TM n f k;have y:=vg n f k;refine aw fun _ K=>?_;simp(disch:=omega) only[kd,dr];apply K
 refine aV rfl ?_;refine ai (am ?_);refine aw fun _ K=>?_;simp only[kd];apply K
 refine aw fun _ K=>?_;simp(disch:=omega) only[kd,aa,Nat.reduceMul,Nat.reduceLeDiff,ab,y,Se,C,Nat.reduceBEq];apply K
 refine ai (am ?_);by_cases R:k=n-1
 ·have A:NzP n f:=fun t I=>D t (by omega)
  rw[Bl A];refine aw fun _ K=>?_;simp(disch:=omega) only[kd,aa,aL];apply K
  refine az rfl (aX ?_);show bA _ _ _ _;have x:k+1=n:=by omega
  rw[x];have H:=vg n f n;refine aw fun _ K=>?_;simp only[kd,aa];apply K
  refine aQ ⟨.inr rfl,dp 30 (bf rfl) ?_ rfl⟩;have J:List.take n (xv n f n)=xv n f n:=ack (by omega);simp(disch:=omega) only[kd,results202,ab,J]
 refine aw fun _ K=>?_;simp(disch:=omega) only[kd,aa,aL];apply K
 refine ao rfl ?_;by_cases u:dk f (k+1)=0
 ·have z: ¬NzP n f:=fun h=>h k (by omega) u
  rw[Xp z];rw[np,u]at c;refine bC [⟨5,_,_,_,c⟩] [] fun _ K=>?_;simp(disch:=omega) only[kd,tZ,ES,aa,Int.reduceToNat,F,fR,v,np,u,fZ];apply K
  refine az rfl ?_;refine aw fun _ K=>?_;simp only[kd];apply K
  (refine aQ ⟨.inr rfl,b8 rfl ?_ rfl⟩;simp(disch:=omega) only[kd,results202])
 have S:=Hz u;rw[np]at c v;refine bC [⟨5,_,_,_,c⟩] [] fun _ K=>?_;simp(disch:=omega) only[kd,tZ,aa,Int.reduceToNat,F,fR,v,fZ];apply K
 refine ao rfl (ak ?_);show bA _ _ _ _;refine aw fun _ K=>?_;simp(disch:=omega) only[kd,aa,ab];apply K
 refine bA.weak ((tz 10 10 (cs:=mM (N5 n f k)) rfl rfl).trans (aj (tm:=(jk::jk::.raw (.slice none 0 0)::.raw (.bool false)::rN n::jk::jk::.one (.ptr 7 0 0 0)::.one (.sl 30 0 0 (k+1))::rN k::.one (.p (.ptr (mM (N5 n f k))))::j4 (j4 (j4 (.raw (.int .i64 (n:Int))::rN k::j16 (j16 (j4 (jk::[])))))))) (l:=[(7,vz (dk f k)),(30,[⟨42,1,lc fM (xv n f (k+1))⟩])]) ⟨rfl,rfl,trivial⟩ (by simp[wk,fk,dP]))) ?_;refine ai (yK 7 (cs:=fZ (dk f k)) rfl fun b=>?_);refine eH.weak (aj (tm:=(jk::jk::.raw (.slice none 0 0)::.raw (.bool false)::rN n::jk::jk::dC b::.one (.sl 30 0 0 (k+1))::rN k::.one (.p (.ptr (mM (N5 n f k))))::j4 (j4 (j4 (.raw (.int .i64 (n:Int))::rN k::j16 (j16 (j4 (jk::[])))))))) (l:=[(30,[⟨42,1,lc fM (xv n f (k+1))⟩])]) ⟨rfl,trivial⟩ (by simp[wk,xI,kU])) ?_;have w:dk f k≠0:=by
  cases k with
  |zero=>rw[ce];decide
  |succ k=>grind
 have e:=Xu 237 (mM (N5 n f k)) b 65 (fZ (dk f k)) (n-(k+1)) (n-(k+1)) (fun i j=>(elF f k 0 0*elF f k (i+1) (j+1)-elF f k (i+1) 0*elF f k 0 (j+1))/dk f k) (by omega) (by omega) (by omega) (by omega)
  (fun i j o q=>aaJ b (by omega) (by omega) (by omega) s B sz T w)
 rw[gI fun i j _ _=>Gq (f:=f) (k:=k) D i j]at e;have L:((n-(k+1):Nat):Int)=(n:Int)-(k:Int)-1:=by omega
 rw[L]at e;refine iX 9 e [] [] (by kernel_rfl) (by rfl) (by rfl) fun _ K=>?_;simp(disch:=omega) only[kd,dr,aa,dC,aL,ko];apply K
 refine⟨rfl,?_⟩;show bA _ _ _ _;refine bA.weak (aj (tm:=(jk::jk::.raw (.slice none 0 0)::.raw (.bool false)::rN n::jk::dr (N5 n f (k+1))::.one (.ptr 7 0 0 0)::.one (.sl 30 0 0 (k+1))::jk::.one (.p (.ptr (mM (N5 n f k))))::j4 (j4 (j4 (.raw (.int .i64 (n:Int))::rN k::j16 (j16 (j4 (jk::[])))))))) (l:=[(7,vz (dk f k)),(30,[⟨42,1,lc fM (xv n f (k+1))⟩])]) ⟨rfl,rfl,trivial⟩ (by simp[wk,Jd,y9])) ?_;refine g9 fun _ K=>?_;simp(disch:=omega) only[kd,aa,dr,Int.reduceToNat,F,fR,v,fZ,ab];apply K
 show bA _ _ _ _;refine g9 fun _ K=>?_;simp(disch:=omega) only[kd,aL];apply K
 have E: ∀t,t<k+1->dk f (t+1)≠0:=fun t I=>by
  grind
 refine⟨⟨k+1,2*s+1,by omega,E,by omega,fun i j o q=>?_,?_⟩,by simp only;omega,aj ⟨rfl,rfl,trivial⟩ ?_⟩
 ·rw[<- Gq D];exact((((sz 0 0 (by omega) (by omega)).mul (sz (i+1) (j+1) (by omega) (by omega))).sub ((sz (i+1) 0 (by omega) (by omega)).mul (sz 0 (j+1) (by omega) (by omega)))).ediv _).mono (by omega)
 ·rw[<- np];exact(sz 0 0 (by omega) (by omega)).mono (by omega)
 simp[wk]
abbrev r7 (M:List (List Int)):AV:= .p (.ptr [.sl (ls (fR fI) M)])
theorem abo {n c:Nat} {f:FF} {i:Nat} (h:i<n) (l:m<c) (q:c<=16) (r:n<=16) (e: -9223372036854775808<=f i m/\f i m<=9223372036854775807):
  CallC prog 232 [.raw (.int .i64 (i:Int)),.raw (.int .i64 (m:Int)),.one (r7 (mat n c f))] ⟨[],tZ (f i m)⟩:=by
 have o:=aU n c f;have p:=bD c f h;have b:=aB (f i) l;have g:=zT (f i m) e.1 e.2;refine ax func232 rfl ntmps232 (jS @r7.eq_1 (k:=cj [⟨7,_,_,_,g⟩] (aC p b) (k:=aE @results232)))
def PX (d n c i:Nat) (g:FF):List OObj:=⟨85,1,l9 d (ae i c)++ae (n-i) [.p (.sl [])]⟩::(mat i c g).map qv
theorem NL (d n c:Nat) (g:FF):([⟨85,1,ae n [.raw (.slice none 0 0)]⟩]:List OObj).map zO=PX d n c 0 g:=by
 simp[PX,mat,zO,l9,Fl,IA]
theorem QS (d n c:Nat) (g:FF):PX d n c n g=ij d n c g:=by
 simp[PX]
theorem QT {d i:Nat} (g:FF) (j:i<n) (l: ∀b,b<m->g i b=0):
  ((⟨85,1,(l9 d (ae i m)++ae (n-i) [AV.p (PV.sl [])]).set i [.sl d (i+1) 0 m]⟩::(mat i m g).map qv++[⟨65,2,ae m [.raw (.bool false),.raw (.slice none 0 0)]⟩]:List OObj)).map zO=PX d n m (i+1) g:=by
 have e:(l9 d (ae i m)++ae (n-i) [AV.p (PV.sl [])]).set i [.sl d (i+1) 0 m]=l9 d (ae (i+1) m)++ae (n-(i+1)) [AV.p (PV.sl [])]:=by
  rw[adV _ _ (by simp[dE]),dE,acX,aeq,aeI (n:=i),vd,acX,acI]
  congr 1
  rw[show n-i=n-(i+1)+1 by omega,aeL];rfl
 have f:aN m (g i)=ae m 0:=by
  apply acz;grind [aB,aD]
 have h:mat (i+1) m g=mat i m g++[aN m (g i)]:=by simp[mat,ade]
 rw[e];simp only[ad9,acA,ac1,PX,h,adH]
 congr 1
 ·simp[zO,YK,Fl,IA]
 congr 1
 ·grind [List.map_congr_left,zO,qv,abA]
 simp[f,zO,qv,lc,fZ,Fl,IA,cn,ls]
theorem Vl {d n c i k:Nat} (h:k<i):(l9 d (ae i c)++ae (n-i) [AV.p (PV.sl [])])[k]?=some [.sl d (k+1) 0 c]:=by
 grind [dE,cf]
theorem Vm {d n c i:Nat} (h:i<=n):(l9 d (ae i c)++ae (n-i) [AV.p (PV.sl [])]).length=n:=by grind [dE]
theorem Vn (n c:Nat) (f:FF) (y:1<=n) (x:n<=16) (u:1<=c) (t:c<=16) (v: ∀i j,i<n->j<c-> -9223372036854775808<=f i j/\f i j<=9223372036854775807):
  CallC prog 231 [.raw (.int .i64 (n:Int)),.raw (.int .i64 (c:Int)),.fn 232 [r7 (mat n c f)]] ⟨ij 0 n c f,.one (.sl 0 0 0 n)⟩:=by
 refine ax func231 rfl ntmps231 (jS @r7.eq_1 (k:=ar (k:=ai (bi (k:=?_)))));refine ay (G:=fY n) (fun g=>⟨(jk::rN c::.fn 232 [r7 (mat n c f)]::j4 (.one (.sl 11 0 0 n)::j4 (jk::rN n::rN g.i::j16 (j4 (j4 (j4 ([]))))))),Hm [(11,PX 11 n c g.i (part f g.i 0))]⟩) (fun g=>n-g.i) ⟨0,by omega⟩ ?_ ?_
 ·refine(g7 11).trans (aj ⟨NL 11 n c _,trivial⟩ ?_);simp[wk]
 rintro⟨i,B⟩;simp only;by_cases h:i<n
 ·have w:=Nk (d:=11) (c:=c) h;refine aH @r7.eq_1 (k:=aV rfl (ai (am (bi (k:=?_)))));simp only[PX];refine aH (aC w (aC @acX (aC @aeu @aU))) (k:=?_);refine bA.weak ((g7 11).trans (aj (tm:=(jk::rN c::.fn 232 [r7 (mat n c f)]::j4 (.one (.sl 11 0 0 n)::rN i::j4 (.raw (.int .i64 (n:Int))::rN i::j16 (j4 (j4 (j4 ([])))))))) (l:=[(11,PX 11 n c (i+1) (part f i 0))]) ⟨QT (part f i 0) h (fun b _=>by simp[part]),trivial⟩ (by simp[wk]))) ?_;have p:=Vl (d:=11) (n:=n) (c:=c) (show i<i+1 by omega);have z:=Vm (d:=11) (n:=n) (c:=c) (show i+1<=n by omega);have A:=ez (n:=i+1) c (part f i 0) (show i<i+1 by omega);simp only[PX];refine aH (aC @r7.eq_1 p) (k:=?_);refine ay (G:=fY c) (fun g=>⟨(jk::rN c::.fn 232 [r7 (mat n c f)]::j4 (.one (.sl 11 0 0 n)::rN i::j4 (.raw (.int .i64 (n:Int))::rN i::j4 (j4 (jk::jk::jk::rN c::rN g.i::j4 (j4 (j4 (jk::jk::jk::[])))))))),Hm [(11,PX 11 n c (i+1) (part f i g.i))]⟩) (fun g=>c-g.i) ⟨0,by omega⟩ ?_ ?_
  ·refine aj ⟨rfl,trivial⟩ ?_;simp[wk]
  rintro⟨j,C⟩;simp only;by_cases e:j<c
  ·have s:=abo (n:=n) (c:=c) (f:=f) h e t x (v i j h e);have q:=ez (n:=i+1) c (part f i j) (show i<i+1 by omega);have r:=aB (part f i j i) e;refine aH @r7.eq_1 (k:=aV rfl (ai (am (bi (k:=?_)))));simp only[PX];refine eQ [⟨8,_,_,_,s⟩] (aC @r7.eq_1 (aC p (aC q (aC r @js)))) (k:=bu (k:=?_));refine⟨⟨j+1,by omega⟩,by grind,aj ⟨?_,trivial⟩ ?_⟩
   ·show _::_=_::_;simp_all[bO,ik]
   simp[wk]
  have o:j=c:=by omega
  subst o;refine aH @r7.eq_1 (k:=aW rfl (bu (k:=?_)));refine⟨⟨i+1,by omega⟩,by grind,aj ⟨?_,trivial⟩ ?_⟩
  ·show _::_=_::_;grind [bO,jx]
  simp[wk]
 have m:i=n:=by omega
 subst m;rw[QS];refine aH @r7.eq_1 (k:=aW rfl (bi (k:=?_)));refine aQ ⟨.inr rfl,_,bJ.refl _,?_⟩;refine⟨.one (.sl 11 0 0 i),11,?_,rfl,?_,rfl⟩
 ·simp(disch:=omega) only[kd,results231]
 show ij 0 i c f=(ij 11 i c (part f i 0)).map (renO 0);rw[gk 11 0];grind [bO,jw]
theorem xk (n c:Nat) (f:FF) (h:1<=n) (t:n<=16) (b:1<=c) (q:c<=16) (s: ∀i j,i<n->j<c-> -9223372036854775808<=f i j/\f i j<=9223372036854775807):
  CallC prog 201 [cw (mat n c f)] ⟨[],UL (mat n c f)⟩:=by
 have g:=aU n c f;have v:=kw (M:=mat n c f) (by omega);have w:=bD (n:=n) c f (i:=0) (by omega);have e:(mat n c f).headD []=aN c (f 0):=by grind
 have m:IL (mat n c f):=⟨by omega,by omega,fun r u=>by
  obtain⟨i,_,rfl⟩:=acn.1 u;grind [aD]⟩
 have o:=TA (mat n c f);rw[jB m,g,e,aD]at o;have p:=Vn n c f h t b q s;unfold UL;refine fL func201 rfl (by kernel_rfl) ?_;rw[ntmps201];refine aw fun _ K=>?_;simp(disch:=omega) only[kd,aa,cw,ae];apply K
 refine bC [⟨1,_,_,_,o⟩] [] fun _ K=>?_;simp only[kd,cw,aa];apply K
 refine ai (aw fun _ K=>?_);simp only[kd];apply K;refine ao rfl (ak ?_);show bA _ _ _ _;refine bA.weak ((tz 1 1 (cs:=[.sl (ls (fR fI) (mat n c f))]) rfl rfl).trans (aj (tm:=(jk::.one (r7 (mat n c f))::jk::jk::rN n::rN c::j4 (j4 (j4 (jk::[]))))) (l:=[]) trivial (by simp[wk,fk,dP,aF,Hm]))) ?_;refine bC [⟨3,_,_,_,p⟩] [] fun _ K=>?_;simp only[kd,r7,aa,ko];apply K
 refine bA.weak (aj (tm:=(jk::jk::.one (.sl 18 0 0 n)::.raw (.bool true)::j4 (j4 (j4 (jk::jk::jk::[]))))) (l:=[(18,ij 18 n c f)]) ⟨gk 0 18 n c f,trivial⟩ (by simp[wk])) ?_;refine bA.weak ((bF 18 (jo rfl)).trans (aj (tm:=(jk::jk::dr (mat n c f)::.raw (.bool true)::j4 (j4 (j4 (jk::jk::jk::[]))))) (l:=[]) trivial (by simp[wk];exact⟨(RG (H:=Hm [(18,ij 18 n c f)]) (d:=18) (n:=n) (c:=c) (f:=f) rfl).symm,rfl⟩))) ?_
 (refine aQ ⟨.inr rfl,b8 rfl ?_ rfl⟩;simp(disch:=omega) only[kd,results201,dr])
end Go.Proofs.YtalmoejhjceflaaGreat
