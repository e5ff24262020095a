/-
  Part 26 of a proof (walks and plain facts).
-/
import Derived.Test.YtalmoejhjceflaaGreatV24
set_option linter.all false
set_option maxRecDepth 100000
set_option maxHeartbeats 64000000
open Nat renaming reduceAdd → aa
open Nat renaming reduceEqDiff → ae
open List renaming replicate → af
open Int renaming reduceToNat → ai
namespace Go.Proofs.YtalmoejhjceflaaGreat
open Go.RowKit Go.Proofs.Tryz
variable {n m:Nat} {b:FF}
structure SpG (M:List (List Int)) where
 i:Nat
 hi:i<=M.length
 ok: ∀r∈M.take i,r.length=(M.headD []).length
theorem Ps {l:FuncId} (m:l=230\/l=239) (e:Int->List PV) (M:List (List Int)):CallC prog l [.one (.p (.sl (ls (fR e) M)))] ⟨[],shT M⟩:=by
 rcases m with rfl|rfl
 all_goals
  by_cases v:M.length<1
  ·rw[ng (fun h=>by have:=h.1;omega)]
   first|(refine b6 func230 rfl (by kernel_rfl) ?_;rw[ntmps230])|(refine b6 func239 rfl (by kernel_rfl) ?_;rw[ntmps239])
   (first|refine am fun _ K=>?_|refine aj (am fun _ K=>?_)|refine aj (aj (am fun _ K=>?_)));simp only[kd,aa,af];apply K
   (first|refine am fun _ K=>?_|refine aj (am fun _ K=>?_)|refine aj (aj (am fun _ K=>?_)));simp(disch:=omega) only[kd,aa,reduceCtorEq];apply K
   first|refine aC rfl ?_|refine aX rfl (fun _=>?_) (fun h=>by simp at h<;>omega)
   (first|refine am fun _ K=>?_|refine aj (am fun _ K=>?_)|refine aj (aj (am fun _ K=>?_)));simp only[kd,aa];apply K
   (refine aM ⟨.inr rfl,bQ rfl ?_ rfl⟩;simp(disch:=omega) only[kd,results230,results239])
  by_cases w:16<M.length
  ·rw[ng (fun h=>by have:=h.2.1;omega)]
   first|(refine b6 func230 rfl (by kernel_rfl) ?_;rw[ntmps230])|(refine b6 func239 rfl (by kernel_rfl) ?_;rw[ntmps239])
   (first|refine am fun _ K=>?_|refine aj (am fun _ K=>?_)|refine aj (aj (am fun _ K=>?_)));simp only[kd,aa,af];apply K
   (first|refine am fun _ K=>?_|refine aj (am fun _ K=>?_)|refine aj (aj (am fun _ K=>?_)));simp(disch:=omega) only[kd,aa];apply K
   first|refine aC rfl ?_|refine aX rfl (fun _=>?_) (fun h=>by simp at h<;>omega)
   (first|refine am fun _ K=>?_|refine aj (am fun _ K=>?_)|refine aj (aj (am fun _ K=>?_)));simp only[kd,aa];apply K
   (refine aM ⟨.inr rfl,bQ rfl ?_ rfl⟩;simp(disch:=omega) only[kd,results230,results239])
  have j:=vj (M:=M) (by omega);have b:M.headD []∈M:=adQ j;by_cases s:(M.headD []).length<1
  ·rw[ng (fun h=>by have:=(h.2.2 _ b).1;omega)]
   first|(refine b6 func230 rfl (by kernel_rfl) ?_;rw[ntmps230])|(refine b6 func239 rfl (by kernel_rfl) ?_;rw[ntmps239])
   (first|refine am fun _ K=>?_|refine aj (am fun _ K=>?_)|refine aj (aj (am fun _ K=>?_)));simp only[kd,aa,af];apply K
   (first|refine am fun _ K=>?_|refine aj (am fun _ K=>?_)|refine aj (aj (am fun _ K=>?_)));simp(disch:=omega) only[kd,aa];apply K
   first|refine aq rfl (al ?_)|refine aX rfl (fun h=>by simp at h<;>omega) (fun _=>al ?_)
   show bv _ _ _ _
   (first|refine am fun _ K=>?_|refine aj (am fun _ K=>?_)|refine aj (aj (am fun _ K=>?_)));simp(disch:=omega) only[kd,aa,ai,j,fR];apply K
   (first|refine am fun _ K=>?_|refine aj (am fun _ K=>?_)|refine aj (aj (am fun _ K=>?_)));simp(disch:=omega) only[kd,aa,reduceCtorEq];apply K
   first|refine aC rfl ?_|refine aX rfl (fun _=>?_) (fun h=>by simp at h<;>omega)
   (first|refine am fun _ K=>?_|refine aj (am fun _ K=>?_)|refine aj (aj (am fun _ K=>?_)));simp only[kd,aa];apply K
   (refine aM ⟨.inr rfl,bQ rfl ?_ rfl⟩;simp(disch:=omega) only[kd,results230,results239])
  by_cases t:16<(M.headD []).length
  ·rw[ng (fun h=>by have:=(h.2.2 _ b).2.1;omega)]
   first|(refine b6 func230 rfl (by kernel_rfl) ?_;rw[ntmps230])|(refine b6 func239 rfl (by kernel_rfl) ?_;rw[ntmps239])
   (first|refine am fun _ K=>?_|refine aj (am fun _ K=>?_)|refine aj (aj (am fun _ K=>?_)));simp only[kd,aa,af];apply K
   (first|refine am fun _ K=>?_|refine aj (am fun _ K=>?_)|refine aj (aj (am fun _ K=>?_)));simp(disch:=omega) only[kd,aa];apply K
   first|refine aq rfl (al ?_)|refine aX rfl (fun h=>by simp at h<;>omega) (fun _=>al ?_)
   show bv _ _ _ _
   (first|refine am fun _ K=>?_|refine aj (am fun _ K=>?_)|refine aj (aj (am fun _ K=>?_)));simp(disch:=omega) only[kd,aa,ai,j,fR];apply K
   (first|refine am fun _ K=>?_|refine aj (am fun _ K=>?_)|refine aj (aj (am fun _ K=>?_)));simp(disch:=omega) only[kd,aa];apply K
   first|refine aC rfl ?_|refine aX rfl (fun _=>?_) (fun h=>by simp at h<;>omega)
   (first|refine am fun _ K=>?_|refine aj (am fun _ K=>?_)|refine aj (aj (am fun _ K=>?_)));simp only[kd,aa];apply K
   (refine aM ⟨.inr rfl,bQ rfl ?_ rfl⟩;simp(disch:=omega) only[kd,results230,results239])
  first|(refine b6 func230 rfl (by kernel_rfl) ?_;rw[ntmps230])|(refine b6 func239 rfl (by kernel_rfl) ?_;rw[ntmps239])
  (first|refine am fun _ K=>?_|refine aj (am fun _ K=>?_)|refine aj (aj (am fun _ K=>?_)));simp only[kd,aa,af];apply K
  (first|refine am fun _ K=>?_|refine aj (am fun _ K=>?_)|refine aj (aj (am fun _ K=>?_)));simp(disch:=omega) only[kd,aa];apply K
  first|refine aq rfl (al ?_)|refine aX rfl (fun h=>by simp at h<;>omega) (fun _=>al ?_)
  show bv _ _ _ _
  (first|refine am fun _ K=>?_|refine aj (am fun _ K=>?_)|refine aj (aj (am fun _ K=>?_)));simp(disch:=omega) only[kd,aa,ai,j,fR];apply K
  (first|refine am fun _ K=>?_|refine aj (am fun _ K=>?_)|refine aj (aj (am fun _ K=>?_)));simp(disch:=omega) only[kd,aa];apply K
  first|refine aq rfl (al ?_)|refine aX rfl (fun h=>by simp at h<;>omega) (fun _=>al ?_)
  show bv _ _ _ _
  (first|refine am fun _ K=>?_|refine aj (am fun _ K=>?_)|refine aj (aj (am fun _ K=>?_)));simp only[kd,aa];apply K
  refine ay (G:=SpG M) (fun g=>⟨(.one (.p (.sl (ls (fR e) M)))::j4 (.raw (.int .i64 ((M.headD []).length:Int))::j16 (j4 (.one (.p (.sl (ls (fR e) M)))::rN M.length::rN g.i::j4 (j4 (jk::jk::jk::[])))))),Hm []⟩) (fun g=>M.length-g.i) ⟨0,by omega,fun r f=>by simp at f⟩ ?_ ?_
  ·refine ak trivial ?_;simp[wk]
  rintro⟨i,x,ok⟩;simp only;by_cases o:i<M.length
  ·obtain⟨r,f⟩:=getElem?_of_lt o;have c:r∈M:=adQ f
   (first|refine am fun _ K=>?_|refine aj (am fun _ K=>?_)|refine aj (aj (am fun _ K=>?_)));simp(disch:=omega) only[kd];apply K
   first|refine aP rfl ?_|refine aj (aX rfl (fun _=>al ?_) (fun h=>by simp at h<;>omega))
   refine aj (ao ?_)
   (first|refine am fun _ K=>?_|refine aj (am fun _ K=>?_)|refine aj (aj (am fun _ K=>?_)));simp(disch:=omega) only[kd,aa,f,fR];apply K
   by_cases u:r.length=(M.headD []).length
   ·(first|refine am fun _ K=>?_|refine aj (am fun _ K=>?_)|refine aj (aj (am fun _ K=>?_)));simp(disch:=omega) only[kd,aa];apply K
    first|refine aq rfl (al ?_)|refine aX rfl (fun h=>by simp at h<;>omega) (fun _=>al ?_)
    show bv _ _ _ _;refine bK (k:=?_);refine⟨⟨i+1,by omega,fun y q=>?_⟩,by simp only;omega,ak trivial ?_⟩
    ·grind [List.take_add_one]
    simp[wk]
   rw[ng (fun h=>by have:=(h.2.2 r c).2.2;omega)]
   (first|refine am fun _ K=>?_|refine aj (am fun _ K=>?_)|refine aj (aj (am fun _ K=>?_)));simp(disch:=omega) only[kd,aa];apply K
   first|refine aC rfl ?_|refine aX rfl (fun _=>?_) (fun h=>by simp at h<;>omega)
   (first|refine am fun _ K=>?_|refine aj (am fun _ K=>?_)|refine aj (aj (am fun _ K=>?_)));simp only[kd,aa];apply K
   (refine aM ⟨.inr rfl,bQ rfl ?_ rfl⟩;simp(disch:=omega) only[kd,results230,results239])
  have n:Td M:=⟨by omega,by omega,fun r f=>by
   grind⟩
  rw[jx n]
  (first|refine am fun _ K=>?_|refine aj (am fun _ K=>?_)|refine aj (aj (am fun _ K=>?_)));simp(disch:=omega) only[kd];apply K
  first|refine aQ rfl ?_|refine aj (aX rfl (fun h=>by simp at h<;>omega) (fun _=>aT ?_))
  show bv _ _ _ _
  (first|refine am fun _ K=>?_|refine aj (am fun _ K=>?_)|refine aj (aj (am fun _ K=>?_)));simp only[kd,aa];apply K
  (refine aM ⟨.inr rfl,bQ rfl ?_ rfl⟩;simp(disch:=omega) only[kd,results230,results239])
theorem Wx (M:List (List Int)):CallC prog 230 [bV M] ⟨[],shT M⟩:=Ps (.inl rfl) fI M
theorem JF (M:List (List Int)):CallC prog 239 [dq M] ⟨[],shT M⟩:=Ps (.inr rfl) fZ M
theorem VW (n:Nat) (f:FF) (b:1<=n) (e:n<=16):CallC prog 252 [dq (mat n n f)] ⟨[],.tup [(false,[.p (.raw (.int .i64 (n:Int)))]),(false,[.p (.raw (.int .i64 (n:Int)))]),(false,[.p (.raw (.bool true))])]⟩:=by
 have c:=JF (mat n n f);rw[jx (mo f b e b e),aS,j7 f b]at c;refine aB func252 rfl ntmps252 (aE (k:=bu [⟨1,_,_,_,c⟩] (k:=aI @results252)))
theorem RE (n:Nat) (f:FF) (b:1<=n) (e:n<=16):CallC prog 233 [dq (mat n n f)] ⟨[],.tup [(false,[.p (.raw (.int .i64 (n:Int)))]),(false,[.p (.raw (.bool true))])]⟩:=by
 have c:=VW n f b e;refine aB func233 rfl ntmps233 (aE (k:=bu [⟨1,_,_,_,c⟩] (k:=ax (k:=aI @results233))))
theorem YO (a b c d e:Int) (g:Sz a 2) (h:Sz b 2) (j:Sz c 2) (m:Sz d 2) (r:Sz e 2) (f:e≠0) (s:(a*d-b*c).natAbs<18446744073709551616):
  CallC prog 238 [tZ a,tZ b,tZ c,tZ d,tZ e] ⟨[],tZ ((a*d-b*c)/e)⟩:=by
 have t:=g.mul m;have u:=h.mul j;have n:=Fj a d (g.mono (by omega)) (m.mono (by omega));have o:=Fj b c (h.mono (by omega)) (j.mono (by omega));have p:=UV (a*d) (b*c) (t.mono (by omega)) (u.mono (by omega));have q:=DB (a*d-b*c) e f s r;refine aB func238 rfl ntmps238 (aE (k:=?_));refine bv.weak (ak (tm:=(j4 (jk::.one (.ptr 5 0 0 0)::.one (.ptr 6 0 0 0)::.one (.ptr 7 0 0 0)::.one (.ptr 8 0 0 0)::.one (.ptr 9 0 0 0)::.one (.ptr 10 0 0 0)::j16 (jk::[])))) (l:=[(5,oh a),(6,oh b),(7,oh c),(8,oh d),(9,oh e),(10,sX)]) ⟨rfl,rfl,rfl,rfl,rfl,rfl,trivial⟩ (by simp[wk])) ?_;refine dR [⟨2,_,_,_,n⟩,⟨5,_,_,_,o⟩,⟨6,_,_,_,p⟩,⟨8,_,_,_,q⟩] (k:=ax (k:=aI @results238))
abbrev nX (M:List (List Int)):List PV:=[.sl (ls (fR fZ) M)]
theorem ac2 {i:Nat} (h:i<n) (l:m<n) (q:n<=16) (g:Bg (b i m)):
  CallC prog 235 [.raw (.int .i64 (i:Int)),.raw (.int .i64 (m:Int)),.one (.p (.ptr (nX (mat n n b))))] ⟨[],tZ (b i m)⟩:=by
 have o:=bA n b h;have c:=aw (b i) l;have e:=Fk (b i m) g;refine aB func235 rfl ntmps235 (aE (k:=ce [⟨7,_,_,_,e⟩] (aG o c) (k:=aI @results235)))
theorem ac3 (c:Nat) {last:Int} {i:Nat} (s:i+1<n) (f:m+1<n) (B:n<=16) (e: ∀i m,i<n->m<n->Sz (b i m) 2) (x:Sz last 2) (t:last≠0) (y:(b 0 0*b (i+1) (m+1)-b (i+1) 0*b 0 (m+1)).natAbs<18446744073709551616):
  CallT prog c 65 237 [.raw (.int .i64 (i:Int)),.raw (.int .i64 (m:Int)),.one (.p (.ptr (nX (mat n n b)))),.raw (.pointer (some ⟨c,0,none⟩))] (fZ last)
   ⟨[],tZ ((b 0 0*b (i+1) (m+1)-b (i+1) 0*b 0 (m+1))/last)⟩ (fZ last):=by
 have z:=bA n b (show 0<n by omega);have A:=bA n b s;have h:=aw (b 0) (show 0<n by omega);have o:=aw (b 0) f;have q:=aw (b (i+1)) (show 0<n by omega);have r:=aw (b (i+1)) f;have u:((i:Int)+1).toNat=i+1:=by omega
 have v:((m:Int)+1).toNat=m+1:=by omega
 have w:=YO (b 0 0) (b (i+1) 0) (b 0 (m+1)) (b (i+1) (m+1)) last (e _ _ (by omega) (by omega)) (e _ _ s (by omega)) (e _ _ (by omega) f) (e _ _ s f) x t y;refine mM func237 rfl (by kernel_rfl) ?_;rw[ntmps237];refine Hr 3 900 rfl rfl (lu ?_);refine eF.weak (ak (tm:=(.raw (.int .i64 (i:Int))::rN m::.one (.p (.ptr (nX (mat n n b))))::.one (.ptr 900 0 0 0)::j16 (j16 (jk::[])))) (l:=[(900,oh last)]) ⟨rfl,trivial⟩ (by simp[wk,HV,Ar,af])) ?_;refine bU (k:=?_);refine ov bZ [⟨29,_,_,_,w⟩] [] (by kernel_rfl) (by kernel_rfl) fun _ K=>?_;simp(disch:=omega) only[kd,tZ,aa,ai,z,fR,h,fZ,aH,u,A,q,v,o,r,ae];apply K
 refine dX ⟨fZ last,rfl,rfl,.inr rfl,rfl,bQ rfl ?_ rfl⟩;simp(disch:=omega) only[kd,results237,yT,qz,ae,aa,tZ]
abbrev QQ (n:Nat) (f:FF) (k:Nat):List (List Int):=mat (n-k) (n-k) (kZ f k)
def yW (n:Nat) (f:FF) (k:Nat):List (List (List Int)):=(List.range k).map (QQ n f)
theorem WL (n:Nat) (f:FF) (k:Nat):yW n f k++[QQ n f k]=yW n f (k+1):=by simp[yW,afH]
theorem wu (n:Nat) (f:FF) (k:Nat):(yW n f k).length=k:=by simp[yW]
theorem Uw (n:Nat) (f:FF):mat n n f=QQ n f 0:=gJ fun i j _ _=>by
 show f i j=bk f 0 (0+i) (0+j);grind [de]
def fM (M:List (List Int)):List PV:=[.sl (ls (fR fZ) M)]
theorem Vc (l:List (List (List Int))) (M:List (List Int)):lc fM l++[[.p (.sl (ls (fR fZ) M))]]=lc fM (l++[M]):=by simp[lc,fM]
structure SR (n:Nat) (f:FF):Prop where
 n1:1<=n
 n16:n<=16
 d: ∀k,k<=n->dk f k≠0/\(dk f k).natAbs<65536
 s: ∀k i j,k<n->k<=i->i<n->k<=j->j<n->(bk f k i j).natAbs<=34359738368
theorem SR.nz (h:SR n b) {k:Nat} (c:k<=n): ∀t,t<k->dk b (t+1)≠0:=fun t e=>(h.d _ (by omega)).1
theorem SR.i {n:Nat} {f:FF} (h:SR n f) (i j:Nat) (b:i<n) (c:j<n):ju (f i j):=by
 have:=h.s 0 i j (by omega) (afl _) b (afl _) c;rw[de]at this;constructor<;>omega
structure SgG (n:Nat) where
 k:Nat
 hk:k<n
theorem G6 {n:Nat} {f:FF} (e:SR n f):CallC prog 202 [dq (mat n n f)] ⟨[],.tup [(false,[.p (.sl (ls fM (yW n f n)))]),(false,[.p (.raw (.bool true))])]⟩:=by
 have c:=e.n1;have t:=e.n16;have E:=RE n f c t;have D:=qX 1 (by omega) (by omega);have F:=aai 235 (nX (mat n n f)) n n f c t c t (fun i j q r=>ac2 q r t (((e.i i j q r).sz (aeJ 2)).mono (by omega)));refine b6 func202 rfl (by kernel_rfl) ?_;rw[ntmps202];refine am fun _ K=>?_;simp(disch:=omega) only[kd,aa,dq,af];apply K
 refine Qj ?_;refine bf [⟨1,_,_,_,E⟩] [] fun _ K=>?_;simp only[kd,dq,aa];apply K
 refine aj (am fun _ K=>?_);simp only[kd];apply K;refine aq rfl (al ?_);show bv _ _ _ _;refine bv.weak ((uI 1 1 (cs:=nX (mat n n f)) rfl rfl).trans (ak (tm:=(jk::.one (.p (.ptr (nX (mat n n f))))::.raw (.slice none 0 0)::.raw (.bool false)::rN n::j16 (j16 (j16 (j4 (j4 (jk::[]))))))) (l:=[]) trivial (by simp[wk,f5,gn]))) ?_;refine bf [⟨3,_,_,_,F⟩] [] fun _ K=>?_;simp only[kd,dq,aa,lB];apply K
 refine bf [⟨0,_,_,_,D⟩] [] fun _ K=>?_;simp(disch:=omega) only[kd,tZ,aa];apply K
 refine am fun _ K=>?_;simp only[kd];apply K
 refine aj (Qh ?_);show bv _ _ _ _;refine aj (am fun _ K=>?_);simp only[kd];apply K;refine ay (G:=SgG n) (fun g=>⟨(jk::jk::.raw (.slice none 0 0)::.raw (.bool false)::rN n::jk::dq (QQ n f g.k)::.one (.ptr 7 0 0 0)::.one (.sl 30 0 0 g.k)::j4 (j4 (j4 (jk::jk::rN n::rN g.k::j16 (j16 (j4 (jk::[]))))))),Hm [(7,oh (dk f g.k)),(30,[⟨42,1,lc fM (yW n f g.k)⟩])]⟩) (fun g=>n-g.k) ⟨0,c⟩ ?_ ?_
 ·refine(ca (k:=8) (d:=30) 42 1 (by omega) rfl rfl).trans (ak ⟨?_,rfl,trivial⟩ ?_)
  ·rfl
  simp[wk];grind [Uw]
 rintro⟨k,H⟩;simp only;have nz:=e.nz (k:=k) (by omega);have sz: ∀i j,i<n-k->j<n-k->Sz (kZ f k i j) 2:=fun i j q r=>by
  have:=e.s k (k+i) (k+j) H (by omega) (by omega) (by omega) (by omega);show(bk f k (k+i) (k+j)).natAbs<_;omega
 obtain⟨o,u⟩:=e.d k (by omega);have L:=(e.d (k+1) (by omega)).1;have A:=bA (n-k) (kZ f k) (show 0<n-k by omega);have y:=aw (kZ f k 0) (show 0<n-k by omega);have m:=Oz (kZ f k 0 0) ((sz 0 0 (by omega) (by omega)).mono (by omega));have x:=WL n f k;have w:=wu n f k;refine am fun _ K=>?_;simp(disch:=omega) only[kd,dq];apply K
 refine aP rfl ?_;refine aj (ao ?_);refine am fun _ K=>?_;simp only[kd];apply K
 refine am fun _ K=>?_;simp(disch:=omega) only[kd,aa,Nat.reduceMul,Nat.reduceLeDiff,ae,w,Vc,x,Nat.reduceBEq];apply K
 refine aj (ao ?_);by_cases I:k=n-1
 ·refine am fun _ K=>?_;simp(disch:=omega) only[kd,aa,aH];apply K
  refine aC rfl (aT ?_);show bv _ _ _ _;have v:k+1=n:=by omega
  rw[v];have z:=wu n f n;refine am fun _ K=>?_;simp only[kd,aa];apply K
  refine aM ⟨.inr rfl,dI 30 (bj rfl) ?_ rfl⟩;have B:List.take n (yW n f n)=yW n f n:=aeS (by omega);simp(disch:=omega) only[kd,results202,ae,B]
 refine am fun _ K=>?_;simp(disch:=omega) only[kd,aa,aH];apply K
 refine aq rfl ?_;have J:=yF L;rw[oG]at m y;refine bf [⟨5,_,_,_,m⟩] [] fun _ K=>?_;simp(disch:=omega) only[kd,tZ,aa,ai,A,fR,y,fZ];apply K
 refine aq rfl (al ?_);show bv _ _ _ _;refine am fun _ K=>?_;simp(disch:=omega) only[kd,aa,ae];apply K
 refine bv.weak ((uI 10 10 (cs:=nX (QQ n f k)) rfl rfl).trans (ak (tm:=(jk::jk::.raw (.slice none 0 0)::.raw (.bool false)::rN n::jk::jk::.one (.ptr 7 0 0 0)::.one (.sl 30 0 0 (k+1))::rN k::.one (.p (.ptr (nX (QQ n f k))))::j4 (j4 (j4 (.raw (.int .i64 (n:Int))::rN k::j16 (j16 (j4 (jk::[])))))))) (l:=[(7,oh (dk f k)),(30,[⟨42,1,lc fM (yW n f (k+1))⟩])]) ⟨rfl,rfl,trivial⟩ (by simp[wk,f5,gn]))) ?_;refine aj (tu 7 (cs:=fZ (dk f k)) rfl fun b=>?_);refine fx.weak (ak (tm:=(jk::jk::.raw (.slice none 0 0)::.raw (.bool false)::rN n::jk::jk::fk b::.one (.sl 30 0 0 (k+1))::rN k::.one (.p (.ptr (nX (QQ n f k))))::j4 (j4 (j4 (.raw (.int .i64 (n:Int))::rN k::j16 (j16 (j4 (jk::[])))))))) (l:=[(30,[⟨42,1,lc fM (yW n f (k+1))⟩])]) ⟨rfl,trivial⟩ (by simp[wk,yT,qz])) ?_;have h:=aaj 237 (nX (QQ n f k)) b 65 (fZ (dk f k)) (n-(k+1)) (n-(k+1)) (fun i j=>(kZ f k 0 0*kZ f k (i+1) (j+1)-kZ f k (i+1) 0*kZ f k 0 (j+1))/dk f k) (by omega) (by omega) (by omega) (by omega)
  (fun i j q r=>ac3 b (by omega) (by omega) (by omega) sz (by show _<_;omega) o (by
   have:=e.s (k+1) (k+1+i) (k+1+j) (by omega) (by omega) (by omega) (by omega) (by omega);rw[E9 nz,afr];exact agd (afd (ahN u) this) (by decide)))
 rw[gJ fun i j _ _=>(by rw[E9 nz,ah6 _ o]:_=kZ f (k+1) i j)]at h;have C:((n-(k+1):Nat):Int)=(n:Int)-(k:Int)-1:=by omega
 rw[C]at h;refine jI 9 h [] [] (by kernel_rfl) (by rfl) (by rfl) fun _ K=>?_;simp(disch:=omega) only[kd,dq,aa,fk,aH,lB];apply K
 refine⟨rfl,?_⟩;show bv _ _ _ _;refine bv.weak (ak (tm:=(jk::jk::.raw (.slice none 0 0)::.raw (.bool false)::rN n::jk::dq (QQ n f (k+1))::.one (.ptr 7 0 0 0)::.one (.sl 30 0 0 (k+1))::jk::.one (.p (.ptr (nX (QQ n f k))))::j4 (j4 (j4 (.raw (.int .i64 (n:Int))::rN k::j16 (j16 (j4 (jk::[])))))))) (l:=[(7,oh (dk f k)),(30,[⟨42,1,lc fM (yW n f (k+1))⟩])]) ⟨rfl,rfl,trivial⟩ (by simp[wk,HV,Ar])) ?_;refine cJ fun _ K=>?_;simp(disch:=omega) only[kd,aa,dq,ai,A,fR,y,fZ,ae];apply K
 show bv _ _ _ _;refine cJ fun _ K=>?_;simp(disch:=omega) only[kd,aH];apply K
 refine⟨⟨k+1,by omega⟩,by simp only;omega,ak ⟨rfl,rfl,trivial⟩ ?_⟩;simp[wk]
abbrev tJ (M:List (List Int)):AV:= .p (.ptr [.sl (ls (fR fI) M)])
theorem adN {n c:Nat} {f:FF} {i:Nat} (h:i<n) (l:m<c) (q:c<=16) (r:n<=16) (e: -9223372036854775808<=f i m/\f i m<=9223372036854775807):
  CallC prog 232 [.raw (.int .i64 (i:Int)),.raw (.int .i64 (m:Int)),.one (tJ (mat n c f))] ⟨[],tZ (f i m)⟩:=by
 have o:=aS n c f;have p:=bA c f h;have b:=aw (f i) l;have g:=qX (f i m) e.1 e.2;refine aB func232 rfl ntmps232 (je @tJ.eq_1 (k:=ce [⟨7,_,_,_,g⟩] (aG p b) (k:=aI @results232)))
def SS (d n c i:Nat) (g:FF):List OObj:=⟨85,1,kw d (af i c)++af (n-i) [.p (.sl [])]⟩::(mat i c g).map rH
theorem Qy (d n c:Nat) (g:FF):([⟨85,1,af n [.raw (.slice none 0 0)]⟩]:List OObj).map zO=SS d n c 0 g:=by
 simp[SS,mat,zO,kw,GP,GV]
theorem TQ (d n c:Nat) (g:FF):SS d n c n g=gC d n c g:=by
 simp[SS]
theorem TR {d i:Nat} (g:FF) (j:i<n) (l: ∀b,b<m->g i b=0):
  ((⟨85,1,(kw d (af i m)++af (n-i) [AV.p (PV.sl [])]).set i [.sl d (i+1) 0 m]⟩::(mat i m g).map rH++[⟨65,2,af m [.raw (.bool false),.raw (.slice none 0 0)]⟩]:List OObj)).map zO=SS d n m (i+1) g:=by
 have e:(kw d (af i m)++af (n-i) [AV.p (PV.sl [])]).set i [.sl d (i+1) 0 m]=kw d (af (i+1) m)++af (n-(i+1)) [AV.p (PV.sl [])]:=by
  rw[ahe _ _ (by simp[eQ]),eQ,afc,afO,agS (n:=i),ws,afc,ae8]
  congr 1
  rw[show n-i=n-(i+1)+1 by omega,agG];rfl
 have f:aA m (g i)=af m 0:=by
  apply aeW;grind [aw,az]
 have h:mat (i+1) m g=mat i m g++[aA m (g i)]:=by simp[mat,afH]
 rw[e];simp only[agr,aeX,afv,SS,h,aga]
 congr 1
 ·simp[zO,abl,GP,GV]
 congr 1
 ·grind [List.map_congr_left,zO,rH,ad2]
 simp[f,zO,rH,lc,fZ,GP,GV,cX,ls]
theorem Yx {d n c i k:Nat} (h:k<i):(kw d (af i c)++af (n-i) [AV.p (PV.sl [])])[k]?=some [.sl d (k+1) 0 c]:=by
 grind [eQ,bO]
theorem Yy {d n c i:Nat} (h:i<=n):(kw d (af i c)++af (n-i) [AV.p (PV.sl [])]).length=n:=by grind [eQ]
theorem Yz (n c:Nat) (f:FF) (y:1<=n) (x:n<=16) (u:1<=c) (t:c<=16) (v: ∀i j,i<n->j<c-> -9223372036854775808<=f i j/\f i j<=9223372036854775807):
  CallC prog 231 [.raw (.int .i64 (n:Int)),.raw (.int .i64 (c:Int)),.fn 232 [tJ (mat n c f)]] ⟨gC 0 n c f,.one (.sl 0 0 0 n)⟩:=by
 refine aB func231 rfl ntmps231 (je @tJ.eq_1 (k:=ax (k:=aj (aZ (k:=?_)))));refine ay (G:=fp n) (fun g=>⟨(jk::rN c::.fn 232 [tJ (mat n c f)]::j4 (.one (.sl 11 0 0 n)::j4 (jk::rN n::rN g.i::j16 (j4 (j4 (j4 ([]))))))),Hm [(11,SS 11 n c g.i (part f g.i 0))]⟩) (fun g=>n-g.i) ⟨0,by omega⟩ ?_ ?_
 ·refine(io 11).trans (ak ⟨Qy 11 n c _,trivial⟩ ?_);simp[wk]
 rintro⟨i,B⟩;simp only;by_cases h:i<n
 ·have w:=P6 (d:=11) (c:=c) h;refine aF @tJ.eq_1 (k:=aP rfl (aj (ao (aZ (k:=?_)))));simp only[SS];refine aF (aG w (aG @afc (aG @agb @aS))) (k:=?_);refine bv.weak ((io 11).trans (ak (tm:=(jk::rN c::.fn 232 [tJ (mat n c f)]::j4 (.one (.sl 11 0 0 n)::rN i::j4 (.raw (.int .i64 (n:Int))::rN i::j16 (j4 (j4 (j4 ([])))))))) (l:=[(11,SS 11 n c (i+1) (part f i 0))]) ⟨TR (part f i 0) h (fun b _=>by simp[part]),trivial⟩ (by simp[wk]))) ?_;have p:=Yx (d:=11) (n:=n) (c:=c) (show i<i+1 by omega);have z:=Yy (d:=11) (n:=n) (c:=c) (show i+1<=n by omega);have A:=dp (n:=i+1) c (part f i 0) (show i<i+1 by omega);simp only[SS];refine aF (aG @tJ.eq_1 p) (k:=?_);refine ay (G:=fp c) (fun g=>⟨(jk::rN c::.fn 232 [tJ (mat n c f)]::j4 (.one (.sl 11 0 0 n)::rN i::j4 (.raw (.int .i64 (n:Int))::rN i::j4 (j4 (jk::jk::jk::rN c::rN g.i::j4 (j4 (j4 (jk::jk::jk::[])))))))),Hm [(11,SS 11 n c (i+1) (part f i g.i))]⟩) (fun g=>c-g.i) ⟨0,by omega⟩ ?_ ?_
  ·refine ak ⟨rfl,trivial⟩ ?_;simp[wk]
  rintro⟨j,C⟩;simp only;by_cases e:j<c
  ·have s:=adN (n:=n) (c:=c) (f:=f) h e t x (v i j h e);have q:=dp (n:=i+1) c (part f i j) (show i<i+1 by omega);have r:=aw (part f i j i) e;refine aF @tJ.eq_1 (k:=aP rfl (aj (ao (aZ (k:=?_)))));simp only[SS];refine fP [⟨8,_,_,_,s⟩] (aG @tJ.eq_1 (aG p (aG q (aG r @gS)))) (k:=bK (k:=?_));refine⟨⟨j+1,by omega⟩,by grind,ak ⟨?_,trivial⟩ ?_⟩
   ·show _::_=_::_;simp_all[bC,ij]
   simp[wk]
  have o:j=c:=by omega
  subst o;refine aF @tJ.eq_1 (k:=aQ rfl (bK (k:=?_)));refine⟨⟨i+1,by omega⟩,by grind,ak ⟨?_,trivial⟩ ?_⟩
  ·show _::_=_::_;grind [bC,jr]
  simp[wk]
 have m:i=n:=by omega
 subst m;rw[TQ];refine aF @tJ.eq_1 (k:=aQ rfl (aZ (k:=?_)));refine aM ⟨.inr rfl,_,bN.refl _,?_⟩;refine⟨.one (.sl 11 0 0 i),11,?_,rfl,?_,rfl⟩
 ·simp(disch:=omega) only[kd,results231]
 show gC 0 i c f=(gC 11 i c (part f i 0)).map (renO 0);rw[fD 11 0];grind [bC,jq]
theorem yz (n c:Nat) (f:FF) (h:1<=n) (t:n<=16) (b:1<=c) (q:c<=16) (s: ∀i j,i<n->j<c-> -9223372036854775808<=f i j/\f i j<=9223372036854775807):
  CallC prog 201 [bV (mat n c f)] ⟨[],fiY (mat n c f)⟩:=by
 have g:=aS n c f;have v:=vj (M:=mat n c f) (by omega);have w:=bA (n:=n) c f (i:=0) (by omega);have e:(mat n c f).headD []=aA c (f 0):=by grind
 have m:Td (mat n c f):=⟨by omega,by omega,fun r u=>by
  obtain⟨i,_,rfl⟩:=aeL.1 u;grind [az]⟩
 have o:=Wx (mat n c f);rw[jx m,g,e,az]at o;have p:=Yz n c f h t b q s;unfold fiY;refine b6 func201 rfl (by kernel_rfl) ?_;rw[ntmps201];refine am fun _ K=>?_;simp(disch:=omega) only[kd,aa,bV,af];apply K
 refine bf [⟨1,_,_,_,o⟩] [] fun _ K=>?_;simp only[kd,bV,aa];apply K
 refine aj (am fun _ K=>?_);simp only[kd];apply K;refine aq rfl (al ?_);show bv _ _ _ _;refine bv.weak ((uI 1 1 (cs:=[.sl (ls (fR fI) (mat n c f))]) rfl rfl).trans (ak (tm:=(jk::.one (tJ (mat n c f))::jk::jk::rN n::rN c::j4 (j4 (j4 (jk::[]))))) (l:=[]) trivial (by simp[wk,f5,gn,aK,Hm]))) ?_;refine bf [⟨3,_,_,_,p⟩] [] fun _ K=>?_;simp only[kd,tJ,aa,lB];apply K
 refine bv.weak (ak (tm:=(jk::jk::.one (.sl 18 0 0 n)::.raw (.bool true)::j4 (j4 (j4 (jk::jk::jk::[]))))) (l:=[(18,gC 18 n c f)]) ⟨fD 0 18 n c f,trivial⟩ (by simp[wk])) ?_;refine bv.weak ((bR 18 (iq rfl)).trans (ak (tm:=(jk::jk::dq (mat n c f)::.raw (.bool true)::j4 (j4 (j4 (jk::jk::jk::[]))))) (l:=[]) trivial (by simp[wk];exact⟨(Ow (H:=Hm [(18,gC 18 n c f)]) (d:=18) (n:=n) (c:=c) (f:=f) rfl).symm,rfl⟩))) ?_
 (refine aM ⟨.inr rfl,bQ rfl ?_ rfl⟩;simp(disch:=omega) only[kd,results201,dq])
theorem adU {z:Int} (h:ju z):kK z= .tup [(false,[.p (.raw (.int .i64 z))]),(false,[.p (.raw (.bool true))])]:=if_pos h
theorem ju.bg {z:Int} (h:ju z):Bg z:=(h.sz (aeJ 2)).mono (by omega)
theorem YZ {H:OH} {a:Nat} {f g:OObj} (h:H a=[f,g]) (n: ∀e∈f.elems,∀x∈e,isPure x=true\/ ∃c len,x= .sl a 1 c len) (j:fE g):ve H a:=fun r o b e l x m=>by
 rw[h]at b
 match r with
 |0=>
  grind
 |1=>
  injection b with b
  subst b;exact .inl (j e l x m)
 |r+2=>simp at b
theorem Jx (z:Int) (h:ju z):CallC prog 188 [tZ z] ⟨[],.raw (.int .i64 z)⟩:=by
 have b:=IC z h.bg;rw[adU h]at b;refine aB func188 rfl ntmps188 (aE (k:=bu [⟨1,_,_,_,b⟩] (k:=aZ (k:=aI @results188))))
theorem Z0 (h:SR n b):
  CallC prog 187 [bV (mat n n b)] ⟨[],.agg [.p (.sl (ls fM (yW n b n))),.p (.sl (ls fZ (aA (n+1) (dk b))))]⟩:=by
 have c:=h.n1;have r:=h.n16;have u:=yz n n b c r c r h.i;have v:=G6 h;have t:=qX 1 (by omega) (by omega);have l:=wu n b n;have m: ∀k,k<n->(yW n b n)[k]?=some (QQ n b k):=fun k w=>by simp[yW,w]
 have z:[[AV.p (.raw (.bool (decide ((1:Int)<0)))),.p (.sl (ls fU (aD (Int.natAbs 1))))]]=lc fZ (aA 1 (dk b)):=by
  rfl
 refine aB func187 rfl ntmps187 (aE (k:=fJ [⟨1,_,_,_,u⟩] @fiY.eq_1 (k:=bu [⟨1,_,_,_,v⟩] (k:=?_))));refine iW 5 [⟨1,_,_,_,t⟩] [22] (by simp[wk]) (by decide) fun _ K=>?_;simp(disch:=omega) only[kd,tZ,aa,Nat.reduceMul,Nat.reduceLeDiff,ae];apply K
 refine⟨_,(ot 7 22 900 rfl rfl rfl (by simp[fE,isPure]) (by simp[fE,isPure]) (by omega) (by omega) (by omega)),by simp[wk],?_⟩;simp only[aeX,afh,Ra,agV,oc,iD,tH];intro _ K;simp(disch:=omega) only[kd,tZ,ae,aa];apply K;refine aj (d9 l (k:=?_));refine ay (G:=fp n) (fun q=>⟨(jk::jk::.one (.ptr 2 0 0 0)::j4 (.one (.ptr 900 0 0 0)::j16 (.one (.p (.sl (ls fM (yW n b n))))::rN n::rN q.i::j4 (j4 (j4 (jk::jk::jk::[])))))),Hm [(2,[⟨224,2,[[.p (.raw (.slice none 0 0)),.p (.raw (.slice none 0 0))]]⟩]),(900,[⟨224,2,[[.p (.sl (ls fM (yW n b n))),.sl 900 1 0 (q.i+1)]]⟩,⟨65,2,lc fZ (aA (q.i+1) (dk b))⟩])]⟩) (fun q=>n-q.i) ⟨0,by omega⟩ ?_ ?_
 ·refine ak ⟨rfl,?_,trivial⟩ ?_
  ·rfl
  simp[wk]
 rintro⟨i,D⟩;simp only;by_cases y:i<n
 ·have A:=m i y;have B:=bA (n-i) (kZ b i) (show 0<n-i by omega);have C:=aw (kZ b i 0) (show 0<n-i by omega);have g:=az (i+1) (dk b);refine ax (k:=aP rfl (aj (ao (aF (aG A @fM.eq_1) (k:=jz (aG B (aG C (aG @oG (aG g @oM)))) (k:=bK (k:=?_)))))));refine⟨⟨i+1,by omega⟩,by grind,ak ⟨rfl,?_,trivial⟩ ?_⟩
  ·rw[kS (i+1)];rfl
  simp[wk]
 have j:i=n:=by omega
 subst j;have g:=az (i+1) (dk b);refine ax (k:=aQ rfl ?_);show bv _ _ _ _;refine iW 1 [] [] (by simp[wk]) (by decide) fun _ K=>?_;simp only[kd,ae,aa];apply K
 refine⟨_,bR 900 (YZ rfl (fun e o x s=>?_) (bF _ _ _)),by simp[wk],?_⟩
 ·simp only[aeK]at o;subst o;simp only[afn,afx,or_false]at s;rcases s with rfl|rfl
  ·exact .inl rfl
  simp
 simp only[aeX,afh,f5,gn];intro _ K;simp(disch:=omega) only[kd,ae,aa];apply K
 (refine aM ⟨.inr rfl,bQ rfl ?_ rfl⟩;simp(disch:=omega) only[kd,results187,ae,aa])
 grind
def rc (n:Nat) (f:FF) (k:Nat):List Int:=aA (n-k-1) fun b=>bk f k k (k+(b+1))
def gX (n:Nat) (f:FF) (j:Nat):List (List Int):=(List.range j).map (rc n f)
theorem DE (n:Nat) (f:FF) (j:Nat):gX n f j++[rc n f j]=gX n f (j+1):=by simp[gX,afH]
theorem oK (n:Nat) (f:FF) (j:Nat):(gX n f j).length=j:=by simp[gX]
theorem U8 {k:Nat} (f:FF) (h:k<m):(gX n f m)[k]?=some (rc n f k):=by simp[gX,h]
abbrev wkO (a:Nat) (B:Int) (n i j:Nat) (c b:List Int) (L:List (List Int)):List OObj:=[⟨222,4,[[.p (.raw (.int .i64 B)),.sl a 2 0 i,.sl a 3 0 j,.sl a 1 0 n]]⟩,⟨2,1,lc fI c⟩,⟨2,1,lc fI b⟩,⟨35,1,lc (fR fI) L⟩]
theorem aaL (a d:Nat) (B:Int) (n i j:Nat) (c b:List Int) (L:List (List Int)):(wkO a B n i j c b L).map (renO d)=wkO d B n i j c b L:=by
 simp_all[renO,dA,jh]
theorem IM (n:Nat) (f:FF) (k:Nat):List.drop 1 (List.take (n-k) (aA (n-k) (kZ f k 0)))=rc n f k:=by
 rw[aeS (by rw[az];omega)];show _=aA _ _;apply aeW;intro b;rw[agL];by_cases c:b<n-k-1
 ·rw[aw _ (by omega),aw _ c,agn 1 b];rfl
 grind [az]
theorem fI0 (n:Nat):af n [AV.p (.raw (.int .i64 0))]=lc fI (af n 0):=by simp[lc,fI]
theorem Rp (r:SR n b) (B:Int):
  CallC prog 130 [bV (mat n n b),.raw (.int .i64 B)] ⟨wkO 0 B n (n+1) n (af n 0) (aA (n+1) (dk b)) (gX n b n),.one (.ptr 0 0 0 0)⟩:=by
 have N:=Z0 r;have Q:=r.n1;have Y:=r.n16;have I:=aS n n b;have E:=wu n b n;have w:=az (n+1) (dk b);refine aB func130 rfl ntmps130 (aE (k:=?_));refine aj (Qi 5 19 17 3 (e:=222) (cs:=[.p (.raw (.int .i64 B)),.p (.raw (.slice none 0 0)),.p (.raw (.slice none 0 0)),.sl 17 0 0 n]) (ob:=⟨2,1,lc fI (af n 0)⟩) (len:=n) [] [] ?_ (fun e O x S=>bF _ _ _ e O x S) (by omega) (by decide) fun K m=>?_)
 rotate_left 1
 ·simp(disch:=omega) only[kd,aa,I,Nat.reduceLeDiff];refine m _ ⟨⟨⟨_,_,rfl,rfl,rfl,rfl,rfl⟩,rfl,congrArg (fun l=>[OObj.mk _ 1 l]) (fI0 n),rfl⟩,?_⟩;clear m K;intro K m;simp only[kd,aa,abX];apply m;clear m K;refine bv.weak ((ib 19 0 0 1 2 1 (by omega) rfl rfl rfl).trans (ib 19 0 0 2 35 1 (by omega) rfl rfl rfl)) ?_;refine bD [⟨1,_,_,_,N⟩] (k:=aj (ax (k:=?_)));refine ay (G:=fp (n+1)) (fun q=>⟨(j4 (jk::.one (.ptr 19 0 0 0)::.one (.ptr 6 0 0 0)::j16 (.one (.p (.sl (ls fZ (aA (n+1) (dk b)))))::.raw (.int .i64 ((n+1:Nat):Int))::rN q.i::j16 (j16 (j16 (jk::[])))))),Hm [(6,[⟨224,2,[[.p (.sl (ls fM (yW n b n))),.p (.sl (ls fZ (aA (n+1) (dk b))))]]⟩]),(19,wkO 19 B n q.i 0 (af n 0) (aA q.i (dk b)) [])]⟩) (fun q=>n+1-q.i) ⟨0,by omega⟩ ?_ ?_
  ·refine ak ⟨rfl,rfl,trivial⟩ ?_;simp[wk,w]
  rintro⟨i,W⟩;simp only;by_cases o:i<n+1
  ·have u:=Jx (dk b i) (by have:=(r.d i (by omega)).2;constructor<;>omega);have z:=aw (dk b) o;have h:=az i (dk b);refine ax (k:=aP rfl (aj (ao (aF z (k:=fP [⟨6,_,_,_,u⟩] (aG h @j6) (k:=bK (k:=?_)))))));refine⟨⟨i+1,by omega⟩,by grind,ak ⟨rfl,?_,trivial⟩ ?_⟩
   ·rw[kS i];rfl
   simp[wk]
  have A:i=n+1:=by omega
  subst A;refine ax (k:=aQ rfl (aj (d9 E (k:=?_))));refine ay (G:=fp n) (fun q=>⟨(j4 (jk::.one (.ptr 19 0 0 0)::j16 (j16 (j4 (.one (.p (.sl (ls fM (yW n b n))))::rN n::rN q.i::j16 (j4 (j4 (j4 (jk::jk::[]))))))))),Hm [(19,wkO 19 B n (n+1) q.i (af n 0) (aA (n+1) (dk b)) (gX n b q.i))]⟩) (fun q=>n-q.i) ⟨0,by omega⟩ ?_ ?_
  ·refine ak ⟨rfl,trivial⟩ ?_;simp[wk]
  rintro⟨k,X⟩;simp only;by_cases o:k<n
  ·have J:(yW n b n)[k]?=some (QQ n b k):=by simp[yW,o]
   have T:=bA (n-k) (kZ b k) (show 0<n-k by omega);have U:=az (n-k) (kZ b k 0);have M:=aS (n-k) (n-k) (kZ b k);have L:=IM n b k;have D:=oK n b k;have F:(rc n b k).length=n-k-1:=az _ _;refine ax (k:=aP rfl (aj (ao (aF (aG J @fM.eq_1) (k:=aZ (k:=?_))))));have t:1<=n-k:=by omega
   have P:=az (n-k-1) (fun c=>bk b k k (k+(c+1)));refine aj (aF (aG T (aG U (aG t (aG (fj pO) (aG L F))))) (k:=?_));refine ay (G:=fp (n-k-1)) (fun q=>⟨(j4 (jk::.one (.ptr 19 0 0 0)::j4 (jk::.one (.sl 11 0 0 q.i)::j16 (j4 (j4 (j4 (jk::jk::.one (.p (.sl (ls fM (yW n b n))))::rN n::rN k::j4 (jk::jk::.one (.p (.sl (ls fZ (rc n b k))))::.raw (.int .i64 ((n-k-1:Nat):Int))::rN q.i::j16 (j4 (jk::[])))))))))),Hm [(11,[⟨2,1,lc fI (aA q.i fun c=>bk b k k (k+(c+1)))⟩]),(19,wkO 19 B n (n+1) k (af n 0) (aA (n+1) (dk b)) (gX n b k))]⟩) (fun q=>n-k-1-q.i) ⟨0,by omega⟩ ?_ ?_
   ·refine(ca (k:=11) (d:=11) 2 1 (by omega) rfl rfl).trans (ak ⟨rfl,rfl,trivial⟩ ?_);simp[wk]
   rintro⟨c,V⟩;simp only;by_cases H:c<n-k-1
   ·have u:=Jx (bk b k k (k+(c+1))) (by have:=r.s k k (k+(c+1)) o (aeJ k) o (by omega) (by omega);constructor<;>omega);have z:(rc n b k)[c]?=some (bk b k k (k+(c+1))):=aw _ H;have h:=az c (fun c=>bk b k k (k+(c+1)));refine ax (k:=aP rfl (aj (ao (aF z (k:=nU [⟨2,_,_,_,u⟩] (aG h @j6) (k:=bK (k:=?_)))))));refine⟨⟨c+1,by omega⟩,by grind,ak ⟨?_,rfl,trivial⟩ ?_⟩
    ·rw[kS c];rfl
    simp[wk]
   have v:c=n-k-1:=by omega
   subst v;refine ax (k:=aQ rfl ?_);show bv _ _ _ _;refine bv.weak (bR 11 (bj rfl)) ?_;simp only[aeX,afh,f5,gn];refine dz (aG @aeS (aG D @i7)) (k:=bK (k:=?_));refine⟨⟨k+1,by omega⟩,by grind,ak ⟨?_,trivial⟩ ?_⟩
   ·rw[<- DE n b k];rfl
   simp[wk]
  have C:k=n:=by omega
  subst C;refine ax (k:=aQ rfl (aZ (k:=?_)));refine aM ⟨.inr rfl,_,bN.refl _,?_⟩;refine⟨.one (.ptr 19 0 0 0),19,?_,rfl,?_,rfl⟩
  ·simp(disch:=omega) only[kd,results130]
  grind [aaL]
 intro j y g R
 match j with
 |0=>injection g with g;subst g;rfl
 |1=>injection g with g;subst g;rfl
 |2=>injection g with g;subst g;rfl
 |3=>omega
 |j+4=>simp at g
theorem ki {F:Nat->Int} {B:Nat}: ∀k,(∀p,p<k->(F p).natAbs<=B)->(smF F k).natAbs<=k*B
 |0,_=>by simp[smF]
 |k+1,h=>by
  have b:=ki k fun p c=>h p (by omega)
  grind [smF]
end Go.Proofs.YtalmoejhjceflaaGreat
