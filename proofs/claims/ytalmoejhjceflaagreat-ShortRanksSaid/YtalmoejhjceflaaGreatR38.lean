/-
  Part 39 of a proof (walks and plain facts).
-/
import Derived.Test.YtalmoejhjceflaaGreatR37
set_option linter.all false
set_option maxRecDepth 100000
set_option maxHeartbeats 64000000
open Nat renaming reduceAdd → aa
open List renaming replicate → ae
namespace Go.Proofs.YtalmoejhjceflaaGreat
open Go.RowKit Go.Proofs.Tryz
variable {n m:Nat} {x:Int} {b:FF}
theorem Sb {d n c i k:Nat} (h:k<i):(ju d (ae i c)++ae (n-i) [AV.p (PV.sl [])])[k]?=some [.sl d (k+1) 0 c]:=by
 grind [cJ,bU]
theorem Sd {d n c i:Nat} (h:i<=n):(ju d (ae i c)++ae (n-i) [AV.p (PV.sl [])]).length=n:=by grind [cJ]
theorem Se (n c:Nat) (f:FF) (y:1<=n) (x:n<=16) (u:1<=c) (t:c<=16) (v: ∀i j,i<n->j<c-> -9223372036854775808<=f i j/\f i j<=9223372036854775807):
  CallC prog 231 [.raw (.int .i64 (n:Int)),.raw (.int .i64 (c:Int)),.fn 232 [pp (mat n c f)]] ⟨gu 0 n c f,.one (.sl 0 0 0 n)⟩:=by
 refine aA func231 rfl ntmps231 (pf @pp.eq_1 (k:=ar (k:=ai (bC (k:=?_)))));refine aB (G:=jx n) (fun g=>⟨(jk::rN c::.fn 232 [pp (mat n c f)]::j4 (.one (.sl 11 0 0 n)::j4 (jk::rN n::rN g.i::j16 (j4 (j4 (j4 ([]))))))),Hm [(11,MF 11 n c g.i (part f g.i 0))]⟩) (fun g=>n-g.i) ⟨0,by omega⟩ ?_ ?_
 ·refine(gn 11).trans (aj ⟨Ky 11 n c _,trivial⟩ ?_);simp[wk]
 rintro⟨i,B⟩;simp only;by_cases h:i<n
 ·have w:=Kb (d:=11) (c:=c) h;refine aL @pp.eq_1 (k:=be rfl (ai (am (bC (k:=?_)))));simp only[MF];refine aL (aH w (aH @aaL (aH @acf @aT))) (k:=?_);refine bf.weak ((gn 11).trans (aj (tm:=(jk::rN c::.fn 232 [pp (mat n c f)]::j4 (.one (.sl 11 0 0 n)::rN i::j4 (.raw (.int .i64 (n:Int))::rN i::j16 (j4 (j4 (j4 ([])))))))) (l:=[(11,MF 11 n c (i+1) (part f i 0))]) ⟨Ny (part f i 0) h (fun b _=>by simp[part]),trivial⟩ (by simp[wk]))) ?_;have p:=Sb (d:=11) (n:=n) (c:=c) (show i<i+1 by omega);have z:=Sd (d:=11) (n:=n) (c:=c) (show i+1<=n by omega);have A:=dS (n:=i+1) c (part f i 0) (show i<i+1 by omega);simp only[MF];refine aL (aH @pp.eq_1 p) (k:=?_);refine aB (G:=jx c) (fun g=>⟨(jk::rN c::.fn 232 [pp (mat n c f)]::j4 (.one (.sl 11 0 0 n)::rN i::j4 (.raw (.int .i64 (n:Int))::rN i::j4 (j4 (jk::jk::jk::rN c::rN g.i::j4 (j4 (j4 (jk::jk::jk::[])))))))),Hm [(11,MF 11 n c (i+1) (part f i g.i))]⟩) (fun g=>c-g.i) ⟨0,by omega⟩ ?_ ?_
  ·refine aj ⟨rfl,trivial⟩ ?_;simp[wk]
  rintro⟨j,C⟩;simp only;by_cases e:j<c
  ·have s:=YJ (n:=n) (c:=c) (f:=f) h e t x (v i j h e);have q:=dS (n:=i+1) c (part f i j) (show i<i+1 by omega);have r:=aw (part f i j i) e;refine aL @pp.eq_1 (k:=be rfl (ai (am (bC (k:=?_)))));simp only[MF];refine gX [⟨8,_,_,_,s⟩] (aH @pp.eq_1 (aH p (aH q (aH r @iL)))) (k:=bS (k:=?_));refine⟨⟨j+1,by omega⟩,by grind,aj ⟨?_,trivial⟩ ?_⟩
   ·show _::_=_::_;simp_all[bQ,iF]
   simp[wk]
  have o:j=c:=by omega
  subst o;refine aL @pp.eq_1 (k:=bv rfl (bS (k:=?_)));refine⟨⟨i+1,by omega⟩,by grind,aj ⟨?_,trivial⟩ ?_⟩
  ·show _::_=_::_;grind [bQ,kf]
  simp[wk]
 have m:i=n:=by omega
 subst m;rw[Nx];refine aL @pp.eq_1 (k:=bv rfl (bC (k:=?_)));refine aW ⟨.inr rfl,_,bG.refl _,?_⟩;refine⟨.one (.sl 11 0 0 i),11,?_,rfl,?_,rfl⟩
 ·simp(disch:=omega) only[kd,results231]
 show gu 0 i c f=(gu 11 i c (part f i 0)).map (renO 0);rw[fk 11 0];grind [bQ,ke]
theorem tS (n c:Nat) (f:FF) (h:1<=n) (t:n<=16) (b:1<=c) (q:c<=16) (s: ∀i j,i<n->j<c-> -9223372036854775808<=f i j/\f i j<=9223372036854775807):
  CallC prog 201 [cq (mat n c f)] ⟨[],Ru (mat n c f)⟩:=by
 have g:=aT n c f;have v:=iY (M:=mat n c f) (by omega);have w:=bF (n:=n) c f (i:=0) (by omega);have e:(mat n c f).headD []=aN c (f 0):=by grind
 have m:Fu (mat n c f):=⟨by omega,by omega,fun r u=>by
  obtain⟨i,_,rfl⟩:=aau.1 u;grind [aI]⟩
 have o:=Qf (mat n c f);rw[ig m,g,e,aI]at o;have p:=Se n c f h t b q s;unfold Ru;refine dr func201 rfl (by kernel_rfl) ?_;rw[ntmps201];refine an fun _ K=>?_;simp(disch:=omega) only[kd,aa,cq,ae];apply K
 refine aQ [⟨1,_,_,_,o⟩] [] fun _ K=>?_;simp only[kd,cq,aa];apply K
 refine ai (an fun _ K=>?_);simp only[kd];apply K;refine aq rfl (ak ?_);show bf _ _ _ _;refine bf.weak ((qg 1 1 (cs:=[.sl (ls (fR fI) (mat n c f))]) rfl rfl).trans (aj (tm:=(jk::.one (pp (mat n c f))::jk::jk::rN n::rN c::j4 (j4 (j4 (jk::[]))))) (l:=[]) trivial (by simp[wk,ew,dF,ax,Hm]))) ?_;refine aQ [⟨3,_,_,_,p⟩] [] fun _ K=>?_;simp only[kd,pp,aa,iT];apply K
 refine bf.weak (aj (tm:=(jk::jk::.one (.sl 18 0 0 n)::.raw (.bool true)::j4 (j4 (j4 (jk::jk::jk::[]))))) (l:=[(18,gu 18 n c f)]) ⟨fk 0 18 n c f,trivial⟩ (by simp[wk])) ?_;refine bf.weak ((bD 18 (iK rfl)).trans (aj (tm:=(jk::jk::da (mat n c f)::.raw (.bool true)::j4 (j4 (j4 (jk::jk::jk::[]))))) (l:=[]) trivial (by simp[wk];exact⟨(Rv (H:=Hm [(18,gu 18 n c f)]) (d:=18) (n:=n) (c:=c) (f:=f) rfl).symm,rfl⟩))) ?_
 (refine aW ⟨.inr rfl,bW rfl ?_ rfl⟩;simp(disch:=omega) only[kd,results201,da])
theorem Ol (a:Int) (c:0<=a) (b:a<=4611686018427387904):CallC prog 185 [.raw (.int .u64 a)] ⟨[],.raw (.int .i64 (Lib.bitLen a.toNat:Int))⟩:=by
 refine jK (by kernel_rfl) fun X w vs o h g=>?_
 obtain⟨p,n,l⟩:=sC g (j:=0) rfl;obtain⟨rfl,_⟩:=aX (ρ:=fun _ _=>none) (H:=fun _=>[]) l;obtain rfl:vs= #[.int .u64 a]:=by
  grind
 exact(Any.bits_Len64 Tryz.lays129 a w c (by omega)).mono fun e q ⟨b,f⟩=>⟨_,b,fun m H Y=>b7 rfl,by rw[f];exact Ext.refl _⟩
/-! Newton's steps. -/
theorem Or:isqF 0=0:=(eF (acA 0)).uniq ⟨acA _,by decide,by decide⟩
theorem nE {a:Int} (c:0<=a) (e:a<=4611686018427387904):0<=isqF a/\isqF a<=2147483648:=by
 obtain⟨b,f,g⟩:=eF c;refine⟨b,ab9 fun h=>?_⟩;have:=aa7 (show 2147483649<=isqF a by omega) (show 2147483649<=isqF a by omega) (by omega) b;omega
theorem Lr {a r:Int} (c:ME a x) (b:0<r):x<=(r+a/r)/2:=by
 obtain⟨l,m,n⟩:=c;refine adU (by omega) (ab9 fun h=>?_);have e:a/r<=2*x-1-r:=by omega
 have f:a<(a/r+1)*r:=abZ a b;have g:(a/r+1)*r<=(2*x-r)*r:=abi (by omega) (by omega);have j:0<=(x-r)*(x-r):=by
  rcases abU 0 (x-r)with h|h
  ·exact aaS h h
  exact aaU h h
 grind
theorem GM {a r:Int} (f:ME a x) (b:0<r) (g:x<=r) (h:r<=(r+a/r)/2):r=x:=by
 have c:r<=a/r:=by omega
 have e:r*r<=a:=(ab2 b).1 c;have:=(qH f).1 e;omega
theorem Bv {a:Int} (c:0<a) (e:a<=4611686018427387904):(Lib.bitLen a.toNat:Int)<=63/\isqF a<=((2^((Lib.bitLen a.toNat+1)/2):Nat):Int)/\2^((Lib.bitLen a.toNat+1)/2)<=4294967296:=by
 have j:=Lib.bitLen_le a.toNat 63 (by omega) (by
  omega)
 have l:a.toNat<2^Lib.bitLen a.toNat:=(tA a.toNat (by omega) (by omega)).2.2;obtain⟨b,o,q⟩:=eF (show 0<=a by omega);refine⟨by omega,?_,?_⟩
 ·generalize n:(Lib.bitLen a.toNat+1)/2=m at*
  refine ab9 fun h=>?_
  have f:a.toNat<2^m*2^m:=by
   rw[<- abP];grind [Nat.lt_of_lt_of_le,Nat.pow_le_pow_right]
  generalize 2^m=p at*
  have g:=aa7 (show(p:Int)<=isqF a by omega) (show(p:Int)<=isqF a by omega) (by omega) b;omega
 exact aaJ (by omega) (show(Lib.bitLen a.toNat+1)/2<=32 by omega)
structure NwG (a:Int) where
 r:Nat
 h0:0<r
 h1:isqF a<=(r:Int)
 h2:r<=4294967296
theorem YL {a:Int} (c:0<x):a/x=if Int.tmod a x<0 then Int.tdiv a x-1 else Int.tdiv a x:=by
 have e:=Int.mul_tdiv_add_tmod a x;have f:=Int.tmod_lt_of_pos a c;have g: -x<Int.tmod a x:=by
  simp_all[Int.lt_tmod_of_pos]
 split
 ·rename_i h;refine(ada (r:=Int.tmod a x+x) c).2 ⟨?_,by omega,by omega⟩|>.1;grind
 rename_i h;exact((ada (r:=Int.tmod a x) c).2 ⟨by omega,by omega,by omega⟩).1
theorem xz {f:FuncId} (w:f=189\/f=140\/f=144) (a:Int) (e:0<=a) (v:a<=4611686018427387904):CallC prog f [.raw (.int .i64 a)] ⟨[],.raw (.int .i64 (isqF a))⟩:=by
 by_cases O:a=0
 ·subst O;rw[Or];rcases w with rfl|rfl|rfl
  all_goals
   first
   |(refine dr func189 rfl (by kernel_rfl) ?_;rw[ntmps189])
   |(refine dr func140 rfl (by kernel_rfl) ?_;rw[ntmps140])
   |(refine dr func144 rfl (by kernel_rfl) ?_;rw[ntmps144])
   (first|refine an fun _ K=>?_|refine ai (an fun _ K=>?_)|refine ai (ai (an fun _ K=>?_)));simp only[kd,ae];apply K
   (first|refine an fun _ K=>?_|refine ai (an fun _ K=>?_)|refine ai (ai (an fun _ K=>?_)));simp(disch:=omega) only[kd];apply K
   first|refine ay rfl ?_|refine bi rfl (fun _=>?_) (fun h=>by simp at h<;>omega)
   (first|refine an fun _ K=>?_|refine ai (an fun _ K=>?_)|refine ai (ai (an fun _ K=>?_)));simp only[kd];apply K
   (refine aW ⟨.inr rfl,bW rfl ?_ rfl⟩;simp(disch:=omega) only[kd,results189,results140,results144])
 obtain⟨P,z,A⟩:=Bv (show 0<a by omega) v;have c:=eF e;have M:0<isqF a:=by
  obtain⟨S,T,U⟩:=c;grind
 have j:=Ol a e v;generalize Lib.bitLen a.toNat=L at*
 have B:IntKind.u64.wrap a=a:=by rw[aa1];omega
 have C:Int.tdiv ((L:Int)+1) 2=(((L+1)/2:Nat):Int):=by rfl
 generalize R:(L+1)/2=m at*
 have x:m<=32:=by omega
 have D:IntKind.i64.wrap (2^min m IntKind.i64.bits)=((2^m:Nat):Int):=by
  rw[show min m IntKind.i64.bits=m from acW (show m<=64 by omega),show(2:Int)^m=((2^m:Nat):Int)from(Int.natCast_pow 2 m).symm];grind [aK]
 have n:0<2^m:=abh (by omega);generalize 2^m=p at*
 rcases w with rfl|rfl|rfl
 all_goals
  first
  |(refine dr func189 rfl (by kernel_rfl) ?_;rw[ntmps189])
  |(refine dr func140 rfl (by kernel_rfl) ?_;rw[ntmps140])
  |(refine dr func144 rfl (by kernel_rfl) ?_;rw[ntmps144])
  (first|refine an fun _ K=>?_|refine ai (an fun _ K=>?_)|refine ai (ai (an fun _ K=>?_)));simp only[kd,ae];apply K
  (first|refine an fun _ K=>?_|refine ai (an fun _ K=>?_)|refine ai (ai (an fun _ K=>?_)));simp(disch:=omega) only[kd];apply K
  first|refine aq rfl (ak ?_)|refine bi rfl (fun h=>by simp at h<;>omega) (fun _=>ak ?_)
  show bf _ _ _ _
  (first|refine aQ [⟨2,_,_,_,j⟩] [] fun _ K=>?_|refine ai (aQ [⟨2,_,_,_,j⟩] [] fun _ K=>?_)|refine ai (ai (aQ [⟨2,_,_,_,j⟩] [] fun _ K=>?_)));simp(disch:=omega) only[kd,aa,B,aK,C,adu,D];apply K
  refine aB (G:=NwG a) (fun g=>⟨(.raw (.int .i64 a)::jk::jk::rN g.r::j16 (j4 ([]))),Hm []⟩) (fun g=>g.r) ⟨p,n,z,A⟩ ?_ ?_
  ·refine aj trivial ?_;simp[wk]
  rintro⟨r,I,o,J⟩;simp only;have l:=Lr (r:=(r:Int)) c (by omega);have F:0<=a/(r:Int):=abH e (by omega);have H:a/(r:Int)<=a:=acK _ e;have E:Int.tdiv a (r:Int)=a/(r:Int):=abK e;have u:Int.tdiv ((r:Int)+a/(r:Int)) 2=((r:Int)+a/(r:Int))/2:=abK (by omega);have b:=GM (r:=(r:Int)) c (by omega) o;have y:((r:Int)=0)=False:=eq_false (by omega);generalize a/(r:Int)=q at*
  obtain⟨t,N⟩: ∃t:Nat,((r:Int)+q)/2=(t:Int):=aaK (by omega);rw[N]at l b u;refine am ?_
  (first|refine an fun _ K=>?_|refine ai (an fun _ K=>?_)|refine ai (ai (an fun _ K=>?_)));simp(disch:=omega) only[kd,aa,E,aK,u];apply K
  by_cases Q:r<=t
  ·have s:=b (by omega)
   (first|refine an fun _ K=>?_|refine ai (an fun _ K=>?_)|refine ai (ai (an fun _ K=>?_)));simp(disch:=omega) only[kd,aa];apply K
   first|refine ay rfl ?_|refine bi rfl (fun _=>?_) (fun h=>by simp at h<;>omega)
   (first|refine an fun _ K=>?_|refine ai (an fun _ K=>?_)|refine ai (ai (an fun _ K=>?_)));simp only[kd];apply K
   rw[s]
   (refine aW ⟨.inr rfl,bW rfl ?_ rfl⟩;simp(disch:=omega) only[kd,results189,results140,results144])
  (first|refine an fun _ K=>?_|refine ai (an fun _ K=>?_)|refine ai (ai (an fun _ K=>?_)));simp(disch:=omega) only[kd,aa];apply K
  first|refine aq rfl (ak ?_)|refine bi rfl (fun h=>by simp at h<;>omega) (fun _=>ak ?_)
  show bf _ _ _ _;refine ZG (k:=?_);refine⟨⟨t,by omega,by omega,by omega⟩,by grind,aj trivial ?_⟩;simp[wk]
theorem ov {f:FuncId} (o:f=223\/f=141\/f=148) (a b:Int) (l:0<b) (n:b<=4611686018427387904) (r: -4611686018427387904<=a) (s:a<=4611686018427387904):CallC prog f [.raw (.int .i64 a),.raw (.int .i64 b)] ⟨[],.raw (.int .i64 (a/b))⟩:=by
 have c:=YL (a:=a) l;have t:(Int.tdiv a b).natAbs<=a.natAbs:=by
  rw[Int.natAbs_tdiv];exact aco _ _
 have e:(b=0)=False:=eq_false (by omega);rw[c];generalize p:Int.tdiv a b=q at*
 generalize j:Int.tmod a b=m at*
 rcases o with rfl|rfl|rfl
 all_goals
  first
  |(refine dr func223 rfl (by kernel_rfl) ?_;rw[ntmps223])
  |(refine dr func141 rfl (by kernel_rfl) ?_;rw[ntmps141])
  |(refine dr func148 rfl (by kernel_rfl) ?_;rw[ntmps148])
  (first|refine an fun _ K=>?_|refine ai (an fun _ K=>?_)|refine ai (ai (an fun _ K=>?_)));simp only[kd,aa,ae];apply K
  (first|refine an fun _ K=>?_|refine ai (an fun _ K=>?_)|refine ai (ai (an fun _ K=>?_)));simp(disch:=omega) only[kd,aa,p,aK];apply K
  by_cases g:m<0
  ·rw[if_pos g]
   (first|refine an fun _ K=>?_|refine ai (an fun _ K=>?_)|refine ai (ai (an fun _ K=>?_)));simp(disch:=omega) only[kd,aa,j];apply K
   first|refine ay rfl ?_|refine bi rfl (fun _=>?_) (fun h=>by simp at h<;>omega)
   refine bS (k:=?_);show bf _ _ _ _
   (first|refine an fun _ K=>?_|refine ai (an fun _ K=>?_)|refine ai (ai (an fun _ K=>?_)));simp only[kd];apply K
   (refine aW ⟨.inr rfl,bW rfl ?_ rfl⟩;simp(disch:=omega) only[kd,results223,results141,results148])
  rw[if_neg g]
  (first|refine an fun _ K=>?_|refine ai (an fun _ K=>?_)|refine ai (ai (an fun _ K=>?_)));simp(disch:=omega) only[kd,aa,j];apply K
  first|refine aq rfl (ak ?_)|refine bi rfl (fun h=>by simp at h<;>omega) (fun _=>ak ?_)
  show bf _ _ _ _
  (first|refine an fun _ K=>?_|refine ai (an fun _ K=>?_)|refine ai (ai (an fun _ K=>?_)));simp only[kd];apply K
  (refine aW ⟨.inr rfl,bW rfl ?_ rfl⟩;simp(disch:=omega) only[kd,results223,results141,results148])
def fl (c:Nat) (g:FF):Nat->Int:=fun k=>g (k/c) (k%c)
theorem YK (g:FF) {i:Nat} (b:m<n):fl n g (i*n+m)=g i m:=by
 grind [fl,F6]
theorem qz {f:FF} (h: ∀a e,a<n->e<m->b a e=f a e):aN (n*m) (fl m b)=aN (n*m) (fl m f):=dm fun k l=>by
 have j:0<m:=by
  grind
 exact h _ _ (acv (by grind)) (aaQ _ j)
theorem N9 {n c i:Nat} (g:FF) {v:Int} (p:i<n) (b:m<c):(aN (n*c) (fl c g)).set (i*c+m) v=aN (n*c) (fl c (upd g i m v)):=by
 rw[kj];refine dm fun k q=>?_
 have l:0<c:=by omega
 unfold fl upd;by_cases h:k=i*c+m
 ·subst h;have h:=F6 (i:=i) (j:=m) (sz:=c) b;simp_all
 rw[if_neg h];by_cases e:k/c=i
 ·have f:k%c≠m:=fun o=>h (by
   grind [Nat.div_add_mod])
  simp_all
 grind
theorem uG (l:List Int) (k:Nat) (v:Int):(lc fZ l).set k [.p (.raw (.bool (decide (v<0)))),.p (.sl (ls fU (au v.natAbs)))]=lc fZ (l.set k v):=by
 rw[<- wM];rfl
def Hj (d n c i:Nat):List (List AV):=(List.range n).map fun k=>if k<i then[.sl d 1 (k*c) c]else[.p (.sl [])]
def Cc (d n c i:Nat) (g:FF):List OObj:=[⟨85,1,Hj d n c i⟩,⟨65,2,lc fZ (aN (n*c) (fl c g))⟩]
theorem Cd (d n c i:Nat):(Hj d n c i).length=n:=by simp[Hj]
theorem oO {d n c i k:Nat} (h:k<n):(Hj d n c i)[k]?=some (if k<i then[.sl d 1 (k*c) c]else[.p (.sl [])]):=by
 grind [Hj]
theorem JR {d n c i:Nat}:(Hj d n c i).set i [.sl d 1 (i*c) c]=Hj d n c (i+1):=by
 apply aaC;grind [Cd,oO]
theorem EI (d n c:Nat):([⟨85,1,ae n [.raw (.slice none 0 0)]⟩]:List OObj).map zO=[⟨85,1,Hj d n c 0⟩]:=by
 simp[zO,Hj,Fa,Fi,List.map_const']
theorem JT (n c:Nat) (g:FF):([⟨65,2,ae (n*c) [.raw (.bool false),.raw (.slice none 0 0)]⟩]:List OObj).map zO=[⟨65,2,lc fZ (aN (n*c) (fl c (part g 0 0)))⟩]:=by
 have b:aN (n*c) (fl c (part g 0 0))=ae (n*c) 0:=by
  apply aaC;grind [aw,fl,part,aI]
 simp[b,zO,lc,fZ,Fa,Fi,cj,ls]
theorem EH (g d n c:Nat):dT ⟨g,1,Hj d n c 0⟩:=fun e b x f=>by
 simp only[Hj,aau]at b;obtain⟨k,_,rfl⟩:=b;simp at f;subst f;rfl
theorem JS {H:OH} {d i:Nat} (h:H d=Cc d n m i b):qB H d:=fun r o f e l x j=>by
 rw[h]at f
 match r,f with
 |0,f=>
  simp[Cc]at f;subst f;simp only[Hj,aau]at l;obtain⟨k,_,rfl⟩:=l;split at j
  ·simp at j;subst j;exact .inr ⟨1,_,_,⟨65,2,lc fZ (aN (n*m) (fl m b))⟩,rfl,by rw[h];rfl,bo _ _ _⟩
  simp at j;subst j;exact .inl rfl
 |1,f=>
  simp[Cc]at f;subst f;exact .inl (bo _ _ _ e l x j)
 |r+2,f=>simp[Cc]at f
theorem LP {i:Nat} (g:FF) (b:i<n):((aN (n*m) (fl m g)).take (i*m+m)).drop (i*m)=aN m (g i):=by
 have e:i*m+m<=n*m:=by
  have:=aav m b;grind
 apply aaC;grind [aw,YK,aI]
theorem Qx {H:OH} {c:Nat} (_hc:1<=c) (h:H 5016=Cc 5016 n c n b):ew H 5016 (.one (.sl 5016 0 0 n))= .one (.p (.sl (ls (fR fZ) (mat n c b)))):=by
 have f:(H 5016)[0]?=some ⟨85,1,Hj 5016 n c n⟩:=by rw[h];rfl
 have j:(H 5016)[1]?=some ⟨65,2,lc fZ (aN (n*c) (fl c b))⟩:=by rw[h];rfl
 simp only[ew,dF,if_true,f]
 congr 3
 rw[aa6,abL,aaz (by grind [Cd])];apply aaC;intro k;rw[aam,dO];by_cases e:k<n
 ·rw[oO e,if_pos e,bF c b e];simp only[abv,aaI,aaY,kC,j,eY,Be,LP b e,oA];rfl
 grind [Cd,aT]
theorem Uf (h:FuncId) (f:List PV) (n c:Nat) (g:FF) (I:1<=n) (F:n<=16) (r:1<=c) (C:c<=16)
  (D: ∀i j,i<n->j<c->CallC prog h [.raw (.int .i64 (i:Int)),.raw (.int .i64 (j:Int)),.one (.p (.ptr f))] ⟨[],tZ (g i j)⟩):
  CallC prog 234 [.raw (.int .i64 (n:Int)),.raw (.int .i64 (c:Int)),.fn h [.p (.ptr f)]] ⟨[],da (mat n c g)⟩:=by
 have M:n*c<=256:=aap (aaT F C) (by omega);have u:IntKind.i64.wrap ((n:Int)*(c:Int))=((n*c:Nat):Int):=by grind [aK]
 refine aA func234 rfl ntmps234 (aC (k:=aL u (k:=ar (k:=?_))));refine bf.weak ((gn 14).trans ((gn 16).trans ((lk 16 14 5016 (oa:=⟨85,1,Hj 5016 n c 0⟩) (oe:=⟨65,2,lc fZ (aN (n*c) (fl c (part g 0 0)))⟩) ?_ ?_ rfl (EH _ _ _ _) (bo _ _ _) (by omega) (by omega) (by omega)).trans (aj (tm:=(jk::rN c::.fn h [.p (.ptr f)]::j4 (.one (.sl 5016 1 0 (n*c))::.one (.sl 5016 0 0 n)::j16 (j16 (j16 (jk::jk::[])))))) (l:=[(5016,Cc 5016 n c 0 (part g 0 0))]) ⟨rfl,trivial⟩ ?_)))) ?_
 ·exact EI 5016 n c
 ·exact JT n c g
 ·simp[wk,K7,acw,lS,fp,pn]
 simp only[Cc];refine ai (bC (k:=?_));refine aB (G:=jx n) (fun q=>⟨(jk::rN c::.fn h [.p (.ptr f)]::j4 (.one (.sl 5016 1 0 (n*c))::.one (.sl 5016 0 0 n)::j4 (j4 (.one (.sl 5016 0 0 n)::rN n::rN q.i::j16 (j16 (j4 (jk::jk::jk::[]))))))),Hm [(5016,Cc 5016 n c q.i (part g q.i 0))]⟩) (fun q=>n-q.i) ⟨0,by omega⟩ ?_ ?_
 ·refine aj ⟨rfl,trivial⟩ ?_;simp[wk]
 rintro⟨i,N⟩;simp only;by_cases m:i<n
 ·have J:i*c<(i+1)*c:=by grind
  have K:(i+1)*c<=n*c:=aav _ m;have L:(i+1)*c-i*c=c:=by grind
  have w:IntKind.i64.wrap ((i:Int)*(c:Int))=((i*c:Nat):Int):=by grind [aK]
  have x:IntKind.i64.wrap (((i:Int)+1)*(c:Int))=(((i+1)*c:Nat):Int):=by
   grind [aK]
  have t1:=oO (d:=5016) (n:=n) (c:=c) (i:=i) m;rw[if_neg (aeb i)]at t1;have t2:=JR (d:=5016) (n:=n) (c:=c) (i:=i);have t3:=oO (d:=5016) (n:=n) (c:=c) (i:=i+1) (k:=i) m;rw[if_pos (adK i)]at t3;refine ar (k:=be rfl (ai (am (bC (k:=?_)))));simp only[Cc];refine aL (aH w (aH x (aH J (aH K (aH L (aH t1 t2)))))) (k:=aL t3 (k:=?_));refine aB (G:=jx c) (fun q=>⟨(jk::rN c::.fn h [.p (.ptr f)]::j4 (.one (.sl 5016 1 0 (n*c))::.one (.sl 5016 0 0 n)::rN i::j4 (jk::jk::jk::.one (.sl 5016 0 0 n)::rN n::rN i::j16 (j4 (jk::jk::rN c::rN q.i::j4 (j4 (j4 (jk::jk::jk::[])))))))),Hm [(5016,Cc 5016 n c (i+1) (part g i q.i))]⟩) (fun q=>c-q.i) ⟨0,by omega⟩ ?_ ?_
  ·refine aj ⟨rfl,trivial⟩ ?_;simp[wk]
  rintro⟨j,O⟩;simp only;by_cases o:j<c
  ·have A:=D i j m o;have E:i*c+j<n*c:=by omega
   have y:=aw (fl c (part g i j)) E;have z:=N9 (n:=n) (c:=c) (part g i j) (v:=g i j) m o;refine ar (k:=be rfl (ai (am (bC (k:=?_)))));simp only[Cc];refine gX [⟨8,_,_,_,A⟩] (aH t3 (aH y (aH @uG z))) (k:=bS (k:=?_));refine⟨⟨j+1,by omega⟩,by grind,aj ⟨?_,trivial⟩ ?_⟩
   ·show[_,_]=[_,_];grind [qz,iF]
   simp[wk]
  have t:j=c:=by omega
  subst t;refine ar (k:=bv rfl (bS (k:=?_)));refine⟨⟨i+1,by omega⟩,by grind,aj ⟨?_,trivial⟩ ?_⟩
  ·show[_,_]=[_,_];grind [qz,kf]
  simp[wk]
 have s:i=n:=by omega
 subst s;refine ar (k:=bv rfl (bC (k:=?_)));refine bf.weak ((bD 5016 (JS rfl)).trans (aj (tm:=(j4 (jk::jk::da (mat i c g)::j16 (j16 (j16 (j4 ([]))))))) (l:=[]) trivial ?_)) ?_
 ·have e:=Qx (c:=c) (H:=Hm [(5016,Cc 5016 i c i (part g i 0))]) r rfl;rw[gQ fun a b B _=>ke g a b B]at e;simp[wk];exact e.symm
 (refine aW ⟨.inr rfl,bW rfl ?_ rfl⟩;simp(disch:=omega) only[kd,results234,da])
theorem Ug (m:FuncId) (f:List PV) (b:Nat) (w:TypeId) (h:List PV) (n c:Nat) (g:FF) (L:1<=n) (J:n<=16) (s:1<=c) (E:c<=16)
  (F: ∀i j,i<n->j<c->CallT prog b w m [.raw (.int .i64 (i:Int)),.raw (.int .i64 (j:Int)),.one (.p (.ptr f)),.raw (.pointer (some ⟨b,0,none⟩))] h ⟨[],tZ (g i j)⟩ h):
  CallT prog b w 234 [.raw (.int .i64 (n:Int)),.raw (.int .i64 (c:Int)),.fn m [.p (.ptr f),.p (.raw (.pointer (some ⟨b,0,none⟩)))]] h ⟨[],da (mat n c g)⟩ h:=by
 have P:n*c<=256:=aap (aaT J E) (by omega);have x:IntKind.i64.wrap ((n:Int)*(c:Int))=((n*c:Nat):Int):=by grind [aK]
 refine j5 func234 rfl (by kernel_rfl) ?_;rw[ntmps234];refine UT (k:=iQ x (k:=cQ (k:=?_)));refine dV.weak ((gn 14).trans ((gn 16).trans ((lk 16 14 5016 (oa:=⟨85,1,Hj 5016 n c 0⟩) (oe:=⟨65,2,lc fZ (aN (n*c) (fl c (part g 0 0)))⟩) ?_ ?_ rfl (EH _ _ _ _) (bo _ _ _) (by omega) (by omega) (by omega)).trans (aj (tm:=(jk::rN c::.fn m [.p (.ptr f),.p (.raw (.pointer (some ⟨b,0,none⟩)))]::j4 (.one (.sl 5016 1 0 (n*c))::.one (.sl 5016 0 0 n)::j16 (j16 (j16 (jk::jk::[])))))) (l:=[(5016,Cc 5016 n c 0 (part g 0 0))]) ⟨rfl,trivial⟩ ?_)))) ?_
 ·exact EI 5016 n c
 ·exact JT n c g
 ·simp[wk,K7,acw,lS,fp,pn]
 simp only[Cc];refine b6 (cQ (k:=?_));refine iO (G:=jx n) (fun q=>⟨(jk::rN c::.fn m [.p (.ptr f),.p (.raw (.pointer (some ⟨b,0,none⟩)))]::j4 (.one (.sl 5016 1 0 (n*c))::.one (.sl 5016 0 0 n)::j4 (j4 (.one (.sl 5016 0 0 n)::rN n::rN q.i::j16 (j16 (j4 (jk::jk::jk::[]))))))),Hm [(5016,Cc 5016 n c q.i (part g q.i 0))]⟩) (fun _=>h) (fun q=>n-q.i) ⟨0,by omega⟩ ?_ rfl ?_
 ·refine aj ⟨rfl,trivial⟩ ?_;simp[wk]
 rintro⟨i,Q⟩;simp only;by_cases o:i<n
 ·have M:i*c<(i+1)*c:=by grind
  have N:(i+1)*c<=n*c:=aav _ o;have O:(i+1)*c-i*c=c:=by grind
  have y:IntKind.i64.wrap ((i:Int)*(c:Int))=((i*c:Nat):Int):=by grind [aK]
  have z:IntKind.i64.wrap (((i:Int)+1)*(c:Int))=(((i+1)*c:Nat):Int):=by
   grind [aK]
  have t1:=oO (d:=5016) (n:=n) (c:=c) (i:=i) o;rw[if_neg (aeb i)]at t1;have t2:=JR (d:=5016) (n:=n) (c:=c) (i:=i);have t3:=oO (d:=5016) (n:=n) (c:=c) (i:=i+1) (k:=i) o;rw[if_pos (adK i)]at t3;refine cQ (k:=pe rfl (b6 (cA (cQ (k:=?_)))));simp only[Cc];refine iQ (aH y (aH z (aH M (aH N (aH O (aH t1 t2)))))) (k:=iQ t3 (k:=?_));refine iO (G:=jx c) (fun q=>⟨(jk::rN c::.fn m [.p (.ptr f),.p (.raw (.pointer (some ⟨b,0,none⟩)))]::j4 (.one (.sl 5016 1 0 (n*c))::.one (.sl 5016 0 0 n)::rN i::j4 (jk::jk::jk::.one (.sl 5016 0 0 n)::rN n::rN i::j16 (j4 (jk::jk::rN c::rN q.i::j4 (j4 (j4 (jk::jk::jk::[])))))))),Hm [(5016,Cc 5016 n c (i+1) (part g i q.i))]⟩) (fun _=>h) (fun q=>c-q.i) ⟨0,by omega⟩ ?_ rfl ?_
  ·refine aj ⟨rfl,trivial⟩ ?_;simp[wk]
  rintro⟨j,R⟩;simp only;by_cases r:j<c
  ·have C:=F i j o r;have I:i*c+j<n*c:=by omega
   have A:=aw (fl c (part g i j)) I;have B:=N9 (n:=n) (c:=c) (part g i j) (v:=g i j) o r;refine cQ (k:=pe rfl (b6 (cA (cQ (k:=?_)))));simp only[Cc];refine jZ b8 8 C [] [] (by kernel_rfl) (by kernel_rfl) (by rfl) (by rfl) fun _ K=>?_;simp(disch:=omega) only[kd,tZ,aa,t3,fZ,A,uG,B];apply K
   show dV _ _ _ _ _ _ _;refine ss (k:=?_);refine⟨⟨j+1,by omega⟩,by grind,aj ⟨?_,trivial⟩ ?_,rfl⟩
   ·show[_,_]=[_,_];grind [qz,iF]
   simp[wk]
  have u:j=c:=by omega
  subst u;refine cQ (k:=pb rfl (ss (k:=?_)));refine⟨⟨i+1,by omega⟩,by grind,aj ⟨?_,trivial⟩ ?_,rfl⟩
  ·show[_,_]=[_,_];grind [qz,kf]
  simp[wk]
 have t:i=n:=by omega
 subst t;refine cQ (k:=pb rfl (cQ (k:=?_)));refine dV.weak ((bD 5016 (JS rfl)).trans (aj (tm:=(j4 (jk::jk::da (mat i c g)::j16 (j16 (j16 (j4 ([]))))))) (l:=[]) trivial ?_)) ?_
 ·have e:=Qx (c:=c) (H:=Hm [(5016,Cc 5016 i c i (part g i 0))]) s rfl;rw[gQ fun a b D _=>ke g a b D]at e;simp[wk];exact e.symm
 (refine ky ⟨.inr rfl,rfl,bW rfl ?_ rfl⟩;simp(disch:=omega) only[kd,results234,da])
theorem Ps (n:Nat) (f:FF) (b:1<=n) (e:n<=16):CallC prog 252 [da (mat n n f)] ⟨[],.tup [(false,[.p (.raw (.int .i64 (n:Int)))]),(false,[.p (.raw (.int .i64 (n:Int)))]),(false,[.p (.raw (.bool true))])]⟩:=by
 have c:=Eu (mat n n f);rw[ig (mA f b e b e),aT,i6 f b]at c;refine aA func252 rfl ntmps252 (aC (k:=bK [⟨1,_,_,_,c⟩] (k:=aD @results252)))
theorem LE (n:Nat) (f:FF) (b:1<=n) (e:n<=16):CallC prog 233 [da (mat n n f)] ⟨[],.tup [(false,[.p (.raw (.int .i64 (n:Int)))]),(false,[.p (.raw (.bool true))])]⟩:=by
 have c:=Ps n f b e;refine aA func233 rfl ntmps233 (aC (k:=bK [⟨1,_,_,_,c⟩] (k:=ar (k:=aD @results233))))
theorem Sy (a b c d e:Int) (s:Nat) (w:s<=67174400) (g:Sz a s) (h:Sz b s) (j:Sz c s) (m:Sz d s) (u:Sz e s) (f:e≠0):
  CallC prog 238 [tZ a,tZ b,tZ c,tZ d,tZ e] ⟨[],tZ ((a*d-b*c)/e)⟩:=by
 have n:=g.mul m;have o:=h.mul j;have v:=n.sub o;have p:=A7 a d (g.mono (by omega)) (m.mono (by omega));have q:=A7 b c (h.mono (by omega)) (j.mono (by omega));have r:=Om (a*d) (b*c) (n.mono (by omega)) (o.mono (by omega));have t:=zq (a*d-b*c) e f (v.mono (by omega)) (u.mono (by omega));refine aA func238 rfl ntmps238 (aC (k:=?_));refine bf.weak (aj (tm:=(j4 (jk::.one (.ptr 5 0 0 0)::.one (.ptr 6 0 0 0)::.one (.ptr 7 0 0 0)::.one (.ptr 8 0 0 0)::.one (.ptr 9 0 0 0)::.one (.ptr 10 0 0 0)::j16 (jk::[])))) (l:=[(5,qt a),(6,qt b),(7,qt c),(8,qt d),(9,qt e),(10,AO)]) ⟨rfl,rfl,rfl,rfl,rfl,rfl,trivial⟩ (by simp[wk])) ?_;refine di [⟨2,_,_,_,p⟩,⟨5,_,_,_,q⟩,⟨6,_,_,_,r⟩,⟨8,_,_,_,t⟩] (k:=ar (k:=aD @results238))
abbrev kZ (M:List (List Int)):List PV:=[.sl (ls (fR fZ) M)]
theorem Xs {i:Nat} (h:i<n) (l:m<n) (q:n<=16) (g:Bg (b i m)):
  CallC prog 235 [.raw (.int .i64 (i:Int)),.raw (.int .i64 (m:Int)),.one (.p (.ptr (kZ (mat n n b))))] ⟨[],tZ (b i m)⟩:=by
 have o:=bF n b h;have c:=aw (b i) l;have e:=A8 (b i m) g;refine aA func235 rfl ntmps235 (aC (k:=cO [⟨7,_,_,_,e⟩] (aH o c) (k:=aD @results235)))
theorem Xt (c:Nat) {last:Int} {i:Nat} (t:i+1<n) (f:m+1<n) (C:n<=16) (s:Nat) (z:s<=67174400) (e: ∀i m,i<n->m<n->Sz (b i m) s) (y:Sz last s) (u:last≠0):
  CallT prog c 65 237 [.raw (.int .i64 (i:Int)),.raw (.int .i64 (m:Int)),.one (.p (.ptr (kZ (mat n n b)))),.raw (.pointer (some ⟨c,0,none⟩))] (fZ last)
   ⟨[],tZ ((b 0 0*b (i+1) (m+1)-b (i+1) 0*b 0 (m+1))/last)⟩ (fZ last):=by
 have A:=bF n b (show 0<n by omega);have B:=bF n b t;have h:=aw (b 0) (show 0<n by omega);have o:=aw (b 0) f;have q:=aw (b (i+1)) (show 0<n by omega);have r:=aw (b (i+1)) f;have v:((i:Int)+1).toNat=i+1:=by omega
 have w:((m:Int)+1).toNat=m+1:=by omega
 have x:=Sy (b 0 0) (b (i+1) 0) (b 0 (m+1)) (b (i+1) (m+1)) last s z (e _ _ (by omega) (by omega)) (e _ _ t (by omega)) (e _ _ (by omega) f) (e _ _ t f) y u;refine j5 func237 rfl (by kernel_rfl) ?_;rw[ntmps237];refine CX 3 900 rfl rfl ?_;refine fH.weak (aj (tm:=(.raw (.int .i64 (i:Int))::rN m::.one (.p (.ptr (kZ (mat n n b))))::.one (.ptr 900 0 0 0)::j16 (j16 (jk::[])))) (l:=[(900,qt last)]) ⟨rfl,trivial⟩ (by simp[wk,FR,vP,ae])) ?_;refine j1 (k:=R5 [⟨29,_,_,_,x⟩] (aH A (aH h (aH v (aH B (aH q (aH w (aH o r))))))) (k:=?_));refine qi ⟨fZ last,rfl,rfl,.inr rfl,rfl,bW rfl ?_ rfl⟩;simp(disch:=omega) only[kd,results237,sN,i5,Nat.reduceEqDiff,aa,tZ]
end Go.Proofs.YtalmoejhjceflaaGreat
