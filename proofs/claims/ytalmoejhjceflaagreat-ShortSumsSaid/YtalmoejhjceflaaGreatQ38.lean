/-
  Part 39 of a proof (walks and plain facts).
-/
import Derived.Test.YtalmoejhjceflaaGreatQ37
set_option linter.all false
set_option maxRecDepth 100000
set_option maxHeartbeats 64000000
open Nat renaming reduceAdd → aa
open List renaming replicate → ae
namespace Go.Proofs.YtalmoejhjceflaaGreat
open Go.RowKit Go.Proofs.Tryz
variable {n m:Nat} {x:Int} {b:FF}
theorem RQ (a:Int) (c:0<=a) (b:a<=4611686018427387904):CallC prog 185 [.raw (.int .u64 a)] ⟨[],.raw (.int .i64 (Lib.bitLen a.toNat:Int))⟩:=by
 refine nj (by kernel_rfl) fun X w vs o h g=>?_
 obtain⟨p,n,l⟩:=y5 g (j:=0) rfl;obtain⟨rfl,_⟩:=aZ (ρ:=fun _ _=>none) (H:=fun _=>[]) l;obtain rfl:vs= #[.int .u64 a]:=by
  grind
 exact(Any.bits_Len64 Tryz.lays129 a w c (by omega)).mono fun e q ⟨b,f⟩=>⟨_,b,fun m H Y=>b7 rfl,by rw[f];exact Ext.refl _⟩
/-! Newton's steps. -/
theorem RU:isqF 0=0:=(de (adT 0)).uniq ⟨adT _,by decide,by decide⟩
theorem pZ {a:Int} (c:0<=a) (e:a<=4611686018427387904):0<=isqF a/\isqF a<=2147483648:=by
 obtain⟨b,f,g⟩:=de c;refine⟨b,ad7 fun h=>?_⟩;have:=acZ (show 2147483649<=isqF a by omega) (show 2147483649<=isqF a by omega) (by omega) b;omega
theorem OJ {a r:Int} (c:Ls a x) (b:0<r):x<=(r+a/r)/2:=by
 obtain⟨l,m,n⟩:=c;refine agm (by omega) (ad7 fun h=>?_);have e:a/r<=2*x-1-r:=by omega
 have f:a<(a/r+1)*r:=aeh a b;have g:(a/r+1)*r<=(2*x-r)*r:=ac2 (by omega) (by omega);have j:0<=(x-r)*(x-r):=by
  rcases aec 0 (x-r)with h|h
  ·exact acP h h
  exact ac3 h h
 grind
theorem J4 {a r:Int} (f:Ls a x) (b:0<r) (g:x<=r) (h:r<=(r+a/r)/2):r=x:=by
 have c:r<=a/r:=by omega
 have e:r*r<=a:=(ael b).1 c;have:=(uf f).1 e;omega
theorem Ep {a:Int} (c:0<a) (e:a<=4611686018427387904):(Lib.bitLen a.toNat:Int)<=63/\isqF a<=((2^((Lib.bitLen a.toNat+1)/2):Nat):Int)/\2^((Lib.bitLen a.toNat+1)/2)<=4294967296:=by
 have j:=Lib.bitLen_le a.toNat 63 (by omega) (by
  omega)
 have l:a.toNat<2^Lib.bitLen a.toNat:=(wT a.toNat (by omega) (by omega)).2.2;obtain⟨b,o,q⟩:=de (show 0<=a by omega);refine⟨by omega,?_,?_⟩
 ·generalize n:(Lib.bitLen a.toNat+1)/2=m at*
  refine ad7 fun h=>?_
  have f:a.toNat<2^m*2^m:=by
   rw[<- adv];grind [Nat.lt_of_lt_of_le,Nat.pow_le_pow_right]
  generalize 2^m=p at*
  have g:=acZ (show(p:Int)<=isqF a by omega) (show(p:Int)<=isqF a by omega) (by omega) b;omega
 exact acF (by omega) (show(Lib.bitLen a.toNat+1)/2<=32 by omega)
structure NwG (a:Int) where
 r:Nat
 h0:0<r
 h1:isqF a<=(r:Int)
 h2:r<=4294967296
theorem abq {a:Int} (c:0<x):a/x=if Int.tmod a x<0 then Int.tdiv a x-1 else Int.tdiv a x:=by
 have e:=Int.mul_tdiv_add_tmod a x;have f:=Int.tmod_lt_of_pos a c;have g: -x<Int.tmod a x:=by
  simp_all[Int.lt_tmod_of_pos]
 split
 ·rename_i h;refine(afx (r:=Int.tmod a x+x) c).2 ⟨?_,by omega,by omega⟩|>.1;grind
 rename_i h;exact((afx (r:=Int.tmod a x) c).2 ⟨by omega,by omega,by omega⟩).1
theorem AL {f:FuncId} (w:f=189\/f=140\/f=144) (a:Int) (e:0<=a) (v:a<=4611686018427387904):CallC prog f [.raw (.int .i64 a)] ⟨[],.raw (.int .i64 (isqF a))⟩:=by
 by_cases O:a=0
 ·subst O;rw[RU];rcases w with rfl|rfl|rfl
  all_goals
   first
   |(refine fL func189 rfl (by kernel_rfl) ?_;rw[ntmps189])
   |(refine fL func140 rfl (by kernel_rfl) ?_;rw[ntmps140])
   |(refine fL func144 rfl (by kernel_rfl) ?_;rw[ntmps144])
   (first|refine aw fun _ K=>?_|refine ai (aw fun _ K=>?_)|refine ai (ai (aw fun _ K=>?_)));simp only[kd,ae];apply K
   (first|refine aw fun _ K=>?_|refine ai (aw fun _ K=>?_)|refine ai (ai (aw fun _ K=>?_)));simp(disch:=omega) only[kd];apply K
   first|refine az rfl ?_|refine bs rfl (fun _=>?_) (fun h=>by simp at h<;>omega)
   (first|refine aw fun _ K=>?_|refine ai (aw fun _ K=>?_)|refine ai (ai (aw fun _ K=>?_)));simp only[kd];apply K
   (refine aQ ⟨.inr rfl,b8 rfl ?_ rfl⟩;simp(disch:=omega) only[kd,results189,results140,results144])
 obtain⟨P,z,A⟩:=Ep (show 0<a by omega) v;have c:=de e;have M:0<isqF a:=by
  obtain⟨S,T,U⟩:=c;grind
 have j:=RQ a e v;generalize Lib.bitLen a.toNat=L at*
 have B:IntKind.u64.wrap a=a:=by rw[adb];omega
 have C:Int.tdiv ((L:Int)+1) 2=(((L+1)/2:Nat):Int):=by rfl
 generalize R:(L+1)/2=m at*
 have x:m<=32:=by omega
 have D:IntKind.i64.wrap (2^min m IntKind.i64.bits)=((2^m:Nat):Int):=by
  rw[show min m IntKind.i64.bits=m from afd (show m<=64 by omega),show(2:Int)^m=((2^m:Nat):Int)from(agh 2 m).symm];grind [aL]
 have n:0<2^m:=adg (by omega);generalize 2^m=p at*
 rcases w with rfl|rfl|rfl
 all_goals
  first
  |(refine fL func189 rfl (by kernel_rfl) ?_;rw[ntmps189])
  |(refine fL func140 rfl (by kernel_rfl) ?_;rw[ntmps140])
  |(refine fL func144 rfl (by kernel_rfl) ?_;rw[ntmps144])
  (first|refine aw fun _ K=>?_|refine ai (aw fun _ K=>?_)|refine ai (ai (aw fun _ K=>?_)));simp only[kd,ae];apply K
  (first|refine aw fun _ K=>?_|refine ai (aw fun _ K=>?_)|refine ai (ai (aw fun _ K=>?_)));simp(disch:=omega) only[kd];apply K
  first|refine ao rfl (ak ?_)|refine bs rfl (fun h=>by simp at h<;>omega) (fun _=>ak ?_)
  show bA _ _ _ _
  (first|refine bC [⟨2,_,_,_,j⟩] [] fun _ K=>?_|refine ai (bC [⟨2,_,_,_,j⟩] [] fun _ K=>?_)|refine ai (ai (bC [⟨2,_,_,_,j⟩] [] fun _ K=>?_)));simp(disch:=omega) only[kd,aa,B,aL,C,afV,D];apply K
  refine ay (G:=NwG a) (fun g=>⟨(.raw (.int .i64 a)::jk::jk::rN g.r::j16 (j4 ([]))),Hm []⟩) (fun g=>g.r) ⟨p,n,z,A⟩ ?_ ?_
  ·refine aj trivial ?_;simp[wk]
  rintro⟨r,I,o,J⟩;simp only;have l:=OJ (r:=(r:Int)) c (by omega);have F:0<=a/(r:Int):=adW e (by omega);have H:a/(r:Int)<=a:=ae3 _ e;have E:Int.tdiv a (r:Int)=a/(r:Int):=adi e;have u:Int.tdiv ((r:Int)+a/(r:Int)) 2=((r:Int)+a/(r:Int))/2:=adi (by omega);have b:=J4 (r:=(r:Int)) c (by omega) o;have y:((r:Int)=0)=False:=eq_false (by omega);generalize a/(r:Int)=q at*
  obtain⟨t,N⟩: ∃t:Nat,((r:Int)+q)/2=(t:Int):=acO (by omega);rw[N]at l b u;refine am ?_
  (first|refine aw fun _ K=>?_|refine ai (aw fun _ K=>?_)|refine ai (ai (aw fun _ K=>?_)));simp(disch:=omega) only[kd,aa,E,aL,u];apply K
  by_cases Q:r<=t
  ·have s:=b (by omega)
   (first|refine aw fun _ K=>?_|refine ai (aw fun _ K=>?_)|refine ai (ai (aw fun _ K=>?_)));simp(disch:=omega) only[kd,aa];apply K
   first|refine az rfl ?_|refine bs rfl (fun _=>?_) (fun h=>by simp at h<;>omega)
   (first|refine aw fun _ K=>?_|refine ai (aw fun _ K=>?_)|refine ai (ai (aw fun _ K=>?_)));simp only[kd];apply K
   rw[s]
   (refine aQ ⟨.inr rfl,b8 rfl ?_ rfl⟩;simp(disch:=omega) only[kd,results189,results140,results144])
  (first|refine aw fun _ K=>?_|refine ai (aw fun _ K=>?_)|refine ai (ai (aw fun _ K=>?_)));simp(disch:=omega) only[kd,aa];apply K
  first|refine ao rfl (ak ?_)|refine bs rfl (fun h=>by simp at h<;>omega) (fun _=>ak ?_)
  show bA _ _ _ _;refine aAl (k:=?_);refine⟨⟨t,by omega,by omega,by omega⟩,by grind,aj trivial ?_⟩;simp[wk]
theorem qL {f:FuncId} (o:f=223\/f=141\/f=148) (a b:Int) (l:0<b) (n:b<=4611686018427387904) (r: -4611686018427387904<=a) (s:a<=4611686018427387904):CallC prog f [.raw (.int .i64 a),.raw (.int .i64 b)] ⟨[],.raw (.int .i64 (a/b))⟩:=by
 have c:=abq (a:=a) l;have t:(Int.tdiv a b).natAbs<=a.natAbs:=by
  rw[Int.natAbs_tdiv];exact aeC _ _
 have e:(b=0)=False:=eq_false (by omega);rw[c];generalize p:Int.tdiv a b=q at*
 generalize j:Int.tmod a b=m at*
 rcases o with rfl|rfl|rfl
 all_goals
  first
  |(refine fL func223 rfl (by kernel_rfl) ?_;rw[ntmps223])
  |(refine fL func141 rfl (by kernel_rfl) ?_;rw[ntmps141])
  |(refine fL func148 rfl (by kernel_rfl) ?_;rw[ntmps148])
  (first|refine aw fun _ K=>?_|refine ai (aw fun _ K=>?_)|refine ai (ai (aw fun _ K=>?_)));simp only[kd,aa,ae];apply K
  (first|refine aw fun _ K=>?_|refine ai (aw fun _ K=>?_)|refine ai (ai (aw fun _ K=>?_)));simp(disch:=omega) only[kd,aa,p,aL];apply K
  by_cases g:m<0
  ·rw[if_pos g]
   (first|refine aw fun _ K=>?_|refine ai (aw fun _ K=>?_)|refine ai (ai (aw fun _ K=>?_)));simp(disch:=omega) only[kd,aa,j];apply K
   first|refine az rfl ?_|refine bs rfl (fun _=>?_) (fun h=>by simp at h<;>omega)
   refine bu (k:=?_);show bA _ _ _ _
   (first|refine aw fun _ K=>?_|refine ai (aw fun _ K=>?_)|refine ai (ai (aw fun _ K=>?_)));simp only[kd];apply K
   (refine aQ ⟨.inr rfl,b8 rfl ?_ rfl⟩;simp(disch:=omega) only[kd,results223,results141,results148])
  rw[if_neg g]
  (first|refine aw fun _ K=>?_|refine ai (aw fun _ K=>?_)|refine ai (ai (aw fun _ K=>?_)));simp(disch:=omega) only[kd,aa,j];apply K
  first|refine ao rfl (ak ?_)|refine bs rfl (fun h=>by simp at h<;>omega) (fun _=>ak ?_)
  show bA _ _ _ _
  (first|refine aw fun _ K=>?_|refine ai (aw fun _ K=>?_)|refine ai (ai (aw fun _ K=>?_)));simp only[kd];apply K
  (refine aQ ⟨.inr rfl,b8 rfl ?_ rfl⟩;simp(disch:=omega) only[kd,results223,results141,results148])
def fl (c:Nat) (g:FF):Nat->Int:=fun k=>g (k/c) (k%c)
theorem abp (g:FF) {i:Nat} (b:m<n):fl n g (i*n+m)=g i m:=by
 grind [fl,Jr]
theorem tY {f:FF} (h: ∀a e,a<n->e<m->b a e=f a e):aN (n*m) (fl m b)=aN (n*m) (fl m f):=dT fun k l=>by
 have j:0<m:=by
  grind
 exact h _ _ (aeJ (by grind)) (acM _ j)
theorem RF {n c i:Nat} (g:FF) {v:Int} (p:i<n) (b:m<c):(aN (n*c) (fl c g)).set (i*c+m) v=aN (n*c) (fl c (upd g i m v)):=by
 rw[nL];refine dT fun k q=>?_
 have l:0<c:=by omega
 unfold fl upd;by_cases h:k=i*c+m
 ·subst h;have h:=Jr (i:=i) (j:=m) (sz:=c) b;simp_all
 rw[if_neg h];by_cases e:k/c=i
 ·have f:k%c≠m:=fun o=>h (by
   grind [Nat.div_add_mod])
  simp_all
 grind
theorem Mp (l:List Int) (k:Nat) (v:Int):(lc fZ l).set k [.p (.raw (.bool (decide (v<0)))),.p (.sl (ls fU (au v.natAbs)))]=lc fZ (l.set k v):=by
 rw[<- wj];rfl
def KJ (d n c i:Nat):List (List AV):=(List.range n).map fun k=>if k<i then[.sl d 1 (k*c) c]else[.p (.sl [])]
def E7 (d n c i:Nat) (g:FF):List OObj:=[⟨85,1,KJ d n c i⟩,⟨65,2,lc fZ (aN (n*c) (fl c g))⟩]
theorem E8 (d n c i:Nat):(KJ d n c i).length=n:=by simp[KJ]
theorem rm {d n c i k:Nat} (h:k<n):(KJ d n c i)[k]?=some (if k<i then[.sl d 1 (k*c) c]else[.p (.sl [])]):=by
 grind [KJ]
theorem M8 {d n c i:Nat}:(KJ d n c i).set i [.sl d 1 (i*c) c]=KJ d n c (i+1):=by
 apply acz;grind [E8,rm]
theorem If (d n c:Nat):([⟨85,1,ae n [.raw (.slice none 0 0)]⟩]:List OObj).map zO=[⟨85,1,KJ d n c 0⟩]:=by
 simp[zO,KJ,Fl,IA,List.map_const']
theorem Nb (n c:Nat) (g:FF):([⟨65,2,ae (n*c) [.raw (.bool false),.raw (.slice none 0 0)]⟩]:List OObj).map zO=[⟨65,2,lc fZ (aN (n*c) (fl c (part g 0 0)))⟩]:=by
 have b:aN (n*c) (fl c (part g 0 0))=ae (n*c) 0:=by
  apply acz;grind [aB,fl,part,aD]
 simp[b,zO,lc,fZ,Fl,IA,cn,ls]
theorem Ie (g d n c:Nat):eB ⟨g,1,KJ d n c 0⟩:=fun e b x f=>by
 simp only[KJ,acn]at b;obtain⟨k,_,rfl⟩:=b;simp at f;subst f;rfl
theorem M9 {H:OH} {d i:Nat} (h:H d=E7 d n m i b):xG H d:=fun r o f e l x j=>by
 rw[h]at f
 match r,f with
 |0,f=>
  simp[E7]at f;subst f;simp only[KJ,acn]at l;obtain⟨k,_,rfl⟩:=l;split at j
  ·simp at j;subst j;exact .inr ⟨1,_,_,⟨65,2,lc fZ (aN (n*m) (fl m b))⟩,rfl,by rw[h];rfl,bL _ _ _⟩
  simp at j;subst j;exact .inl rfl
 |1,f=>
  simp[E7]at f;subst f;exact .inl (bL _ _ _ e l x j)
 |r+2,f=>simp[E7]at f
theorem O8 {i:Nat} (g:FF) (b:i<n):((aN (n*m) (fl m g)).take (i*m+m)).drop (i*m)=aN m (g i):=by
 have e:i*m+m<=n*m:=by
  have:=acu m b;grind
 apply acz;grind [aB,abp,aD]
theorem TU {H:OH} {c:Nat} (_hc:1<=c) (h:H 5016=E7 5016 n c n b):fk H 5016 (.one (.sl 5016 0 0 n))= .one (.p (.sl (ls (fR fZ) (mat n c b)))):=by
 have f:(H 5016)[0]?=some ⟨85,1,KJ 5016 n c n⟩:=by rw[h];rfl
 have j:(H 5016)[1]?=some ⟨65,2,lc fZ (aN (n*c) (fl c b))⟩:=by rw[h];rfl
 simp only[fk,dP,if_true,f]
 congr 3
 rw[acQ,adC,ack (by grind [E8])];apply acz;intro k;rw[ach,gV];by_cases e:k<n
 ·rw[rm e,if_pos e,bD c b e];simp only[adB,acA,acT,po,j,iK,D7,O8 b e,qP];rfl
 grind [E8,aU]
theorem Xt (h:FuncId) (f:List PV) (n c:Nat) (g:FF) (I:1<=n) (F:n<=16) (r:1<=c) (C:c<=16)
  (D: ∀i j,i<n->j<c->CallC prog h [.raw (.int .i64 (i:Int)),.raw (.int .i64 (j:Int)),.one (.p (.ptr f))] ⟨[],tZ (g i j)⟩):
  CallC prog 234 [.raw (.int .i64 (n:Int)),.raw (.int .i64 (c:Int)),.fn h [.p (.ptr f)]] ⟨[],dr (mat n c g)⟩:=by
 have M:n*c<=256:=acl (acU F C) (by omega);have u:IntKind.i64.wrap ((n:Int)*(c:Int))=((n*c:Nat):Int):=by grind [aL]
 refine ax func234 rfl ntmps234 (aA (k:=aH u (k:=ar (k:=?_))));refine bA.weak ((g7 14).trans ((g7 16).trans ((nf 16 14 5016 (oa:=⟨85,1,KJ 5016 n c 0⟩) (oe:=⟨65,2,lc fZ (aN (n*c) (fl c (part g 0 0)))⟩) ?_ ?_ rfl (Ie _ _ _ _) (bL _ _ _) (by omega) (by omega) (by omega)).trans (aj (tm:=(jk::rN c::.fn h [.p (.ptr f)]::j4 (.one (.sl 5016 1 0 (n*c))::.one (.sl 5016 0 0 n)::j16 (j16 (j16 (jk::jk::[])))))) (l:=[(5016,E7 5016 n c 0 (part g 0 0))]) ⟨rfl,trivial⟩ ?_)))) ?_
 ·exact If 5016 n c
 ·exact Nb n c g
 ·simp[wk,Oj,aeK,oW,gW,rY]
 simp only[E7];refine ai (bi (k:=?_));refine ay (G:=fY n) (fun q=>⟨(jk::rN c::.fn h [.p (.ptr f)]::j4 (.one (.sl 5016 1 0 (n*c))::.one (.sl 5016 0 0 n)::j4 (j4 (.one (.sl 5016 0 0 n)::rN n::rN q.i::j16 (j16 (j4 (jk::jk::jk::[]))))))),Hm [(5016,E7 5016 n c q.i (part g q.i 0))]⟩) (fun q=>n-q.i) ⟨0,by omega⟩ ?_ ?_
 ·refine aj ⟨rfl,trivial⟩ ?_;simp[wk]
 rintro⟨i,N⟩;simp only;by_cases m:i<n
 ·have J:i*c<(i+1)*c:=by grind
  have K:(i+1)*c<=n*c:=acu _ m;have L:(i+1)*c-i*c=c:=by grind
  have w:IntKind.i64.wrap ((i:Int)*(c:Int))=((i*c:Nat):Int):=by grind [aL]
  have x:IntKind.i64.wrap (((i:Int)+1)*(c:Int))=(((i+1)*c:Nat):Int):=by
   grind [aL]
  have t1:=rm (d:=5016) (n:=n) (c:=c) (i:=i) m;rw[if_neg (agF i)]at t1;have t2:=M8 (d:=5016) (n:=n) (c:=c) (i:=i);have t3:=rm (d:=5016) (n:=n) (c:=c) (i:=i+1) (k:=i) m;rw[if_pos (af5 i)]at t3;refine ar (k:=aV rfl (ai (am (bi (k:=?_)))));simp only[E7];refine aH (aC w (aC x (aC J (aC K (aC L (aC t1 t2)))))) (k:=aH t3 (k:=?_));refine ay (G:=fY c) (fun q=>⟨(jk::rN c::.fn h [.p (.ptr f)]::j4 (.one (.sl 5016 1 0 (n*c))::.one (.sl 5016 0 0 n)::rN i::j4 (jk::jk::jk::.one (.sl 5016 0 0 n)::rN n::rN i::j16 (j4 (jk::jk::rN c::rN q.i::j4 (j4 (j4 (jk::jk::jk::[])))))))),Hm [(5016,E7 5016 n c (i+1) (part g i q.i))]⟩) (fun q=>c-q.i) ⟨0,by omega⟩ ?_ ?_
  ·refine aj ⟨rfl,trivial⟩ ?_;simp[wk]
  rintro⟨j,O⟩;simp only;by_cases o:j<c
  ·have A:=D i j m o;have E:i*c+j<n*c:=by omega
   have y:=aB (fl c (part g i j)) E;have z:=RF (n:=n) (c:=c) (part g i j) (v:=g i j) m o;refine ar (k:=aV rfl (ai (am (bi (k:=?_)))));simp only[E7];refine eQ [⟨8,_,_,_,A⟩] (aC t3 (aC y (aC @Mp z))) (k:=bu (k:=?_));refine⟨⟨j+1,by omega⟩,by grind,aj ⟨?_,trivial⟩ ?_⟩
   ·show[_,_]=[_,_];grind [tY,ik]
   simp[wk]
  have t:j=c:=by omega
  subst t;refine ar (k:=aW rfl (bu (k:=?_)));refine⟨⟨i+1,by omega⟩,by grind,aj ⟨?_,trivial⟩ ?_⟩
  ·show[_,_]=[_,_];grind [tY,jx]
  simp[wk]
 have s:i=n:=by omega
 subst s;refine ar (k:=aW rfl (bi (k:=?_)));refine bA.weak ((bF 5016 (M9 rfl)).trans (aj (tm:=(j4 (jk::jk::dr (mat i c g)::j16 (j16 (j16 (j4 ([]))))))) (l:=[]) trivial ?_)) ?_
 ·have e:=TU (c:=c) (H:=Hm [(5016,E7 5016 i c i (part g i 0))]) r rfl;rw[gI fun a b B _=>jw g a b B]at e;simp[wk];exact e.symm
 (refine aQ ⟨.inr rfl,b8 rfl ?_ rfl⟩;simp(disch:=omega) only[kd,results234,dr])
theorem Xu (m:FuncId) (f:List PV) (b:Nat) (w:TypeId) (h:List PV) (n c:Nat) (g:FF) (L:1<=n) (J:n<=16) (s:1<=c) (E:c<=16)
  (F: ∀i j,i<n->j<c->CallT prog b w m [.raw (.int .i64 (i:Int)),.raw (.int .i64 (j:Int)),.one (.p (.ptr f)),.raw (.pointer (some ⟨b,0,none⟩))] h ⟨[],tZ (g i j)⟩ h):
  CallT prog b w 234 [.raw (.int .i64 (n:Int)),.raw (.int .i64 (c:Int)),.fn m [.p (.ptr f),.p (.raw (.pointer (some ⟨b,0,none⟩)))]] h ⟨[],dr (mat n c g)⟩ h:=by
 have P:n*c<=256:=acl (acU J E) (by omega);have x:IntKind.i64.wrap ((n:Int)*(c:Int))=((n*c:Nat):Int):=by grind [aL]
 refine lU func234 rfl (by kernel_rfl) ?_;rw[ntmps234];refine Yg (k:=mm x (k:=dy (k:=?_)));refine eH.weak ((g7 14).trans ((g7 16).trans ((nf 16 14 5016 (oa:=⟨85,1,KJ 5016 n c 0⟩) (oe:=⟨65,2,lc fZ (aN (n*c) (fl c (part g 0 0)))⟩) ?_ ?_ rfl (Ie _ _ _ _) (bL _ _ _) (by omega) (by omega) (by omega)).trans (aj (tm:=(jk::rN c::.fn m [.p (.ptr f),.p (.raw (.pointer (some ⟨b,0,none⟩)))]::j4 (.one (.sl 5016 1 0 (n*c))::.one (.sl 5016 0 0 n)::j16 (j16 (j16 (jk::jk::[])))))) (l:=[(5016,E7 5016 n c 0 (part g 0 0))]) ⟨rfl,trivial⟩ ?_)))) ?_
 ·exact If 5016 n c
 ·exact Nb n c g
 ·simp[wk,Oj,aeK,oW,gW,rY]
 simp only[E7];refine cd (dy (k:=?_));refine lR (G:=fY n) (fun q=>⟨(jk::rN c::.fn m [.p (.ptr f),.p (.raw (.pointer (some ⟨b,0,none⟩)))]::j4 (.one (.sl 5016 1 0 (n*c))::.one (.sl 5016 0 0 n)::j4 (j4 (.one (.sl 5016 0 0 n)::rN n::rN q.i::j16 (j16 (j4 (jk::jk::jk::[]))))))),Hm [(5016,E7 5016 n c q.i (part g q.i 0))]⟩) (fun _=>h) (fun q=>n-q.i) ⟨0,by omega⟩ ?_ rfl ?_
 ·refine aj ⟨rfl,trivial⟩ ?_;simp[wk]
 rintro⟨i,Q⟩;simp only;by_cases o:i<n
 ·have M:i*c<(i+1)*c:=by grind
  have N:(i+1)*c<=n*c:=acu _ o;have O:(i+1)*c-i*c=c:=by grind
  have y:IntKind.i64.wrap ((i:Int)*(c:Int))=((i*c:Nat):Int):=by grind [aL]
  have z:IntKind.i64.wrap (((i:Int)+1)*(c:Int))=(((i+1)*c:Nat):Int):=by
   grind [aL]
  have t1:=rm (d:=5016) (n:=n) (c:=c) (i:=i) o;rw[if_neg (agF i)]at t1;have t2:=M8 (d:=5016) (n:=n) (c:=c) (i:=i);have t3:=rm (d:=5016) (n:=n) (c:=c) (i:=i+1) (k:=i) o;rw[if_pos (af5 i)]at t3;refine dy (k:=vR rfl (cd (dx (dy (k:=?_)))));simp only[E7];refine mm (aC y (aC z (aC M (aC N (aC O (aC t1 t2)))))) (k:=mm t3 (k:=?_));refine lR (G:=fY c) (fun q=>⟨(jk::rN c::.fn m [.p (.ptr f),.p (.raw (.pointer (some ⟨b,0,none⟩)))]::j4 (.one (.sl 5016 1 0 (n*c))::.one (.sl 5016 0 0 n)::rN i::j4 (jk::jk::jk::.one (.sl 5016 0 0 n)::rN n::rN i::j16 (j4 (jk::jk::rN c::rN q.i::j4 (j4 (j4 (jk::jk::jk::[])))))))),Hm [(5016,E7 5016 n c (i+1) (part g i q.i))]⟩) (fun _=>h) (fun q=>c-q.i) ⟨0,by omega⟩ ?_ rfl ?_
  ·refine aj ⟨rfl,trivial⟩ ?_;simp[wk]
  rintro⟨j,R⟩;simp only;by_cases r:j<c
  ·have C:=F i j o r;have I:i*c+j<n*c:=by omega
   have A:=aB (fl c (part g i j)) I;have B:=RF (n:=n) (c:=c) (part g i j) (v:=g i j) o r;refine dy (k:=vR rfl (cd (dx (dy (k:=?_)))));simp only[E7];refine lS cu 8 C [] [] (by kernel_rfl) (by kernel_rfl) (by rfl) (by rfl) fun _ K=>?_;simp(disch:=omega) only[kd,tZ,aa,t3,fZ,A,Mp,B];apply K
   show eH _ _ _ _ _ _ _;refine xB (k:=?_);refine⟨⟨j+1,by omega⟩,by grind,aj ⟨?_,trivial⟩ ?_,rfl⟩
   ·show[_,_]=[_,_];grind [tY,ik]
   simp[wk]
  have u:j=c:=by omega
  subst u;refine dy (k:=vQ rfl (xB (k:=?_)));refine⟨⟨i+1,by omega⟩,by grind,aj ⟨?_,trivial⟩ ?_,rfl⟩
  ·show[_,_]=[_,_];grind [tY,jx]
  simp[wk]
 have t:i=n:=by omega
 subst t;refine dy (k:=vQ rfl (dy (k:=?_)));refine eH.weak ((bF 5016 (M9 rfl)).trans (aj (tm:=(j4 (jk::jk::dr (mat i c g)::j16 (j16 (j16 (j4 ([]))))))) (l:=[]) trivial ?_)) ?_
 ·have e:=TU (c:=c) (H:=Hm [(5016,E7 5016 i c i (part g i 0))]) s rfl;rw[gI fun a b D _=>jw g a b D]at e;simp[wk];exact e.symm
 (refine n7 ⟨.inr rfl,rfl,b8 rfl ?_ rfl⟩;simp(disch:=omega) only[kd,results234,dr])
theorem Of (a b:Nat) (F:0<b) (la:(au a).length<=268435456) (lb:(au b).length<=268435456):CallC prog 169 [cW (au a),cW (au b)] ⟨[],Gj a b⟩:=by
 have y:=zS (au a) (au b) (aI _) (aI _) (cb _) (cb _) (by omega) (by omega);rw[aG,aG]at y;by_cases B:a<b
 ·rw[qJ B]at y;have z:=GE (au a) (by omega);unfold Gj;rw[ae5 B,adR B,cn];refine ax func169 rfl ntmps169 (aA (k:=ai (am (bE [⟨2,_,_,_,y⟩] (k:=az rfl (bj [⟨1,_,_,_,z⟩] (k:=?_)))))));refine aQ ⟨.inr rfl,qr 4 rfl rfl ?_ rfl⟩;simp(disch:=omega) only[kd,results169]
 obtain⟨c,H,a2⟩: ∃c,c=iP a b/\0<=c:=⟨_,rfl,LQ (by omega)⟩;rw[<- H]at y;clear H;by_cases hs:(au a).length<=2
 ·have sb:(au b).length<=2:=acl (sH (show b<=a by omega)) hs;have ua:=i4 hs;have ub:=i4 sb;have T:=ue (au a) (aI _) hs;have U:=ue (au b) (aI _) sb;rw[aG]at T U;have hq:a/b<=a:=aeC _ _;have hr:a%b<b:=acM _ F;have h3:=kA (a/b) (by omega);have h4:=kA (a%b) (by omega);have ad:(b:Int)≠0:=by omega
  have C:IntKind.u64.wrap (Int.tdiv (a:Int) (b:Int))=((a/b:Nat):Int):=by
   grind [IntKind.wrap_u64]
  have Q:Int.tmod (a:Int) (b:Int)=((a%b:Nat):Int):=by
   rfl
  unfold Gj;generalize a/b=q at*
  generalize a%b=r at*
  refine ax func169 rfl ntmps169 (aA (k:=ai (am (bE [⟨2,_,_,_,y⟩] (k:=ao rfl (ar (k:=az rfl (bj [⟨1,_,_,_,T⟩,⟨3,_,_,_,U⟩] (k:=ch [⟨3,_,_,_,h3⟩,⟨7,_,_,_,h4⟩] (aC (@ne_eq.{1}) (aC ad (aC @not_false_eq_true (aC C Q)))) (k:=aE @results169))))))))))
 by_cases T:(au b).length=1
 ·obtain⟨g0,X⟩:=Oo T;have z:=Od (au a) (by omega) (by omega);have hw:=xH (au a) b (aI _) F X (by omega) (by omega);rw[aG]at hw;have hq:a/b<4294967296^(au a).length:=adn (aeC _ _) (GQ a);have hr:a%b<b:=acM _ F;have ht:=fE (bQ (au a).length (a/b)) (by rw[bU];omega);rw[wJ hq]at ht;have hf:=kA (a%b) (by omega);have ag:=bU (au a).length (a/b);unfold Gj;generalize a%b=r at*
  generalize bQ (au a).length (a/b)=R at*
  generalize a/b=q at*
  have C:IntKind.u64.wrap (r:Int)=(r:Int):=by rw[adb];omega
  refine ax func169 rfl ntmps169 (aA (k:=ai (am (bE [⟨2,_,_,_,y⟩] (k:=ao rfl (ar (k:=ao rfl (ar (k:=az rfl (bj [⟨1,_,_,_,z⟩] (k:=?_)))))))))))
  (refine yM 4 hw 41 0 [] [] (by simp[wk]) (by omega) (sP rfl) (fm _ _) (by simp[wk]) (by decide) fun K f=>?_;simp(disch:=omega) only[kd,aa,Int.reduceToNat,g0];apply f;refine⟨⟨rfl,rfl⟩,by simp,?_⟩;intro K f;simp only[kd,aa,ZN,cwD];apply f)
  refine bA.weak ((bF 41 (bf rfl)).trans (aj (tm:=(j4 (cW R::jk::jk::jk::.raw (.int .u32 (r:Int))::j16 (j16 (j16 (j16 (j16 (j4 (j4 (j4 (jk::jk::jk::[]))))))))))) (l:=[]) trivial (by simp[wk,fk,dP,aF,Hm,iK,gz,ack,ag]))) ?_;refine dU [⟨1,_,_,_,ht⟩,⟨4,_,_,_,hf⟩] C (k:=aE @results169)
 obtain⟨n,u⟩: ∃n,(au b).length=n+2:=⟨(au b).length-2,by grind [gU]⟩;obtain⟨m,W⟩: ∃m,(au a).length=n+2+m:=⟨(au a).length-(n+2),by have:=sH (show b<=a by omega);omega⟩;obtain⟨x,hx,ap,v,ae⟩:=Ii (n:=n+1) u;have hz:=abt x v;obtain⟨P,z2,z3⟩:=Wd ap v;obtain⟨s,L⟩: ∃s,s=lz x:=⟨_,rfl⟩;rw[<- L]at hz P z2 z3;clear L;obtain⟨V1,V2⟩:=Xe u hx ⟨z2,z3⟩ P;have o:=afD s;have hV:0<b*2^s:=afX F o;have eF:=ud (au b) s (aI _) P (by omega);have O:=ud (au a) s (aI _) P (by omega);rw[aG,u]at eF;rw[aG,W]at O;have w:=GQ a;rw[W]at w;obtain⟨a5,a6⟩:=O7 (s:=s) w ae;have hA:a*2^s<b*2^s*4294967296^(m+1):=by
  have U:4294967296^(n+2+m)<=b*4294967296^(m+1):=by
   have e:4294967296^(n+2+m)=4294967296^(n+1)*4294967296^(m+1):=by grind
   simp_all[acu]
  rw[agL];exact aep (acp w U) o
 obtain⟨ab,ac⟩:=WW (a:=a) (b:=b) (s:=s);have C:((n+2:Nat):Int)-1=((n+1:Nat):Int):=by omega
 have Q:((n+2+m:Nat):Int)-((n+2:Nat):Int)=(m:Int):=by omega
 have e3:(m:Int)+1=((m+1:Nat):Int):=by omega
 have tk:=OY (x:=b*2^s) (show n+2<=n+2+1 by omega);have av:=fun k=>Z4 (A:=a*2^s) (k:=k) V1 V2
 have hQ: ∀k,k<=m+1->nH (a*2^s) (b*2^s) k<4294967296^(m+1):=fun k t=>aao hA t
 have p:a%b*2^s<4294967296^(n+2+m+1):=by
  have h3:a%b<b:=acM _ F;have h4:a%b*2^s<=b*2^s:=acu _ (aeR h3);omega
 have J:a%b<4294967296^(n+2+m+1):=adn (adO _ o) p;have an:=fun k (t:k<=m)=>Ti (A:=a*2^s) (V:=b*2^s) (k:=k) (nb:=n+2) (na:=n+2+m) hV (aeR V1) (by omega)
 have al:=fun k (t:k<=m)=>WX (A:=a*2^s) (V:=b*2^s) (k:=k) (nb:=n+2) (na:=n+2+m) (by omega)
 have ah:=fun k (t:k<=m)=>WK (A:=a*2^s) (V:=b*2^s) (k:=k) (m:=m+1) hV (by omega) (hQ _ (by omega))
 have I:a/b<4294967296^(m+1):=by have:=hQ 0 (by omega);omega
 have sr:=BK (bQ (n+2+m+1) (a%b*2^s)) s (qg _ _) P (by rw[bU];omega) (by rw[bU];omega);rw[jt p,bU,aff _ o]at sr;have M:=fE (bQ (m+1) (a/b)) (by rw[bU];omega);rw[wJ I]at M;have N:=fE (bQ (n+2+m+1) (a%b)) (by rw[bU];omega);rw[wJ J]at N;have a3:=bU (n+2) (b*2^s);refine ax func169 rfl ntmps169 (aA (k:=?_));refine ai (qB (S:=⟨(cW (au a)::cW (au b)::j16 (j16 (j16 (j16 (j16 (j16 (j4 (jk::jk::[])))))))),Hm []⟩) (am ?_) ?_)
 ·refine bE [⟨2,_,_,_,y⟩] (k:=ao rfl (ar (k:=ao rfl (ar (k:=?_)))));refine bs rfl (fun h=>by simp at h<;>omega) (fun _=>ak (aj trivial ?_));simp[wk]
 refine cj [⟨6,_,_,_,hz⟩] (aC u (aC C hx)) (k:=cj [⟨2,_,_,_,eF⟩] u (k:=?_));refine bA.weak ((bF 61 (bf rfl)).trans (aj (tm:=(cW (au a)::cW (au b)::j4 (jk::jk::jk::rN s::cW (bQ (n+2) (b*2^s))::j16 (j16 (j16 (j16 (j16 (j4 (j4 (j4 (jk::[]))))))))))) (l:=[]) trivial (by simp[wk,fk,dP,aF,Hm,iK,gz,tk]))) ?_;generalize a4:bQ (n+2) (b*2^s)=vv at*
 refine bj [⟨2,_,_,_,O⟩] (k:=aH (aC W (aC u (aC Q (aC e3 @lj)))) (k:=ai (aH (aC W (aC u Q)) (k:=?_))));generalize a0:a*2^s=A at*
 generalize a1:b*2^s=V at*
 refine ay (G:=fY (m+1)) (fun g=>⟨(jk::cW (au b)::jk::jk::.one (.sl 74 0 0 (m+1))::j4 (.raw (.int .i64 (s:Int))::cW vv::.one (.sl 67 0 0 (n+2+m+1))::.raw (.int .i64 ((g.i:Int)-1))::j16 (j16 (j16 (j16 (j16 (j4 (j4 (jk::jk::jk::[]))))))))),Hm [(67,[⟨165,1,lc fU (bQ (n+2+m+1) (fQ A V g.i))⟩]),(74,[⟨165,1,lc fU (bQ (m+1) (nH A V g.i))⟩])]⟩) (fun g=>g.i) ⟨m+1,by omega⟩ ?_ ?_
 ·refine aj ⟨?_,?_,trivial⟩ ?_
  ·simp_all[aF]
  ·simp_all[aF,CY]
  simp[wk]
 rintro⟨i,hi⟩;simp only;by_cases h0:0<i
 ·obtain⟨k,rfl⟩: ∃k,i=k+1:=⟨i-1,by omega⟩;have t:k<=m:=by omega
  have ek:((k+1:Nat):Int)-1=(k:Int):=by omega
  have Y:(k:Int)+((n+2:Nat):Int)+1=((k+n+3:Nat):Int):=by omega
  have Z:k+n+3-k=n+3:=by omega
  obtain⟨v1,v2,u2,u1,u0,K,nU,nV⟩:=av k;have w1:=an k t;have w2:=al k t;rw[show n+2+1=n+3 from rfl]at w1 w2;have w3:=ah k t;have gq:=jv (x:=nH A V (k+1)) (show k<m+1 by omega);have j:=BJ (bQ k (fQ A V (k+1))) _ (bQ (n+2+m-(k+(n+2))) (fQ A V (k+1)/4294967296^(k+(n+2)+1))) _ k n v1 v2 u2 u1 u0 (bU _ _) K (by grind [bU]);rw[nU,nV]at j;rw[w1,<- w2]at j;have qd:=uH (A:=A) (k:=k) hV;have l1:=bU (m+1) (nH A V (k+1));have l2:=bU (n+2+m+1) (fQ A V (k+1));obtain⟨R',E⟩: ∃R',R'=bQ (n+2+m+1) (fQ A V k):=⟨_,rfl⟩;obtain⟨Q',D⟩: ∃Q',Q'=bQ (m+1) (nH A V k):=⟨_,rfl⟩;rw[<- E]at j;rw[<- D]at w3;clear w1 w2 K nU nV;generalize fQ A V (k+1)/4294967296^k/V=d at*
  generalize nH A V (k+1)/4294967296^k%4294967296=od at*
  generalize bQ (m+1) (nH A V (k+1))=Q0 at*
  generalize bQ (n+2+m+1) (fQ A V (k+1))=R0 at*
  refine ai (aH ek (k:=az rfl (ak (ai (am ?_)))))
  ((refine IN 11 j 67 0 [] [] (by simp[wk]) (by omega) (sP rfl) (fm _ _) (by simp[wk]) (by decide) fun K f=>?_);simp(disch:=omega) only[kd,aa,u,aL,Y,Nat.reduceEqDiff,Nat.reduceLeDiff,Z];apply f;refine⟨⟨rfl,rfl⟩,by simp,?_⟩;intro K f;simp(disch:=omega) only[kd,aa,ZN,cwD,Nat.reduceEqDiff,gq,cX,w3];apply f)
  show bA _ _ _ _;refine bu (k:=?_);refine⟨⟨k,by omega⟩,by simp,aj ⟨?_,?_,trivial⟩ ?_⟩
  ·simp[aF,Hm,E]
  ·simp[aF,Hm,D]
  simp[wk]
 have af:i=0:=by omega
 subst af;rw[ab,ac];generalize bQ (n+2+m+1) (a%b*2^s)=R0 at*
 unfold Gj;have l1:=bU (m+1) (a/b);have l2:=bU (n+2+m+1) (a%b);generalize bQ (n+2+m+1) (a%b)=R1 at*
 generalize bQ (m+1) (a/b)=Q1 at*
 generalize a/b=q at*
 generalize a%b=r at*
 refine ai (ar (k:=ao rfl (aX ?_)));show bA _ _ _ _
 (refine yM 2 sr 67 0 [] [] (by simp[wk]) (by omega) (sP rfl) (fm _ _) (by simp[wk]) (by decide) fun K f=>?_;simp only[kd];apply f;refine⟨⟨rfl,rfl⟩,by simp,?_⟩;intro K f;simp only[kd,aa,ZN,cwD,Nat.reduceEqDiff];apply f)
 refine bA.weak ((bF 67 (bf rfl)).trans ((bF 74 (bf rfl)).trans (aj (tm:=(j4 (cW Q1::j4 (jk::jk::cW R1::j16 (j16 (j16 (j16 (j16 (j4 (j4 (j4 ([])))))))))))) (l:=[]) trivial (by simp[wk,fk,dP,aF,Hm,iK,gz,ack,l1,l2])))) ?_;refine bj [⟨1,_,_,_,M⟩,⟨3,_,_,_,N⟩] (k:=aE @results169)
end Go.Proofs.YtalmoejhjceflaaGreat
