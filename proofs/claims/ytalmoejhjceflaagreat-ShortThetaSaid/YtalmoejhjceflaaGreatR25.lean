/-
  Part 26 of a proof (walks and plain facts).
-/
import Derived.Test.YtalmoejhjceflaaGreatR24
import Derived.OpenShut
set_option linter.all false
set_option maxRecDepth 100000
set_option maxHeartbeats 64000000
open Nat renaming reduceAdd → aa
open Nat renaming reduceEqDiff → ab
open List renaming replicate → ae
namespace Go.Proofs.YtalmoejhjceflaaGreat
open Go.RowKit Go.Proofs.Tryz
variable {n:Nat} {b:FF} {x:Int}
theorem OP (c:Int) (y:List Int):[AV.p (.raw (.int .i64 c))]::lc fI y=lc fI (c::y):=rfl
theorem DR (c:Int) (y:List Int) (b:y.length<=16):CallC prog 100 [.raw (.int .i64 c),kE y] ⟨[],kE (c::y)⟩:=by
 refine ay func100 rfl ntmps100 (aA (k:=?_));refine bC [] [6] fun _ K=>?_;simp(disch:=omega) only[kd,aa,Nat.reduceMul,Nat.reduceLeDiff,xu Gn,OP];apply K
 refine aW ⟨.inr rfl,fF 6 (bG rfl) ?_ rfl⟩;simp(disch:=omega) only[kd,results100,kE];rw[aar (by simp;omega)]
theorem UG (n:Nat) (f:FF) (y:List Int) (e:1<=n) (q:n<=8) (o:y.length=n) (m: ∀i j:Nat,Sz (f i j) 1024) (h: ∀z∈y,Sz z 65536):
  CallC prog 156 [dF (mat n n f),y6 y] ⟨[],tZ (dC y (ID n n f y) n)⟩:=by
 have p:=RD n n f y e (by omega) e (by omega) o m h;have l:=Im y (ID n n f y) (by omega) (by rw[aI];omega) (fun z g=>(h z g).mono (by omega)) (fun z g=>by
  obtain⟨j,_,rfl⟩:=aai.1 g;exact(my (b:=1024) (c:=65536) (gp fun z g=>by obtain⟨j,_,rfl⟩:=aai.1 g;exact m _ _) (gp h) n).mono (by omega))
 rw[o]at l;generalize ID n n f y=Y at*
 refine ay func156 rfl ntmps156 (aA (k:=bM [⟨2,_,_,_,p⟩] (k:=bK [⟨2,_,_,_,l⟩] (k:=aG @results156))))
def dL (n:Nat) (f:FF):List Int:=aQ (n+1) (dk f)
theorem NT {k:Nat} (f:FF) (h:k<=n):(dL n f)[k]?=some (dk f k):=aB _ (by omega)
theorem SB (n:Nat) (f:FF):(1:Int)::aQ n (fun k=>dk f (k+1))=dL n f:=by
 unfold dL aQ;rw[acL,aaC,abn];rfl
def EJ (n:Nat) (f:FF):TV:= .agg [.p (.raw (.int .i64 (n:Int))),.p (.sl (ls fB (Au n f n))),.p (.sl (ls fZ (dL n f)))]
theorem SY (l:List Int):[AV.p (.raw (.bool false)),.p (.sl (ls fU (au (Int.natAbs 1))))]::lc fZ l=lc fZ (1::l):=rfl
theorem Oi (n:Nat) (f:FF) (b:1<=n) (y:n<=8) (l: ∀t,t<n->dk f (t+1)≠0) (m: ∀i j,i<n->j<n->I64 (f i j)):
  CallC prog 48 [dn (mat n n f)] ⟨[],EJ n f⟩:=by
 have h:=aU n n f;have o: ∀i j,i<n->j<n->Sz (f i j) 1024:=fun i j u v=>(m i j u v).sz (by omega)
 have p:=VF n n f b (by omega) b (by omega) m;have q:=LJ n f b y l o;have g:=lS n f b (by omega) o;have e:yR n f=aQ n fun k=>dk f (k+1):=aaA fun k w=>mJ fun t z=>l t (by have:=aaK.1 w;omega)
 unfold WO at g;rw[e]at g;have r:=fh 1 (by omega) (by omega);have x:(aQ n fun k=>dk f (k+1)).length=n:=aI _ _;have s:(dL n f).length=n+1:=aI _ _;have c:=SB n f;unfold EJ;generalize aQ n (fun k=>dk f (k+1))=L at*
 refine ay func48 rfl ntmps48 (aA (k:=bM [⟨1,_,_,_,p⟩] (k:=bM [⟨1,_,_,_,q⟩] (k:=bM [⟨1,_,_,_,g⟩] (k:=?_)))));refine ii 7 [⟨3,_,_,_,r⟩] [24] (by simp[wk]) (by decide) fun _ K=>?_;simp(disch:=omega) only[kd,tZ,aa,h,Nat.reduceMul,Nat.reduceLeDiff,ab,x,xu xc,SY,c,Nat.reduceBEq];apply K
 refine⟨_,bH 24 (bG rfl),by simp[wk],?_⟩;simp only[aaC,aaR,fc,dN];intro _ K;simp(disch:=omega) only[kd,tZ,aa,ab,Nat.reduceLeDiff];apply K
 (refine aW ⟨.inr rfl,cd rfl ?_ rfl⟩;simp(disch:=omega) only[kd,results48,ab,aa])
 rw[aar (by omega)]
theorem Tc {l:List Nat} (h:Lmb l) (b:l.length<=n):Sz ((natV l:Nat):Int) n:=by
 show((natV l:Nat):Int).natAbs<_;rw[aeq];exact aas (fH h) (aaE (by omega) b)
theorem TT {b:Type} {l:List b} {i:Nat} {x:b} (h:l[i]?=some x):l.set i x=l:=by
 apply aay;intro j;by_cases e:i=j
 ·subst e;rw[aa2 (aaf.1 h).1,h]
 rw[aaI e]
theorem VJ (a:Int) (h0:0<=a) (I:Sz a 1000000):CallC prog 154 [tZ a] ⟨[],.tup [(true,cZ (isqF a)),(false,[.p (.raw (.bool true))])]⟩:=by
 have cs:=lL a (I.mono (by omega));have hs:0<=sg a:=by unfold sg;split<;>(try split)<;>omega
 have hl:=I.len;have W:=jg (au a.natAbs) (by omega);rw[dA (aE _),az]at W;obtain⟨N,hN⟩: ∃N,N=((au a.natAbs).length+1)/2:=⟨_,rfl⟩;have ac:N<=1000000:=by omega
 have st:=Qq (a:=a.natAbs) (len:=N) (by omega);have e1:IntKind.i64.wrap (((au a.natAbs).length:Int)+1)=(((au a.natAbs).length+1:Nat):Int):=by rw[aR (by omega) (by omega)];omega
 have e2:IntKind.i64.wrap (Int.tdiv (((au a.natAbs).length+1:Nat):Int) 2)=(N:Int):=by
  rw[abB (by omega),aR (by omega) (by omega)];omega
 have D:IntKind.i64.wrap (IntKind.i64.wrap (32*(N:Int))-1)=((32*N:Nat):Int)-1:=by
  rw[aR (n:=32*(N:Int)) (by omega) (by omega),aR (by omega) (by omega)];omega
 have E:((a.natAbs:Nat):Int)=a:=by omega
 refine ay func154 rfl ntmps154 (aA (k:=ai (bK [⟨1,_,_,_,cs⟩] (k:=aq rfl (ak (bM [⟨2,_,_,_,W⟩] (k:=aK (aH e1 (aH e2 @kX)) (k:=ai (ar (k:=?_))))))))));refine aF (G:=X0 a.natAbs N) (fun g=>⟨(jk::.one (.ptr 1 0 0 0)::.one (.ptr 2 0 0 0)::jk::jk::.one (.sl 19 0 0 N)::.raw (.int .i64 ((g.t:Int)-1))::j16 (j16 (j16 (jk::jk::jk::[])))),Hm [(1,ve false (au a.natAbs)),(2,ud),(19,[⟨165,1,lc fU g.O⟩])]⟩) (fun g=>g.t) ⟨32*N,ae N 0,by omega,by simp,fun x u=>by simp at u;omega,0,by rw[md,ab2],by rw[md];omega,by rw[md];exact st⟩ ?_ ?_
 ·refine aj ⟨rfl,rfl,rfl,trivial⟩ ?_;simp[wk]
 rintro g;obtain⟨t,A⟩: ∃t,t=g.t:=⟨_,rfl⟩;have f:=g.len;have j:=g.lmb;have ad:=g.ht;cases t with
 |zero=>
  have Z:=Xn g A.symm;rw[E]at Z;have M:((g.t:Int)-1)= -1:=by omega
  rw[M];have m:=jS false g.O j (by omega);rw[show gI false (natV g.O)=(natV g.O:Int)from rfl,Z]at m;refine ai (bz (k:=aq rfl (aY ?_)));show bo _ _ _ _;have w:=Gr (H:=Hm [(1,ve false (au a.natAbs)),(2,ud),(19,[⟨165,1,lc fU g.O⟩])]) (d:=19) (t:=165) (l:=g.O) rfl;rw[f]at w;refine bo.weak ((aj (tm:=(jk::.one (.ptr 1 0 0 0)::.one (.ptr 2 0 0 0)::jk::jk::.one (.sl 19 0 0 N)::j16 (j16 (j16 (j4 ([])))))) (l:=[(1,ve false (au a.natAbs)),(2,ud),(19,[⟨165,1,lc fU g.O⟩])]) ⟨rfl,rfl,rfl,trivial⟩ (by simp[wk])).trans ((bH 19 (bG rfl)).trans (aj (tm:=(jk::.one (.ptr 1 0 0 0)::.one (.ptr 2 0 0 0)::jk::jk::cK g.O::j16 (j16 (j16 (j4 ([])))))) (l:=[(1,ve false (au a.natAbs)),(2,ud)]) ⟨rfl,rfl,trivial⟩ (by
   simp[wk]
   (repeat' apply u7)<;>first|rfl|exact w.symm)))) ?_
  refine bK [⟨1,_,_,_,m⟩] (k:=aG @results154)
 |succ k=>
  have af:k/32<N:=by omega
  have ek:(g.t:Int)-1=(k:Int):=by omega
  rw[ek];obtain⟨x,u⟩:=getElem?_of_lt (show k/32<g.O.length by omega);obtain⟨b1,T,C,b4⟩:=IF (show k+1<=32*N by omega) f j (by rw[A];exact g.val) u;have Q:=bW j u;have s:2^(k%32)<4294967296:=aci (a:=2) (n:=32) (by omega) (aaQ _ (by omega));have hq:IntKind.i64.wrap (Int.tdiv (k:Int) 32)=((k/32:Nat):Int):=by
   rw[abB (by omega),adO];omega
  have hr:Int.tmod (k:Int) 32=((k%32:Nat):Int):=by rw[Int.tmod_eq_emod_of_nonneg (by omega)];omega
  have D:IntKind.u32.wrap (1*2^min (k%32) IntKind.u32.bits)=((2^(k%32):Nat):Int):=by
   rw[show min (k%32) IntKind.u32.bits=k%32 from by show min (k%32) 32=_;omega,aeL,show((2:Int)^(k%32))=((2^(k%32):Nat):Int) by rw[Int.natCast_pow];rfl,Cp,abP s]
  have X:=W3 x (2^(k%32)) Q s;rw[b1]at X;have Y:=Nq T s;rw[b4]at Y;have o:(g.O.set (k/32) (x+2^(k%32)))[k/32]?=some (x+2^(k%32)):=aa2 (by omega);have e:(g.O.set (k/32) (x+2^(k%32))).set (k/32) x=g.O:=by
   rw[List.set_set];exact TT u
  have r:(g.O.set (k/32) (x+2^(k%32))).length=N:=by rw[ad2,f]
  have h:Lmb (g.O.set (k/32) (x+2^(k%32))):=qY j T;obtain⟨c,q⟩: ∃c,c=g.O.set (k/32) (x+2^(k%32)):=⟨_,rfl⟩;rw[<- q]at o e r h C;have m:=fun(b cap:Nat) (hc:c.length<=cap)=>WR (b:=b) c h (by omega) hc
  have z:Sz ((natV c:Nat):Int) 1000000:=Tc h (by omega);have V:=jp (natV c:Int) (natV c:Int) (z.mono (by omega)) (z.mono (by omega));have U:=y8 ((natV c:Int)*(natV c:Int)) a ((z.mul z).mono (by omega)) (I.mono (by omega));have y:=Gr (H:=Hm [(1,ve false (au a.natAbs)),(2,ud),(19,[⟨165,1,lc fU c⟩])]) (d:=19) (t:=165) (l:=c) rfl;rw[r]at y;generalize L:2^(k%32)=p2 at*
  generalize R:x+p2=y2 at*
  refine ai (ar (k:=aC rfl (ak (ai (am (gW (aH hq (aH u (aH hr (aH D (aH X @cU))))) (k:=?_)))))));rw[<- q];refine Fr 1 m rfl 19 (by omega) [] [] rfl (by decide) fun K v=>?_
  simp only[kd];apply v;clear v K;refine⟨⟨by rw[r];rfl,rfl⟩,?_⟩;intro K v;simp(disch:=omega) only[kd,aa,ab];apply v;clear v K;by_cases P:(natV c:Int)*(natV c:Int)<=a
  ·have J:nX ((natV c:Int)*(natV c:Int)) a<=0:=by unfold nX;split<;>(try split)<;>omega
   obtain⟨F,S,B⟩:=Y5 g A.symm u (by
    have:((natV g.O+2^k:Nat):Int)*((natV g.O+2^k:Nat):Int)<=((a.natAbs:Nat):Int):=by rw[<- C,E];exact P
    exact_mod_cast this)
   rw[L,R,<- q]at B;refine cQ [⟨2,_,_,_,V⟩,⟨4,_,_,_,U⟩] (k:=aq rfl (ak (bL (k:=?_))));refine⟨F,by omega,aj ⟨rfl,rfl,by rw[B];rfl,trivial⟩ ?_⟩;simp[wk,S]
  have J:0<nX ((natV c:Int)*(natV c:Int)) a:=by unfold nX;split<;>(try split)<;>omega
  obtain⟨F,S,B⟩:=Y6 g A.symm (by
   have:((a.natAbs:Nat):Int)<((natV g.O+2^k:Nat):Int)*((natV g.O+2^k:Nat):Int):=by rw[<- C,E];omega
   exact_mod_cast this)
  refine cQ [⟨2,_,_,_,V⟩,⟨4,_,_,_,U⟩] (k:=aC rfl (sX (aH hq (aH o (aH hr (aH D (aH Y (aH @cU e)))))) (k:=bL (k:=?_))));refine⟨F,by omega,aj ⟨rfl,rfl,by rw[B];rfl,trivial⟩ ?_⟩;simp[wk,S]
theorem IC (x y:List Int): ∀l,dC x y l=dJ (fun i=>x.getD i 0*y.getD i 0) l
 |0=>rfl
 |l+1=>by rw[dJ,<- IC x y l];rfl
def Vb (n:Nat) (f:FF) (y:List Int):Int:=BF n f (fun i=>y.getD i 0) fun i=>y.getD i 0
theorem Pn (f:FF) {y:List Int} (c:y.length=n):dC y (ID n n f y) n=Vb n f y:=by
 rw[IC];refine bA n fun i b=>?_
 show _=y.getD i 0*dJ (fun j=>f i j*y.getD j 0) n;rw[aav (l:=ID n n f y),aB _ b,abh,lX _ _ _ (aaq _)]
theorem Pg (v:Int):nN v 1=v/\nD v 1=1:=by
 unfold nN nD;rw[Int.gcd_one]
 simp
def Wf (n:Nat) (f:FF):Nat->Nat->Int:=fun i j=>if i<n/\j<n then f i j else 0
theorem NK {i j:Nat} (c:i<n) (e:j<n):Wf n b i j=b i j:=if_pos ⟨c,e⟩
theorem Qs (f:FF):mat n n (j6 f 0)=mat n n (Wf n f):=gu fun i j b c=>by
 rw[NK b c];show bk f 0 (0+i) (0+j)=_;rw[dr,aaO,aaO]
theorem DA (n:Nat) (f:FF) (y:List Int) (o:1<=n) (B:n<=8) (g:y.length=n) (w: ∀i j,i<n->j<n->I64 (f i j)) (r: ∀z∈y,I64 z):
  CallC prog 101 [EJ n f,kE y] ⟨[],tR (Vb n f y) 1⟩:=by
 have s:=Cw y (by omega) r;have szf: ∀i j:Nat,Sz (Wf n f i j) 1024:=fun i j=>by
  unfold Wf;split
  ·rename_i h;exact(w i j h.1 h.2).sz (by omega)
  exact r8 _
 have e: ∀z∈y,Sz z 65536:=fun z l=>(r z l).sz (by omega)
 have m:=UG n (Wf n f) y o B g szf e;rw[Pn _ g]at m;have q:Vb n (Wf n f) y=Vb n f y:=jm (fun i j x A=>NK x A) (fun _ _=>rfl) (fun _ _=>rfl);have C:Sz (Vb n f y) 200000:=by
  rw[<- q,<- Pn _ g];refine(my (b:=65536) (c:=70000) (gp e) (gp fun z l=>?_) n).mono (by omega);obtain⟨j,_,rfl⟩:=aai.1 l;exact(my (b:=1024) (c:=65536) (gp fun z l=>by obtain⟨j,_,rfl⟩:=aai.1 l;exact szf _ _) (gp e) n).mono (by omega)
 rw[q]at m;have p:=vX (Vb n f y) 1 (by omega) (C.mono (by omega)) (oG (by omega));rw[(Pg _).1,(Pg _).2]at p;have u:(Au n f n)[0]?=some (mat n n (Wf n f)):=by rw[JK f (by omega),aeD,Qs]
 have v:(dL n f)[0]?=some 1:=NT f (by omega);have t:IntKind.i64.wrap ((n:Int)-(n:Int))=0:=by rw[Int.sub_self];rfl
 generalize Vb n f y=V at*
 unfold EJ;generalize Au n f n=S at*
 generalize dL n f=D at*
 refine ay func101 rfl ntmps101 (pC @fB.eq_1 (k:=ai (aK g (k:=aq rfl (ak (fL (aH g t) (k:=gh [⟨6,_,_,_,s⟩,⟨7,_,_,_,m⟩,⟨13,_,_,_,p⟩] (aH u v) (k:=aG @results101))))))))
theorem Xr (o:RedR b n) (y:n<=4) {k i j:Nat} (x:k<n) (p:i<n-k) (q:j<n-k):Sz (j6 b k i j) 2:=by
 have e:=o.pd;have m: ∀t,t<n->dk b (t+1)≠0:=fun t l=>by have:=e.2 t l;omega
 have g:=fP (by omega) (by omega) o;have w:0<dk b k/\dk b k<65536:=by
  cases k with
  |zero=>rw[cu];omega
  |succ k=>exact⟨e.2 k (by omega),g k (by omega)⟩
 have key: ∀a c,a<n-k->c<=a->Sz (bk b k (k+a) (k+c)) 2:=fun a c u v=>by
  have r:=wG e.1 e.2 g (fun t l=>(o.2.2.2 t l).1) (i:=k+a) (by omega) c (k+c) k rfl (by omega);have s:(65535+(c:Int)*16384)*dk b k<=(65535+4*16384)*65536:=aa9 (by omega) (by omega) (by omega) (by omega);show(bk b k (k+a) (k+c)).natAbs<_;omega
 rcases Nat.le_total j i with h|h
 ·exact key i j p h
 show Sz (bk b k (k+i) (k+j)) 2;rw[iD e.1 k (by omega) (fun t l=>m t (by omega)) _ _ (by omega) (by omega)];exact key j i q h
noncomputable def Zs (n:Nat) (f:FF) (B:Int) (k:Nat) (y:List Int):TV:= .tup [(false,[.p (.raw (.int .i64 (cz f n B k (aL n y))))]),(false,[.p (.raw (.int .i64 (di f n B k (aL n y))))])]
theorem P2 (m:Nat) (g:Nat->Int):(aQ (m+1) g).drop 1=aQ m fun j=>g (j+1):=by
 unfold aQ;rw[acL,aaC,abR,abL,abn];rfl
theorem Bl (h:I64 x):jO x= .tup [(false,[.p (.raw (.int .i64 x))]),(false,[.p (.raw (.bool true))])]:=if_pos h
theorem qP (n:Nat) (f:FF) (B:Int) (k:Nat) (y:List Int) (hn:n<=4) (u:RedR f n) (hf: ∀i j,i<n->j<n->I64 (f i j)) (h0:0<=B) (hB:B<=262144) (Z:y.length+(k+1)=n) (hy:Fa y) (V:fC f n B (k+1) (aL n y)):
  CallC prog 99 [EJ n f,.raw (.int .i64 B),kE y] ⟨[],Zs n f B k y⟩:=by
 have hp:=u.pd;have o:k<n:=by omega
 obtain⟨m,F⟩: ∃m,m=y.length:=⟨_,rfl⟩;have iy: ∀z∈y,I64 z:=fun z t=>by
  have h1:=hy.bd z t;have h2:=oH y.length (by omega);constructor<;>omega
 have P: ∀z∈y,Sz z 2:=fun z t=>(iy z t).sz (by omega)
 have sg: ∀i j,i<n-k->j<n-k->Sz (j6 f k i j) 2:=fun i j h Y=>Xr u hn o h Y
 have hd:=u.2.1 k o;have I:Sz (dk f (k+1)) 1:=lB (by have:=fP (by omega) (by omega) u k o;omega) (by omega);have N:0<dk f k/\dk f k<65536:=by
  cases k with
  |zero=>rw[cu];omega
  |succ k=>exact⟨u.2.1 k (by omega),fP (by omega) (by omega) u k (by omega)⟩
 have sd:Sz (dk f k) 1:=lB (by omega) (by omega);have sB:Sz B 1:=lB (by omega) (by omega);obtain⟨b1,b2⟩:=q9 u hn h0 hB Z hy V;have tb:=oH (y.length+1) (by omega);have K:=Qi f Z;have Q:=SC hp Z B;have w:=pf hp o V;have g1:(Au n f n)[k]?=some (mat (m+1) (m+1) (j6 f k)):=by rw[JK f (by omega),show n-k=m+1 by omega]
 have g2:(dL n f)[k]?=some (dk f k):=NT f (by omega);have e0:IntKind.i64.wrap ((n:Int)-(m:Int))=((k+1:Nat):Int):=by rw[aR (by omega) (by omega)];omega
 have e1:IntKind.i64.wrap (((k+1:Nat):Int)-1)=(k:Int):=by rw[aR (by omega) (by omega)];omega
 have hw:dk f (k+1)=j6 f k 0 0:=rfl;have c1:=Cw y (by omega) iy;have rs: ∀i,i<=m-> ∀z∈aQ m (fun j=>j6 f k i (j+1)),Sz z 2:=fun i h z t=>by
  obtain⟨j,Y,rfl⟩:=aai.1 t;have:=aaK.1 Y;exact sg i (j+1) (by omega) (by omega)
 have c2: ∀i,i<=m->CallC prog 153 [y6 (aQ m fun j=>j6 f k i (j+1)),y6 y] ⟨[],tZ (dC (aQ m fun j=>j6 f k i (j+1)) y m)⟩:=fun i h=>by
  have:=Im (aQ m fun j=>j6 f k i (j+1)) y (by rw[aI];omega) (by rw[aI];omega) (fun z t=>(rs i h z t).mono (by omega)) (fun z t=>(P z t).mono (by omega));rw[aI]at this;exact this
 have O: ∀i,i<=m->Sz (dC (aQ m fun j=>j6 f k i (j+1)) y m) 8:=fun i h=>(my (gp (rs i h)) (gp P) m).mono (by omega)
 have sq: ∀i,i<=m->Sz (JC (j6 f k) y i) (16+i):=fun i=>by
  induction i with
  |zero=>exact fun _=>r8 _
  |succ i ih=>
   intro h;have:=O (i+1) (by omega);rw[F]at this;exact((ih (by omega)).add (((gp P i).mul this).mono (by omega))).mono (by omega)
 have b:Sz (dC (aQ m fun j=>j6 f k 0 (j+1)) y m) 8:=O 0 (by omega);rw[F,K]at b;have sQ:=sq m (aaq _);rw[F]at sQ;have sC:Sz (JC (j6 f k) y y.length-B*dk f k) 24:=(Sz.sub (k:=20) (sQ.mono (by omega)) ((sB.mul sd).mono (by omega))).mono (by omega);have J:Sz (gU f n B k (aL n y)) 40:=by
  rw[<- Q];exact(Sz.sub (k:=30) ((b.mul b).mono (by omega)) ((I.mul sC).mono (by omega))).mono (by omega)
 have x:=dx w;have Y9:Sz (isqF (gU f n B k (aL n y))) 40:=J.le (by
  have h1:=x.1;have h2:=x.2.1;generalize isqF (gU f n B k (aL n y))=r at*
  generalize gU f n B k (aL n y)=q at*
  by_cases e:r=0
  ·rw[e];simp
  have:=aaB (show 1<=r by omega) h1;omega)
 have k1:=fh B (by omega) (by omega);have m1:=jp B (dk f k) (sB.mono (by omega)) (sd.mono (by omega));have m2:=CJ (JC (j6 f k) y y.length) (B*dk f k) (sQ.mono (by omega)) ((sB.mul sd).mono (by omega));have m3:=jp (lA f n k (aL n y)) (lA f n k (aL n y)) (b.mono (by omega)) (b.mono (by omega));have m4:=jp (dk f (k+1)) (JC (j6 f k) y y.length-B*dk f k) (I.mono (by omega)) (sC.mono (by omega));have m5:=CJ (lA f n k (aL n y)*lA f n k (aL n y)) (dk f (k+1)*(JC (j6 f k) y y.length-B*dk f k)) ((b.mul b).mono (by omega)) ((I.mul sC).mono (by omega));rw[Q]at m5;have m6:=VJ (gU f n B k (aL n y)) w (J.mono (by omega));have m7:=CJ (isqF (gU f n B k (aL n y))) (lA f n k (aL n y)) (Y9.mono (by omega)) (b.mono (by omega));have m8:=ze (isqF (gU f n B k (aL n y))-lA f n k (aL n y)) (dk f (k+1)) (by omega) ((Sz.sub Y9 (b.mono (by omega))).mono (by omega)) (I.mono (by omega));have s:I64 (cz f n B k (aL n y)):=by constructor<;>omega
 have v:I64 (di f n B k (aL n y)):=by constructor<;>omega
 have m9:=uX (di f n B k (aL n y)) (v.sz (by omega));rw[Bl v]at m9;have aa:=tS (isqF (gU f n B k (aL n y))) (lA f n k (aL n y)) (Y9.mono (by omega)) (b.mono (by omega));have ab:=ze (isqF (gU f n B k (aL n y))+lA f n k (aL n y)) (dk f (k+1)) (by omega) ((Sz.add Y9 (b.mono (by omega))).mono (by omega)) (I.mono (by omega));have ac:=Jv ((isqF (gU f n B k (aL n y))+lA f n k (aL n y))/dk f (k+1)) (by
  have:=(s.sz (k:=2) (by omega)).neg;rw[show cz f n B k (aL n y)= -((isqF (gU f n B k (aL n y))+lA f n k (aL n y))/dk f (k+1))from rfl,Int.neg_neg]at this;exact this.mono (by omega))
 have C:=uX (cz f n B k (aL n y)) (s.sz (by omega));rw[Bl s]at C;rw[show cz f n B k (aL n y)= -((isqF (gU f n B k (aL n y))+lA f n k (aL n y))/dk f (k+1))from rfl]at C;rw[show di f n B k (aL n y)=(isqF (gU f n B k (aL n y))-lA f n k (aL n y))/dk f (k+1)from rfl]at m9;unfold Zs;rw[show cz f n B k (aL n y)= -((isqF (gU f n B k (aL n y))+lA f n k (aL n y))/dk f (k+1))from rfl];rw[show di f n B k (aL n y)=(isqF (gU f n B k (aL n y))-lA f n k (aL n y))/dk f (k+1)from rfl];have f0:(mat (m+1) (m+1) (j6 f k))[0]?=some (aQ (m+1) (j6 f k 0)):=bE _ _ (by omega);have f1:(aQ (m+1) (j6 f k 0))[0]?=some (dk f (k+1)):=aB _ (by omega);have fl: ∀i,(aQ (m+1) (j6 f k i)).length=m+1:=fun i=>aI _ _
 have ft: ∀i,((aQ (m+1) (j6 f k i)).take (m+1)).drop 1=aQ m fun j=>j6 f k i (j+1):=fun i=>by rw[aar (by rw[aI];omega),P2]
 have fi: ∀i,i<m->(mat (m+1) (m+1) (j6 f k))[i+1]?=some (aQ (m+1) (j6 f k (i+1))):=fun i h=>bE _ _ (by omega)
 have qs: ∀i,JC (j6 f k) y (i+1)=JC (j6 f k) y i+y.getD i 0*dC (aQ y.length fun j=>j6 f k (i+1) (j+1)) y y.length:=fun i=>rfl
 have E:=c2 0 (by omega);rw[<- F]at K;rw[K]at E;subst F;generalize isqF (gU f n B k (aL n y))=r at*
 generalize gU f n B k (aL n y)=q at*
 generalize lA f n k (aL n y)=l at*
 generalize hg:j6 f k=g at*
 generalize dk f (k+1)=D at*
 generalize dk f k=d at*
 have ad:(mat (y.length+1) (y.length+1) g).length=y.length+1:=aU _ _ _;generalize hM:mat (y.length+1) (y.length+1) g=M at*
 unfold EJ;generalize Au n f n=S at*
 generalize dL n f=dl at*
 clear b1 b2 tb K V s v x Q w hp u hf hg hM;refine ay func99 rfl ntmps99 (pC @fB.eq_1 (k:=fL (aH e0 e1) (k:=aK g1 (k:=bM [⟨1,_,_,_,c1⟩] (k:=cn [⟨5,_,_,_,E⟩] (aH f0 (aH fl (aH @Nat.le_add_left (aH (kD xc) ft)))) (k:=ar (k:=ai (bz (k:=?_)))))))));refine aF (G:=jo y.length) (fun L=>⟨(jk::.raw (.int .i64 B)::jk::.one (.ptr 3 0 0 0)::j4 (.raw (.int .i64 (k:Int))::dF M::y6 y::.one (.ptr 11 0 0 0)::.one (.ptr 12 0 0 0)::j16 (j4 (j4 (j4 (.raw (.int .i64 (y.length:Int))::rN L.i::j16 (j16 (j16 (j16 (j4 (j4 ([])))))))))))),Hm [(3,[⟨87,3,[[.p (.raw (.int .i64 (n:Int))),.p (.sl (ls fB S)),.p (.sl (ls fZ dl))]]⟩]),(11,vd l),(12,vd (JC g y L.i))]⟩) (fun L=>y.length-L.i) ⟨0,by omega⟩ ?_ ?_
 ·refine(gQ 12).trans (aj ⟨rfl,rfl,?_,trivial⟩ ?_)
  ·show _=vd 0;simp[zH,aw,zO,E6,Fe,vd,ve,ce,ls]
  simp[wk]
 rintro⟨i,h⟩;simp only;by_cases H:i<y.length
 ·obtain⟨c,N⟩:=getElem?_of_lt H;have W:y.getD i 0=c:=by rw[aav,N];rfl
  have sc:=P c (u5 N);have d1:=c2 (i+1) (by omega);have d2:=jp c (dC (aQ y.length fun j=>g (i+1) (j+1)) y y.length) (sc.mono (by omega)) ((O (i+1) (by omega)).mono (by omega));have d3:=tS (JC g y i) (c*dC (aQ y.length fun j=>g (i+1) (j+1)) y y.length) ((sq i (by omega)).mono (by omega)) ((sc.mul (O (i+1) (by omega))).mono (by omega));have q1:=qs i;rw[W]at q1;rw[<- q1]at d3;have R:=fi i H;have T:=fl (i+1);have U:=ft (i+1);have ei:IntKind.i64.wrap ((i:Int)+1)=((i+1:Nat):Int):=by rw[aR (by omega) (by omega)];omega
  generalize dC (aQ y.length fun j=>g (i+1) (j+1)) y y.length=A at*
  refine aK @fB.eq_1 (k:=bi rfl (ai (am (bz (k:=gf [⟨12,_,_,_,d1⟩,⟨13,_,_,_,d2⟩,⟨14,_,_,_,d3⟩] (aH N (aH ei (aH R (aH T (aH @Nat.le_add_left (aH (kD xc) U)))))) (k:=bL (k:=?_)))))));refine⟨⟨i+1,by omega⟩,by simp only;omega,aj ⟨rfl,rfl,rfl,trivial⟩ ?_⟩;simp[wk]
 have X:i=y.length:=by omega
 subst X;refine aK @fB.eq_1 (k:=bv rfl (gh [⟨2,_,_,_,k1⟩,⟨8,_,_,_,m1⟩,⟨9,_,_,_,m2⟩] g2 (k:=gh [⟨2,_,_,_,m3⟩,⟨9,_,_,_,m4⟩,⟨10,_,_,_,m5⟩,⟨11,_,_,_,m6⟩] (aH f0 f1) (k:=gh [⟨2,_,_,_,m7⟩,⟨8,_,_,_,m8⟩,⟨9,_,_,_,m9⟩] (aH f0 f1) (k:=gh [⟨2,_,_,_,aa⟩,⟨8,_,_,_,ab⟩,⟨9,_,_,_,ac⟩,⟨10,_,_,_,C⟩] (aH f0 f1) (k:=bz (k:=aG @results99)))))))
abbrev yK (c:List Int):List OObj:=[⟨3,1,lc fI c⟩]
theorem qL (c:List Int): ∀o∈yK c,selfO 0 o:=fun o b e g x f=>by
 simp only[aam]at b;subst b;obtain⟨z,_,rfl⟩:=aai.1 g;simp only[fI,aaC,aaR,aam]at f;subst f;trivial
theorem IT (d:Nat) (c:List Int):(yK c).map (renO d)=yK c:=by simp[yK,renO,iH]
theorem Ey {F:Nat->Int} {i:Nat} (h:i<=n) (b: ∀a,a<n->0<=F a):dJ F i<=dJ F n:=by
 induction n with
 |zero=>rw[show i=0 by omega];exact acp _
 |succ n c=>
  by_cases e:i=n+1
  ·rw[e];exact acp _
  have f:=c (by omega) fun a j=>b a (by omega)
  have g:=b n (by omega);show _<=dJ F n+F n;omega
structure CtG (n:Nat) (bud lo hi:Int) (g:Int->List Int->Bool×List Int) (R:Bool×List Int) where
 x:Int
 c:List Int
 h1:lo<=x
 h2:x<=hi+1
 hc:CtP n bud c
 e:ctL g (rng x hi) c=R
theorem wS (n:Nat) (f:FF) (B b:Int) (k:Nat) (y c:List Int) (hn:n<=4) (Q:RedR f n) (hf: ∀i j,i<n->j<n->I64 (f i j)) (h0:0<=B) (hB:B<=262144) (hb:0<=b) (ab:b<=1000000) (hk:y.length+(k+1)=n) (Z:Fa y) (J:fC f n B (k+1) (aL n y)) (C:CtP n b c)
  (g:Int->List Int->Bool×List Int) (hg: ∀x c,CtP n b c->(g x c).1=true->CtP n b (g x c).2)
  (L:(Fb n f B b k y c fun e=>if k=0 then(true,e)else ctL g (rng (cz f n B k (aL n y)) (di f n B k (aL n y))) e).2.length=n)
  (E:k≠0-> ∀x c,cz f n B k (aL n y)<=x->x<=di f n B k (aL n y)->CtP n b c->lP prog 96 [EJ n f,.raw (.int .i64 B),kE (x::y),jk,.raw (.int .i64 b)] 3 n (yK c) (yK (g x c).2) (.raw (.bool (g x c).1))):
  lP prog 96 [EJ n f,.raw (.int .i64 B),kE y,jk,.raw (.int .i64 b)] 3 n (yK c)
   (yK (Fb n f B b k y c fun e=>if k=0 then(true,e)else ctL g (rng (cz f n B k (aL n y)) (di f n B k (aL n y))) e).2)
   (.raw (.bool (Fb n f B b k y c fun e=>if k=0 then(true,e)else ctL g (rng (cz f n B k (aL n y)) (di f n B k (aL n y))) e).1)):=by
 have cI:=qP n f B k y hn Q hf h0 hB hk Z J;have cL:=fun x=>DR x y (by omega)
 obtain⟨b1,b2⟩:=q9 Q hn h0 hB hk Z J;have tb:=oH (y.length+1) (by omega);unfold Zs at cI;generalize h:(Fb n f B b k y c fun e=>if k=0 then(true,e)else ctL g (rng (cz f n B k (aL n y)) (di f n B k (aL n y))) e)=R at*
 unfold Fb at h;generalize cz f n B k (aL n y)=o at*
 generalize di f n B k (aL n y)=m at*
 unfold EJ at*
 generalize Au n f n=S at*
 generalize dL n f=H at*
 clear J Q hf Z;have r:=C.1;refine NG func96 rfl (by kernel_rfl) (by simp) (by omega) ⟨_,_,rfl,rfl,by simp only[kC];exact r,by simp only[kC];exact L,rfl⟩ rfl ?_;rw[ntmps96];refine eY.weak (aj (tm:=(.agg [.p (.raw (.int .i64 (n:Int))),.p (.sl (ls fB S)),.p (.sl (ls fZ H))]::.raw (.int .i64 B)::kE y::.one (.sl 0 0 0 n)::.raw (.int .i64 b)::j16 (j16 (j16 (j16 (j4 (j4 (jk::jk::jk::[])))))))) (l:=[(0,yK c)]) ⟨rfl,trivial⟩ (by simp[wk,ae])) ?_;refine eF (k:=Yz [⟨3,_,_,_,cI⟩] (k:=eF (k:=?_)));by_cases I:m<o
 ·rw[if_pos I]at h;subst h;refine bT (dp I (k:=iA rfl (eF (k:=?_))));refine iB ⟨.inr rfl,_,aj (tm:=(jk::jk::jk::.one (.sl 0 0 0 n)::j4 (jk::jk::.raw (.bool true)::j16 (j16 (j16 (j16 (j4 (jk::[])))))))) (l:=[(0,yK c)]) ⟨rfl,trivial⟩ (by simp[wk]),rfl,eh _,?_⟩;simp(disch:=omega) only[kd,results96]
 rw[if_neg I]at h;refine bT (eF (k:=iz rfl (dM ?_)));by_cases h2:b<=m-o
 ·rw[if_pos h2]at h;subst h;refine bT (eF (k:=iA rfl (eF (k:=?_))));refine iB ⟨.inr rfl,_,aj (tm:=(jk::jk::jk::.one (.sl 0 0 0 n)::j4 (jk::jk::.raw (.bool false)::j16 (j16 (j16 (j16 (j4 (jk::[])))))))) (l:=[(0,yK c)]) ⟨rfl,trivial⟩ (by simp[wk]),rfl,eh _,?_⟩;simp(disch:=omega) only[kd,results96]
 rw[if_neg h2]at h;refine bT (eF (k:=iz rfl (dM ?_)));obtain⟨v,hv⟩:=getElem?_of_lt (show y.length<c.length by omega);have ev:c.getD y.length 0=v:=by rw[aav,hv];rfl
 have hm:Dg y.length (m-o) c=c.set y.length (v+(m-o+1)):=by unfold Dg;rw[ev]
 have X:=C.2.1 y.length (by omega);have hv1:=Y3 C.2.1 (show y.length<n by omega);rw[ev]at X hv1;have O:(Dg y.length (m-o) c).length=n:=by rw[vk];exact r
 have s:=F4 r (show y.length<n by omega) (show 0<=m-o by omega) C.2.1;have ac:=Ba (d:=m-o) r (show y.length<n by omega);have af:=C.2.2;refine dp (aH hv @SX) (k:=?_);rw[<- hm];generalize Dg y.length (m-o) c=e at*
 refine eF (k:=bT (eF (k:=?_)));refine jq (G:=jo n) (fun g=>⟨(jk::.raw (.int .i64 B)::kE y::.one (.sl 0 0 0 n)::.raw (.int .i64 b)::.one (.ptr 5 0 0 0)::j4 (jk::.raw (.int .i64 o)::.raw (.int .i64 m)::rN y.length::.raw (.int .i64 (sL g.i e))::j16 (j4 (j4 (j4 (jk::jk::.one (.sl 0 0 0 n)::rN n::rN g.i::j16 (j16 ([])))))))),Hm [(0,yK e),(5,[⟨87,3,[[.p (.raw (.int .i64 (n:Int))),.p (.sl (ls fB S)),.p (.sl (ls fZ H))]]⟩])]⟩) (fun g=>n-g.i) ⟨0,by omega⟩ ?_ ?_
 ·refine aj ⟨rfl,rfl,trivial⟩ ?_;simp[wk,sL,dJ]
 rintro⟨i,ad⟩;simp only;by_cases P:i<n
 ·obtain⟨u,hu⟩:=getElem?_of_lt (show i<e.length by omega);have eu:e.getD i 0=u:=by rw[aav,hu];rfl
  have U:sL (i+1) e=sL i e+u:=by rw[<- eu];rfl
  have V:=Ey (F:=fun j=>e.getD j 0) (show i+1<=n by omega) fun a ha=>s a ha
  have W:=Ey (F:=fun j=>e.getD j 0) (show 0<=i by omega) fun a ha=>s a (by omega)
  have hu0:=s i P;rw[eu]at hu0
  change sL (i+1) e<=sL n e at V
  change 0<=sL i e at W
  have ei:IntKind.i64.wrap ((i:Int)+1)=((i+1:Nat):Int):=by rw[aR (by omega) (by omega)];omega
  refine eF (k:=wm rfl (bT (fq (dp hu (k:=Kw (k:=tX ei (k:=?_)))))));refine⟨⟨i+1,by omega⟩,by simp only;omega,aj ⟨rfl,rfl,trivial⟩ ?_⟩;simp[wk,U]
 have N:i=n:=by omega
 subst N;refine eF (k:=wl rfl ?_);show eY _ _ _ _ _;by_cases h3:b<sL i e
 ·rw[if_pos h3]at h;subst h;refine bT (eF (k:=iA rfl (eF (k:=?_))));refine iB ⟨.inr rfl,_,aj (tm:=(jk::jk::jk::.one (.sl 0 0 0 i)::j4 (jk::jk::.raw (.bool false)::j16 (j16 (j16 (j16 (j4 (jk::[])))))))) (l:=[(0,yK e)]) ⟨rfl,trivial⟩ (by simp[wk]),rfl,eh _,?_⟩;simp(disch:=omega) only[kd,results96]
 rw[if_neg h3]at h
 replace h:(if k=0 then(true,e)else ctL g (rng o m) e)=R:=h
 refine bT (eF (k:=iz rfl (dM (bT (eF (k:=?_))))));have em:IntKind.i64.wrap ((y.length:Int)+1)=((y.length+1:Nat):Int):=by rw[aR (by omega) (by omega)];omega
 by_cases z:k=0
 ·rw[if_pos z]at h;subst h;refine jq (G:=Unit) (fun g=>⟨(jk::.raw (.int .i64 B)::kE y::.one (.sl 0 0 0 i)::.raw (.int .i64 b)::.one (.ptr 5 0 0 0)::j4 (jk::.raw (.int .i64 o)::.raw (.int .i64 m)::rN y.length::jk::jk::jk::.raw (.int .i64 o)::j16 (j16 (j16 (j4 (j4 (j4 (jk::jk::[])))))))),Hm [(0,yK e),(5,[⟨87,3,[[.p (.raw (.int .i64 (i:Int))),.p (.sl (ls fB S)),.p (.sl (ls fZ H))]]⟩])]⟩) (fun g=>0) () ?_ ?_
  ·refine aj ⟨rfl,rfl,trivial⟩ ?_;simp[wk]
  intro _;simp only;refine bT (dp em (k:=iz rfl (kq (eF (k:=?_)))));refine iB ⟨.inr rfl,_,aj (tm:=(jk::jk::jk::.one (.sl 0 0 0 i)::j4 (jk::jk::.raw (.bool true)::j16 (j16 (j16 (j16 (j4 (jk::[])))))))) (l:=[(0,yK e)]) ⟨rfl,trivial⟩ (by simp[wk]),rfl,eh _,?_⟩;simp(disch:=omega) only[kd,results96]
 rw[if_neg z]at h;refine jq (G:=CtG i b o m g R) (fun g=>⟨(jk::.raw (.int .i64 B)::kE y::.one (.sl 0 0 0 i)::.raw (.int .i64 b)::.one (.ptr 5 0 0 0)::j4 (jk::.raw (.int .i64 o)::.raw (.int .i64 m)::rN y.length::jk::jk::jk::.raw (.int .i64 g.x)::j16 (j16 (j16 (j4 (j4 (j4 (jk::jk::[])))))))),Hm [(0,yK g.c),(5,[⟨87,3,[[.p (.raw (.int .i64 (i:Int))),.p (.sl (ls fB S)),.p (.sl (ls fZ H))]]⟩])]⟩) (fun g=>(m+1-g.x).toNat) ⟨o,e,by omega,by omega,⟨O,s,by omega⟩,h⟩ ?_ ?_
 ·refine aj ⟨rfl,rfl,trivial⟩ ?_;simp[wk]
 rintro⟨x,t,h4,h5,D,w⟩;simp only;by_cases hx:x<=m
 ·have T:=E z x t h4 hx D;have ex:IntKind.i64.wrap (x+1)=x+1:=aR (by omega) (by omega);rw[Ek hx,ctL]at w;refine bT (dp em (k:=iA rfl (dM (bT (fq (Fx cf 7 T 0 [⟨4,_,_,_,cL x⟩] [] (by kernel_rfl) (by kernel_rfl) (by kernel_rfl) (by simp[wk]) (by omega) rfl (qL _) (qL _) (by decide) rfl (by simp[Jh]) (by decide) fun K A=>?_))))));simp only[kd,kE,aa,reduceCtorEq];apply A;clear A K;refine⟨⟨rfl,?_⟩,?_⟩
  ·rw[IT];rfl
  intro K A;simp only[kd,aa,YI,cwD,NM];apply A;clear A K;by_cases q:(g x t).1=true
  ·rw[if_pos q]at w;rw[q];refine iz rfl (dM (tX ex (k:=?_)));refine⟨⟨x+1,(g x t).2,by omega,by omega,hg x t D q,w⟩,by simp only;omega,?_⟩;refine aj ⟨rfl,rfl,trivial⟩ ?_;simp[wk]
  rw[if_neg q]at w;subst w;have M:(g x t).1=false:=by simpa using q
  rw[M];refine iA rfl (eF (k:=?_));refine iB ⟨.inr rfl,_,aj (tm:=(jk::jk::jk::.one (.sl 0 0 0 i)::j4 (jk::jk::.raw (.bool false)::j16 (j16 (j16 (j16 (j4 (jk::[])))))))) (l:=[(0,yK (g x t).2)]) ⟨rfl,trivial⟩ (by simp[wk]),rfl,eh _,?_⟩;simp(disch:=omega) only[kd,results96]
 have Y:x=m+1:=by omega
 subst Y;rw[vw (by omega),ctL]at w;subst w;refine bT (eF (k:=iz rfl (kq (eF (k:=?_)))));refine iB ⟨.inr rfl,_,aj (tm:=(jk::jk::jk::.one (.sl 0 0 0 i)::j4 (jk::jk::.raw (.bool true)::j16 (j16 (j16 (j16 (j4 (jk::[])))))))) (l:=[(0,yK t)]) ⟨rfl,trivial⟩ (by simp[wk]),rfl,eh _,?_⟩;simp(disch:=omega) only[kd,results96]
theorem IR (n:Nat) (f:FF) (B b:Int) (v:n<=4) (l:RedR f n) (z: ∀i j,i<n->j<n->I64 (f i j)) (t:0<=B) (u:B<=262144) (w:0<=b) (o:b<=1000000): ∀(k:Nat) (y c:List Int),y.length+(k+1)=n->Fa y->fC f n B (k+1) (aL n y)->CtP n b c->
  lP prog 96 [EJ n f,.raw (.int .i64 B),kE y,jk,.raw (.int .i64 b)] 3 n (yK c) (yK (F5 n f B b k y c).2) (.raw (.bool (F5 n f B b k y c).1))
 |0,y,c,g,s,q,p=>by
  have m:=(wU (f:=f) (B:=B) 0 y c g p).1;exact wS n f B b 0 y c v l z t u w o g s q p (fun _ c=>(true,c)) (fun _ _ h _=>h) m (fun h=>absurd rfl h)
 |k+1,y,c,g,s,q,p=>by
  have m:=(wU (f:=f) (B:=B) (k+1) y c g p).1;have e: ∀(x:Int),(x::y).length+(k+1)=n:=fun x=>by rw[aaG];omega
  refine wS n f B b (k+1) y c v l z t u w o g s q p (fun x=>F5 n f B b k (x::y)) (fun x c h r=>((wU k (x::y) c (e x) h).2 r).1) m fun _ x c D C p=>?_
  obtain⟨E,F⟩:=q9 l v t u g s q;have r: ∀i,k+1<i->i<n->aL n (x::y) i=aL n y i:=fun i m _=>kH g m
  refine IR n f B b v l z t u w o k (x::y) c (e x) (s.cons (by omega)) ?_ p;rw[l7 l.pd (by omega) ((fC.tail l.pd (by omega) fun i m A=>r i m A).2 q),mp g,qZ l.pd (by omega) r,qS l.pd (by omega) r];exact⟨D,C⟩
theorem Gx (c:1<=n) (f:n<=4) (e:RedR b n):isReducedM (mat n n b)=true:=(fS _).2 ((vY c).2 ⟨rfl,by omega,e⟩)
theorem t8 (n:Nat) (f:FF) (B b c:Int) (e:1<=n) (l:n<=4) (h:RedR f n) (m:0<=B) (o:B<=b) (p:0<=c) (j:c<=1000000):
  CallC prog 46 [dn (mat n n f),.raw (.int .i64 B),.raw (.int .i64 b),.raw (.int .i64 c)] ⟨[],.raw (.int .i64 0)⟩:=by
 have g:=CD (mat n n f) (VD e (by omega) h);rw[Gx e l h]at g;generalize mat n n f=M at*
 refine ay func46 rfl ntmps46 (aA (k:=ai (bM [⟨1,_,_,_,g⟩] (k:=aq rfl (ak (ai (ar (k:=aq rfl (ak (bz (k:=aG @results46)))))))))))
theorem rE (n i:Nat):(ae n (0:Int)).getD i 0=0:=by
 rw[aav,aaY];split<;>rfl
theorem Bb (b:0<=x):CtP n x (ae n 0):=⟨by simp,fun i _=>by rw[rE];omega,by
 have:sL n (ae n 0)=0:=by
  unfold sL;rw[bA n fun i _=>rE n i,iO]
 omega⟩
noncomputable def ML (n:Nat) (f:FF) (B b:Int):Bool×List Int:=F5 n f B b (n-1) [] (ae n 0)
theorem Xs {f:FF} {B:Int} (c:1<=n) (b:0<=x):(ML n f B x).2.length=n/\((ML n f B x).1=true->CtP n x (ML n f B x).2/\(ML n f B x).2.getD (n-1) 0=((fb f n B n []).length:Int)):=by
 have:=wU (f:=f) (B:=B) (n-1) [] (ae n 0) (by simp;omega) (Bb b);rw[rE,show n-1+1=n by omega,aex]at this;exact this
abbrev Yc (d:List Int) (e:Int):TV:= .tup [(false,[.p (.sl (ls fI d))]),(false,[.p (.raw (.int .i64 e))])]
theorem PS (n:Nat):ae n [AV.p (.raw (.int .i64 0))]=lc fI (ae n 0):=by simp[lc,fI]
theorem RZ (n:Nat) (f:FF) (B e:Int) (g:1<=n) (v:n<=4) (m:RedR f n) (r: ∀i j,i<n->j<n->I64 (f i j)) (q:0<=B) (z:B<=262144) (o:0<=e) (l:e<=1000000):
  CallC prog 47 [dn (mat n n f),.raw (.int .i64 B),.raw (.int .i64 e)] ⟨[],if(ML n f B e).1=true then Yc (ML n f B e).2 0 else Yc [] 9⟩:=by
 have w:=t8 n f B 4611686018427387904 e g v m q (by omega) o l;have x:=Oi n f g (by omega) (fun t C=>by have:=m.pd.2 t C;omega) r;have u:fC f n B (n-1+1) (aL n []):=by rw[show n-1+1=n by omega];exact ji m.pd q
 have A:CtP n e (ae n 0):=Bb o;have p:=(IR n f B e v m r q z o l (n-1) [] (ae n 0) (by simp;omega) Fa.nil u A).nilA (k:=2) rfl (by decide);have E:=(Xs (f:=f) (B:=B) g o).1
 change lP _ _ _ _ _ _ (yK (ML n f B e).2) (.raw (.bool (ML n f B e).1))at p
 simp only[adx,ac5]at p;generalize(ML n f B e).1=b at*
 generalize(ML n f B e).2=c at*
 have s:=aU n n f;generalize mat n n f=M at*
 unfold EJ at*
 generalize Au n f n=S at*
 generalize dL n f=D at*
 clear u m r;refine ay func47 rfl ntmps47 (aA (k:=ai (bM [⟨3,_,_,_,w⟩] (k:=ar (k:=aq rfl (ak (aK s (k:=?_))))))));rw[PS];refine ai (ai (M3 (k:=9) (by simp[wk]) (Fv 5 p 19 [⟨1,_,_,_,x⟩] [] (by kernel_rfl) (by simp[wk]) g rfl (qL _) (qL _) (by decide) (by simp[wk]) (by decide) fun K h=>?_)));simp only[kd,dn,aa];apply h;clear h K;refine⟨⟨rfl,(IT _ _).symm⟩,by simp[wk],?_⟩;intro K h;simp only[kd,dn,aa,Zp,cwD,kM,bne_self_eq_false];apply h;clear h K;show bo _ _ _ _;cases b with
 |true=>
  refine aq rfl (ak (bz (k:=?_)));refine aW ⟨.inr rfl,fF 19 (bG rfl) ?_ rfl⟩;have y:List.take n c=c:=aar (by omega);simp(disch:=omega) only[kd,results47,y,Yc]
 |false=>
  refine aC rfl (bz (k:=?_));refine aW ⟨.inr rfl,PT 6 rfl rfl ?_ rfl⟩;simp(disch:=omega) only[kd,results47,Yc]
theorem OS (l:List (Int×List Int)) (k:Int) (x:List Int):lc WC l++[[AV.p (.raw (.int .i64 k)),.p (.sl (ls fI x))]]=lc WC (l++[(k,x)]):=by simp[lc,WC]
abbrev Jb (l:List (Int×List Int)):List OObj:=[⟨75,2,lc WC l⟩]
theorem DH (l:List (Int×List Int)): ∀o∈Jb l,selfO 0 o:=fun o b e f x c=>by
 simp only[aam]at b;subst b;obtain⟨z,_,rfl⟩:=aai.1 f;simp only[WC,aaC,aaR,aaV,abu,or_false]at c;rcases c with rfl|rfl<;>trivial
theorem SS (d:Nat) (l:List (Int×List Int)):(Jb l).map (renO d)=Jb l:=by simp[Jb,renO,iH]
def uq (n:Nat) (f:FF) (z:List Int):Int×List Int:=(Vb n f z,z)
structure LvG (lo hi:Int) (g:Int->List (List Int)) (it:List Int->Int×List Int) (T:List (Int×List Int)) where
 x:Int
 acc:List (Int×List Int)
 h1:lo<=x
 e:acc++((rng x hi).flatMap g).map it=T
theorem uv (n:Nat) (f:FF) (B:Int) (k:Nat) (y:List Int) (out:List (Int×List Int)) (hn:n<=4) (h:RedR f n) (H: ∀i j,i<n->j<n->I64 (f i j)) (W:0<=B) (X:B<=262144) (w:y.length+(k+1)=n) (C:Fa y) (t:fC f n B (k+1) (aL n y))
  (g:Int->List (List Int)) (s:(out++((rng (cz f n B k (aL n y)) (di f n B k (aL n y))).flatMap g).map (uq n f)).length<=1000000)
  (r:(k=0/\ ∀x,g x=[x::y])\/(k≠0/\ ∀x acc,cz f n B k (aL n y)<=x->x<=di f n B k (aL n y)->(acc++(g x).map (uq n f)).length<=1000000->
   qr prog 49 [EJ n f,.raw (.int .i64 B),kE (x::y),.one (.sl 0 0 0 acc.length)] (Jb acc) (Jb (acc++(g x).map (uq n f))) (.one (.sl 0 0 0 (acc++(g x).map (uq n f)).length)))):
  qr prog 49 [EJ n f,.raw (.int .i64 B),kE y,.one (.sl 0 0 0 out.length)] (Jb out) (Jb (out++((rng (cz f n B k (aL n y)) (di f n B k (aL n y))).flatMap g).map (uq n f)))
   (.one (.sl 0 0 0 (out++((rng (cz f n B k (aL n y)) (di f n B k (aL n y))).flatMap g).map (uq n f)).length)):=by
 have U:=qP n f B k y hn h H W X w C t;have cL:=fun x=>DR x y (by omega)
 obtain⟨b1,b2⟩:=q9 h hn W X w C t;have tb:=oH (y.length+1) (by omega);have A: ∀x i,k<i->i<n->aL n (x::y) i=aL n y i:=fun x i e _=>kH w e
 have cP: ∀x,cz f n B k (aL n y)<=x->x<=di f n B k (aL n y)->k=0->CallC prog 101 [EJ n f,kE (x::y)] ⟨[],tR (uq n f (x::y)).1 1⟩/\0<=(uq n f (x::y)).1/\(uq n f (x::y)).1<=262144:=fun x e E c=>by
  subst c;have Z:(x::y).length=n:=by rw[aaG];omega
  have P:Fa (x::y):=C.cons (by omega);have N:fC f n B 0 (aL n (x::y)):=by
   rw[l7 h.pd (by omega) ((fC.tail h.pd (by omega) fun i e E=>A x i e E).2 t),mp w,qZ h.pd (by omega) (A x),qS h.pd (by omega) (A x)];exact⟨e,E⟩
  have F:=nI.1 N;rw[show aL n (x::y)=fun i=>(x::y).getD i 0 from funext (oI Z)]at F;have M:=(h.pd.pos fun i=>(x::y).getD i 0).1;have Y:(uq n f (x::y)).1=BF n f (fun i=>(x::y).getD i 0) fun i=>(x::y).getD i 0:=rfl
  refine⟨DA n f (x::y) (by omega) (by omega) Z H fun z hz=>?_,?_,?_⟩
  ·have h3:=P.bd z hz;have h4:=oH (x::y).length (by omega);constructor<;>omega
  ·rw[Y];exact M
  rw[Y];omega
 have L: ∀z,uq n f z=((uq n f z).1,z):=fun _=>rfl
 unfold Zs at U;generalize hT:(out++((rng (cz f n B k (aL n y)) (di f n B k (aL n y))).flatMap g).map (uq n f))=T at*
 generalize cz f n B k (aL n y)=lo at*
 generalize di f n B k (aL n y)=u at*
 generalize uq n f=m at*
 unfold EJ at*
 generalize Au n f n=S at*
 generalize dL n f=V at*
 clear t h H C A;refine ND func49 rfl (by kernel_rfl) (by simp[selfTV,bs]) (by simp[selfTV,bs]) (DH _) (DH _) ?_;rw[ntmps49];refine bo.weak (aj (tm:=(.agg [.p (.raw (.int .i64 (n:Int))),.p (.sl (ls fB S)),.p (.sl (ls fZ V))]::.raw (.int .i64 B)::kE y::.one (.sl 0 0 0 out.length)::j16 (j16 (j16 (j4 ([])))))) (l:=[(0,Jb out)]) ⟨rfl,trivial⟩ (by simp[wk,ae])) ?_;refine ar (k:=bM [⟨3,_,_,_,U⟩] (k:=ai (bz (k:=?_))));refine aF (G:=LvG lo u g m T) (fun g=>⟨(jk::.raw (.int .i64 B)::kE y::.one (.sl 0 0 0 g.acc.length)::.one (.ptr 4 0 0 0)::j4 (jk::.raw (.int .i64 u)::.raw (.int .i64 g.x)::j16 (j16 (j4 (j4 (j4 ([]))))))),Hm [(0,Jb g.acc),(4,[⟨87,3,[[.p (.raw (.int .i64 (n:Int))),.p (.sl (ls fB S)),.p (.sl (ls fZ V))]]⟩])]⟩) (fun g=>(u+1-g.x).toNat) ⟨lo,out,by omega,hT⟩ ?_ ?_
 ·refine aj ⟨rfl,rfl,trivial⟩ ?_;simp[wk]
 rintro⟨x,acc,e,o⟩;simp only;by_cases Q:x<=u
 ·rw[Ek Q,acR,aba,<- aaL]at o;have ex:IntKind.i64.wrap (x+1)=x+1:=aR (by omega) (by omega);have b:(acc++(g x).map m).length<=1000000:=by
   rw[<- o,aa6]at s;omega
  refine ai (ar (k:=aC rfl (ak (ai (am (bM [⟨2,_,_,_,cL x⟩] (k:=?_)))))));rcases r with⟨c,r⟩|⟨c,r⟩
  ·obtain⟨D,n0,n1⟩:=cP x e Q c;have R:=uX (m (x::y)).1 ((show I64 (m (x::y)).1 by constructor<;>omega).sz (by omega));rw[Bl (by constructor<;>omega)]at R;have J:=L (x::y);have I:(g x).map m=[((m (x::y)).1,x::y)]:=by rw[r,<- J];rfl
   rw[I]at b o;rw[aa6]at b;have b:acc.length+1<=1000000:=b;generalize(m (x::y)).1=v at*
   refine ai (ar (k:=aq rfl (ak (bK [⟨2,_,_,_,D⟩,⟨4,_,_,_,R⟩] (k:=dZ @OS (k:=nA ex (k:=?_)))))));refine⟨⟨x+1,acc++[(v,x::y)],by omega,o⟩,by simp only;omega,aj ⟨rfl,rfl,trivial⟩ ?_⟩;simp[wk]
  have O:=r x acc e Q b;refine ai (ar (k:=aC rfl (Fs 4 O 0 [] [] (by decide) (by decide) fun K q=>?_)));simp only[kd,aa,reduceCtorEq];apply q;clear q K;refine⟨⟨rfl,?_⟩,?_⟩
  ·rw[SS];rfl
  intro K q;simp only[kd,aa,Rx,cwD,kF,Nat.reduceBEq];apply q;clear q K;refine aY (nA ex (k:=?_));refine⟨⟨x+1,acc++(g x).map m,by omega,o⟩,by simp only;omega,aj ⟨rfl,rfl,trivial⟩ ?_⟩;simp[wk]
 rw[vw (by omega),acH,aaR,abd]at o;subst o;refine ai (ar (k:=aq rfl (aY (bz (k:=?_)))));refine aW ⟨.inr rfl,_,aj (tm:=(j4 (j4 (.one (.sl 0 0 0 acc.length)::j16 (j16 (j4 (j4 (j4 (jk::jk::jk::[]))))))))) (l:=[(0,Jb acc)]) ⟨rfl,trivial⟩ (by simp[wk]),eh _,?_⟩;simp(disch:=omega) only[kd,results49]
theorem DK (n:Nat) (f:FF) (B:Int) (o:n<=4) (b:RedR f n) (q: ∀i j,i<n->j<n->I64 (f i j)) (l:0<=B) (m:B<=262144): ∀(k:Nat) (y:List Int) (out:List (Int×List Int)),y.length+(k+1)=n->Fa y->fC f n B (k+1) (aL n y)->(out++(fb f n B (k+1) y).map (uq n f)).length<=1000000->
  qr prog 49 [EJ n f,.raw (.int .i64 B),kE y,.one (.sl 0 0 0 out.length)] (Jb out) (Jb (out++(fb f n B (k+1) y).map (uq n f))) (.one (.sl 0 0 0 (out++(fb f n B (k+1) y).map (uq n f)).length))
 |0,y,out,c,h,e,g=>uv n f B 0 y out o b q l m c h e (fun x=>[x::y]) g (.inl ⟨rfl,fun _=>rfl⟩)
 |k+1,y,out,c,h,e,g=>by
  refine uv n f B (k+1) y out o b q l m c h e (fun x=>fb f n B (k+1) (x::y)) g (.inr ⟨by omega,fun x acc g u t=>?_⟩);obtain⟨v,w⟩:=q9 b o l m c h e;have r: ∀i,k+1<i->i<n->aL n (x::y) i=aL n y i:=fun i p _=>kH c p
  refine DK n f B o b q l m k (x::y) acc (by rw[aaG];omega) (h.cons (by omega)) ?_ t;rw[l7 b.pd (by omega) ((fC.tail b.pd (by omega) fun i p s=>r i p s).2 e),mp c,qZ b.pd (by omega) r,qS b.pd (by omega) r];exact⟨g,u⟩
section
theorem AJ (h:(Lit.int .u16 x).wf=true):0<=x/\x<=65535:=by
 have:=Go.bounds_u16 h;omega
section
variable {n:Nat} {f:FF} {B bud:Int}
def Yj (n:Nat) (bud:Int) (c:List Int) (T:Nat) (r:Bool×List Int):Prop:=
 (r.1=true↔sL n c+(T:Int)<=bud)/\(r.1=true->CtP n bud r.2/\sL n r.2=sL n c+(T:Int))
theorem U3 {g:Int->List Int->Bool×List Int} {m:Int->Nat}: ∀(l:List Int) (c:List Int),(∀x∈l,∀c,CtP n bud c->Yj n bud c (m x) (g x c))->CtP n bud c->Yj n bud c (l.map m).sum (ctL g l c)
 |[],c,_,b=>⟨by have:=b.2.2;simp[ctL];exact this,fun _=>⟨b,by simp[ctL]⟩⟩
 |x::l,c,p,b=>by
  obtain⟨q,r⟩:=p x (by simp) c b;rw[ctL,aaC,List.sum_cons];by_cases e:(g x c).1=true
  ·rw[if_pos e];obtain⟨s,t⟩:=r e;obtain⟨o,j⟩:=U3 l (g x c).2 (fun z u=>p z (by simp[u])) s;rw[t]at o j;exact⟨o.trans ⟨fun h=>by omega,fun h=>by omega⟩,fun h=>⟨(j h).1,by rw[(j h).2];omega⟩⟩
  rw[if_neg e];have: ¬(sL n c+(m x:Int)<=bud):=fun h=>e (q.2 h)
  exact⟨⟨fun h=>(by cases h),fun h=>by omega⟩,fun h=>by cases h⟩
theorem U2 {k:Nat} {y c:List Int} {K:List Int->Bool×List Int} (u:y.length+(k+1)=n) (b:CtP n bud c) {M:Nat} (q:di f n B k (aL n y)<cz f n B k (aL n y)->M=0) (p: ∀e,CtP n bud e->Yj n bud e M (K e)):
  Yj n bud c ((rng (cz f n B k (aL n y)) (di f n B k (aL n y))).length+M) (Fb n f B bud k y c K):=by
 have t:0<=sL n c:=ng n fun a r=>b.2.1 a r
 rw[rI];unfold Fb;by_cases g:di f n B k (aL n y)<cz f n B k (aL n y)
 ·rw[if_pos g,q g];have:=b.2.2;exact⟨⟨fun _=>by omega,fun _=>rfl⟩,fun _=>⟨b,by show sL n c=_;omega⟩⟩
 rw[if_neg g];by_cases l:bud<=di f n B k (aL n y)-cz f n B k (aL n y)
 ·rw[if_pos l];exact⟨⟨fun h=>(by cases h),fun h=>by omega⟩,fun h=>by cases h⟩
 rw[if_neg l];have s:=Ba (d:=di f n B k (aL n y)-cz f n B k (aL n y)) b.1 (show y.length<n by omega);by_cases m:bud<sL n (Dg y.length (di f n B k (aL n y)-cz f n B k (aL n y)) c)
 ·rw[if_pos m];exact⟨⟨fun h=>(by cases h),fun h=>by omega⟩,fun h=>by cases h⟩
 rw[if_neg m];obtain⟨o,j⟩:=p (Dg y.length (di f n B k (aL n y)-cz f n B k (aL n y)) c) ⟨by rw[vk];exact b.1,F4 b.1 (by omega) (by omega) b.2.1,by omega⟩;rw[s]at o j;exact⟨o.trans ⟨fun h=>by omega,fun h=>by omega⟩,fun h=>⟨(j h).1,by rw[(j h).2];omega⟩⟩
theorem U1: ∀(k:Nat) (y c:List Int),y.length+(k+1)=n->CtP n bud c->Yj n bud c (toL f n B k y) (F5 n f B bud k y c)
 |0,y,c,j,e=>U2 (M:=0) (K:=fun b=>(true,b)) j e (fun _=>rfl) fun b h=>⟨⟨fun _=>by have:=h.2.2;omega,fun _=>rfl⟩,fun _=>⟨h,by show sL n b=_;omega⟩⟩
 |k+1,y,c,j,e=>U2 j e (fun h=>by rw[vw h];rfl) fun b h=>U3 (g:=fun x=>F5 n f B bud k (x::y)) (m:=fun x=>toL f n B k (x::y)) _ b (fun x _ c e=>U1 k (x::y) c (by rw[aaG];omega) e) h
theorem T4 (c:1<=n) (b:0<=bud):(ML n f B bud).1=true↔(toL f n B (n-1) []:Int)<=bud:=by
 have h:=(U1 (f:=f) (B:=B) (n-1) [] (ae n 0) (by simp;omega) (Bb b)).1;have:sL n (ae n 0)=0:=by
  unfold sL;rw[bA n fun i _=>rE n i,iO]
 rw[this,aex]at h;exact h
def Cu (L:List (Int×List Int)) (m:Nat):Int:=((L.filter fun x=>decide (x.1=(m:Int))).length:Int)
theorem NQ (L:List (Int×List Int)) (x:Int×List Int) (m:Nat):Cu (L++[x]) m=Cu L m+if x.1=(m:Int)then 1 else 0:=by
 unfold Cu;rw[adv,aa6];by_cases h:x.1=(m:Int)<;>simp[h]
theorem Wi (L:List (Int×List Int)) (m:Nat):0<=Cu L m/\Cu L m<=L.length:=⟨by unfold Cu;omega,adW.2 (abT _ _)⟩
theorem Wj (b m:Nat):Cu ((fb f n (b:Int) n []).map (uq n f)) m=X7 f n b m:=by
 unfold Cu X7;rw[List.filter_map,aa0];have: ∀z,(uq n f z).1=ld n f z:=fun z=>(pu f z).symm
 simp only[Function.comp_def,this]
end
end
theorem PN (n:Nat) (f:FF) (b:Nat) (e:Int) (l:1<=n) (T:n<=4) (o:RedR f n) (C: ∀i j,i<n->j<n->I64 (f i j)) (hb:b<=1000) (u:0<=e) (J:e<=900000):
  CallC prog 20 [dn (mat n n f),.raw (.int .i64 (b:Int)),.raw (.int .i64 e)] ⟨[],if(toL f n (b:Int) (n-1) []:Int)<=e then .tup [(false,[.p (.sl (ls fI (aQ (b+1) (X7 f n b))))]),(false,[.p (.raw (.int .i64 0))])]else L8 9⟩:=by
 have X:=t8 n f (b:Int) 1000 e l T o (by omega) (by omega) u (by omega);have H:=RZ n f (b:Int) e l T o C (by omega) (by omega) u (by omega);have q:=T4 (f:=f) (B:=(b:Int)) l u;by_cases r:(toL f n (b:Int) (n-1) []:Int)<=e
 ·rw[if_pos (q.2 r)]at H;rw[if_pos r];have cO:=Oi n f l (by omega) (fun t r=>by have:=o.pd.2 t r;omega) C;have Y:fC f n (b:Int) (n-1+1) (aL n []):=by rw[show n-1+1=n by omega];exact ji o.pd (by omega)
  have Z:=Bf (f:=f) (n:=n) (B:=(b:Int)) (n-1) [];rw[show n-1+1=n by omega]at Z;have s:=DK n f (b:Int) T o C (by omega) (by omega) (n-1) [] [] (by simp;omega) Fa.nil Y (by rw[show n-1+1=n by omega,ab4,aa0];omega);rw[show n-1+1=n by omega]at s;have V: ∀x∈(fb f n (b:Int) n []).map (uq n f),∃m:Nat,x.1=(m:Int)/\m<b+1:=fun x E=>by
   obtain⟨z,W,rfl⟩:=aai.1 E;have h2:=((Jo o.pd (by omega) z).1 W);have h3:=(o.pd.pos fun i=>z.getD i 0).1;have h4:(uq n f z).1=BF n f (fun i=>z.getD i 0) fun i=>z.getD i 0:=rfl
   exact⟨(uq n f z).1.toNat,by omega,by omega⟩
  have A:(fun m=>X7 f n b m)=Cu ((fb f n (b:Int) n []).map (uq n f)):=funext fun m=>(Wj b m).symm
  rw[show X7 f n b=Cu ((fb f n (b:Int) n []).map (uq n f))from A];have ad:((fb f n (b:Int) n []).map (uq n f)).length<=900000:=by rw[aa0];omega
  generalize(fb f n (b:Int) n []).map (uq n f)=L at*
  have s:=(s.toC (k:=3) (by decide) rfl rfl).nilA (k:=2) rfl;simp only[adx,ac5,ab4]at s;generalize mat n n f=M at*
  generalize(ML n f (b:Int) e).2=cs at*
  unfold EJ at*
  generalize Au n f n=S at*
  generalize dL n f=dl at*
  clear Y o C Z q A r;have e1:IntKind.i64.wrap ((b:Int)+1)=((b+1:Nat):Int):=aR (by omega) (by omega);have W:ae (b+1) [AV.p (.raw (.int .i64 0))]=lc fI (aQ (b+1) (Cu (L.take 0))):=by
   have u:aQ (b+1) (Cu (L.take 0))=ae (b+1) 0:=Rs _ fun i _=>rfl
   rw[u];exact WB (b+1)
  refine ay func20 rfl ntmps20 (aA (k:=ai (bM [⟨3,_,_,_,X⟩] (k:=ar (k:=aq rfl (ak (ai (fj [⟨3,_,_,_,H⟩] @Yc.eq_1 (k:=ar (k:=aq rfl (ak (aK e1 (k:=ai (Ft 3 s rfl [⟨1,_,_,_,cO⟩] [] (by decide) fun K w=>?_))))))))))))));simp only[kd,dn,aa];apply w;clear w K;refine⟨⟨rfl,⟨37,rfl,fun _=>rfl⟩⟩,?_⟩;intro K w;simp only[kd,dn,aa,Zq,cwD,iW];apply w;clear w K;refine aF (G:=jo L.length) (fun g=>⟨(j4 (j4 (jk::jk::jk::.one (.sl 33 0 0 (b+1))::j16 (j4 (j4 (jk::.one (.sl 37 0 0 L.length)::rN L.length::rN g.i::j4 (j4 (j4 ([]))))))))),Hm [(33,[⟨2,1,lc fI (aQ (b+1) (Cu (L.take g.i)))⟩]),(37,Jb L)]⟩) (fun g=>L.length-g.i) ⟨0,by omega⟩ ?_ ?_
  ·refine aj ⟨?_,rfl,trivial⟩ ?_
   ·rw[<- W];rfl
   simp[wk]
  rintro⟨i,ac⟩;simp only;by_cases hm:i<L.length
  ·obtain⟨x,E⟩:=getElem?_of_lt hm;have ei:IntKind.i64.wrap ((i:Int)+1)=((i+1:Nat):Int):=by rw[aR (by omega) (by omega)];omega
   have U: ∀j,Cu (L.take (i+1)) j=Cu (L.take i) j+if x.1=(j:Int)then 1 else 0:=fun j=>by
    rw[adH,E];exact NQ _ _ _
   obtain⟨m,F,R⟩:=V x (u5 E);have N:=Wi (L.take i) m;rw[abc]at N;obtain⟨v,z⟩:=x;simp only at U F;subst F;obtain⟨I,y⟩: ∃I,I=Cu (L.take (i+1)):=⟨_,rfl⟩;rw[<- y]at U;generalize Cu (L.take i)=c at*
   have P:=aI (b+1) c;have O:=aB c R;have ew:IntKind.i64.wrap (c m+1)=c m+1:=aR (by omega) (by omega);have D:(lc fI (aQ (b+1) c)).set m [AV.p (.raw (.int .i64 (c m+1)))]=lc fI (aQ (b+1) I):=by
    rw[show[AV.p (.raw (.int .i64 (c m+1)))]=(fI (c m+1)).map AV.p from rfl,tg,mn];refine congrArg _ (eB fun j hj=>?_);rw[U];by_cases J:j=m
    ·subst J;simp
    rw[if_neg J,if_neg (by omega)];omega
   refine ar (k:=bi rfl (ai (am (aK E (k:=dZ (aH O (aH ew D)) (k:=nA ei (k:=?_)))))));refine⟨⟨i+1,by omega⟩,by simp only;omega,aj ⟨by subst y;rfl,rfl,trivial⟩ ?_⟩;simp[wk]
  have Q:i=L.length:=by omega
  subst Q;rw[adR];refine ar (k:=bv rfl ?_);show bo _ _ _ _;have P:=aI (b+1) (Cu L);refine bz (k:=?_);refine aW ⟨.inr rfl,fF 33 (bG rfl) ?_ rfl⟩;simp(disch:=omega) only[kd,results20,ab];rw[aar (by omega)]
 rw[if_neg (fun h=>r (q.1 h))]at H;rw[if_neg r];generalize mat n n f=M at*
 clear o C q r;refine ay func20 rfl ntmps20 (aA (k:=ai (bM [⟨3,_,_,_,X⟩] (k:=ar (k:=aq rfl (ak (ai (fj [⟨3,_,_,_,H⟩] @Yc.eq_1 (k:=ar (k:=aC rfl (bz (k:=aG @results20))))))))))))
theorem TJ (c:1<=n) (e:n<=8) (f:RedR b n):Rf (mat n n b) n (ent (mat n n b)):=by
 grind [PU,fS,vY,aU]
theorem MT {M:List (List Int)} {k:Int} (h:Rf M n b) (c:Nat) (q:c<=1000) (p:0<=k) (j:k<=1000000) (o:k<(toL b n (c:Int) (n-1) []:Int)):
  CallC prog 19 [dn M,.raw (.int .i64 (c:Int)),.raw (.int .i64 k)] ⟨[],L8 9⟩:=by
 have l:=ff M;rw[h.red]at l;have m:=(N6 h (B:=(c:Int)) (by omega) (by omega) p j).2 o;have e:((c:Int)<0)=False:=eq_false (by omega);have g:(1000<(c:Int))=False:=eq_false (by omega);refine ay func19 rfl ntmps19 (aA (k:=ai (am (bM [⟨1,_,_,_,l⟩] (k:=aq rfl (ai (fL e (k:=aq rfl (nA g (k:=aq rfl (ak (bM [⟨3,_,_,_,m⟩] (k:=ai (ar (k:=aC rfl (bz (k:=aG @results19)))))))))))))))))
theorem GE (c m:Nat) (L B:List Int) (q t:Nat) (U:I8 L) (y:c<=255) (u:m<=255) (hq:q<=255) (ht:t<=65535):CallC prog 4 [tL c m L B,.raw (.int .u8 (q:Int)),.raw (.int .u16 (t:Int))] ⟨[],.raw (.bool true)⟩:=by
 have Q:=KB;obtain⟨n,O⟩: ∃n,n=1+c%4:=⟨_,rfl⟩;have z:1<=n:=by omega
 have H:n<=4:=by have:=aaQ c (show 0<4 by omega);omega
 obtain⟨h,P,cF⟩:=Vx c m L B 4 n U y u (by omega) (by omega) O;rw[show((4:Nat):Int)=4 from rfl]at cF;have s:=TJ z (by omega) P;generalize mat n n h=M at*
 clear P;generalize ent M=f at*
 obtain⟨b,J⟩: ∃b,b=q%(13-2*n):=⟨_,rfl⟩;have V:b<=12:=by have:=aaQ q (show 0<13-2*n by omega);omega
 have R:Int.tmod (q:Int) (13-2*(n:Int))=(b:Int):=by
  rw[J,show(13:Int)-2*(n:Int)=((13-2*n:Nat):Int) by omega];exact(adu q _).symm
 obtain⟨v,F⟩: ∃k,k=t%500:=⟨_,rfl⟩;have Z:v<=500:=by omega
 have S:Int.tmod (t:Int) 500=(v:Int):=by rw[F];exact(adu t 500).symm
 have W: ∀k:Int,0<=k->k<=20000-> ∃T:TV,CallC prog 19 [dn M,.raw (.int .i64 (b:Int)),.raw (.int .i64 k)] ⟨[],T⟩/\CallC prog 20 [dn M,.raw (.int .i64 (b:Int)),.raw (.int .i64 k)] ⟨[],T⟩/\
   ((∃l:List Int,T= .tup [(false,[.p (.sl (ls fI l))]),(false,[.p (.raw (.int .i64 0))])])\/T=L8 9):=fun k C h1=>by
  have o:=PN n f b k z H s.r (fun i j K X=>by have:=s.b i j K X;constructor<;>omega) (by omega) C (by omega);rw[<- s.e]at o;by_cases x:(toL f n (b:Int) (n-1) []:Int)<=k
  ·rw[if_pos x]at o;have w:=CK (k:=k) s b (by omega) C (by omega) x;rw[XH]at w;exact⟨_,w,o,.inl ⟨_,rfl⟩⟩
  rw[if_neg x]at o;exact⟨_,MT s b (by omega) C (by omega) (by omega),o,.inr rfl⟩
 have D:=s.l;have aa:((13:Int)-2*(n:Int)=0)=False:=eq_false (by omega);clear s J O;refine ay func4 rfl ntmps4 (pC @tL.eq_1 (k:=fj [⟨1,_,_,_,cF⟩] @tL.eq_1 (k:=aK (aH D R) (k:=ai (aK S (k:=?_))))));refine aF (G:=jo 2) (fun g=>⟨(j4 (jk::jk::jk::dn M::rN b::j16 (jk::jk::kE [(v:Int),20000]::.raw (.int .i64 2)::rN g.i::j16 (j4 (j4 (j4 ([]))))))),Hm []⟩) (fun g=>2-g.i) ⟨0,by omega⟩ ?_ ?_
 ·refine aj trivial ?_;simp[wk,ls,fI]
 rintro⟨i,K⟩;simp only;by_cases hm:i<2
 ·have I:IntKind.i64.wrap ((i:Int)+1)=((i+1:Nat):Int):=by rw[aR (by omega) (by omega)];omega
  have E:((i:Int)<2)=True:=eq_true (by omega);obtain⟨k,Y,k1,k2⟩: ∃k:Int,[(v:Int),20000][i]?=some k/\0<=k/\k<=20000:=by
   rcases(show i=0\/i=1 by omega)with rfl|rfl
   ·exact⟨_,rfl,by omega,by omega⟩
   exact⟨_,rfl,by omega,by omega⟩
  have N:([(v:Int),20000]:List Int).length=2:=rfl;generalize[(v:Int),20000]=ks at*
  obtain⟨T,w,o,x⟩:=W k k1 k2;refine aK E (k:=bi rfl (ai (am (aK Y (k:=?_)))));rcases x with⟨l,rfl⟩|rfl
  ·have A:=qf l l;rw[ik]at A;refine bM [⟨3,_,_,_,w⟩] (k:=bM [⟨3,_,_,_,o⟩] (k:=bK [⟨6,_,_,_,A⟩] (k:=aq rfl (ak (nA I (k:=?_))))));refine⟨⟨i+1,by omega⟩,by simp only;omega,aj trivial ?_⟩;simp[wk]
  have A:CallC prog 21 [.one (.p (.sl [])),.one (.p (.sl []))] ⟨[],.raw (.int .i64 0)⟩:=by
   have:=qf [] [];rwa[ik]at this
  refine bM [⟨3,_,_,_,w⟩] (k:=bM [⟨3,_,_,_,o⟩] (k:=bK [⟨6,_,_,_,A⟩] (k:=aq rfl (ak (nA I (k:=?_))))));refine⟨⟨i+1,by omega⟩,by simp only;omega,aj trivial ?_⟩;simp[wk]
 obtain rfl:i=2:=by omega
 refine ar (k:=bv rfl (bM [⟨0,_,_,_,Q⟩] (k:=aG @results4)))
theorem CallC.law {P:Program} {f:FuncId} {args:List TV} {b:Bool} (h:CallC P f args ⟨[],.raw (.bool b)⟩) {w:World} {vs:Array Value} (c:vs.size=args.length)
  (o: ∀(j:Nat) t,args[j]?=some t-> ∃v:Value,vs[j]?=some v/\t.rel (fun _ _=>none) (fun _=>[]) (fun _=>False) w v):Calls P f vs w fun e g=>e= .returned (.bool b)/\Ext w g:=
 (h.calls c o).mono fun e g ⟨v,l,⟨p,H,X,m⟩,n⟩=>⟨by rw[l,o8 m],n⟩
end Go.Proofs.YtalmoejhjceflaaGreat
