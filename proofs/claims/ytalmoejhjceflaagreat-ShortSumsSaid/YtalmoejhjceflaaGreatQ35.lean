/-
  Part 36 of a proof (walks and plain facts).
-/
import Derived.Test.YtalmoejhjceflaaGreatQ34
set_option linter.all false
set_option maxRecDepth 100000
set_option maxHeartbeats 64000000
open List renaming replicate → ae
namespace Go.Proofs.YtalmoejhjceflaaGreat
open Go.RowKit Go.Proofs.Tryz
variable {b:List Nat} {n:Nat}
theorem kA (u:Nat) (h:u<18446744073709551616):CallC prog 165 [.raw (.int .u64 u)] ⟨[],cW (au u)⟩:=by
 have b:Lmb [u%4294967296,u/4294967296]:=by intro a g;grind
 have e:=fE [u%4294967296,u/4294967296] (by simp);rw[dw b,Dj]at e;have f:IntKind.u32.wrap (u:Int)=((u%4294967296:Nat):Int):=by rfl
 have c:IntKind.u32.wrap ((u:Int).fdiv (2^(min (32:Int).toNat IntKind.u64.bits)))=((u/4294967296:Nat):Int):=by
  rw[ad8];show(Int.fdiv (u:Int) 4294967296)%4294967296=_;grind
 simp only[Int.reduceToNat]at c;refine ax func165 rfl ntmps165 (aA (k:=cj [⟨6,_,_,_,e⟩] (aC @Mr (aC f c)) (k:=aE @results165)))
theorem ue (l:List Nat) (n:Lmb l) (q:l.length<=2):CallC prog 208 [cW l] ⟨[],.raw (.int .u64 (natV l:Nat))⟩:=by
 refine ax func208 rfl ntmps208 (aA (k:=bi (k:=ai (bi (k:=?_)))));refine ay (G:=abb l) (fun g=>⟨(jk::jk::jk::.raw (.int .u64 (g.u:Int))::jk::jk::cW l::rN l.length::rN g.i::j4 (j4 (j4 (jk::[])))),Hm []⟩) (fun g=>l.length-g.i) ⟨0,0,⟨by omega,by omega⟩,rfl⟩ ?_ ?_
 ·refine aj trivial ?_;simp[wk]
 rintro⟨i,u,r,m⟩;simp only;have b:=gm n i;rw[<- m]at b;by_cases p:i<l.length
 ·obtain⟨a,h⟩:=getElem?_of_lt p;have o:=bV n h;have hu2:=bI h;rw[<- m]at hu2;refine ar (k:=aV rfl (ai (am (aH h (k:=?_)))));have j:i=0\/i=1:=by omega
  rcases j with rfl|rfl
  ·have f:IntKind.u64.wrap ((a:Int)*2^min (32*((0:Nat):Int)).toNat IntKind.u64.bits)=(a:Int):=by
    grind [IntKind.wrap_u64]
   have hu0:u=0:=by omega
   have c:=Ew u a (by omega) (by omega);rw[hu0,Nat.zero_or,<- hu0]at c;refine dF (aC f c) (k:=bu (k:=?_));refine⟨⟨1,a,⟨by omega,by omega⟩,by grind⟩,by grind,aj trivial ?_⟩;simp[wk]
  have f:IntKind.u64.wrap ((a:Int)*2^min (32*((1:Nat):Int)).toNat IntKind.u64.bits)=((a*4294967296:Nat):Int):=by
   rw[adb];show((a:Int)*4294967296)%_=_;omega
  simp only[Nat.pow_one]at b;have c:=Ew u (a*4294967296) (by omega) (by omega);rw[show a*4294967296=a*2^32 from rfl,x7 _ _ _ b,show a*2^32=a*4294967296 from rfl]at c;refine dF (aC f c) (k:=bu (k:=?_));refine⟨⟨2,a*4294967296+u,⟨by omega,by omega⟩,by grind⟩,by grind,aj trivial ?_⟩;simp[wk]
 have e:u=natV l:=by grind
 rw[<- e];refine ar (k:=aW rfl (bi (k:=aE @results208)))
theorem zT (n:Int) (f: -9223372036854775808<=n) (g:n<=9223372036854775807):CallC prog 117 [.raw (.int .i64 n)] ⟨[],tZ n⟩:=by
 have e:=kA n.natAbs (by omega);by_cases h:n<0
 ·have b:=fO true n.natAbs;have c:IntKind.u64.wrap (0-IntKind.u64.wrap n)=((n.natAbs:Nat):Int):=by grind [IntKind.wrap_u64]
  rw[show iq true n.natAbs=n by grind [iq]]at b;refine ax func117 rfl ntmps117 (aA (k:=ai (ar (k:=az rfl (cj [⟨3,_,_,_,e⟩,⟨4,_,_,_,b⟩] c (k:=aE @results117))))))
 have b:=fO false n.natAbs;have c:IntKind.u64.wrap n=((n.natAbs:Nat):Int):=by rw[adb];omega
 rw[show iq false n.natAbs=n by grind [iq]]at b;refine ax func117 rfl ntmps117 (aA (k:=ai (ar (k:=ao rfl (ak (cj [⟨2,_,_,_,e⟩,⟨3,_,_,_,b⟩] c (k:=aE @results117)))))))
theorem VQ (z:Int) (h:Bg z):CallC prog 121 [tZ z] ⟨[],.raw (.int .i64 (sg z))⟩:=by
 have b:=fE (au z.natAbs) h.len;rw[jF]at b;have g:=gU (n:=z.natAbs);rcases Int.lt_trichotomy z 0 with c|c|c
 ·have e:sg z= -1:=by simp[sg,c]
  have f:(au z.natAbs).length≠0:=by omega
  rw[e];refine ax func121 rfl ntmps121 (aA (k:=ai (am (bE [⟨2,_,_,_,b⟩] (k:=ao rfl (bi (k:=az rfl (bi (k:=aE @results121)))))))))
 ·subst c;rw[show sg 0=0 from rfl];rw[Int.natAbs_zero,cn]at b;rw[show tZ 0= .agg [.p (.raw (.bool false)),.p (.sl (ls fU []))]from by grind];refine ax func121 rfl ntmps121 (aA (k:=ai (am (bE [⟨2,_,_,_,b⟩] (k:=az rfl (bi (k:=aE @results121)))))))
 have e:sg z=1:=by grind [sg]
 have f:(au z.natAbs).length≠0:=by omega
 rw[e];refine ax func121 rfl ntmps121 (aA (k:=ai (am (bE [⟨2,_,_,_,b⟩] (k:=ao rfl (bi (k:=ao rfl (ak (bi (k:=aE @results121))))))))))
theorem GF (z:Int) (h:Bg z):CallC prog 222 [tZ z] ⟨[],ky z⟩:=by
 have b:=fE (au z.natAbs) h.len;rw[jF]at b;have l:=h.len;by_cases g:2<(au z.natAbs).length
 ·have j:=Ac g;rw[show ky z= .tup [(false,[.p (.raw (.int .i64 0))]),(false,[.p (.raw (.bool false))])] by grind [ky]];refine ax func222 rfl ntmps222 (aA (k:=bj [⟨2,_,_,_,b⟩] (k:=ai (ar (k:=az rfl (bi (k:=aE @results222)))))))
 have j:=i4 (n:=z.natAbs) (by omega);have c:=ue (au z.natAbs) (aI _) (by omega);rw[aG]at c;by_cases m:z<0
 ·by_cases f:z.natAbs<=9223372036854775808
  ·have e:IntKind.i64.wrap (IntKind.u64.wrap (0-(z.natAbs:Int)))=z:=by
    grind [IntKind.wrap_u64,IntKind.wrap_i64]
   rw[show ky z= .tup [(false,[.p (.raw (.int .i64 z))]),(false,[.p (.raw (.bool true))])] by grind [ky]];refine ax func222 rfl ntmps222 (aA (k:=bj [⟨2,_,_,_,b⟩] (k:=ai (ar (k:=ao rfl (ak (bj [⟨1,_,_,_,c⟩] (k:=ai (am (ar (k:=az rfl (dR e (k:=aE @results222)))))))))))))
  rw[show ky z= .tup [(false,[.p (.raw (.int .i64 0))]),(false,[.p (.raw (.bool false))])] by grind [ky]];refine ax func222 rfl ntmps222 (aA (k:=bj [⟨2,_,_,_,b⟩] (k:=ai (ar (k:=ao rfl (ak (bj [⟨1,_,_,_,c⟩] (k:=ai (am (ar (k:=ao rfl (ar (k:=ao rfl (ak (bi (k:=aE @results222))))))))))))))))
 by_cases f:z.natAbs<9223372036854775808
 ·have e:IntKind.i64.wrap (z.natAbs:Int)=z:=by rw[afp];omega
  rw[show ky z= .tup [(false,[.p (.raw (.int .i64 z))]),(false,[.p (.raw (.bool true))])] by grind [ky]];refine ax func222 rfl ntmps222 (aA (k:=bj [⟨2,_,_,_,b⟩] (k:=ai (ar (k:=ao rfl (ak (bj [⟨1,_,_,_,c⟩] (k:=ai (am (ar (k:=ao rfl (ar (k:=az rfl (dR e (k:=aE @results222)))))))))))))))
 rw[show ky z= .tup [(false,[.p (.raw (.int .i64 0))]),(false,[.p (.raw (.bool false))])] by grind [ky]];refine ax func222 rfl ntmps222 (aA (k:=bj [⟨2,_,_,_,b⟩] (k:=ai (ar (k:=ao rfl (ak (bj [⟨1,_,_,_,c⟩] (k:=ai (am (ar (k:=ao rfl (ar (k:=ao rfl (ak (bi (k:=aE @results222))))))))))))))))
/-! Clone: a walk of the older kind, for it holds the slice against nil. -/
theorem zm (A:Option Addr) (c:Nat) (x:List Int) (w:World) (hx:RdI .u32 w A x) (hl:x.length*4<=140737488355328):
  Calls prog 209 #[.slice A x.length c] w fun e w'=> ∃v,e= .returned v/\w'.ownsRow w.heap.size 165 1 v x.length (x.map (Value.int .u32))/\Ext w w':=by
 have hnil:=fun(w:World) (n c:Nat)=>agn (P:=prog) w 63 165 A n c 0 0 underlying63
 cases A with
 |none=>
  have hx0:x=[]:=by
   cases x with
   |nil=>rfl
   |cons a l=>obtain⟨_,_,h,_⟩:=hx (by simp);cases h
  subst hx0
  go_enter func209,ntmps209
  go_wp2_with fail
  go_ret
  exact⟨_,rfl,aeX _ _ _ _,Ext.refl _⟩
 |some a=>
  go_enter func209,ntmps209
  go_wp2_with (at_builtin;refine j8 _ rfl (.tmp 5) (.tmp 6) _ rfl w.heap.size 165 (.int .u32 0) 1 4 underlying63 Tryz.inU32 rfl (by omega) _ 0 [] rfl (afg w #[] 0 (acs _) (acL _) rfl) (some a) x.length c _ rfl (Rd.ext hx ((Ext.refl _).alloc _)) (by simp) ux (by simp only[maxLen];omega) (by omega) (by simp) ?_;intro v1 w1 hown1 hg1 _)
  go_ret
  exact⟨_,rfl,by simpa using hown1,CA hg1 (afg w #[] 0 (acs _) (acL _) rfl:World.ownsRow _ w.heap.size 165 1 _ 0 []) ((Ext.refl w).alloc _) (acs _)⟩
theorem MK {X:Nat->Prop} {w:World} {v:Value} (h:bS X w (.sl (ls fU b)) v): ∃A c,v= .slice A b.length c/\b.length<=c/\RdI .u32 w A (b.map fun n:Nat=>(n:Int)):=by
 generalize g:PV.sl (ls fU b)=x at h;cases h with
 |raw v h=>cases g
 |ptr e m F f u y r s=>cases g
 |nil a c=>
  injection g with g
  have C:b=[]:=by simp_all[ls]
  subst C;exact⟨a,c,rfl,acL _,RdI.nil _ _ _⟩
 |sl e m t cap J f u y p j D r s=>
  injection g with g
  subst g;rw[d8]at j D;refine⟨some ⟨e,m,none⟩,cap,by rw[d8],j,fun E=>⟨e,m,rfl,fun i x g=>?_⟩⟩;rw[ach,ach]at g;obtain⟨K,q,rfl⟩:=acf.1 g;obtain⟨z,I,rfl⟩:=acf.1 q;have o:(ls fU b)[i]?=some (fU z):=by grind [gV]
  have B:t=1:=by rw[<- p _ (acd o)];rfl
  subst B;have G:=r i _ 0 _ o rfl;have H:=qZ (s i _ 0 _ o rfl);grind
theorem SW {q:World} {k:Nat} {v:Value} {Y:Nat->Prop} (t: ∀c,Y c->c<k) (E:b.length<=9223372036854775807) (h:q.ownsRow k 165 1 v b.length ((b.map fun n:Nat=>(n:Int)).map (Value.int .u32))):bS Y q (.sl (ls fU b)) v:=by
 obtain⟨D,s⟩:=h;rcases s with⟨p,F⟩|⟨g,cap,cur,p,C,u,A,y,G,H⟩
 ·have:b=[]:=aee (by omega);subst this;rw[p];exact bS.nil _ _
 rw[p];have f: ∀(i:Nat) z,b[i]?=some z->cur[i]?=some (.int .u32 (z:Int)):=fun i z r=>by
  have B:((b.map fun n:Nat=>(n:Int)).map (Value.int .u32))[i]?=some (.int .u32 (z:Int)):=by grind
  grind
 have:=bS.sl (X:=Y) (w:=q) g 0 1 cap (ls fU b) (fun i _=>(cur[i]?).getD undef) (fun h=>absurd (t _ h) (by omega)) (acB.1 u).1 (fun e m=>by
  obtain⟨z,_,rfl⟩:=acn.1 m;rfl) (by grind [d8]) (by grind [d8]) (fun i e j x m o=>by
  grind [gV,fU,cell_of_row]) (fun i e j x m o=>by
  rw[gV]at m;obtain⟨z,r,rfl⟩:=acf.1 m;cases j with
  |succ j=>simp[fU]at o
  |zero=>
   simp[fU]at o;subst o;simp only[f i z r,ads];exact bS.raw _ rfl)
 grind [d8]
theorem GE (l:List Nat) (x:l.length<=1073741824):CallC prog 209 [cW l] ⟨[],cW l⟩:=by
 refine zg (by kernel_rfl) fun X w vs t q p=>?_
 obtain⟨y,s,r⟩:=y5 p (j:=0) rfl;obtain⟨A,c,rfl,u,m⟩:=MK r;obtain rfl:vs= #[.slice A l.length c]:=by
  grind
 have b:(l.map fun n:Nat=>(n:Int)).length=l.length:=ac0 _;have:=zm A c (l.map fun n:Nat=>(n:Int)) w m (by omega);rw[b]at this;refine this.mono fun e z ⟨v,f,g,h⟩=>⟨v,f,fun B H Y o=>SW o (by omega) g,h⟩
theorem DY (z:Int) (h:Bg z):CallC prog 236 [tZ z] ⟨[],tZ z⟩:=by
 have c:=fE (au z.natAbs) h.len;rw[jF]at c;have e:=GE (au z.natAbs) h.len;have b:=fO (decide (z<0)) z.natAbs;rw[Eh]at b;refine ax func236 rfl ntmps236 (aA (k:=da [⟨4,_,_,_,c⟩,⟨5,_,_,_,e⟩,⟨6,_,_,_,b⟩] (k:=aE @results236)))
theorem sX (o:List Nat) (k v:Nat):(o++ae (k+1) 0).set o.length v=(o++[v])++ae k 0:=by
 grind
theorem wD (o:List Nat) (k:Nat):(o++ae (k+1) 0)[o.length]?=some 0:=by
 simp
theorem zS (l m:List Nat) (q:Lmb l) (r:Lmb m) (s:xO l) (t:xO m) (w:l.length<=1073741824) (x:m.length<=1073741824):
  CallC prog 207 [cW l,cW m] ⟨[],.raw (.int .i64 (iP (natV l) (natV m)))⟩:=by
 rcases adE l.length m.length with p|j|n
 ·rw[qJ (kG q t p)];refine ax func207 rfl ntmps207 (aA (k:=ai (am (ar (k:=az rfl (bi (k:=aE @results207)))))))
 ·refine ax func207 rfl ntmps207 (aA (k:=ai (am (ar (k:=ao rfl (ar (k:=ao rfl (ak (ai (ar (k:=?_)))))))))));refine ay (G:={k:Nat//k<=l.length/\l.drop k=m.drop k}) (fun k=>⟨(cW l::cW m::jk::jk::jk::.raw (.int .i64 ((k.1:Int)-1))::j16 (j16 (j4 (jk::jk::jk::[])))),Hm []⟩) (fun k=>k.1) ⟨l.length,acs _,by rw[ae4,j,ae4]⟩ ?_ ?_
  ·refine aj trivial ?_;simp[wk]
  rintro⟨k,A,z⟩;simp only;by_cases y:0<k
  ·obtain⟨a,e⟩:=getElem?_of_lt (l:=l) (k:=k-1) (by omega);obtain⟨b,f⟩:=getElem?_of_lt (l:=m) (k:=k-1) (by omega);have h:((k:Int)-1).toNat=k-1:=by omega
   have g:l.drop (k-1+1)=m.drop (k-1+1):=by grind
   refine ai (ar (k:=az rfl (ak (ai (am (am ?_))))));rcases adE a b with c|c|c
   ·rw[qJ (oV q e f g c)];refine gM (aC h (aC e f)) (k:=az rfl (bi (k:=aE @results207)))
   ·subst c;refine gM (aC h (aC e f)) (k:=ao rfl (gM (aC h (aC e f)) (k:=ao rfl (ak (bu (k:=?_))))));refine⟨⟨k-1,by omega,Cu e f g⟩,by grind,aj trivial ?_⟩;have u:((k-1:Nat):Int)=(k:Int)-1:=by omega
    simp[wk,u]
   rw[xV (oV r f e g.symm c)];refine gM (aC h (aC e f)) (k:=ao rfl (gM (aC h (aC e f)) (k:=az rfl (bi (k:=aE @results207)))))
  have o:k=0:=by omega
  subst o;have v:l=m:=by grind
  rw[show iP (natV l) (natV m)=0 by grind [iP]];refine ai (ar (k:=ao rfl (aX (bi (k:=aE @results207)))))
 rw[xV (kG r s n)];refine ax func207 rfl ntmps207 (aA (k:=ai (am (ar (k:=ao rfl (ar (k:=az rfl (bi (k:=aE @results207)))))))))
structure abN (m n:List Nat) (e:Nat) where
 i:Nat
 o:List Nat
 c:Nat
 hi:i<=e
 hc:c<=1
 ho:o.length=i
 h:o++sumL (m.drop i) (n.drop i) c=sumL m n 0
structure abO (m n:List Nat) where
 j:Nat
 o:List Nat
 c:Nat
 hj:n.length+j<=m.length
 hc:c<=1
 ho:o.length=n.length+j
 h:o++sumL (m.drop (n.length+j)) [] c=sumL m n 0
theorem CB (m n:List Nat) (T:Lmb m) (U:Lmb n) (K:m.length<=536870912) (L:n.length<=536870912):
  CallC prog 170 [cW m,cW n] ⟨[],cW (au (natV m+natV n))⟩:=by
 refine ax func170 rfl ntmps170 (aA (k:=?_));obtain⟨p,q,w,P⟩: ∃p q:List Nat,((p=m/\q=n/\ ¬m.length<n.length)\/(p=n/\q=m/\m.length<n.length))/\q.length<=p.length:=by
  by_cases h:m.length<n.length
  ·exact⟨n,m,.inr ⟨rfl,rfl,h⟩,by omega⟩
  exact⟨m,n,.inl ⟨rfl,rfl,h⟩,by omega⟩
 refine ai (qB (S:=⟨(cW p::cW q::j16 (j16 (j16 (j16 (j16 (jk::[])))))),Hm []⟩) ?_ ?_)
 ·rcases w with⟨rfl,rfl,h⟩|⟨rfl,rfl,h⟩
  ·refine ar (k:=?_);refine bs rfl (fun h=>by simp at h<;>omega) (fun _=>ak (aj trivial ?_));simp[wk]
  refine ar (k:=az rfl (aAl (k:=?_)));refine aj trivial ?_;simp[wk]
 have s:natV m+natV n=natV p+natV q:=by grind
 have H:Lmb p:=by grind
 have J:Lmb q:=by grind
 have V:p.length<=536870912:=by grind
 rw[s];clear s w T U K L;have M:(p.length:Int)+1=((p.length+1:Nat):Int):=by omega
 refine aH (aC M @lj) (k:=bi (k:=ai (bi (k:=?_))));refine ay (G:=abN p q q.length) (fun g=>⟨(cW p::cW q::jk::jk::jk::.one (.sl 19 0 0 (p.length+1))::.raw (.int .u64 (g.c:Int))::j4 (j4 (j4 (jk::jk::rN q.length::rN g.i::j16 (j16 (j16 (j4 (j4 (j4 ([])))))))))),Hm [(19,[⟨165,1,lc fU (g.o++ae (p.length+1-g.i) 0)⟩])]⟩) (fun g=>q.length-g.i) ⟨0,[],0,by omega,by omega,rfl,rfl⟩ ?_ ?_
 ·refine aj ⟨?_,trivial⟩ ?_
  ·rfl
  simp[wk]
 rintro⟨i,o,c,W,B,r,h⟩;simp only;by_cases Q:i<q.length
 ·obtain⟨a,t⟩:=getElem?_of_lt (show i<p.length by omega);obtain⟨b,A⟩:=getElem?_of_lt Q;have z:=bV H t;have O:=bV J A;have u:IntKind.u32.wrap ((c:Int)+((a:Int)+(b:Int)))=(((c+a+b)%4294967296:Nat):Int):=by rw[<- BT];grind
  have y:Int.fdiv ((c:Int)+((a:Int)+(b:Int))) (2^(min 32 IntKind.u64.bits))=(((c+a+b)/4294967296:Nat):Int):=by rw[<- P3];grind
  have x:p.length+1-i=(p.length-i)+1:=by omega
  have f:=wD o (p.length-i);have e:=sX o (p.length-i) ((c+a+b)%4294967296);rw[r]at f e;rw[x];refine ar (k:=aV rfl (ai (am (bi (k:=gM (aC t A) (k:=aH (aC u (aC f (aC @cX e))) (k:=gL y (k:=bu (k:=?_)))))))));refine⟨⟨i+1,o++[(c+a+b)%4294967296],(c+a+b)/4294967296,by omega,by omega,by simp[r],?_⟩,by simp only;omega,aj ⟨?_,trivial⟩ ?_⟩
  ·rw[<- h,ee t,ee A,sumL,acI];rfl
  ·show _=[(⟨_,_,lc fU ((o++[(c+a+b)%4294967296])++ae (p.length+1-(i+1)) 0)⟩:OObj)];rw[show p.length+1-(i+1)=p.length-i by omega];rfl
  simp[wk]
 have C:i=q.length:=by omega
 subst C;rw[fb (acs _)]at h;refine ar (k:=aW rfl ?_);show bA _ _ _ _;have N:(p.length:Int)-(q.length:Int)=((p.length-q.length:Nat):Int):=by omega
 refine ai (aH N (k:=?_));refine ay (G:=abO p q) (fun g=>⟨(cW p::cW q::jk::jk::jk::.one (.sl 19 0 0 (p.length+1))::.raw (.int .u64 (g.c:Int))::j16 (j16 (j4 (j4 (jk::jk::jk::.raw (.int .i64 ((p.length-q.length:Nat):Int))::rN g.j::j16 (j4 (j4 (j4 (jk::jk::jk::[]))))))))),Hm [(19,[⟨165,1,lc fU (g.o++ae (p.length+1-(q.length+g.j)) 0)⟩])]⟩) (fun g=>p.length-q.length-g.j) ⟨0,o,c,by omega,B,r,h⟩ ?_ ?_
 ·refine aj ⟨rfl,trivial⟩ ?_;simp[wk]
 clear h r B c o;rintro⟨j,o,c,X,B,r,h⟩;simp only;have v:(q.length:Int)+(j:Int)=((q.length+j:Nat):Int):=by omega
 by_cases R:j<p.length-q.length
 ·obtain⟨a,t⟩:=getElem?_of_lt (show q.length+j<p.length by omega);have z:=bV H t;have u:IntKind.u32.wrap ((c:Int)+(a:Int))=(((c+a)%4294967296:Nat):Int):=by rfl
  have y:Int.fdiv ((c:Int)+(a:Int)) (2^(min 32 IntKind.u64.bits))=(((c+a)/4294967296:Nat):Int):=by rw[<- P3];rfl
  have x:p.length+1-(q.length+j)=(p.length-(q.length+j))+1:=by omega
  have f:=wD o (p.length-(q.length+j));have e:=sX o (p.length-(q.length+j)) ((c+a)%4294967296);rw[r]at f e;rw[x];refine ar (k:=aV rfl (ai (am (bi (k:=aH (aC v t) (k:=aH (aC v (aC u (aC f (aC @cX e)))) (k:=gL y (k:=bu (k:=?_)))))))));refine⟨⟨j+1,o++[(c+a)%4294967296],(c+a)/4294967296,by omega,by omega,by grind,?_⟩,by simp only;omega,aj ⟨?_,trivial⟩ ?_⟩
  ·rw[<- h,ee t,sumL,acI];rfl
  ·show _=[(⟨_,_,lc fU ((o++[(c+a)%4294967296])++ae (p.length+1-(q.length+(j+1))) 0)⟩:OObj)];rw[show p.length+1-(q.length+(j+1))=p.length-(q.length+j) by omega];rfl
  simp[wk]
 have D:q.length+j=p.length:=by omega
 rw[D]at h r;rw[fb (acs _),sumL]at h;have u:IntKind.u32.wrap (c:Int)=(c:Int):=by rw[BT];omega
 have x:p.length+1-(q.length+j)=0+1:=by omega
 have f:=wD o 0;have e:=sX o 0 c;rw[r]at f e;rw[afG,adc,h]at e;have F:(sumL p q 0).length=p.length+1:=by grind
 have E:=qi p q 0 H J (by omega);have I:=fE (sumL p q 0) (by omega);rw[dw E,nC,ac9]at I;rw[x];generalize sumL p q 0=S at*
 refine ar (k:=aW rfl (aH (aC u (aC f (aC @cX e))) (k:=?_)));refine bA.weak ((bF 19 (bf rfl)).trans (aj (tm:=(j4 (jk::cW S::j16 (j16 (j16 (j16 (j4 (j4 (j4 (jk::[])))))))))) (l:=[]) trivial (by simp[wk,fk,dP,aF,Hm,iK,gz,ack,F]))) ?_;refine bj [⟨1,_,_,_,I⟩] (k:=aE @results170)
theorem wc (m n:List Nat) (x:Lmb m) (y:Lmb n) (B:n.length<=m.length) (C:natV n<=natV m) (H:m.length<=536870912):
  CallC prog 171 [cW m,cW n] ⟨[],cW (au (natV m-natV n))⟩:=by
 refine ax func171 rfl ntmps171 (aA (k:=aH @lj (k:=bi (k:=ai (bi (k:=?_))))));refine ay (G:=aa8 m n) (fun g=>⟨(cW m::cW n::jk::jk::jk::.one (.sl 11 0 0 m.length)::.raw (.int .u64 (g.c:Int))::j4 (jk::jk::rN m.length::rN g.i::j16 (j4 (j4 (j4 (jk::jk::[])))))),Hm [(11,[⟨165,1,lc fU (g.o++ae (m.length-g.i) 0)⟩])]⟩) (fun g=>m.length-g.i) ⟨0,[],0,by omega,by omega,rfl,rfl⟩ ?_ ?_
 ·refine aj ⟨?_,trivial⟩ ?_
  ·rfl
  simp[wk]
 rintro⟨i,o,c,J,I,e,h⟩;simp only;by_cases D:i<m.length
 ·obtain⟨a,j⟩:=getElem?_of_lt D;have z:=bV x j;have F:m.length-i=(m.length-i-1)+1:=by omega
  have s:=wD o (m.length-i-1);rw[e]at s;rw[F];refine ar (k:=aV rfl (ai (am (bi (k:=aH j (k:=?_))))));by_cases E:i<n.length
  ·obtain⟨b,r⟩:=getElem?_of_lt E;have A:=bV y r;have p:IntKind.u32.wrap (IntKind.u64.wrap (IntKind.u64.wrap ((a:Int)-(c:Int))-(b:Int)))=(((a+8589934592-(c+b))%4294967296:Nat):Int):=by grind [IntKind.wrap_u32,IntKind.wrap_u64]
   have q:Int.fdiv (IntKind.u64.wrap (IntKind.u64.wrap ((a:Int)-(c:Int))-(b:Int))) (2^(min 63 IntKind.u64.bits))=(((if a<c+b then 1 else 0):Nat):Int):=by
    rw[adb,adb];show Int.fdiv _ 9223372036854775808=_;grind
   have f:=sX o (m.length-i-1) ((a+8589934592-(c+b))%4294967296);rw[e]at f;refine ai (ar (k:=az rfl (dF r (k:=aH (aC p (aC s (aC @cX f))) (k:=gL q (k:=bu (k:=?_)))))));refine⟨⟨i+1,o++[(a+8589934592-(c+b))%4294967296],if a<c+b then 1 else 0,by omega,by grind,by simp[e],?_⟩,by simp only;omega,aj ⟨?_,trivial⟩ ?_⟩
   ·rw[<- h,ee j,ee r,diffL,acI];rfl
   ·rfl
   simp[wk]
  have p:IntKind.u32.wrap (IntKind.u64.wrap ((a:Int)-(c:Int)))=(((a+8589934592-c)%4294967296:Nat):Int):=by rw[ad8,adb];omega
  have q:Int.fdiv (IntKind.u64.wrap ((a:Int)-(c:Int))) (2^(min 63 IntKind.u64.bits))=(((if a<c then 1 else 0):Nat):Int):=by
   rw[adb];show Int.fdiv _ 9223372036854775808=_;grind
  have f:=sX o (m.length-i-1) ((a+8589934592-c)%4294967296);rw[e]at f;refine ai (ar (k:=ao rfl (ak (aH (aC p (aC s (aC @cX f))) (k:=gL q (k:=bu (k:=?_)))))));refine⟨⟨i+1,o++[(a+8589934592-c)%4294967296],if a<c then 1 else 0,by omega,by grind,by simp[e],?_⟩,by simp only;omega,aj ⟨?_,trivial⟩ ?_⟩
  ·rw[<- h,ee j,fb (by omega:n.length<=i),fb (by omega:n.length<=i+1),diffL,acI];rfl
  ·rfl
  simp[wk]
 have t:i=m.length:=by omega
 subst t;rw[fb (acs _),diffL,adc]at h;rw[aeq,afG,adc,h];have v:(diffL m n 0).length=m.length:=lF m n 0;have u:=lJ m n 0;have K:=j5 m n 0 x y (by omega) B (by omega);have w:=fE (diffL m n 0) (by omega);rw[dw u,show natV (diffL m n 0)=natV m-natV n by omega]at w;generalize diffL m n 0=S at*
 refine ar (k:=aW rfl ?_);show bA _ _ _ _;refine bA.weak ((bF 11 (bf rfl)).trans (aj (tm:=(j4 (jk::cW S::j16 (j16 (j4 (jk::jk::jk::[])))))) (l:=[]) trivial (by simp[wk,fk,dP,aF,Hm,iK,gz,ack,v]))) ?_;refine bj [⟨1,_,_,_,w⟩] (k:=aE @results171)
theorem Ox {B:List Nat} (g:Nl b B) (h:b[g.i]?=some 0): ∃c:Nl b B,c.i=g.i+1/\c.O=g.O:=by
 refine⟨⟨g.i+1,g.O,(aci.1 h).1,g.len,g.lmb,?_,fun k f e=>g.zero k (by omega) e⟩,rfl,rfl⟩;rw[bI h,g.val];simp
theorem Og (A B:List Nat) (b:Lmb A) (e:Lmb B) (la:A.length<=536870912) (lb:B.length<=536870912):CallC prog 168 [cW A,cW B] ⟨[],cW (au (natV A*natV B))⟩:=by
 by_cases t:A.length<=1/\B.length<=1
 ·have u:=t.1;have v:=t.2;have w1:=ue A b (by omega);have w2:=ue B e (by omega);have N:natV A<4294967296:=by
   have:=fF b;exact acp this (by have:=acF (n:=4294967296) (by omega) u;omega)
  have P:natV B<4294967296:=by
   have:=fF e;exact acp this (by have:=acF (n:=4294967296) (by omega) v;omega)
  have X:=qR N P;have w3:=kA (natV A*natV B) (by omega);have D:(natV A:Int)*(natV B:Int)=((natV A*natV B:Nat):Int):=by simp
  generalize natV A*natV B=p at*
  refine ax func168 rfl ntmps168 (aA (k:=ai (ar (k:=az rfl (cj [⟨1,_,_,_,w1⟩,⟨3,_,_,_,w2⟩,⟨5,_,_,_,w3⟩] D (k:=aE @results168))))))
 have Q:((A.length:Int)+(B.length:Int)).toNat=A.length+B.length:=by omega
 refine ax func168 rfl ntmps168 (aA (k:=?_));refine ai (qB (S:=⟨(cW A::cW B::j16 (j16 (j16 (j16 (j16 (j4 ([]))))))),Hm []⟩) ?_ ?_)
 ·by_cases V:A.length<=1
  ·refine ar (k:=?_);refine bs rfl (fun h=>by simp at h<;>omega) (fun _=>ak (aj trivial ?_));simp[wk]
  refine ar (k:=?_);refine bs rfl (fun h=>by simp at h<;>omega) (fun _=>ak (aj trivial ?_));simp[wk]
 refine aH (aC Q @lj) (k:=ai (bi (k:=?_)));refine ay (G:=Nl A B) (fun g=>⟨(cW A::cW B::jk::jk::jk::.one (.sl 31 0 0 (A.length+B.length))::j16 (j4 (j4 (jk::jk::cW A::rN A.length::rN g.i::j16 (j16 (j16 (jk::jk::jk::[]))))))),Hm [(31,[⟨165,1,lc fU g.O⟩])]⟩) (fun g=>A.length-g.i) ⟨0,ae (A.length+B.length) 0,by omega,by simp,fun x f=>by simp at f;omega,by simp[ju,natV],fun k V W=>by rw[ac5,if_pos W]⟩ ?_ ?_
 ·refine aj ⟨rfl,trivial⟩ ?_;simp[wk]
 rintro⟨i,O,hi,len,lmb,val,zero⟩;simp only;by_cases K:i<A.length
 ·obtain⟨x,f⟩:=getElem?_of_lt K;have w:=bV b f;refine ar (k:=aV rfl (ai (am (aH f (k:=?_)))));by_cases H:x=0
  ·subst H;obtain⟨r,m,q⟩:=Ox (⟨i,O,hi,len,lmb,val,zero⟩:Nl A B) f;simp only at m q;refine ai (ar (k:=az rfl (aX (bu (k:=?_)))));refine⟨r,by omega,aj ⟨by rw[q];rfl,trivial⟩ ?_⟩;simp[wk,m]
  have U:(i:Int)+(B.length:Int)+1=((i+B.length+1:Nat):Int):=by omega
  have T:i+B.length+1-i=B.length+1:=by omega
  refine ai (ar (k:=ao rfl (ak (aH (aC U T) (k:=bi (k:=ai (bi (k:=?_))))))));refine ay (G:=Qd A B i x) (fun g=>⟨(cW A::cW B::jk::jk::jk::.one (.sl 31 0 0 (A.length+B.length))::jk::.raw (.int .u32 (x:Int))::.one (.sl 31 0 i (B.length+1))::.raw (.int .u64 (g.c:Int))::j16 (j4 (jk::jk::cW A::rN A.length::rN i::j4 (j4 (j4 (jk::jk::cW B::rN B.length::rN g.j::j16 (j16 (jk::jk::[])))))))),Hm [(31,[⟨165,1,lc fU g.O⟩])]⟩) (fun g=>B.length-g.j) ⟨0,O,0,by omega,len,lmb,by omega,by simpa[natV] using val,zero⟩ ?_ ?_
  ·refine aj ⟨rfl,trivial⟩ ?_;simp[wk]
  intro g;by_cases L:g.j<B.length
  ·obtain⟨y,I⟩:=getElem?_of_lt L;have z:=bV e I;have J:=g.len;obtain⟨o,C⟩:=getElem?_of_lt (show i+g.j<g.O.length by omega);have aa:=bV g.lmb C;have X:=qR w z;have F:=g.hc;obtain⟨r,m,q,q3⟩:=CJ g I C K w z;have D:(x:Int)*(y:Int)=((x*y:Nat):Int):=by simp
   generalize hp:x*y=p at*
   have E:IntKind.u32.wrap ((g.c:Int)+((p:Int)+(o:Int)))=(((g.c+(p+o))%4294967296:Nat):Int):=by rfl
   have R:Int.fdiv ((g.c:Int)+((p:Int)+(o:Int))) (2^(min 32 IntKind.u64.bits))=(((g.c+(p+o))/4294967296:Nat):Int):=by grind [P3]
   refine ar (k:=aV rfl (ai (am (aH I (k:=aH (aC D C) (k:=aH (aC E (aC C @cX)) (k:=gL R (k:=bu (k:=?_)))))))));refine⟨r,by omega,aj ⟨by rw[q];rfl,trivial⟩ ?_⟩;simp[wk,m,q3]
  have Y:=g.hj;have F:=g.hc;have Z:=g.len;obtain⟨r,m,q⟩:=CI f g L;have E:IntKind.u32.wrap (g.c:Int)=(g.c:Int):=by rw[BT];omega
  refine ar (k:=aW rfl ?_);show bA _ _ _ _;have hz:=g.zero (i+B.length) (acs _) (by omega);refine dF (aC E (aC hz @cX)) (k:=bu (k:=?_));refine⟨r,by omega,aj ⟨by rw[q];rfl,trivial⟩ ?_⟩;simp[wk,m]
 have s:natV O=natV A*natV B:=by
  grind
 have M:=fE O (by omega);rw[dw lmb,s]at M;refine ar (k:=aW rfl ?_);show bA _ _ _ _;refine bA.weak ((bF 31 (bf rfl)).trans (aj (tm:=(j4 (jk::cW O::j16 (j16 (j16 (j16 (j16 ([])))))))) (l:=[]) trivial (by simp[wk,fk,dP,aF,Hm,iK,gz,ack,len]))) ?_;refine bj [⟨1,_,_,_,M⟩] (k:=aE @results168)
/-! Signed numbers. -/
theorem Q5 {a b:Nat}:0<=iP a b↔b<=a:=by grind [iP]
theorem Kw {c e:Bool} {a:Nat} (h:c≠e) (f:n<=a):iq c (a-n)=iq c a+iq e n:=by
 grind [iq]
theorem Kx {e c:Bool} {a:Nat} (h:e≠c) (f:a<=n):iq c (n-a)=iq e a+iq c n:=by
 grind [iq]
theorem Xc (n:Bool) (a b:Nat):iq n (a+b)=iq n a+iq n b:=by grind [iq]
theorem DX (g m:Bool) (a b:Nat) (p:(au a).length<=536870912) (q:(au b).length<=536870912):CallC prog 166 [.raw (.bool g),cW (au a),.raw (.bool m),cW (au b)] ⟨[],tZ (iq g a+iq m b)⟩:=by
 by_cases o:g=m
 ·subst o;have c:=CB (au a) (au b) (aI _) (aI _) p q;rw[aG,aG]at c;have e:=fO g (a+b);rw[Xc]at e;refine ax func166 rfl ntmps166 (aA (k:=ai (am (bi (k:=az rfl (bE [⟨3,_,_,_,c⟩,⟨4,_,_,_,e⟩] (k:=aE @results166)))))))
 have l:(g==m)=false:=by grind
 have n:=zS (au a) (au b) (aI _) (aI _) (cb _) (cb _) (by omega) (by omega);rw[aG,aG]at n;have j:=Q5 (a:=a) (b:=b);by_cases f:b<=a
 ·have c:=wc (au a) (au b) (aI _) (aI _) (kE (aI _) (cb _) (by grind [aG])) (by grind [aG]) p;rw[aG,aG]at c;have e:=fO g (a-b);rw[Kw o f]at e;have s:0<=iP a b:=j.2 f;generalize iP a b=r at*
  refine ax func166 rfl ntmps166 (aA (k:=ai (am (dR l (k:=ao rfl (bE [⟨2,_,_,_,n⟩] (k:=az rfl (bE [⟨3,_,_,_,c⟩,⟨4,_,_,_,e⟩] (k:=aE @results166)))))))))
 have c:=wc (au b) (au a) (aI _) (aI _) (kE (aI _) (cb _) (by grind [aG])) (by grind [aG]) q;rw[aG,aG]at c;have e:=fO m (b-a);rw[Kx o (by omega)]at e;have s: ¬0<=iP a b:=fun h=>f (j.1 h)
 generalize iP a b=r at*
 refine ax func166 rfl ntmps166 (aA (k:=ai (am (dR l (k:=ao rfl (bE [⟨2,_,_,_,n⟩] (k:=ao rfl (ak (bE [⟨3,_,_,_,c⟩,⟨4,_,_,_,e⟩] (k:=aE @results166))))))))))
theorem Z0 (a b:Int) (c:Bh a) (e:Bh b):CallC prog 118 [tZ a,tZ b] ⟨[],tZ (a-b)⟩:=by
 have t1:=fE (au a.natAbs) c.bg.len;have t2:=fE (au b.natAbs) e.bg.len;rw[jF]at t1 t2;have h:=DX (decide (a<0)) (!decide (b<0)) a.natAbs b.natAbs c.len e.len;rw[Eh,Sx,<- agJ]at h;refine ax func118 rfl ntmps118 (aA (k:=da [⟨4,_,_,_,t1⟩,⟨10,_,_,_,t2⟩,⟨11,_,_,_,h⟩] (k:=aE @results118)))
theorem RS (a b:Int) (e:Bh a) (f:Bh b):CallC prog 119 [tZ a,tZ b] ⟨[],tZ (a*b)⟩:=by
 have t1:=fE (au a.natAbs) e.bg.len;have t2:=fE (au b.natAbs) f.bg.len;rw[jF]at t1 t2;have h:=Og (au a.natAbs) (au b.natAbs) (aI _) (aI _) e.len f.len;rw[aG,aG]at h;have c:=fO (!(decide (a<0)==decide (b<0))) (a.natAbs*b.natAbs);rw[Mx]at c;refine ax func119 rfl ntmps119 (aA (k:=da [⟨7,_,_,_,t1⟩,⟨10,_,_,_,t2⟩,⟨11,_,_,_,h⟩,⟨12,_,_,_,c⟩] (k:=aE @results119)))
end Go.Proofs.YtalmoejhjceflaaGreat
