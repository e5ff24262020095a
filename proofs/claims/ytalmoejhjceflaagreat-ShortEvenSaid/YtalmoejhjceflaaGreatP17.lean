/-
  Part 18 of a proof (walks and plain facts).
-/
import Derived.Test.YtalmoejhjceflaaGreatP16
set_option linter.all false
set_option maxRecDepth 100000
set_option maxHeartbeats 64000000
open List renaming replicate → ae
namespace Go.Proofs.YtalmoejhjceflaaGreat
open Go.RowKit Go.Proofs.Tryz
variable {n m j c p q:Nat} {b:List Nat}
theorem iP (u:Nat) (h:u<18446744073709551616):CallC prog 165 [.raw (.int .u64 u)] ⟨[],cL (aq u)⟩:=by
 have b:Lmb [u%4294967296,u/4294967296]:=by intro a g;grind
 have e:=dX [u%4294967296,u/4294967296] (by simp);rw[dS b,yW]at e;have f:IntKind.u32.wrap (u:Int)=((u%4294967296:Nat):Int):=by rfl
 have c:IntKind.u32.wrap ((u:Int).fdiv (2^(min (32:Int).toNat IntKind.u64.bits)))=((u/4294967296:Nat):Int):=by
  rw[Zy];show(Int.fdiv (u:Int) 4294967296)%4294967296=_;grind
 simp only[Int.reduceToNat]at c;refine aB func165 rfl ntmps165 (aC (k:=ce [⟨6,_,_,_,e⟩] (aE @G0 (aE f c)) (k:=aF @results165)))
theorem pP (l:List Nat) (n:Lmb l) (q:l.length<=2):CallC prog 208 [cL l] ⟨[],.raw (.int .u64 (natV l:Nat))⟩:=by
 refine aB func208 rfl ntmps208 (aC (k:=bH (k:=ai (bH (k:=?_)))));refine aG (G:=Vm l) (fun g=>⟨(jk::jk::jk::.raw (.int .u64 (g.u:Int))::jk::jk::cL l::rN l.length::rN g.i::j4 (j4 (j4 (jk::[])))),Hm []⟩) (fun g=>l.length-g.i) ⟨0,0,⟨by omega,by omega⟩,rfl⟩ ?_ ?_
 ·refine aj trivial ?_;simp[wk]
 rintro⟨i,u,r,m⟩;simp only;have b:=eu n i;rw[<- m]at b;by_cases p:i<l.length
 ·obtain⟨a,h⟩:=getElem?_of_lt p;have o:=bT n h;have hu2:=aX h;rw[<- m]at hu2;refine ar (k:=bA rfl (ai (am (aK h (k:=?_)))));have j:i=0\/i=1:=by omega
  rcases j with rfl|rfl
  ·have f:IntKind.u64.wrap ((a:Int)*2^min (32*((0:Nat):Int)).toNat IntKind.u64.bits)=(a:Int):=by
    grind [IntKind.wrap_u64]
   have hu0:u=0:=by omega
   have c:=Ah u a (by omega) (by omega);rw[hu0,Nat.zero_or,<- hu0]at c;refine dU (aE f c) (k:=bK (k:=?_));refine⟨⟨1,a,⟨by omega,by omega⟩,by grind⟩,by grind,aj trivial ?_⟩;simp[wk]
  have f:IntKind.u64.wrap ((a:Int)*2^min (32*((1:Nat):Int)).toNat IntKind.u64.bits)=((a*4294967296:Nat):Int):=by
   rw[YE];show((a:Int)*4294967296)%_=_;omega
  simp only[Nat.pow_one]at b;have c:=Ah u (a*4294967296) (by omega) (by omega);rw[show a*4294967296=a*2^32 from rfl,tI _ _ _ b,show a*2^32=a*4294967296 from rfl]at c;refine dU (aE f c) (k:=bK (k:=?_));refine⟨⟨2,a*4294967296+u,⟨by omega,by omega⟩,by grind⟩,by grind,aj trivial ?_⟩;simp[wk]
 have e:u=natV l:=by grind
 rw[<- e];refine ar (k:=bG rfl (bH (k:=aF @results208)))
theorem vn (n:Int) (f: -9223372036854775808<=n) (g:n<=9223372036854775807):CallC prog 117 [.raw (.int .i64 n)] ⟨[],tZ n⟩:=by
 have e:=iP n.natAbs (by omega);by_cases h:n<0
 ·have b:=d7 true n.natAbs;have c:IntKind.u64.wrap (0-IntKind.u64.wrap n)=((n.natAbs:Nat):Int):=by grind [IntKind.wrap_u64]
  rw[show fH true n.natAbs=n by grind [fH]]at b;refine aB func117 rfl ntmps117 (aC (k:=ai (ar (k:=aD rfl (ce [⟨3,_,_,_,e⟩,⟨4,_,_,_,b⟩] c (k:=aF @results117))))))
 have b:=d7 false n.natAbs;have c:IntKind.u64.wrap n=((n.natAbs:Nat):Int):=by rw[YE];omega
 rw[show fH false n.natAbs=n by grind [fH]]at b;refine aB func117 rfl ntmps117 (aC (k:=ai (ar (k:=ao rfl (ak (ce [⟨2,_,_,_,e⟩,⟨3,_,_,_,b⟩] c (k:=aF @results117)))))))
theorem PU (z:Int) (h:Bg z):CallC prog 121 [tZ z] ⟨[],.raw (.int .i64 (sg z))⟩:=by
 have b:=dX (aq z.natAbs) h.len;rw[ib]at b;have g:=fg (n:=z.natAbs);rcases Int.lt_trichotomy z 0 with c|c|c
 ·have e:sg z= -1:=by simp[sg,c]
  have f:(aq z.natAbs).length≠0:=by omega
  rw[e];refine aB func121 rfl ntmps121 (aC (k:=ai (am (bL [⟨2,_,_,_,b⟩] (k:=ao rfl (bH (k:=aD rfl (bH (k:=aF @results121)))))))))
 ·subst c;rw[show sg 0=0 from rfl];rw[Int.natAbs_zero,cf]at b;rw[show tZ 0= .agg [.p (.raw (.bool false)),.p (.sl (ls fU []))]from by grind];refine aB func121 rfl ntmps121 (aC (k:=ai (am (bL [⟨2,_,_,_,b⟩] (k:=aD rfl (bH (k:=aF @results121)))))))
 have e:sg z=1:=by grind [sg]
 have f:(aq z.natAbs).length≠0:=by omega
 rw[e];refine aB func121 rfl ntmps121 (aC (k:=ai (am (bL [⟨2,_,_,_,b⟩] (k:=ao rfl (bH (k:=ao rfl (ak (bH (k:=aF @results121))))))))))
theorem Cl (z:Int) (h:Bg z):CallC prog 222 [tZ z] ⟨[],jq z⟩:=by
 have b:=dX (aq z.natAbs) h.len;rw[ib]at b;have l:=h.len;by_cases g:2<(aq z.natAbs).length
 ·have j:=vy g;rw[show jq z= .tup [(false,[.p (.raw (.int .i64 0))]),(false,[.p (.raw (.bool false))])] by grind [jq]];refine aB func222 rfl ntmps222 (aC (k:=bQ [⟨2,_,_,_,b⟩] (k:=ai (ar (k:=aD rfl (bH (k:=aF @results222)))))))
 have j:=gz (n:=z.natAbs) (by omega);have c:=pP (aq z.natAbs) (aA _) (by omega);rw[ax]at c;by_cases m:z<0
 ·by_cases f:z.natAbs<=9223372036854775808
  ·have e:IntKind.i64.wrap (IntKind.u64.wrap (0-(z.natAbs:Int)))=z:=by
    grind [IntKind.wrap_u64,IntKind.wrap_i64]
   rw[show jq z= .tup [(false,[.p (.raw (.int .i64 z))]),(false,[.p (.raw (.bool true))])] by grind [jq]];refine aB func222 rfl ntmps222 (aC (k:=bQ [⟨2,_,_,_,b⟩] (k:=ai (ar (k:=ao rfl (ak (bQ [⟨1,_,_,_,c⟩] (k:=ai (am (ar (k:=aD rfl (f5 e (k:=aF @results222)))))))))))))
  rw[show jq z= .tup [(false,[.p (.raw (.int .i64 0))]),(false,[.p (.raw (.bool false))])] by grind [jq]];refine aB func222 rfl ntmps222 (aC (k:=bQ [⟨2,_,_,_,b⟩] (k:=ai (ar (k:=ao rfl (ak (bQ [⟨1,_,_,_,c⟩] (k:=ai (am (ar (k:=ao rfl (ar (k:=ao rfl (ak (bH (k:=aF @results222))))))))))))))))
 by_cases f:z.natAbs<9223372036854775808
 ·have e:IntKind.i64.wrap (z.natAbs:Int)=z:=by rw[IntKind.wrap_i64];omega
  rw[show jq z= .tup [(false,[.p (.raw (.int .i64 z))]),(false,[.p (.raw (.bool true))])] by grind [jq]];refine aB func222 rfl ntmps222 (aC (k:=bQ [⟨2,_,_,_,b⟩] (k:=ai (ar (k:=ao rfl (ak (bQ [⟨1,_,_,_,c⟩] (k:=ai (am (ar (k:=ao rfl (ar (k:=aD rfl (f5 e (k:=aF @results222)))))))))))))))
 rw[show jq z= .tup [(false,[.p (.raw (.int .i64 0))]),(false,[.p (.raw (.bool false))])] by grind [jq]];refine aB func222 rfl ntmps222 (aC (k:=bQ [⟨2,_,_,_,b⟩] (k:=ai (ar (k:=ao rfl (ak (bQ [⟨1,_,_,_,c⟩] (k:=ai (am (ar (k:=ao rfl (ar (k:=ao rfl (ak (bH (k:=aF @results222))))))))))))))))
/-! Clone: a walk of the older kind, for it holds the slice against nil. -/
theorem uO (A:Option Addr) (c:Nat) (x:List Int) (w:World) (hx:RdI .u32 w A x) (hl:x.length*4<=140737488355328):
  Calls prog 209 #[.slice A x.length c] w fun e w'=> ∃v,e= .returned v/\w'.ownsRow w.heap.size 165 1 v x.length (x.map (Value.int .u32))/\Ext w w':=by
 have hnil:=fun(w:World) (n c:Nat)=>abo (P:=prog) w 63 165 A n c 0 0 underlying63
 cases A with
 |none=>
  have hx0:x=[]:=by
   cases x with
   |nil=>rfl
   |cons a l=>obtain⟨_,_,h,_⟩:=hx (by simp);cases h
  subst hx0
  go_enter func209,ntmps209
  go_wp2_with fail
  go_ret
  exact⟨_,rfl,aah _ _ _ _,Ext.refl _⟩
 |some a=>
  go_enter func209,ntmps209
  go_wp2_with (at_builtin;refine iA _ rfl (.tmp 5) (.tmp 6) _ rfl w.heap.size 165 (.int .u32 0) 1 4 underlying63 Tryz.inU32 rfl (by omega) _ 0 [] rfl (aax w #[] 0 (XY _) (Yt _) rfl) (some a) x.length c _ rfl (Rd.ext hx ((Ext.refl _).alloc _)) (by simp) p9 (by simp only[maxLen];omega) (by omega) (by simp) ?_;intro v1 w1 hown1 hg1 _)
  go_ret
  exact⟨_,rfl,by simpa using hown1,x7 hg1 (aax w #[] 0 (XY _) (Yt _) rfl:World.ownsRow _ w.heap.size 165 1 _ 0 []) ((Ext.refl w).alloc _) (XY _)⟩
theorem Hi {X:Nat->Prop} {w:World} {v:Value} (h:bO X w (.sl (ls fU b)) v): ∃A c,v= .slice A b.length c/\b.length<=c/\RdI .u32 w A (b.map fun n:Nat=>(n:Int)):=by
 generalize g:PV.sl (ls fU b)=x at h;cases h with
 |raw v h=>cases g
 |ptr e m F f u y r s=>cases g
 |nil a c=>
  injection g with g
  have C:b=[]:=by simp_all[ls]
  subst C;exact⟨a,c,rfl,Yt _,RdI.nil _ _ _⟩
 |sl e m t cap J f u y p j D r s=>
  injection g with g
  subst g;rw[dE]at j D;refine⟨some ⟨e,m,none⟩,cap,by rw[dE],j,fun E=>⟨e,m,rfl,fun i x g=>?_⟩⟩;rw[XK,XK]at g;obtain⟨K,q,rfl⟩:=XI.1 g;obtain⟨z,I,rfl⟩:=XI.1 q;have o:(ls fU b)[i]?=some (fU z):=by grind [fh]
  have B:t=1:=by rw[<- p _ (XH o)];rfl
  subst B;have G:=r i _ 0 _ o rfl;have H:=nY (s i _ 0 _ o rfl);grind
theorem M6 {q:World} {k:Nat} {v:Value} {Y:Nat->Prop} (t: ∀c,Y c->c<k) (E:b.length<=9223372036854775807) (h:q.ownsRow k 165 1 v b.length ((b.map fun n:Nat=>(n:Int)).map (Value.int .u32))):bO Y q (.sl (ls fU b)) v:=by
 obtain⟨D,s⟩:=h;rcases s with⟨p,F⟩|⟨g,cap,cur,p,C,u,A,y,G,H⟩
 ·have:b=[]:=ZG (by omega);subst this;rw[p];exact bO.nil _ _
 rw[p];have f: ∀(i:Nat) z,b[i]?=some z->cur[i]?=some (.int .u32 (z:Int)):=fun i z r=>by
  have B:((b.map fun n:Nat=>(n:Int)).map (Value.int .u32))[i]?=some (.int .u32 (z:Int)):=by grind
  grind
 have:=bO.sl (X:=Y) (w:=q) g 0 1 cap (ls fU b) (fun i _=>(cur[i]?).getD undef) (fun h=>absurd (t _ h) (by omega)) (XV.1 u).1 (fun e m=>by
  obtain⟨z,_,rfl⟩:=XR.1 m;rfl) (by grind [dE]) (by grind [dE]) (fun i e j x m o=>by
  grind [fh,fU,cell_of_row]) (fun i e j x m o=>by
  rw[fh]at m;obtain⟨z,r,rfl⟩:=XI.1 m;cases j with
  |succ j=>simp[fU]at o
  |zero=>
   simp[fU]at o;subst o;simp only[f i z r,Y4];exact bO.raw _ rfl)
 grind [dE]
theorem Ck (l:List Nat) (x:l.length<=1073741824):CallC prog 209 [cL l] ⟨[],cL l⟩:=by
 refine uK (by kernel_rfl) fun X w vs t q p=>?_
 obtain⟨y,s,r⟩:=uE p (j:=0) rfl;obtain⟨A,c,rfl,u,m⟩:=Hi r;obtain rfl:vs= #[.slice A l.length c]:=by
  grind
 have b:(l.map fun n:Nat=>(n:Int)).length=l.length:=YB _;have:=uO A c (l.map fun n:Nat=>(n:Int)) w m (by omega);rw[b]at this;refine this.mono fun e z ⟨v,f,g,h⟩=>⟨v,f,fun B H Y o=>M6 o (by omega) g,h⟩
theorem zK (z:Int) (h:Bg z):CallC prog 236 [tZ z] ⟨[],tZ z⟩:=by
 have c:=dX (aq z.natAbs) h.len;rw[ib]at c;have e:=Ck (aq z.natAbs) h.len;have b:=d7 (decide (z<0)) z.natAbs;rw[zZ]at b;refine aB func236 rfl ntmps236 (aC (k:=cQ [⟨4,_,_,_,c⟩,⟨5,_,_,_,e⟩,⟨6,_,_,_,b⟩] (k:=aF @results236)))
theorem o9 (o:List Nat) (k v:Nat):(o++ae (k+1) 0).set o.length v=(o++[v])++ae k 0:=by
 grind
theorem rQ (o:List Nat) (k:Nat):(o++ae (k+1) 0)[o.length]?=some 0:=by
 simp
theorem vm (l m:List Nat) (q:Lmb l) (r:Lmb m) (s:th l) (t:th m) (w:l.length<=1073741824) (x:m.length<=1073741824):
  CallC prog 207 [cL l,cL m] ⟨[],.raw (.int .i64 (f7 (natV l) (natV m)))⟩:=by
 rcases Y5 l.length m.length with p|j|n
 ·rw[nG (iV q t p)];refine aB func207 rfl ntmps207 (aC (k:=ai (am (ar (k:=aD rfl (bH (k:=aF @results207)))))))
 ·refine aB func207 rfl ntmps207 (aC (k:=ai (am (ar (k:=ao rfl (ar (k:=ao rfl (ak (ai (ar (k:=?_)))))))))));refine aG (G:={k:Nat//k<=l.length/\l.drop k=m.drop k}) (fun k=>⟨(cL l::cL m::jk::jk::jk::.raw (.int .i64 ((k.1:Int)-1))::j16 (j16 (j4 (jk::jk::jk::[])))),Hm []⟩) (fun k=>k.1) ⟨l.length,XY _,by rw[aam,j,aam]⟩ ?_ ?_
  ·refine aj trivial ?_;simp[wk]
  rintro⟨k,A,z⟩;simp only;by_cases y:0<k
  ·obtain⟨a,e⟩:=getElem?_of_lt (l:=l) (k:=k-1) (by omega);obtain⟨b,f⟩:=getElem?_of_lt (l:=m) (k:=k-1) (by omega);have h:((k:Int)-1).toNat=k-1:=by omega
   have g:l.drop (k-1+1)=m.drop (k-1+1):=by grind
   refine ai (ar (k:=aD rfl (ak (ai (am (am ?_))))));rcases Y5 a b with c|c|c
   ·rw[nG (ma q e f g c)];refine gQ (aE h (aE e f)) (k:=aD rfl (bH (k:=aF @results207)))
   ·subst c;refine gQ (aE h (aE e f)) (k:=ao rfl (gQ (aE h (aE e f)) (k:=ao rfl (ak (bK (k:=?_))))));refine⟨⟨k-1,by omega,xW e f g⟩,by grind,aj trivial ?_⟩;have u:((k-1:Nat):Int)=(k:Int)-1:=by omega
    simp[wk,u]
   rw[tw (ma r f e g.symm c)];refine gQ (aE h (aE e f)) (k:=ao rfl (gQ (aE h (aE e f)) (k:=aD rfl (bH (k:=aF @results207)))))
  have o:k=0:=by omega
  subst o;have v:l=m:=by grind
  rw[show f7 (natV l) (natV m)=0 by grind [f7]];refine ai (ar (k:=ao rfl (be (bH (k:=aF @results207)))))
 rw[tw (iV r s n)];refine aB func207 rfl ntmps207 (aC (k:=ai (am (ar (k:=ao rfl (ar (k:=aD rfl (bH (k:=aF @results207)))))))))
structure Wr (m n:List Nat) (e:Nat) where
 i:Nat
 o:List Nat
 c:Nat
 hi:i<=e
 hc:c<=1
 ho:o.length=i
 h:o++sumL (m.drop i) (n.drop i) c=sumL m n 0
structure Ws (m n:List Nat) where
 j:Nat
 o:List Nat
 c:Nat
 hj:n.length+j<=m.length
 hc:c<=1
 ho:o.length=n.length+j
 h:o++sumL (m.drop (n.length+j)) [] c=sumL m n 0
theorem x8 (m n:List Nat) (T:Lmb m) (U:Lmb n) (K:m.length<=536870912) (L:n.length<=536870912):
  CallC prog 170 [cL m,cL n] ⟨[],cL (aq (natV m+natV n))⟩:=by
 refine aB func170 rfl ntmps170 (aC (k:=?_));obtain⟨p,q,w,P⟩: ∃p q:List Nat,((p=m/\q=n/\ ¬m.length<n.length)\/(p=n/\q=m/\m.length<n.length))/\q.length<=p.length:=by
  by_cases h:m.length<n.length
  ·exact⟨n,m,.inr ⟨rfl,rfl,h⟩,by omega⟩
  exact⟨m,n,.inl ⟨rfl,rfl,h⟩,by omega⟩
 refine ai (nB (S:=⟨(cL p::cL q::j16 (j16 (j16 (j16 (j16 (jk::[])))))),Hm []⟩) ?_ ?_)
 ·rcases w with⟨rfl,rfl,h⟩|⟨rfl,rfl,h⟩
  ·refine ar (k:=?_);refine aW rfl (fun h=>by simp at h<;>omega) (fun _=>ak (aj trivial ?_));simp[wk]
  refine ar (k:=aD rfl (WB (k:=?_)));refine aj trivial ?_;simp[wk]
 have s:natV m+natV n=natV p+natV q:=by grind
 have H:Lmb p:=by grind
 have J:Lmb q:=by grind
 have V:p.length<=536870912:=by grind
 rw[s];clear s w T U K L;have M:(p.length:Int)+1=((p.length+1:Nat):Int):=by omega
 refine aK (aE M @lX) (k:=bH (k:=ai (bH (k:=?_))));refine aG (G:=Wr p q q.length) (fun g=>⟨(cL p::cL q::jk::jk::jk::.one (.sl 19 0 0 (p.length+1))::.raw (.int .u64 (g.c:Int))::j4 (j4 (j4 (jk::jk::rN q.length::rN g.i::j16 (j16 (j16 (j4 (j4 (j4 ([])))))))))),Hm [(19,[⟨165,1,lc fU (g.o++ae (p.length+1-g.i) 0)⟩])]⟩) (fun g=>q.length-g.i) ⟨0,[],0,by omega,by omega,rfl,rfl⟩ ?_ ?_
 ·refine aj ⟨?_,trivial⟩ ?_
  ·rfl
  simp[wk]
 rintro⟨i,o,c,W,B,r,h⟩;simp only;by_cases Q:i<q.length
 ·obtain⟨a,t⟩:=getElem?_of_lt (show i<p.length by omega);obtain⟨b,A⟩:=getElem?_of_lt Q;have z:=bT H t;have O:=bT J A;have u:IntKind.u32.wrap ((c:Int)+((a:Int)+(b:Int)))=(((c+a+b)%4294967296:Nat):Int):=by rw[<- Dy];grind
  have y:Int.fdiv ((c:Int)+((a:Int)+(b:Int))) (2^(min 32 IntKind.u64.bits))=(((c+a+b)/4294967296:Nat):Int):=by rw[<- KD];grind
  have x:p.length+1-i=(p.length-i)+1:=by omega
  have f:=rQ o (p.length-i);have e:=o9 o (p.length-i) ((c+a+b)%4294967296);rw[r]at f e;rw[x];refine ar (k:=bA rfl (ai (am (bH (k:=gQ (aE t A) (k:=aK (aE u (aE f (aE @cX e))) (k:=sW y (k:=bK (k:=?_)))))))));refine⟨⟨i+1,o++[(c+a+b)%4294967296],(c+a+b)/4294967296,by omega,by omega,by simp[r],?_⟩,by simp only;omega,aj ⟨?_,trivial⟩ ?_⟩
  ·rw[<- h,dz t,dz A,sumL,Ye];rfl
  ·show _=[(⟨_,_,lc fU ((o++[(c+a+b)%4294967296])++ae (p.length+1-(i+1)) 0)⟩:OObj)];rw[show p.length+1-(i+1)=p.length-i by omega];rfl
  simp[wk]
 have C:i=q.length:=by omega
 subst C;rw[dN (XY _)]at h;refine ar (k:=bG rfl ?_);show bs _ _ _ _;have N:(p.length:Int)-(q.length:Int)=((p.length-q.length:Nat):Int):=by omega
 refine ai (aK N (k:=?_));refine aG (G:=Ws p q) (fun g=>⟨(cL p::cL q::jk::jk::jk::.one (.sl 19 0 0 (p.length+1))::.raw (.int .u64 (g.c:Int))::j16 (j16 (j4 (j4 (jk::jk::jk::.raw (.int .i64 ((p.length-q.length:Nat):Int))::rN g.j::j16 (j4 (j4 (j4 (jk::jk::jk::[]))))))))),Hm [(19,[⟨165,1,lc fU (g.o++ae (p.length+1-(q.length+g.j)) 0)⟩])]⟩) (fun g=>p.length-q.length-g.j) ⟨0,o,c,by omega,B,r,h⟩ ?_ ?_
 ·refine aj ⟨rfl,trivial⟩ ?_;simp[wk]
 clear h r B c o;rintro⟨j,o,c,X,B,r,h⟩;simp only;have v:(q.length:Int)+(j:Int)=((q.length+j:Nat):Int):=by omega
 by_cases R:j<p.length-q.length
 ·obtain⟨a,t⟩:=getElem?_of_lt (show q.length+j<p.length by omega);have z:=bT H t;have u:IntKind.u32.wrap ((c:Int)+(a:Int))=(((c+a)%4294967296:Nat):Int):=by rfl
  have y:Int.fdiv ((c:Int)+(a:Int)) (2^(min 32 IntKind.u64.bits))=(((c+a)/4294967296:Nat):Int):=by rw[<- KD];rfl
  have x:p.length+1-(q.length+j)=(p.length-(q.length+j))+1:=by omega
  have f:=rQ o (p.length-(q.length+j));have e:=o9 o (p.length-(q.length+j)) ((c+a)%4294967296);rw[r]at f e;rw[x];refine ar (k:=bA rfl (ai (am (bH (k:=aK (aE v t) (k:=aK (aE v (aE u (aE f (aE @cX e)))) (k:=sW y (k:=bK (k:=?_)))))))));refine⟨⟨j+1,o++[(c+a)%4294967296],(c+a)/4294967296,by omega,by omega,by grind,?_⟩,by simp only;omega,aj ⟨?_,trivial⟩ ?_⟩
  ·rw[<- h,dz t,sumL,Ye];rfl
  ·show _=[(⟨_,_,lc fU ((o++[(c+a)%4294967296])++ae (p.length+1-(q.length+(j+1))) 0)⟩:OObj)];rw[show p.length+1-(q.length+(j+1))=p.length-(q.length+j) by omega];rfl
  simp[wk]
 have D:q.length+j=p.length:=by omega
 rw[D]at h r;rw[dN (XY _),sumL]at h;have u:IntKind.u32.wrap (c:Int)=(c:Int):=by rw[Dy];omega
 have x:p.length+1-(q.length+j)=0+1:=by omega
 have f:=rQ o 0;have e:=o9 o 0 c;rw[r]at f e;rw[aaP,YI,h]at e;have F:(sumL p q 0).length=p.length+1:=by grind
 have E:=m0 p q 0 H J (by omega);have I:=dX (sumL p q 0) (by omega);rw[dS E,k9,YA]at I;rw[x];generalize sumL p q 0=S at*
 refine ar (k:=bG rfl (aK (aE u (aE f (aE @cX e))) (k:=?_)));refine bs.weak ((bF 19 (bS rfl)).trans (aj (tm:=(j4 (jk::cL S::j16 (j16 (j16 (j16 (j4 (j4 (j4 (jk::[])))))))))) (l:=[]) trivial (by simp[wk,fb,dD,aw,Hm,fQ,fL,X3,F]))) ?_;refine bQ [⟨1,_,_,_,I⟩] (k:=aF @results170)
theorem ru (m n:List Nat) (x:Lmb m) (y:Lmb n) (B:n.length<=m.length) (C:natV n<=natV m) (H:m.length<=536870912):
  CallC prog 171 [cL m,cL n] ⟨[],cL (aq (natV m-natV n))⟩:=by
 refine aB func171 rfl ntmps171 (aC (k:=aK @lX (k:=bH (k:=ai (bH (k:=?_))))));refine aG (G:=Vg m n) (fun g=>⟨(cL m::cL n::jk::jk::jk::.one (.sl 11 0 0 m.length)::.raw (.int .u64 (g.c:Int))::j4 (jk::jk::rN m.length::rN g.i::j16 (j4 (j4 (j4 (jk::jk::[])))))),Hm [(11,[⟨165,1,lc fU (g.o++ae (m.length-g.i) 0)⟩])]⟩) (fun g=>m.length-g.i) ⟨0,[],0,by omega,by omega,rfl,rfl⟩ ?_ ?_
 ·refine aj ⟨?_,trivial⟩ ?_
  ·rfl
  simp[wk]
 rintro⟨i,o,c,J,I,e,h⟩;simp only;by_cases D:i<m.length
 ·obtain⟨a,j⟩:=getElem?_of_lt D;have z:=bT x j;have F:m.length-i=(m.length-i-1)+1:=by omega
  have s:=rQ o (m.length-i-1);rw[e]at s;rw[F];refine ar (k:=bA rfl (ai (am (bH (k:=aK j (k:=?_))))));by_cases E:i<n.length
  ·obtain⟨b,r⟩:=getElem?_of_lt E;have A:=bT y r;have p:IntKind.u32.wrap (IntKind.u64.wrap (IntKind.u64.wrap ((a:Int)-(c:Int))-(b:Int)))=(((a+8589934592-(c+b))%4294967296:Nat):Int):=by grind [IntKind.wrap_u32,IntKind.wrap_u64]
   have q:Int.fdiv (IntKind.u64.wrap (IntKind.u64.wrap ((a:Int)-(c:Int))-(b:Int))) (2^(min 63 IntKind.u64.bits))=(((if a<c+b then 1 else 0):Nat):Int):=by
    rw[YE,YE];show Int.fdiv _ 9223372036854775808=_;grind
   have f:=o9 o (m.length-i-1) ((a+8589934592-(c+b))%4294967296);rw[e]at f;refine ai (ar (k:=aD rfl (dU r (k:=aK (aE p (aE s (aE @cX f))) (k:=sW q (k:=bK (k:=?_)))))));refine⟨⟨i+1,o++[(a+8589934592-(c+b))%4294967296],if a<c+b then 1 else 0,by omega,by grind,by simp[e],?_⟩,by simp only;omega,aj ⟨?_,trivial⟩ ?_⟩
   ·rw[<- h,dz j,dz r,diffL,Ye];rfl
   ·rfl
   simp[wk]
  have p:IntKind.u32.wrap (IntKind.u64.wrap ((a:Int)-(c:Int)))=(((a+8589934592-c)%4294967296:Nat):Int):=by rw[Zy,YE];omega
  have q:Int.fdiv (IntKind.u64.wrap ((a:Int)-(c:Int))) (2^(min 63 IntKind.u64.bits))=(((if a<c then 1 else 0):Nat):Int):=by
   rw[YE];show Int.fdiv _ 9223372036854775808=_;grind
  have f:=o9 o (m.length-i-1) ((a+8589934592-c)%4294967296);rw[e]at f;refine ai (ar (k:=ao rfl (ak (aK (aE p (aE s (aE @cX f))) (k:=sW q (k:=bK (k:=?_)))))));refine⟨⟨i+1,o++[(a+8589934592-c)%4294967296],if a<c then 1 else 0,by omega,by grind,by simp[e],?_⟩,by simp only;omega,aj ⟨?_,trivial⟩ ?_⟩
  ·rw[<- h,dz j,dN (by omega:n.length<=i),dN (by omega:n.length<=i+1),diffL,Ye];rfl
  ·rfl
  simp[wk]
 have t:i=m.length:=by omega
 subst t;rw[dN (XY _),diffL,YI]at h;rw[Zj,aaP,YI,h];have v:(diffL m n 0).length=m.length:=jw m n 0;have u:=jy m n 0;have K:=iv m n 0 x y (by omega) B (by omega);have w:=dX (diffL m n 0) (by omega);rw[dS u,show natV (diffL m n 0)=natV m-natV n by omega]at w;generalize diffL m n 0=S at*
 refine ar (k:=bG rfl ?_);show bs _ _ _ _;refine bs.weak ((bF 11 (bS rfl)).trans (aj (tm:=(j4 (jk::cL S::j16 (j16 (j4 (jk::jk::jk::[])))))) (l:=[]) trivial (by simp[wk,fb,dD,aw,Hm,fQ,fL,X3,v]))) ?_;refine bQ [⟨1,_,_,_,w⟩] (k:=aF @results171)
theorem Jf {B:List Nat} (g:Id b B) (h:b[g.i]?=some 0): ∃c:Id b B,c.i=g.i+1/\c.O=g.O:=by
 refine⟨⟨g.i+1,g.O,(XN.1 h).1,g.len,g.lmb,?_,fun k f e=>g.zero k (by omega) e⟩,rfl,rfl⟩;rw[aX h,g.val];simp
theorem I3 (A B:List Nat) (b:Lmb A) (e:Lmb B) (la:A.length<=536870912) (lb:B.length<=536870912):CallC prog 168 [cL A,cL B] ⟨[],cL (aq (natV A*natV B))⟩:=by
 by_cases s:A.length<=1/\B.length<=1
 ·have t:=s.1;have u:=s.2;have w1:=pP A b (by omega);have w2:=pP B e (by omega);have N:natV A<4294967296:=by
   have:=fW b;exact XZ this (by have:=Yd (n:=4294967296) (by omega) t;omega)
  have P:natV B<4294967296:=by
   have:=fW e;exact XZ this (by have:=Yd (n:=4294967296) (by omega) u;omega)
  have X:=nP N P;have w3:=iP (natV A*natV B) (by omega);have D:(natV A:Int)*(natV B:Int)=((natV A*natV B:Nat):Int):=by simp
  generalize natV A*natV B=p at*
  refine aB func168 rfl ntmps168 (aC (k:=ai (ar (k:=aD rfl (ce [⟨1,_,_,_,w1⟩,⟨3,_,_,_,w2⟩,⟨5,_,_,_,w3⟩] D (k:=aF @results168))))))
 have Q:((A.length:Int)+(B.length:Int)).toNat=A.length+B.length:=by omega
 refine aB func168 rfl ntmps168 (aC (k:=?_));refine ai (nB (S:=⟨(cL A::cL B::j16 (j16 (j16 (j16 (j16 (j4 ([]))))))),Hm []⟩) ?_ ?_)
 ·by_cases V:A.length<=1
  ·refine ar (k:=?_);refine aW rfl (fun h=>by simp at h<;>omega) (fun _=>ak (aj trivial ?_));simp[wk]
  refine ar (k:=?_);refine aW rfl (fun h=>by simp at h<;>omega) (fun _=>ak (aj trivial ?_));simp[wk]
 refine aK (aE Q @lX) (k:=ai (bH (k:=?_)));refine aG (G:=Id A B) (fun g=>⟨(cL A::cL B::jk::jk::jk::.one (.sl 31 0 0 (A.length+B.length))::j16 (j4 (j4 (jk::jk::cL A::rN A.length::rN g.i::j16 (j16 (j16 (jk::jk::jk::[]))))))),Hm [(31,[⟨165,1,lc fU g.O⟩])]⟩) (fun g=>A.length-g.i) ⟨0,ae (A.length+B.length) 0,by omega,by simp,fun x f=>by simp at f;omega,by simp[vD,natV],fun k V W=>by rw[YF,if_pos W]⟩ ?_ ?_
 ·refine aj ⟨rfl,trivial⟩ ?_;simp[wk]
 rintro⟨i,O,hi,len,lmb,val,zero⟩;simp only;by_cases K:i<A.length
 ·obtain⟨x,f⟩:=getElem?_of_lt K;have v:=bT b f;refine ar (k:=bA rfl (ai (am (aK f (k:=?_)))));by_cases H:x=0
  ·subst H;obtain⟨q,z,m⟩:=Jf (⟨i,O,hi,len,lmb,val,zero⟩:Id A B) f;simp only at z m;refine ai (ar (k:=aD rfl (be (bK (k:=?_)))));refine⟨q,by omega,aj ⟨by rw[m];rfl,trivial⟩ ?_⟩;simp[wk,z]
  have U:(i:Int)+(B.length:Int)+1=((i+B.length+1:Nat):Int):=by omega
  have T:i+B.length+1-i=B.length+1:=by omega
  refine ai (ar (k:=ao rfl (ak (aK (aE U T) (k:=bH (k:=ai (bH (k:=?_))))))));refine aG (G:=KL A B i x) (fun g=>⟨(cL A::cL B::jk::jk::jk::.one (.sl 31 0 0 (A.length+B.length))::jk::.raw (.int .u32 (x:Int))::.one (.sl 31 0 i (B.length+1))::.raw (.int .u64 (g.c:Int))::j16 (j4 (jk::jk::cL A::rN A.length::rN i::j4 (j4 (j4 (jk::jk::cL B::rN B.length::rN g.j::j16 (j16 (jk::jk::[])))))))),Hm [(31,[⟨165,1,lc fU g.O⟩])]⟩) (fun g=>B.length-g.j) ⟨0,O,0,by omega,len,lmb,by omega,by simpa[natV] using val,zero⟩ ?_ ?_
  ·refine aj ⟨rfl,trivial⟩ ?_;simp[wk]
  intro g;by_cases L:g.j<B.length
  ·obtain⟨y,I⟩:=getElem?_of_lt L;have w:=bT e I;have J:=g.len;obtain⟨o,C⟩:=getElem?_of_lt (show i+g.j<g.O.length by omega);have aa:=bT g.lmb C;have X:=nP v w;have F:=g.hc;obtain⟨q,z,m,q3⟩:=yh g I C K v w;have D:(x:Int)*(y:Int)=((x*y:Nat):Int):=by simp
   generalize hp:x*y=p at*
   have E:IntKind.u32.wrap ((g.c:Int)+((p:Int)+(o:Int)))=(((g.c+(p+o))%4294967296:Nat):Int):=by rfl
   have R:Int.fdiv ((g.c:Int)+((p:Int)+(o:Int))) (2^(min 32 IntKind.u64.bits))=(((g.c+(p+o))/4294967296:Nat):Int):=by grind [KD]
   refine ar (k:=bA rfl (ai (am (aK I (k:=aK (aE D C) (k:=aK (aE E (aE C @cX)) (k:=sW R (k:=bK (k:=?_)))))))));refine⟨q,by omega,aj ⟨by rw[m];rfl,trivial⟩ ?_⟩;simp_all[wk]
  have Y:=g.hj;have F:=g.hc;have Z:=g.len;obtain⟨q,z,m⟩:=yg f g L;have E:IntKind.u32.wrap (g.c:Int)=(g.c:Int):=by rw[Dy];omega
  refine ar (k:=bG rfl ?_);show bs _ _ _ _;have hz:=g.zero (i+B.length) (XY _) (by omega);refine dU (aE E (aE hz @cX)) (k:=bK (k:=?_));refine⟨q,by omega,aj ⟨by rw[m];rfl,trivial⟩ ?_⟩;simp[wk,z]
 have r:natV O=natV A*natV B:=by
  grind
 have M:=dX O (by omega);rw[dS lmb,r]at M;refine ar (k:=bG rfl ?_);show bs _ _ _ _;refine bs.weak ((bF 31 (bS rfl)).trans (aj (tm:=(j4 (jk::cL O::j16 (j16 (j16 (j16 (j16 ([])))))))) (l:=[]) trivial (by simp[wk,fb,dD,aw,Hm,fQ,fL,X3,len]))) ?_;refine bQ [⟨1,_,_,_,M⟩] (k:=aF @results168)
/-! Signed numbers. -/
theorem Ly {a b:Nat}:0<=f7 a b↔b<=a:=by grind [f7]
theorem Fs {c e:Bool} {a:Nat} (h:c≠e) (f:n<=a):fH c (a-n)=fH c a+fH e n:=by
 grind [fH]
theorem Ft {e c:Bool} {a:Nat} (h:e≠c) (f:a<=n):fH c (n-a)=fH e a+fH c n:=by
 grind [fH]
theorem Q9 (n:Bool) (a b:Nat):fH n (a+b)=fH n a+fH n b:=by grind [fH]
theorem zJ (g m:Bool) (a b:Nat) (p:(aq a).length<=536870912) (q:(aq b).length<=536870912):CallC prog 166 [.raw (.bool g),cL (aq a),.raw (.bool m),cL (aq b)] ⟨[],tZ (fH g a+fH m b)⟩:=by
 by_cases o:g=m
 ·subst o;have c:=x8 (aq a) (aq b) (aA _) (aA _) p q;rw[ax,ax]at c;have e:=d7 g (a+b);rw[Q9]at e;refine aB func166 rfl ntmps166 (aC (k:=ai (am (bH (k:=aD rfl (bL [⟨3,_,_,_,c⟩,⟨4,_,_,_,e⟩] (k:=aF @results166)))))))
 have l:(g==m)=false:=by grind
 have n:=vm (aq a) (aq b) (aA _) (aA _) (bY _) (bY _) (by omega) (by omega);rw[ax,ax]at n;have j:=Ly (a:=a) (b:=b);by_cases f:b<=a
 ·have c:=ru (aq a) (aq b) (aA _) (aA _) (iU (aA _) (bY _) (by grind [ax])) (by grind [ax]) p;rw[ax,ax]at c;have e:=d7 g (a-b);rw[Fs o f]at e;have s:0<=f7 a b:=j.2 f;generalize f7 a b=r at*
  refine aB func166 rfl ntmps166 (aC (k:=ai (am (f5 l (k:=ao rfl (bL [⟨2,_,_,_,n⟩] (k:=aD rfl (bL [⟨3,_,_,_,c⟩,⟨4,_,_,_,e⟩] (k:=aF @results166)))))))))
 have c:=ru (aq b) (aq a) (aA _) (aA _) (iU (aA _) (bY _) (by grind [ax])) (by grind [ax]) q;rw[ax,ax]at c;have e:=d7 m (b-a);rw[Ft o (by omega)]at e;have s: ¬0<=f7 a b:=fun h=>f (j.1 h)
 generalize f7 a b=r at*
 refine aB func166 rfl ntmps166 (aC (k:=ai (am (f5 l (k:=ao rfl (bL [⟨2,_,_,_,n⟩] (k:=ao rfl (ak (bL [⟨3,_,_,_,c⟩,⟨4,_,_,_,e⟩] (k:=aF @results166))))))))))
theorem TR (a b:Int) (c:Bh a) (e:Bh b):CallC prog 118 [tZ a,tZ b] ⟨[],tZ (a-b)⟩:=by
 have t1:=dX (aq a.natAbs) c.bg.len;have t2:=dX (aq b.natAbs) e.bg.len;rw[ib]at t1 t2;have h:=zJ (decide (a<0)) (!decide (b<0)) a.natAbs b.natAbs c.len e.len;rw[zZ,MI,<- abG]at h;refine aB func118 rfl ntmps118 (aC (k:=cQ [⟨4,_,_,_,t1⟩,⟨10,_,_,_,t2⟩,⟨11,_,_,_,h⟩] (k:=aF @results118)))
theorem Ma (a b:Int) (e:Bh a) (f:Bh b):CallC prog 119 [tZ a,tZ b] ⟨[],tZ (a*b)⟩:=by
 have t1:=dX (aq a.natAbs) e.bg.len;have t2:=dX (aq b.natAbs) f.bg.len;rw[ib]at t1 t2;have h:=I3 (aq a.natAbs) (aq b.natAbs) (aA _) (aA _) e.len f.len;rw[ax,ax]at h;have c:=d7 (!(decide (a<0)==decide (b<0))) (a.natAbs*b.natAbs);rw[G6]at c;refine aB func119 rfl ntmps119 (aC (k:=cQ [⟨7,_,_,_,t1⟩,⟨10,_,_,_,t2⟩,⟨11,_,_,_,h⟩,⟨12,_,_,_,c⟩] (k:=aF @results119)))
theorem VO {U V L:Nat} (c:n*4294967296*L<=V) (g:U<(m+1)*4294967296*L) (h:j*V<=U) (f:0<L):j*n<=m:=by
 have e:j*(n*4294967296*L)<=j*V:=XU _ c;have b:(j*n)*(4294967296*L)<(m+1)*(4294967296*L):=by
  grind
 have:=ZS b;omega
theorem VN {U V L high:Nat} (f:(n*4294967296+m)*L<=V) (t:U<(high*4294967296+j+1)*L) (l:q*V<=U) (u:c*n+p=high) (h:p*4294967296+j<c*m):q<c:=by
 by_cases b:q<c
 ·exact b
 exfalso;have o:c*((n*4294967296+m)*L)<=U:=XQ (Yn (aaG b) f) l;have e:(c*(n*4294967296+m))*L<(high*4294967296+j+1)*L:=by
  grind
 have s:=ZS e;grind
theorem P4 {U vl t3:Nat} (l: n = (j * 4294967296 + c) * m + vl) (b: vl < m) (h: t3 * m <= U) (u: U < (q + 1) * n) (o: p * (j * 4294967296 + c) <= t3) (f: p <= 4294967296) (hv1: 1 <= j) : p <= q + 1 := by
  have r : p * n <= U + p * vl := by
    calc p * n = (p * (j * 4294967296 + c)) * m + p * vl := by grind
      _ <= t3 * m + p * vl := abt (XX _ o) _
      _ <= _ := abt h _
  have s : p * vl <= 4294967296 * m := Yn f (aac b);have t : 4294967296 * m <= n := by
    rw [l];have : 4294967296 * m <= (j * 4294967296 + c) * m := XX _ (by omega);omega
  have e : p * n < (q + 2) * n := by
    grind
  have := ZS e;omega
structure O5 (u v:List Nat) (g:Nat) where
 i:Nat
 us:List Nat
 c:Nat
 b:Nat
 hi:i<=v.length
 len:us.length=i
 lmb:Lmb us
 hc:c<4294967296
 hb:b<=1
 val:natV us+g*natV (v.take i)=natV (u.take i)+(c+b)*4294967296^i
def O5.start (u v:List Nat) (g:Nat):O5 u v g:=⟨0,[],0,0,Yt _,rfl,fun a h=>by simp at h,by omega,by omega,by simp[natV]⟩
theorem nQ (l:List Nat) (a:Nat):natV (l++[a])=natV l+a*4294967296^l.length:=by
 grind [iT,natV]
theorem mZ {a:Nat} (h:Lmb b) (f:a<4294967296):Lmb (b++[a]):=fun x e=>by
 rcases YK.1 e with c|c
 ·exact h x c
 grind
theorem CF (b:n<=4294967296) (f:m<4294967296) (e:j<4294967296):j+n*m<18446744073709551616/\(j+n*m)/4294967296<4294967296:=by
 have:n*m<=4294967296*4294967295:=Yn b (by omega);omega
theorem Qi {u v:List Nat} (e:O5 u v n) {l b':Nat} (q:n<=4294967296) (p:v[e.i]?=some m) (s:u[e.i]?=some j) (t:Lmb v) (r:l<4294967296) (h:b'<=1) (z:l+(e.c+n*m)%4294967296+e.b=j+b'*4294967296): ∃f:O5 u v n,f.i=e.i+1/\f.us=e.us++[l]/\f.c=(e.c+n*m)/4294967296/\f.b=b':=by
 have o:=bT t p;refine⟨⟨e.i+1,e.us++[l],(e.c+n*m)/4294967296,b',?_,by rw[YJ,e.len];rfl,mZ e.lmb r,(CF q o e.hc).2,h,?_⟩,rfl,rfl,rfl,rfl⟩
 ·grind
 have A:=e.val;rw[nQ,e.len,aX p,aX s,Zd];have w:e.c+n*m=(e.c+n*m)%4294967296+4294967296*((e.c+n*m)/4294967296):=by omega
 grind
structure RT (u v:List Nat) where
 i:Nat
 us:List Nat
 c:Nat
 hi:i<=v.length
 len:us.length=i
 lmb:Lmb us
 hc:c<=1
 val:natV us+c*4294967296^i=natV (u.take i)+natV (v.take i)
def RT.start (u v:List Nat):RT u v:=⟨0,[],0,Yt _,rfl,fun a h=>by simp at h,by omega,by simp[natV]⟩
theorem Pm {v:List Nat} (e:RT b v) (g:v[e.i]?=some n) (h:b[e.i]?=some m) (p:Lmb v) (o:Lmb b):
  ∃f:RT b v,f.i=e.i+1/\f.us=e.us++[(e.c+(m+n))%4294967296]/\f.c=(e.c+(m+n))/4294967296:=by
 have j:=bT p g;have l:=bT o h;have q:=e.hc;refine⟨⟨e.i+1,e.us++[(e.c+(m+n))%4294967296],(e.c+(m+n))/4294967296,?_,by rw[YJ,e.len];rfl,mZ e.lmb (Yk _ (by omega)),by omega,?_⟩,rfl,rfl,rfl⟩
 ·grind
 have s:=e.val;rw[nQ,e.len,aX g,aX h,Zd];have r:e.c+(m+n)=(e.c+(m+n))%4294967296+4294967296*((e.c+(m+n))/4294967296):=by omega
 grind
theorem Mj (l:c=n/m) (f:c<=j) (h:p+j*m=n) (b:0<m):j=c/\p=n%m:=by
 have e:j<=n/m:=(aaD b).2 (by omega);grind [Nat.div_add_mod,Nat.mul_comm]
theorem P3 {T Bn c t W:Nat} (s:p=n/m) (C:j<=p+1) (h:q+j*m=n+4294967296*Bn) (r:n<j*m) (l:0<m) (o:m<=Bn) (A:W<Bn) (z:q=T+t*Bn) (D:W+c*Bn=T+m) (B:c<=1) (u:t<4294967296):j=p+1/\(t+c)%4294967296=0/\W=n%m:=by
 have e:j=p+1:=by
  by_cases b:j=p+1
  ·exact b
  exfalso;have:j*m<=(n/m)*m:=XX _ (by omega);have:=aaQ n m;omega
 have f:=Zv n m;have v:=Yk n l;rw[<- s]at f;subst e;have w:(p+1)*m=m*p+m:=by grind
 have x:W+(t+c)*Bn=n%m+4294967296*Bn:=by
  grind
 have y:t+c=4294967296:=by
  rcases Y5 (t+c) 4294967296 with b|b|b
  ·exfalso;have:(t+c)*Bn+Bn<=4294967296*Bn:=by
    have:=XX Bn (show t+c+1<=4294967296 by omega);grind
   omega
  ·exact b
  omega
 grind
def bE:Nat->Nat->List Nat
 |0,_=>[]
 |n+1,x=>x%4294967296::bE n (x/4294967296)
theorem bM: ∀n x,(bE n x).length=n
 |0,_=>rfl
 |n+1,x=>by simp[bE,bM n]
theorem mY: ∀n x,Lmb (bE n x)
 |0,_=>fun a h=>by simp[bE]at h
 |n+1,x=>by rw[bE,cY];exact⟨Yk _ (by omega),mY n _⟩
theorem yn: ∀n x,natV (bE n x)=x%4294967296^n
 |0,x=>by grind [bE,natV]
 |n+1,x=>by
  rw[bE,natV,yn n,Zd,YQ (4294967296^n),Nat.mod_mul]
theorem gW (h:m<4294967296^n):natV (bE n m)=m:=by rw[yn,ZC h]
theorem GI: ∀{l:List Nat},Lmb l->l=bE l.length (natV l)
 |[],_=>rfl
 |a::l,h=>by
  rw[cY]at h;have b:(a+4294967296*natV l)%4294967296=a:=by omega
  have c:(a+4294967296*natV l)/4294967296=natV l:=by omega
  show a::l=bE (l.length+1) (natV (a::l));rw[bE,natV,b,c,<- GI h.2]
theorem Cc (h:Lmb b) (c:b.length=n) (e:natV b=m):b=bE n m:=by
 grind [GI]
theorem gX: ∀{n x i:Nat},i<n->(bE n x)[i]?=some (x/4294967296^i%4294967296)
 |0,_,_,h=>by omega
 |n+1,x,0,_=>by simp[bE]
 |n+1,x,i+1,h=>by
  rw[bE,Ze,gX (by omega),Y7,Zd,YQ 4294967296]
theorem rX (h:m<4294967296^n):dn (bE n m)=aq m:=by
 rw[dS (mY _ _),gW h]
theorem pY {i a:Nat} (h:b[i]?=some a):natV (b.drop i)=a+4294967296*natV (b.drop (i+1)):=by rw[dz h,natV]
/-! Short division. -/
theorem Ny {a Y:Nat} (c:0<n) (j:a<4294967296):(a+4294967296*Y)/n%4294967296=(Y%n*4294967296+a)/n/\(a+4294967296*Y)/n/4294967296=Y/n/\(a+4294967296*Y)%n=(Y%n*4294967296+a)%n:=by
 have g:=Zv Y n;have h:=Yk Y c;generalize l:Y/n=q at*
 generalize m:Y%n=r at*
 have e:a+4294967296*Y=n*(4294967296*q)+(r*4294967296+a):=by grind
 have f:(r*4294967296+a)/n<4294967296:=by
  rw[Zb c];omega
 simp_all[aaL]
theorem Q3 {l:List Nat} {i a b:Nat} (p:l.length=n) (o:i<n) (f:l[i]?=some a) (c:a<4294967296) (m:0<b):
  (l.take (i+1)++bE (n-(i+1)) (natV (l.drop (i+1))/b)).set i ((natV (l.drop (i+1))%b*4294967296+a)/b)=l.take i++bE (n-i) (natV (l.drop i)/b)/\
  (natV (l.drop (i+1))%b*4294967296+a)%b=natV (l.drop i)%b:=by
 obtain⟨g,h,j⟩:=Ny (Y:=natV (l.drop (i+1))) m c;rw[pY f];refine⟨?_,j.symm⟩;rw[show n-i=n-(i+1)+1 by omega,bE,g,h,List.take_add_one,f];simp only[Option.toList_some,Ye,List.singleton_append];rw[Zm _ _ (by simp;omega)];have e:i-(l.take i).length=0:=by simp;omega
 grind
/-! Shifts. -/
theorem CN (b:m<32):2^m<=2147483648/\1<=2^m:=⟨by have:=Yd (n:=2) (by omega) (show m<=31 by omega);omega,Nat.one_le_two_pow⟩
theorem NQ (b:j<=32):(n+18446744073709551616*m)/2^j%4294967296=n/2^j%4294967296:=by
 have e:18446744073709551616*m=2^j*(2^(32-j)*(4294967296*m)):=by
  rw[<- ZP,<- ZI,show j+(32-j)=32 by omega];grind
 grind [Nat.add_mul_div_left]
theorem VY (f:Lmb b) {i:Nat} (m:n<=32):natV b/2^n/4294967296^i%4294967296=(b.getD i 0+4294967296*b.getD (i+1) 0)/2^n%4294967296:=by
 have e:natV b/2^n/4294967296^i=natV (b.drop i)/2^n:=by
  rw[Y7,YQ,<- Y7]
  congr 1
  by_cases r:i<=b.length
  ·have o:natV b=natV (b.take i)+4294967296^i*natV (b.drop i):=by
    grind [List.take_append_drop,iT]
   simp_all[eu,Nat.add_mul_div_left,YP]
  rw[ZF.2 (by omega)];have p:=fW f;have q:4294967296^b.length<=4294967296^i:=Yd (by omega) (by omega);rw[Z9 (by omega)];rfl
 rw[e];have g: ∀j,natV (b.drop j)=b.getD j 0+4294967296*natV (b.drop (j+1)):=fun j=>by
  rw[Yf];cases h:b[j]? with
  |none=>
   rw[aaW]at h;rw[ZF.2 h,ZF.2 (by omega)];rfl
  |some a=>exact pY h
 rw[g i,g (i+1)];have c:b.getD i 0+4294967296*(b.getD (i+1) 0+4294967296*natV (b.drop (i+1+1)))=(b.getD i 0+4294967296*b.getD (i+1) 0)+18446744073709551616*natV (b.drop (i+1+1)):=by grind
 rw[c,NQ m]
theorem Hw (h:Lmb b) {i v:Nat} (j:n<=32) (p:b.length=m) (g:i<m) (o:v=(b.getD i 0+4294967296*b.getD (i+1) 0)/2^n%4294967296):
  ((bE m (natV b/2^n)).take i++b.drop i).set i v=(bE m (natV b/2^n)).take (i+1)++b.drop (i+1):=by
 have c:=gX (n:=m) (x:=natV b/2^n) g;rw[VY h j,<- o]at c;have f:b.drop i=b[i]'(by omega)::b.drop (i+1):=Y6 (by omega);rw[Zm _ _ (by grind),List.take_add_one,c,f];have e:i-((bE m (natV b/2^n)).take i).length=0:=by grind
 grind
def xq (m:List Nat) (s i:Nat):Nat:=natV (m.take i)*2^s/4294967296^i
theorem Ur (c:Lmb b) (s i:Nat):xq b s i<2^s:=by
 simp_all[xq,Zb,YP,YQ,eu]
theorem Rc {s i a:Nat} (c:b[i]?=some a):xq b s i+a*2^s=natV (b.take (i+1))*2^s/4294967296^i/\(xq b s i+a*2^s)/4294967296=xq b s (i+1):=by
 have f:=aX c;have e:natV (b.take (i+1))*2^s=natV (b.take i)*2^s+4294967296^i*(a*2^s):=by grind
 grind [xq,Nat.add_mul_div_left,Nat.div_div_eq_div_mul]
theorem Us {m:List Nat} {s i j:Nat} (f:j<i) (c:i<=m.length):natV (m.take i)*2^s/4294967296^j%4294967296=natV m*2^s/4294967296^j%4294967296:=by
 have b:natV m=natV (m.take i)+4294967296^i*natV (m.drop i):=by
  grind [List.take_append_drop,iT]
 obtain⟨d,rfl⟩: ∃d,i=j+1+d:=⟨i-(j+1),by omega⟩;have e:natV m*2^s=natV (m.take (j+1+d))*2^s+4294967296^j*(4294967296*(4294967296^d*natV (m.drop (j+1+d))*2^s)):=by
  grind
 grind [Nat.add_mul_div_left]
theorem yw:bE (n+1) m=bE n m++[m/4294967296^n%4294967296]:=by
 apply X7;grind [gX,bM]
theorem wU {a s:Nat} (h:a*2^s<18446744073709551616) (b:s<=64):IntKind.u64.wrap ((a:Int)*2^(min s IntKind.u64.bits))=((a*2^s:Nat):Int):=by
 rw[show min s IntKind.u64.bits=s from aav b,YE];grind
theorem FZ {a s:Nat} (b:s<=64):Int.fdiv (a:Int) (2^(min s IntKind.u64.bits))=((a/2^s:Nat):Int):=by
 rw[show min s IntKind.u64.bits=s from aav b];grind
theorem pO (m:List Nat) (s:Nat) (A:Lmb m) (L:s<32) (N:m.length<=536870912):CallC prog 212 [cL m,.raw (.int .i64 (s:Int))] ⟨[⟨165,1,lc fU (bE (m.length+1) (natV m*2^s))⟩],.one (.sl 0 0 0 (m.length+1))⟩:=by
 have K:=CN L;have E:(m.length:Int)+1=((m.length+1:Nat):Int):=by omega
 refine aB func212 rfl ntmps212 (aC (k:=aK (aE E @lX) (k:=bH (k:=ai (bH (k:=?_))))));refine aG (G:=jW m.length) (fun g=>⟨(cL m::rN s::jk::jk::jk::.one (.sl 12 0 0 (m.length+1))::.raw (.int .u64 (xq m s g.i:Nat))::j4 (jk::jk::cL m::rN m.length::rN g.i::j16 (j4 (j4 (jk::[]))))),Hm [(12,[⟨165,1,lc fU (bE g.i (natV m*2^s)++ae (m.length+1-g.i) 0)⟩])]⟩) (fun g=>m.length-g.i) ⟨0,by omega⟩ ?_ ?_
 ·refine aj ⟨?_,trivial⟩ ?_
  ·rfl
  simp[wk,xq,natV]
 rintro⟨i,O⟩;simp only;have o:=Ur A s i;by_cases J:i<m.length
 ·obtain⟨a,l⟩:=getElem?_of_lt J;have F:=bT A l;obtain⟨y,z⟩:=Rc (s:=s) l;have c:=Us (m:=m) (s:=s) (i:=i+1) (j:=i) (by omega) (by omega);rw[<- y]at c;have x:a*2^s<=4294967295*2147483648:=Yn (by omega) K.1;have D:=wU (a:=a) (s:=s) (by omega) (by omega);have u:=Ah (xq m s i) (a*2^s) (by omega) (by omega);rw[tI a (xq m s i) s o]at u;have h:IntKind.u32.wrap ((a*2^s+xq m s i:Nat):Int)=((natV m*2^s/4294967296^i%4294967296:Nat):Int):=by rw[Dy,Z3,c]
  have v:Int.fdiv ((a*2^s+xq m s i:Nat):Int) (2^(min 32 IntKind.u64.bits))=((xq m s (i+1):Nat):Int):=by rw[KD,Z3,z]
  have q:m.length+1-i=(m.length-i)+1:=by omega
  have f:=rQ (bE i (natV m*2^s)) (m.length-i);have b:=o9 (bE i (natV m*2^s)) (m.length-i) (natV m*2^s/4294967296^i%4294967296);rw[bM]at f b;rw[<- yw]at b;rw[q];obtain⟨t,n⟩: ∃t,t=xq m s (i+1):=⟨_,rfl⟩;obtain⟨r,e⟩: ∃r,r=bE (i+1) (natV m*2^s):=⟨_,rfl⟩;rw[<- n]at v;rw[<- e]at b;clear y z c;generalize xq m s i=C at*
  generalize natV m*2^s/4294967296^i%4294967296=dg at*
  generalize bE i (natV m*2^s)=B at*
  generalize H:a*2^s=M at*
  refine ar (k:=bA rfl (ai (am (aK l (k:=aK (aE D u) (k:=aK (aE h (aE f (aE @cX b))) (k:=sW v (k:=bK (k:=?_)))))))));refine⟨⟨i+1,by omega⟩,by grind,aj ⟨?_,trivial⟩ ?_⟩
  ·show _=[(⟨_,_,lc fU (bE (i+1) (natV m*2^s)++ae (m.length+1-(i+1)) 0)⟩:OObj)];rw[show m.length+1-(i+1)=m.length-i by omega,<- e];rfl
  simp_all[wk]
 have p:i=m.length:=by omega
 subst p;have w:xq m s m.length=natV m*2^s/4294967296^m.length:=by simp_all[xq]
 have I:xq m s m.length%4294967296=xq m s m.length:=ZC (by omega);have h:IntKind.u32.wrap ((xq m s m.length:Nat):Int)=((natV m*2^s/4294967296^m.length%4294967296:Nat):Int):=by rw[Dy,w]
 have q:m.length+1-m.length=0+1:=by omega
 have f:=rQ (bE m.length (natV m*2^s)) 0;have b:=o9 (bE m.length (natV m*2^s)) 0 (natV m*2^s/4294967296^m.length%4294967296);rw[bM]at f b;rw[<- yw,aaP,YI]at b;rw[q];clear w I;generalize bE (m.length+1) (natV m*2^s)=R at*
 generalize bE m.length (natV m*2^s)=B at*
 generalize natV m*2^s/4294967296^m.length%4294967296=dg at*
 generalize xq m s m.length=C at*
 refine ar (k:=bG rfl (aK (aE h (aE f (aE @cX b))) (k:=bH (k:=?_))));refine aZ ⟨.inr rfl,_,bv.refl _,?_⟩;refine⟨.one (.sl 12 0 0 (m.length+1)),12,?_,rfl,?_,rfl⟩
 ·simp(disch:=omega) only[kd,results212]
 show _=[_];simp[renO,jL]
def JQ (l:List Nat) (b i:Nat):List Nat:=l.take i++bE (l.length-i) (natV (l.drop i)/b)
theorem Q2 (l:List Nat) (b:Nat) {i:Nat} (h:i<=l.length):(JQ l b i).length=l.length:=by grind [JQ,bM]
theorem ta (l:List Nat) (b:Nat) (K:Lmb l) (f:0<b) (p:b<4294967296) (I:0<l.length) (M:l.length<=536870912):
  r6 prog 210 [.undef,.raw (.int .u32 (b:Int))] 0 0 l.length ⟨165,1,lc fU l⟩ ⟨165,1,lc fU (bE l.length (natV l/b))⟩ (.raw (.int .u32 ((natV l%b:Nat):Int))):=by
 refine uL func210 rfl (by kernel_rfl) (by simp) I (by simp[lc]) (dQ _ _) rfl (by simp[lc,bM]) (dQ _ _) rfl ?_;rw[ntmps210];refine Lc (k:=jG (k:=?_));have N:(l.length:Int)-1=(l.length:Int)-1:=rfl;refine cJ (jG (k:=?_));refine mI (G:=jW l.length) (fun g=>⟨(.one (.sl 0 0 0 l.length)::.raw (.int .u32 (b:Int))::jk::jk::jk::.raw (.int .u64 ((natV (l.drop g.i)%b:Nat):Int))::.raw (.int .i64 ((g.i:Int)-1))::j16 (j4 (j4 (j4 (jk::[]))))),Hm [(0,[⟨165,1,lc fU (JQ l b g.i)⟩])]⟩) (fun g=>g.i) ⟨l.length,by omega⟩ ?_ ?_
 ·refine aj ⟨?_,trivial⟩ ?_
  ·simp[JQ,bE,famH]
  simp[wk,natV]
 rintro⟨i,H⟩;simp only;by_cases O:0<i
 ·obtain⟨j,rfl⟩: ∃j,i=j+1:=⟨i-1,by omega⟩;obtain⟨a,y⟩:=getElem?_of_lt (l:=l) (k:=j) (by omega);have o:=bT K y;have E:((j+1:Nat):Int)-1=(j:Int):=by omega
  obtain⟨v,L⟩:=Q3 (b:=b) rfl (show j<l.length by omega) y o f;have z:=Q2 l b H;have c:(JQ l b (j+1))[j]?=some a:=by
   grind [JQ]
  change (JQ l b (j+1)).set j _=JQ l b j at v
  have J:=Yk (natV (l.drop (j+1))) f;generalize natV (l.drop (j+1))%b=r at*
  obtain⟨m,u⟩: ∃m,m=natV (l.drop j)%b:=⟨_,rfl⟩;rw[<- u]at L;have q:((natV (l.drop j):Nat):Int)%(b:Int)=(m:Int):=by omega
  have A:=wU (a:=r) (s:=32) (by omega) (by omega);have x:=Ah (r*2^32) a (by omega) (by omega);rw[rI r a 32 (by omega),show r*2^32+a=r*4294967296+a from rfl]at x;have B:Int.tdiv ((r*4294967296+a:Nat):Int) (b:Int)=(((r*4294967296+a)/b:Nat):Int):=(Int.ofNat_tdiv _ _).symm;have C:Int.tmod ((r*4294967296+a:Nat):Int) (b:Int)=(m:Int):=by grind
  have P:(r*4294967296+a)/b<4294967296:=by
   rw[Zb f];omega
  generalize(r*4294967296+a)/b=h at*
  have D:IntKind.u64.wrap (h:Int)=(h:Int):=by rw[YE];omega
  have n:IntKind.u32.wrap (h:Int)=(h:Int):=by rw[Zy];omega
  generalize JQ l b (j+1)=S at*
  obtain⟨w,e⟩: ∃w,w=JQ l b j:=⟨_,rfl⟩;rw[<- e]at v;refine cJ (dv E (k:=lG rfl (fJ (cJ (gp (dv (aE A (aE c x)) (k:=dv (aE B (aE D (aE n (aE c (aE @cX v))))) (k:=xI C (k:=Lb (k:=?_))))))))));refine⟨⟨j,by omega⟩,by simp,aj ⟨?_,trivial⟩ ?_⟩
  ·show _=[(⟨_,_,lc fU (JQ l b j)⟩:OObj)];rw[<- e];rfl
  simp_all[wk]
 have t:i=0:=by omega
 subst t;have J:natV l%b<4294967296:=Nat.lt_trans (Yk _ f) p;have F:JQ l b 0=bE l.length (natV l/b):=by simp[JQ]
 rw[F,Zs];generalize natV l%b=r at*
 generalize bE l.length (natV l/b)=S at*
 have n:IntKind.u32.wrap (r:Int)=(r:Int):=by rw[Zy];omega
 refine cJ (jG (k:=mG rfl (mH (dv n (k:=?_)))));refine pp ⟨.inr rfl,_,bv.refl _,rfl,gT _,?_⟩;simp(disch:=omega) only[kd,results210]
def DF (l:List Nat) (s i:Nat):List Nat:=(bE l.length (natV l/2^s)).take i++l.drop i
theorem Re (l:List Nat) (s:Nat) {i:Nat} (h:i<=l.length):(DF l s i).length=l.length:=by grind [DF,bM]
theorem Hv {s i a:Nat} (c:i<=n) (h:b[n]?=some a):(DF b s i)[n]?=some a:=by
 grind [DF,bM]
theorem xe (l:List Nat) (s:Nat) (j:Lmb l) (K:s<32) (H:0<l.length) (J:l.length<=536870912):
  r6 prog 214 [.undef,.raw (.int .i64 (s:Int))] 0 0 l.length ⟨165,1,lc fU l⟩ ⟨165,1,lc fU (bE l.length (natV l/2^s))⟩ (.tup []):=by
 refine uL func214 rfl (by kernel_rfl) (by simp) H (by simp[lc]) (dQ _ _) rfl (by simp[lc,bM]) (dQ _ _) rfl ?_;rw[ntmps214];refine Lc (k:=?_);refine mI (G:=jW l.length) (fun g=>⟨(.one (.sl 0 0 0 l.length)::rN s::j4 (jk::rN l.length::rN g.i::j16 (j4 (j4 (j4 (jk::[])))))),Hm [(0,[⟨165,1,lc fU (DF l s g.i)⟩])]⟩) (fun g=>l.length-g.i) ⟨0,by omega⟩ ?_ ?_
 ·refine aj ⟨?_,trivial⟩ ?_
  ·rfl
  simp[wk]
 rintro⟨i,F⟩;simp only;have z:=Re l s F;by_cases r:i<l.length
 ·obtain⟨a,x⟩:=getElem?_of_lt r;have C:=bT j x;have e:=Hv (s:=s) (XY i) x;have E:l.getD i 0=a:=by grind
  have o:(i:Int)+1=((i+1:Nat):Int):=by omega
  obtain⟨u,f⟩: ∃u,u=DF l s (i+1):=⟨_,rfl⟩;by_cases t:i+1<l.length
  ·obtain⟨b,y⟩:=getElem?_of_lt t;have D:=bT j y;have h:=Hv (s:=s) (show i<=i+1 by omega) y;have p:l.getD (i+1) 0=b:=by grind
   have c:=Hw (v:=(b*4294967296+a)/2^s%4294967296) j (show s<=32 by omega) rfl r (by grind)
   change (DF l s i).set i _=DF l s (i+1)at c
   rw[<- f]at c;have A:=wU (a:=b) (s:=32) (by omega) (by omega);have w:=Ah a (b*2^32) (by omega) (by omega);rw[tI b a 32 (by omega),show b*2^32+a=b*4294967296+a from rfl]at w;have m:=FZ (a:=b*4294967296+a) (s:=s) (by omega);have n:=Dy ((b*4294967296+a)/2^s);generalize(b*4294967296+a)/2^s=I at*
   generalize DF l s i=S at*
   refine jG (k:=zi rfl (cJ (gp (jG (k:=dv e (k:=cJ (dv o (k:=lG rfl (xI (aE o (aE h (aE A w))) (k:=xI (aE m (aE n (aE e (aE @cX c)))) (k:=Lb (k:=?_))))))))))));refine⟨⟨i+1,by omega⟩,by grind,aj ⟨?_,trivial⟩ ?_⟩
   ·show _=[(⟨_,_,lc fU (DF l s (i+1))⟩:OObj)];rw[<- f];rfl
   simp[wk]
  have p:l.getD (i+1) 0=0:=by grind
  have c:=Hw (v:=a/2^s%4294967296) j (show s<=32 by omega) rfl r (by grind)
  change (DF l s i).set i _=DF l s (i+1)at c
  rw[<- f]at c;have m:=FZ (a:=a) (s:=s) (by omega);have n:=Dy (a/2^s);generalize a/2^s=I at*
  generalize DF l s i=S at*
  refine jG (k:=zi rfl (cJ (gp (jG (k:=dv e (k:=cJ (dv o (k:=mG rfl (fJ (xI (aE m (aE n (aE e (aE @cX c)))) (k:=Lb (k:=?_))))))))))));refine⟨⟨i+1,by omega⟩,by grind,aj ⟨?_,trivial⟩ ?_⟩
  ·show _=[(⟨_,_,lc fU (DF l s (i+1))⟩:OObj)];rw[<- f];rfl
  simp[wk]
 have q:i=l.length:=by omega
 subst q;have B:DF l s l.length=bE l.length (natV l/2^s):=by
  grind [DF,bM]
 rw[B];generalize bE l.length (natV l/2^s)=S at*
 refine jG (k:=zh rfl ?_);refine⟨.inl rfl,_,bv.refl _,rfl,gT _,?_⟩;simp(disch:=omega) only[kd,results214]
section
theorem Jk (f:b.length=n+2) (c:b[n+1]?=some m) (g:b[n]?=some j):natV b=(m*4294967296+j)*4294967296^n+natV (b.take n):=by
 have e:=aX c;grind [aX]
theorem Jl (g:b.length=n+3) (e:b[n+2]?=some m) (h:b[n+1]?=some j) (o:b[n]?=some c):natV b=((m*4294967296+j)*4294967296+c)*4294967296^n+natV (b.take n):=by
 have f:=aX e;grind [aX]
structure wZ (u v:List Nat) (n v1 v2 u2 u1 u0:Nat):Prop where
 lu:Lmb u
 lv:Lmb v
 nu:u.length=n+3
 nv:v.length=n+2
 hv1:v[n+1]?=some v1
 hv2:v[n]?=some v2
 hu2:u[n+2]?=some u2
 hu1:u[n+1]?=some u1
 hu0:u[n]?=some u0
 top:2147483648<=v1
 lt:natV u<natV v*4294967296
section
variable {u v:List Nat} {n v1 v2 u2 u1 u0:Nat} (h:wZ u v n v1 v2 u2 u1 u0)
include h
theorem wZ.vpos:0<natV v:=by
 have:=h.lt;omega
theorem wZ.bv1:v1<4294967296:=bT h.lv h.hv1
theorem wZ.bv2:v2<4294967296:=bT h.lv h.hv2
theorem wZ.bu2:u2<4294967296:=bT h.lu h.hu2
theorem wZ.bu1:u1<4294967296:=bT h.lu h.hu1
theorem wZ.bu0:u0<4294967296:=bT h.lu h.hu0
theorem wZ.eV:natV v=(v1*4294967296+v2)*4294967296^n+natV (v.take n):=Jk h.nv h.hv1 h.hv2
theorem wZ.eU:natV u=((u2*4294967296+u1)*4294967296+u0)*4294967296^n+natV (u.take n):=Jl h.nu h.hu2 h.hu1 h.hu0
theorem wZ.vl:natV (v.take n)<4294967296^n:=eu h.lv n
theorem wZ.ul:natV (u.take n)<4294967296^n:=eu h.lu n
theorem wZ.q_lt:natV u/natV v<4294967296:=by
 rw[Zb h.vpos,YQ];exact h.lt
theorem wZ.u2_le:u2<=v1:=by
 have b:=h.eV;have c:=h.eU;have f:=h.lt;have g:=h.vl;have j:=h.bv2;have p:0<4294967296^n:=YP (by omega);generalize 4294967296^n=L at*
 by_cases e:u2<=v1
 ·exact e
 exfalso;have l:(v1+1)*4294967296*4294967296*L<=natV u:=by
  rw[c];have:(v1+1)*4294967296*4294967296*L<=((u2*4294967296+u1)*4294967296+u0)*L:=XX _ (XQ (XX _ (XQ (XX _ (show v1+1<=u2 by omega)) (abc _ _))) (abc _ _));omega
 have m:natV v*4294967296<=(v1+1)*4294967296*4294967296*L:=by
  have o:natV v<=(v1+1)*4294967296*L:=by
   rw[b];have:(v1*4294967296+v2)*L+L<=(v1+1)*4294967296*L:=by
    have:=XX L (show v1*4294967296+v2+1<=(v1+1)*4294967296 by omega);grind
   omega
  grind
 omega
structure Vl (u v:List Nat) (v1 high:Nat) where
 g:Nat
 r:Nat
 eq:g*v1+r=high
 ge:natV u/natV v<=g
 le:g<=4294967297
 hr:r<4294967296
omit h in
theorem IK {a:Nat} (e:0<n) (h:a<(m+1)*n):a/n<=m:=by
 have:=(Zb e).2 h;omega
theorem wZ.first: ∃k:Vl u v v1 (u2*4294967296+u1),k.g=(u2*4294967296+u1)/v1/\k.r=(u2*4294967296+u1)%v1:=by
 have q:=h.top;have e:=h.bv1;have p:=Yk (u2*4294967296+u1) (show 0<v1 by omega);have o:=Zv (u2*4294967296+u1) v1;have f:=h.u2_le;have hu1:=h.bu1;have c:0<4294967296^n:=YP (by omega);refine⟨⟨(u2*4294967296+u1)/v1,(u2*4294967296+u1)%v1,by grind,?_,?_,by omega⟩,rfl,rfl⟩
 ·rw[aaD (by omega)];have j:=h.eV;have b:=h.eU;have l:=h.ul;have m:=h.bu0;refine VO (U:=natV u) (V:=natV v) (L:=4294967296^n) ?_ ?_ (aaQ _ _) c
  ·grind
  rw[b];have:((u2*4294967296+u1)*4294967296+u0)*4294967296^n+4294967296^n<=(u2*4294967296+u1+1)*4294967296*4294967296^n:=by
   have:=XX (4294967296^n) (show(u2*4294967296+u1)*4294967296+u0+1<=(u2*4294967296+u1+1)*4294967296 by omega);grind
  omega
 refine IK (by omega) ?_;omega
theorem wZ.down (k:Vl u v v1 (u2*4294967296+u1)) (b:4294967296<=k.g\/k.r*4294967296+u0<k.g*v2):natV u/natV v<k.g:=by
 rcases b with b|b
 ·have:=h.q_lt;omega
 have c:=h.eV;have e:=h.eU;have f:=h.ul;refine VN (U:=natV u) (V:=natV v) (L:=4294967296^n) (high:=u2*4294967296+u1) ?_ ?_ (aaQ _ _) k.eq b
 ·omega
 grind
theorem wZ.near {r:Nat} (e:n*v1+r=u2*4294967296+u1) (c:n<=4294967296) (j:n*v2<=r*4294967296+u0):n<=natV u/natV v+1:=by
 have b:=h.eV;have f:=h.eU;have l:=h.top;refine P4 (U:=natV u) (t3:=(u2*4294967296+u1)*4294967296+u0) b h.vl ?_ ?_ ?_ c (by omega)
 ·omega
 ·have:=Nat.lt_div_mul_add (a:=natV u) h.vpos;grind
 grind
theorem wZ.vlt:natV v<=4294967296^(n+2):=aac (by have:=fW h.lv;rw[h.nv]at this;exact this)
theorem wZ.right (f:O5 u v m) (o:f.i=n+2) (j:natV u/natV v<=m) (q:f.c+f.b<=u2):m=natV u/natV v/\f.us++[u2-(f.c+f.b)]=bE (n+3) (natV u%natV v):=by
 have r:=f.val;rw[o,X3 (by rw[h.nv];omega)]at r;have p:=aX h.hu2;rw[X3 (by rw[h.nu];omega)]at p;have l:f.us.length=n+2:=by rw[f.len,o]
 have e:natV (f.us++[u2-(f.c+f.b)])+m*natV v=natV u:=by
  grind [nQ,Nat.sub_add_cancel]
 obtain⟨s,t⟩:=Mj rfl j e h.vpos;refine⟨s,Cc (mZ f.lmb ?_) (by simp[l]) t⟩;have:=h.bu2;omega
theorem wZ.left (f:O5 u v m) (x:f.i=n+2) (p:m<=natV u/natV v+1) (y:u2<f.c+f.b) (F:j=u2+4294967296-(f.c+f.b)) (a:RT (f.us++[j]) v) (l:a.i=n+2):
  m=natV u/natV v+1/\a.us++[(j+a.c)%4294967296]=bE (n+3) (natV u%natV v):=by
 have G:=f.val;rw[x,X3 (by rw[h.nv];omega)]at G;have s:=aX h.hu2;rw[X3 (by rw[h.nu];omega)]at s;have r:f.us.length=n+2:=by rw[f.len,x]
 have C:=h.bu2;have E:=f.hc;have D:=f.hb;have o:=a.val;have z:(f.us++[j]).take (n+2)=f.us:=by grind
 rw[l,z,X3 (by rw[h.nv];omega)]at o;have w:=fW a.lmb;rw[a.len,l]at w;have e:natV f.us+j*4294967296^(n+2)+m*natV v=natV u+4294967296*4294967296^(n+2):=by
  rw[s];have:j*4294967296^(n+2)+(f.c+f.b)*4294967296^(n+2)=(u2+4294967296)*4294967296^(n+2):=by
   rw[<- YL,F,Nat.sub_add_cancel (by omega)]
  rw[YL u2]at this;omega
 have q:natV u<m*natV v:=by
  have A:=fW f.lmb;rw[r]at A;have B:(u2+1)*4294967296^(n+2)<=(f.c+f.b)*4294967296^(n+2):=XX _ (by omega);rw[YL u2 1,ZH]at B;omega
 obtain⟨H,I,J⟩:=P3 (T:=natV f.us) (t:=j) (c:=a.c) (W:=natV a.us) (Bn:=4294967296^(n+2)) rfl p e q h.vpos h.vlt w rfl o a.hc (by omega);refine⟨H,Cc (mZ a.lmb (Yk _ (by omega))) (by simp[a.len,l]) ?_⟩;grind [nQ]
end
end
end Go.Proofs.YtalmoejhjceflaaGreat
