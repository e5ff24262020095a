/-
  Part 43 of a proof (walks and plain facts).
-/
import Derived.Test.YtalmoejhjceflaaGreatQ41
set_option linter.all false
set_option maxRecDepth 100000
set_option maxHeartbeats 64000000
open Nat renaming reduceAdd → aa
open Nat renaming reduceEqDiff → ab
open List renaming replicate → ae
namespace Go.Proofs.YtalmoejhjceflaaGreat
open Go.RowKit Go.Proofs.Tryz
variable {n:Nat} {x:Int} {b:FF}
structure yH where
 left:Int
 steps:List Int
 stop:Bool
variable {c:yH}
def E6 (n m:Nat) (c:Int) (g:yH):yH×Bool:=if g.left<c\/c<0\/m<1\/n<m then(⟨g.left,g.steps,true⟩,false)else(⟨g.left-c,g.steps.set (m-1) (g.steps.getD (m-1) 0+c),false⟩,true)
def aaP (n:Nat) (g:yH):Prop:=g.stop=false/\0<=g.left/\g.left<=1000000/\g.steps.length=n/\ ∀z∈g.steps,0<=z/\z+g.left<=1000000
theorem aaQ {m:Nat} (h:aaP n c) (f:(E6 n m x c).2=true):aaP n (E6 n m x c).1:=by
 unfold E6 at f⊢;split
 ·grind
 rename_i r;obtain⟨l,o,p,q,b⟩:=h;have s:0<=c.steps.getD (m-1) 0/\c.steps.getD (m-1) 0+c.left<=1000000:=by
  rw[acm];cases e:c.steps[m-1]? with
  |none=>grind
  |some z=>exact b z (acd e)
 refine⟨rfl,by grind,by grind,by grind,fun z j=>?_⟩;grind
def M6 (n:Nat) (g:yH):OH:=Hm [(7,[⟨29,1,[[.p (.raw (.int .i64 (if g.stop=true then 9 else 0)))]]⟩]),(9,[⟨2,1,[[.p (.raw (.int .i64 g.left))]]⟩]),(900,[⟨28,1,[[.sl 900 1 0 n]]⟩,⟨3,1,lc fI g.steps⟩,⟨28,1,[[.p (.raw (.slice none 0 0))]]⟩])]
theorem TR (n:Nat) (g:yH):AU (M6 n g):=fun a o b e f x c=>by
 unfold M6 Hm at b;split at b
 ·simp only[aco]at b;subst b;simp only[aco]at f;subst f;simp only[aco]at c;subst c;rfl
 unfold Hm at b;split at b
 ·simp only[aco]at b;subst b;simp only[aco]at f;subst f;simp only[aco]at c;subst c;rfl
 unfold Hm at b;split at b
 ·simp only[acR,ado,or_false]at b;rcases b with rfl|rfl|rfl
  ·simp only[aco]at f;subst f;simp only[aco]at c;subst c;rfl
  ·obtain⟨z,_,rfl⟩:=acn.1 f;simp only[fI,acA,acT,aco]at c;subst c;rfl
  simp only[aco]at f;subst f;simp only[aco]at c;subst c;rfl
 grind [Hm]
def sxJ (g:yH):Option Code:=if g.stop=true then some .ret else none
def sxR (g:yH):TV:=if g.stop=true then .tup [(false,[.p (.raw (.slice none 0 0))]),(false,[.p (.raw (.int .i64 9))])]else .tup [(false,[.p (.sl (ls fI g.steps))]),(false,[.p (.raw (.int .i64 0))])]
abbrev Xs:List TV:=(j4 (jk::jk::.one (.ptr 900 2 0 0)::.one (.ptr 7 0 0 0)::.one (.ptr 900 0 0 0)::.one (.ptr 9 0 0 0)::j16 (j16 (j16 (jk::jk::[])))))
theorem Pq {e:yH} (h:e.steps.length=c.steps.length): ∀(x r:Nat) (o:OObj),(M6 n c x)[r]?=some o-> ∃b:OObj,(M6 n e x)[r]?=some b/\b.es=o.es/\b.elems.length=o.elems.length:=fun x r o f=>by
 simp only[M6,Hm]at f⊢;grind [jY]
theorem Mq {e:Type} {J:e->Prop} {b:Int->e->e×Bool} (h: ∀c g,J g->J (b c g).1): ∀(m:Nat) (x:Int) (g:e),J g->J (lpM b m x g).1
 |0,_,_,f=>f
 |m+1,x,g,f=>by
  have k:=h x g f;unfold lpM;generalize b x g=r at*
  obtain⟨j,t⟩:=r;cases t with
  |true=>exact Mq h m _ _ k
  |false=>exact k
theorem Ng {e:Type} {J:e->Prop} {j:Nat->Int->e->e×Bool} (h: ∀m c g,J g->J (j m c g).1) (f:FF) (n:Nat) (B:Int): ∀(k:Nat) (y:List Int) (g:e),J g->J (kX j f n B k y g).1
 |0,y,g,b=>h _ _ g b
 |k+1,y,g,b=>by
  have q:=h (n-(k+1)) (cq f n B (k+1) (aJ n y)-b9 f n B (k+1) (aJ n y)+1) g b;unfold kX;generalize j (n-(k+1)) (cq f n B (k+1) (aJ n y)-b9 f n B (k+1) (aJ n y)+1) g=r at*
  obtain⟨l,t⟩:=r;cases t with
  |true=>exact Mq (fun c g b=>Ng h f n B k (c::y) g b) _ _ _ q
  |false=>exact q
theorem aaR {b:Type} {J:b->Prop} {j:Nat->Int->b->b×Bool} (h: ∀m c g,J g->J (j m c g).1) (f:FF) (n:Nat) (B:Int) (g:b) (e:J g):J (Nd j f n B g):=by
 unfold Nd;split
 ·exact h _ _ g e
 exact Ng h f n B _ _ g e
theorem M7 {m:Nat} (h:c.steps.length=n):(E6 n m x c).1.steps.length=n:=by
 grind [E6]
theorem Qm {s:AS} {a:Nat} {b:List Int} {M:List (List Int)} (c:s.H a=wkO a x n (n+1) n (ae n 0) b M):bJ s ⟨s.tmps,aF s.H a (vu a x n n [] b M)⟩:=by
 have h:=n4 (s:=s) a 1 (o:=⟨2,1,lc fI (ae n 0)⟩) (o':=⟨2,1,iE n++lc fI []⟩) (by rw[c];rfl) rfl rfl (by simp only[kS,jY,acX,aei];omega) fun i e f=>by
  grind [iE,lc,fI]
 grind
theorem YH (n:Nat):ae n [AV.p (.raw (.int .i64 0))]=lc fI (ae n 0):=by simp[lc,fI]
theorem Vb {k:Int} (u:WkH n b) (O:isReducedM (mat n n b)=true) (P:TlH n b x) (h0:0<=x) (X:x<=4611686018427387904) (hc:n=1\/x<1073741824) (y:0<=k) (A:k<=1000000):
  CallC prog 87 [cw (mat n n b),.raw (.int .i64 x),.raw (.int .i64 k)] ⟨[],sxR (Nd (E6 n) b n x ⟨k,ae n 0,false⟩)⟩:=by
 have ac:=u.n1;have T:=u.n16;have r:=aU n n b;have v:=fg (mat n n b);rw[O]at v;have N:=OG u x;refine F4 func87 rfl (by kernel_rfl) ?_;rw[ntmps87];refine tB ?_;refine Yc (k:=?_);show Fi _ _ _ _;refine QB ⟨(cw (mat n n b)::.raw (.int .i64 x)::.raw (.int .i64 k)::jk::jk::jk::.one (.ptr 6 0 0 0)::.one (.ptr 7 0 0 0)::j16 (j16 (j16 (j4 ([]))))),Hm [(6,[⟨28,1,[[.p (.raw (.slice none 0 0))]]⟩]),(7,[⟨29,1,[[.p (.raw (.int .i64 0))]]⟩])]⟩ (am ?_) ?_
 ·refine bj [⟨1,_,_,_,v⟩] (k:=ao rfl (ai (ar (k:=ao rfl (ar (k:=ao rfl (ar (k:=ao rfl (bu (k:=ao rfl ?_))))))))));by_cases S:n=1
  ·subst S;refine aH r (k:=ao rfl (ak ?_));refine aj ⟨rfl,rfl,trivial⟩ ?_;simp[wk]
  have hB:=hc.resolve_left S;refine aH r (k:=ao rfl (ak ?_));refine aj ⟨rfl,rfl,trivial⟩ ?_;simp[wk]
 refine tB ?_;refine Nw 4 [] [] (by simp[wk]) (by decide) fun _ K=>?_;simp(disch:=omega) only[kd,aa,cw,r,ab];apply K
 refine⟨_,nf 8 36 900 rfl rfl rfl (by simp[eB,isPure]) (fun e Q j C=>by rw[YH]at Q;exact bL 3 1 _ e Q j C) (by omega) (by omega) (by omega),by simp[wk],?_⟩;simp only[acA,acT,Oj,aeK,oW,gW,rY];intro _ K;simp(disch:=omega) only[kd,ab];apply K;show Fi _ _ _ _;refine Fi.weak ((Qi 6 900 rfl (by simp[eB,isPure]) (by omega) (by omega)).trans (aj (tm:=(cw (mat n n b)::.raw (.int .i64 x)::.raw (.int .i64 k)::jk::jk::jk::.one (.ptr 900 2 0 0)::.one (.ptr 7 0 0 0)::.one (.ptr 900 0 0 0)::j16 (j16 (j16 (jk::jk::jk::[]))))) (l:=[(7,[⟨29,1,[[.p (.raw (.int .i64 0))]]⟩]),(900,[⟨28,1,[[.sl 900 1 0 n]]⟩,⟨3,1,lc fI (ae n 0)⟩,⟨28,1,[[.p (.raw (.slice none 0 0))]]⟩])]) ⟨rfl,?_,trivial⟩ ?_)) ?_
 ·rw[<- YH];rfl
 ·simp[wk,oW,gW,rY,aF,Hm]
 refine tB ?_;refine bu (k:=?_);show Fi _ _ _ _;refine tB ?_;refine Yd [⟨2,_,_,_,N⟩] (k:=?_);show Fi _ _ _ _;refine Fi.weak ((Qm (a:=40) rfl).trans (aj (tm:=(j4 (jk::jk::.one (.ptr 900 2 0 0)::.one (.ptr 7 0 0 0)::.one (.ptr 900 0 0 0)::.one (.ptr 9 0 0 0)::.one (.ptr 40 0 0 0)::j16 (j16 (j16 (jk::[])))))) (l:=[(7,[⟨29,1,[[.p (.raw (.int .i64 0))]]⟩]),(9,[⟨2,1,[[.p (.raw (.int .i64 k))]]⟩]),(40,vu 40 x n n [] (aN (n+1) (dk b)) (gy n b n)),(900,[⟨28,1,[[.sl 900 1 0 n]]⟩,⟨3,1,lc fI (ae n 0)⟩,⟨28,1,[[.p (.raw (.slice none 0 0))]]⟩])]) ⟨rfl,rfl,rfl,rfl,trivial⟩ ?_)) ?_
 ·simp[wk]
 have s:aaP n ⟨k,ae n 0,false⟩:=⟨rfl,y,A,by simp,fun z D=>by
  grind⟩
 have q:(yH.steps (Nd (E6 n) b n x ⟨k,ae n 0,false⟩)).length=n:=aaR (J:=fun g:yH=>g.steps.length=n) (fun m c g h=>M7 h) b n x _ (by simp);refine IY (tml:=Xs) (H:=M6 n) (jump:=sxJ) (hH:=TR n) (ht:=rfl) (g0:=⟨k,ae n 0,false⟩) (g1:=Nd (E6 n) b n x ⟨k,ae n 0,false⟩) (ap:=(0,0,0)) (fa:=40) (F:=vu 0 x n n [] (aN (n+1) (dk b)) (gy n b n)) (F':=vu 0 x n n [] (aN (n+1) (dk b)) (gy n b n)) (rf:= .tup []) (f:=131) (k:=41) [] [] ?_ ?_ ?_ (by omega) rfl rfl ?_ ?_
 ·simp
 ·decide
 ·intro R ρ hl I L M;refine Xv P (fun m c g hg X h2 h3 h4=>?_) (fun m c g h=>aaQ h) _ s;obtain⟨E,q2,q3,G,U⟩:=hg;refine Ll I rfl rfl (by simp[sxJ,E]) (Pq ((M7 G).trans G.symm)) ?_;rw[L,M];clear I L M hl N v P q s u O;obtain⟨left,steps,stop⟩:=g;simp only at E q2 q3 G U;subst E;obtain⟨z,D⟩: ∃z,steps[m-1]?=some z:=⟨_,acy (by omega)⟩;have ad:=U z (acd D);have V:IntKind.i64.wrap ((m:Int)-1)=((m-1:Nat):Int):=by grind [aL]
  by_cases w:left<c
  ·have e:E6 n m c ⟨left,steps,false⟩=(⟨left,steps,true⟩,false):=if_pos (.inl w);rw[e];refine jR fun _ K=>?_;simp(disch:=omega) only[kd,o9,adx,tD,pF,Xs,M6,Bw];apply K
   refine vP fun _ K=>?_;simp(disch:=omega) only[kd,o9,adx,tD,pF,Bw];apply K
   refine⟨rfl,Cc ?_⟩;refine DA (jR fun _ K=>?_);simp(disch:=omega) only[kd,o9,adx,tD,pF,Bw,ab];apply K;refine FL rfl (fun _=>?_) (fun h=>by cases h);refine jR fun _ K=>?_;simp(disch:=omega) only[kd,o9,adx,tD,pF,Bw,ab];apply K
   refine LE ?_;refine⟨?_,.inr ⟨rfl,rfl,rfl⟩⟩;funext j;by_cases Y:j=7
   ·subst Y;rfl
   by_cases o:j=900
   ·subst o;rfl
   simp_all[M6,Hm,aF]
  have e:E6 n m c ⟨left,steps,false⟩=(⟨left-c,steps.set (m-1) (steps.getD (m-1) 0+c),false⟩,true):=if_neg (by grind);have W:steps.getD (m-1) 0=z:=by grind
  rw[e,W];refine jR fun _ K=>?_;simp(disch:=omega) only[kd,o9,adx,tD,pF,Xs,M6,Bw];apply K
  refine vP fun _ K=>?_;simp(disch:=omega) only[kd,o9,adx,tD,pF,Bw];apply K
  refine⟨rfl,Cc ?_⟩;refine DA (jR fun _ K=>?_);simp(disch:=omega) only[kd,o9,adx,tD,pF,Bw,ab];apply K;refine FL rfl (fun h=>by cases h) (fun _=>Qy ?_);show yU _ _ _ _ _ _ _;refine jR fun _ K=>?_;simp(disch:=omega) only[kd,o9,adx,tD,pF,Bw,ab,aL];apply K
  refine vP fun _ K=>?_;simp(disch:=omega) only[kd,o9,adx,tD,pF,Bw,ab,V,D,aL];apply K
  refine⟨?_,.inl ⟨rfl,rfl,rfl⟩⟩;funext j;by_cases Z:j=9
  ·subst Z;rfl
  by_cases o:j=900
  ·simp_all[M6,Hm,aF,lc,fI]
  simp_all[M6,Hm,aF]
 ·simp(disch:=omega) only[kd,adD,aa,Nat.reduceSub,M6,Xs,ab];refine⟨by decide,by rw[jp];simp[lc],?_,?_⟩
  ·grind [aF]
  have hq: ∀l:List TV,wkL [7,9,900] l Xs-> ∀(t:Nat) j,Xs[t]?=some j->j=jk\/l[t]?=some j:=fun l h t j C=>((Fe h).2 t j C).imp_right fun h=>h.1
  exact hq _ (by unfold Xs;simp[wk])
 intro ρ ds;generalize Nd (E6 n) b n x ⟨k,ae n 0,false⟩=g at*
 obtain⟨left,steps,stop⟩:=g;cases stop with
 |true=>
  refine⟨rfl,_,bJ.refl _,?_,rfl⟩;simp(disch:=omega) only[kd,results87,Xs,M6,ab,sxR]
 |false=>
  show yU _ _ _ _ _ _ _;simp only at q;refine jR fun _ K=>?_;simp(disch:=omega) only[kd,o9,adx,tD,pF,Xs,M6,Bw,ab];apply K
  refine LE ⟨.inr rfl,_,yI 900 1 (o0:=⟨3,1,lc fI steps⟩) rfl (bL _ _ _),?_,rfl⟩;simp only[acA,acT,Me,iZ,t8];simp(disch:=omega) only[kd,results87,ab,reduceCtorEq,t8,iZ,sxR];grind
abbrev M5 (e:Int):TV:= .tup [(false,[.p (.raw (.slice none 0 0))]),(false,[.p (.raw (.int .i64 e))])]
theorem U8 (M:List (List Int)) (B k:Int) (h:isReducedM M=false):CallC prog 87 [cw M,.raw (.int .i64 B),.raw (.int .i64 k)] ⟨[],M5 6⟩:=by
 have b:=fg M;rw[h]at b;refine ax func87 rfl ntmps87 (aA (k:=ai (am (bj [⟨1,_,_,_,b⟩] (k:=az rfl (ar (k:=aE @results87)))))))
theorem U9 (M:List (List Int)) (B k:Int) (h:isReducedM M=true) (g:B<0\/4611686018427387904<B\/k<0\/1000000<k):CallC prog 87 [cw M,.raw (.int .i64 B),.raw (.int .i64 k)] ⟨[],M5 1⟩:=by
 have b:=fg M;rw[h]at b;refine ax func87 rfl ntmps87 (aA (k:=ai (am (bj [⟨1,_,_,_,b⟩] (k:=ao rfl (ai ?_))))));by_cases c:B<0
 ·refine ar (k:=az rfl (ak (az rfl (ar (k:=aE @results87)))))
 refine ar (k:=ao rfl ?_);by_cases e:4611686018427387904<B
 ·refine ar (k:=az rfl (ak (az rfl (ar (k:=aE @results87)))))
 refine ar (k:=ao rfl ?_);by_cases f:k<0
 ·refine ar (k:=az rfl (ak (az rfl (ar (k:=aE @results87)))))
 refine ar (k:=ao rfl (bu (k:=az rfl (ar (k:=aE @results87)))))
theorem Va (M:List (List Int)) (B k:Int) (h:isReducedM M=true) (g:0<=B) (j:B<=4611686018427387904) (c:0<=k) (e:k<=1000000) (m:1<M.length) (f:M.length<=1000) (l:1073741824<=B):CallC prog 87 [cw M,.raw (.int .i64 B),.raw (.int .i64 k)] ⟨[],M5 9⟩:=by
 have b:=fg M;rw[h]at b;refine ax func87 rfl ntmps87 (aA (k:=ai (am (bj [⟨1,_,_,_,b⟩] (k:=ao rfl (ai (ar (k:=ao rfl (ar (k:=ao rfl (ar (k:=ao rfl (bu (k:=ao rfl (ar (k:=az rfl (ar (k:=aE @results87))))))))))))))))))
abbrev okP (b:Nat):PV:= .raw (.pointer (some ⟨b,0,none⟩))
abbrev YD:List PV:=[.raw (.bool true)]
theorem aaU (e:Nat) {c:Nat} {i j:Nat} (o:i<n) (q:j<c) (t:n<=16) (s:c<=16) (h:I64 (b i j)):
  CallT prog e 4 241 [.raw (.int .i64 (i:Int)),.raw (.int .i64 (j:Int)),.one (.p (.ptr (mM (mat n c b)))),.one (.p (okP e))] YD ⟨[],.raw (.int .i64 (b i j))⟩ YD:=by
 have r:=bD c b o;have m:=aB (b i) q;have g:=GF (b i j) h.bg;rw[abs h]at g;refine lU func241 rfl (by kernel_rfl) ?_;rw[ntmps241];refine FO 3 900 rfl rfl ?_;refine fX.weak (aj (tm:=(.raw (.int .i64 (i:Int))::rN j::.one (.p (.ptr (mM (mat n c b))))::.one (.ptr 900 0 0 0)::j16 (j4 (jk::[])))) (l:=[(900,[⟨4,1,[[.p (.raw (.bool true))]]⟩])]) ⟨rfl,trivial⟩ (by simp[wk,Jd,y9,ae])) ?_;refine dm (k:=Zi [⟨7,_,_,_,g⟩] (aC r m) (k:=dm (k:=dm (k:=?_))));refine eK ⟨YD,rfl,rfl,.inr rfl,rfl,b8 rfl ?_ rfl⟩;simp(disch:=omega) only[kd,results241,xI,kU]
theorem QV (b:Nat) (n c:Nat) (f:FF) (A:1<=n) (z:n<=16) (v:1<=c) (u:c<=16) (w: ∀i j,i<n->j<c->I64 (f i j)):
  CallT prog b 4 240 [.raw (.int .i64 (n:Int)),.raw (.int .i64 (c:Int)),.fn 241 [.p (.ptr (mM (mat n c f))),.p (okP b)]] YD ⟨[],cw (mat n c f)⟩ YD:=by
 refine lU func240 rfl (by kernel_rfl) ?_;rw[ntmps240];refine Yg (k:=dy (k:=cd (dy (k:=?_))));refine lR (G:=fY n) (fun g=>⟨(jk::rN c::.fn 241 [.p (.ptr (mM (mat n c f))),.p (okP b)]::j4 (.one (.sl 11 0 0 n)::j4 (jk::rN n::rN g.i::j16 (j4 (j4 (j4 ([]))))))),Hm [(11,kI 11 n c g.i (part f g.i 0))]⟩) (fun _=>YD) (fun g=>n-g.i) ⟨0,by omega⟩ ?_ rfl ?_
 ·refine aj ⟨?_,trivial⟩ ?_
  ·rfl
  simp[wk]
 rintro⟨i,x⟩;simp only;by_cases m:i<n
 ·have B:=D2 (i:=i) (n:=n) 11 c m;have I:=qa (i:=i) (n:=n) 11 c x;have C:=aU i c (part f i 0);have D:=xZ (i:=i) (n:=n) (c:=c) 11 (part f i 0) m (fun j y=>by grind [part]);have r:=zV (i:=i+1) (k:=i) (n:=n) 11 c (by omega);have J:=qa (i:=i+1) (n:=n) 11 c (by omega);have L:=ff (n:=i+1) c (part f i 0) (i:=i) (by omega);refine dy (k:=vR rfl (cd (dx (dy (k:=mm (aC B (aC @acX (aC @aeu C))) (k:=?_))))));refine eH.weak (aj (tm:=(jk::rN c::.fn 241 [.p (.ptr (mM (mat n c f))),.p (okP b)]::j4 (.one (.sl 11 0 0 n)::rN i::j4 (.raw (.int .i64 (n:Int))::rN i::j16 (j4 (j4 (j4 ([])))))))) (l:=[(11,kI 11 n c (i+1) (part f i 0))]) ⟨?_,trivial⟩ (by simp[wk])) ?_
  ·first|exact D|rfl
  refine mm r (k:=?_);refine lR (G:=fY c) (fun g=>⟨(jk::rN c::.fn 241 [.p (.ptr (mM (mat n c f))),.p (okP b)]::j4 (.one (.sl 11 0 0 n)::rN i::j4 (.raw (.int .i64 (n:Int))::rN i::j4 (j4 (jk::jk::jk::rN c::rN g.i::j4 (j4 (j4 (jk::jk::jk::[])))))))),Hm [(11,kI 11 n c (i+1) (part f i g.i))]⟩) (fun _=>YD) (fun g=>c-g.i) ⟨0,by omega⟩ ?_ rfl ?_
  ·refine aj ⟨rfl,trivial⟩ ?_;simp[wk]
  rintro⟨j,y⟩;simp only;by_cases h:j<c
  ·have s:=aaU b m h z u (w i j m h);have E:=ff (n:=i+1) c (part f i j) (i:=i) (by omega);have F:=aB (part f i j i) h;refine dy (k:=vR rfl (cd (dx (dy (k:=?_)))));refine lS cu 8 s [] [] (by kernel_rfl) (by kernel_rfl) (by rfl) (by rfl) fun _ K=>?_;simp(disch:=omega) only[kd,aa,r,E,F,jr];apply K
   show eH _ _ _ _ _ _ _;refine xB (k:=?_);refine⟨⟨j+1,by omega⟩,by grind,aj ⟨?_,trivial⟩ ?_,rfl⟩
   ·show _::_=_::_;rw[iQ fun a b _ _=>ik f i j a b]
   simp[wk]
  have q:j=c:=by omega
  subst q;refine dy (k:=vQ rfl (xB (k:=?_)));refine⟨⟨i+1,by omega⟩,by grind,aj ⟨?_,trivial⟩ ?_,rfl⟩
  ·grind [iQ,jx]
  simp[wk]
 have o:i=n:=by omega
 subst o;refine dy (k:=vQ rfl (dy (k:=?_)));refine eH.weak ((bF 11 (gu (n:=i) (c:=c) (f:=part f i 0) (JT 11 i c (part f i 0)))).trans (aj (tm:=(j4 (jk::jk::cw (mat i c f)::j16 (j16 (j4 ([])))))) (l:=[]) trivial ?_)) ?_
 ·have e:=xF (H:=Hm [(11,kI 11 i c i (part f i 0))]) (d:=11) (n:=i) (c:=c) (f:=part f i 0) (JT 11 i c (part f i 0));rw[gI fun a b t _=>jw f a b t]at e;simp[wk];exact e.symm
 (refine n7 ⟨.inr rfl,rfl,b8 rfl ?_ rfl⟩;simp(disch:=omega) only[kd,results240,cw])
theorem OX (n c:Nat) (f:FF) (e:1<=n) (o:n<=16) (g:1<=c) (m:c<=16) (r: ∀i j,i<n->j<c->I64 (f i j)):
  CallC prog 203 [dr (mat n c f)] ⟨[],.tup [(false,[.p (.sl (ls (fR fI) (mat n c f)))]),(false,[.p (.raw (.bool true))])]⟩:=by
 have h:=HU (mat n c f);rw[jB (oP f e o g m),aU,jq f e]at h;refine ax func203 rfl ntmps203 (aA (k:=bE [⟨1,_,_,_,h⟩] (k:=ai (ar (k:=ao rfl (ak ?_))))));refine bA.weak ((tz 1 1 (cs:=mM (mat n c f)) rfl rfl).trans (aj (tm:=(jk::.one (.p (.ptr (mM (mat n c f))))::jk::jk::rN n::rN c::.one (.ptr 6 0 0 0)::j16 ([]))) (l:=[(6,[⟨4,1,[[.p (.raw (.bool true))]]⟩])]) ⟨rfl,trivial⟩ (by simp[wk,fk,dP]))) ?_;refine ai (yK 6 (cs:=YD) rfl fun b=>?_);refine eH.weak (aj (tm:=(jk::.one (.p (.ptr (mM (mat n c f))))::jk::jk::rN n::rN c::dC b::j16 ([]))) (l:=[]) trivial (by simp[wk,xI,kU])) ?_;have q:=QV b n c f e o g m r;refine iX 3 q [] [] (by kernel_rfl) (by rfl) (by rfl) fun _ K=>?_;simp only[kd,mM,cw,aa,dC,ko];apply K
 refine⟨rfl,?_⟩;show bA _ _ _ _;refine bA.weak (aj (tm:=(j4 (jk::jk::.one (.ptr 6 0 0 0)::cw (mat n c f)::j4 (j4 (j4 (jk::jk::jk::[])))))) (l:=[(6,[⟨4,1,[[.p (.raw (.bool true))]]⟩])]) ⟨rfl,trivial⟩ (by simp[wk,Jd,y9])) ?_;refine ai (bi (k:=ao rfl (ak (bi (k:=aE @results203)))))
theorem RH {H:OH} {a:Nat} {j l m:OObj} (h:H a=[j,l,m]) (q: ∀e∈j.elems,∀x∈e,isPure x=true\/(∃c len,x= .sl a 1 c len)\/ ∃c len,x= .sl a 2 c len) (n:eB l) (p:eB m):xG H a:=fun r o b e f x g=>by
 rw[h]at b
 match r with
 |0=>
  grind
 |1=>
  injection b with b
  subst b;exact .inl (n e f x g)
 |2=>
  injection b with b
  subst b;exact .inl (p e f x g)
 |r+3=>simp at b
def StB (n:Nat) (f:FF):Prop:= ∀k i j,k<n->k<=i->i<n->k<=j->j<n->I64 (bk f k i j)
theorem Sb (n:Nat) (f:FF) (k:Nat):List.drop 1 (List.take (n-k) (aN (n-k) (elF f k 0)))=pC n f k:=by
 rw[ack (by rw[aD];omega)];show _=aN _ _;apply acz;intro b;rw[adq];by_cases c:b<n-k-1
 ·rw[aB _ (by omega),aB _ c,adN 1 b];rfl
 grind [aD]
abbrev fmT (n:Nat) (f:FF):TV:= .agg [.p (.sl (ls fI (aN (n+1) (dk f)))),.p (.sl (ls (fR fI) (gy n f n)))]
theorem MA {s:FuncId} (w:s=138\/s=145) (o:WkH n b) (I:StB n b):CallC prog s [cw (mat n n b)] ⟨[],fmT n b⟩:=by
 have g:=o.n1;have A:=o.n16;have u:=xk n n b g A g A o.i;have r:=Fx n b g A fun i j E L=>(o.i i j E L).sz (by omega)
 rw[Bl o.nz]at r;have z:=vg n b n;have B: ∀k,k<n->(xv n b n)[k]?=some (N5 n b k):=fun k M=>by simp[xv,M]
 have N:[[AV.p (.raw (.int .i64 1))]]=lc fI (aN 1 (dk b)):=by
  rfl
 rcases w with rfl|rfl
 all_goals
  first
  |(refine fL func138 rfl (by kernel_rfl) ?_;rw[ntmps138];let D:TypeId:=180)
  |(refine fL func145 rfl (by kernel_rfl) ?_;rw[ntmps145];let D:TypeId:=188)
  (first|refine aw fun _ K=>?_|refine ai (aw fun _ K=>?_)|refine ai (ai (aw fun _ K=>?_)));simp(disch:=omega) only[kd,cw,ae,aa];apply K
  (first|refine bC [⟨1,_,_,_,u⟩] [] fun _ K=>?_|refine ai (bC [⟨1,_,_,_,u⟩] [] fun _ K=>?_)|refine ai (ai (bC [⟨1,_,_,_,u⟩] [] fun _ K=>?_)));simp only[kd,cw,UL,aa];apply K
  (first|refine bC [⟨1,_,_,_,r⟩] [] fun _ K=>?_|refine ai (bC [⟨1,_,_,_,r⟩] [] fun _ K=>?_)|refine ai (ai (bC [⟨1,_,_,_,r⟩] [] fun _ K=>?_)));simp only[kd,dr,aa];apply K
  (first|refine ia 3 [] [22] (by simp[wk]) (by decide) fun _ K=>?_|refine ai (ia 3 [] [22] (by simp[wk]) (by decide) fun _ K=>?_));simp(disch:=omega) only[kd,aa,Nat.reduceMul,Nat.reduceLeDiff,ab];apply K
  refine⟨_,(nf 7 22 900 rfl rfl rfl (by simp[eB,isPure]) (by simp[eB,isPure]) (by omega) (by omega) (by omega)),by simp[wk],?_⟩;simp only[acA,acT,Oj,aeK,oW,gW,rY];intro _ K;simp(disch:=omega) only[kd,ab,aa];apply K;refine bA.weak (ng 900 0 0 1 35 1 (by omega) rfl rfl rfl) ?_
  (first|refine aw fun _ K=>?_|refine ai (aw fun _ K=>?_)|refine ai (ai (aw fun _ K=>?_)));simp(disch:=omega) only[kd,aa,ab,z];apply K
  refine ay (G:=fY n) (fun q=>⟨(jk::jk::.one (.ptr 2 0 0 0)::j4 (.one (.ptr 900 0 0 0)::j16 (.one (.p (.sl (ls fM (xv n b n))))::rN n::rN q.i::j16 (j4 (j4 (j4 (jk::[]))))))),Hm [(2,[⟨D,2,[[.p (.raw (.slice none 0 0)),.p (.raw (.slice none 0 0))]]⟩]),(900,[⟨D,2,[[.sl 900 1 0 (q.i+1),.sl 900 2 0 q.i]]⟩,⟨2,1,lc fI (aN (q.i+1) (dk b))⟩,⟨35,1,lc (fR fI) (gy n b q.i)⟩])]⟩) (fun q=>n-q.i) ⟨0,by omega⟩ ?_ ?_
  ·refine aj ⟨rfl,?_,trivial⟩ ?_
   ·rfl
   simp[wk]
  rintro⟨i,E⟩;simp only;by_cases F:i<n
  ·have O:=B i F;have v:=OX (n-i) (n-i) (elF b i) (by omega) (by omega) (by omega) (by omega) (fun a c R J=>I i (i+a) (i+c) F (by omega) (by omega) (by omega) (by omega));have H:=bD (n-i) (elF b i) (show 0<n-i by omega);have P:=aB (elF b i 0) (show 0<n-i by omega);have U:=aU (n-i) (n-i) (elF b i);have Q:=aD (n-i) (elF b i 0);have m:=aD (i+1) (dk b);have l:=nt n b i;have C:=Sb n b i;have t:1<=n-i:=by omega
   (first|refine aw fun _ K=>?_|refine ai (aw fun _ K=>?_)|refine ai (ai (aw fun _ K=>?_)));simp(disch:=omega) only[kd];apply K
   first|refine aV rfl ?_|refine ai (bs rfl (fun _=>ak ?_) (fun h=>by simp at h<;>omega))
   refine ai (am ?_)
   (first|refine aw fun _ K=>?_|refine ai (aw fun _ K=>?_)|refine ai (ai (aw fun _ K=>?_)));simp(disch:=omega) only[kd,aa,O,fM];apply K
   (first|refine bC [⟨1,_,_,_,v⟩] [] fun _ K=>?_|refine ai (bC [⟨1,_,_,_,v⟩] [] fun _ K=>?_)|refine ai (ai (bC [⟨1,_,_,_,v⟩] [] fun _ K=>?_)));simp only[kd,dr,aa];apply K
   (first|refine lP cu (by kernel_rfl) fun _ K=>?_|refine ai (lP cu (by kernel_rfl) fun _ K=>?_)|refine ai (ai (lP cu (by kernel_rfl) fun _ K=>?_)));simp(disch:=omega) only[kd,aa,ab,Int.reduceToNat,H,fR,P,np,Nat.reduceMul,Nat.reduceLeDiff,m,Nat.reduceBEq,qb];apply K
   refine pQ (aC H (aC Q (aC t (aC (dW DU) (aC C (aC l @lH)))))) (k:=bu (k:=?_));refine⟨⟨i+1,by omega⟩,by grind,aj ⟨rfl,?_,trivial⟩ ?_⟩
   ·rw[j7 (i+1),<- CC n b i];rfl
   simp[wk]
  have y:i=n:=by omega
  subst y;have m:=aD (i+1) (dk b);have l:=nt i b i
  (first|refine aw fun _ K=>?_|refine ai (aw fun _ K=>?_)|refine ai (ai (aw fun _ K=>?_)));simp(disch:=omega) only[kd];apply K
  first|refine aW rfl ?_|refine ai (bs rfl (fun h=>by simp at h<;>omega) (fun _=>aX ?_))
  show bA _ _ _ _
  (first|refine ia 1 [] [] (by simp[wk]) (by decide) fun _ K=>?_|refine ai (ia 1 [] [] (by simp[wk]) (by decide) fun _ K=>?_));simp only[kd,ab,aa];apply K
  refine⟨_,bF 900 (RH rfl (fun e S x T=>?_) (bL _ _ _) (bL _ _ _)),by simp[wk],?_⟩
  ·grind
  simp only[acA,acT,fk,dP];intro _ K;simp(disch:=omega) only[kd,ab,aa];apply K
  (refine aQ ⟨.inr rfl,b8 rfl ?_ rfl⟩;simp(disch:=omega) only[kd,results138,ab,aa,results145])
  grind
def fV (p:Int×Int):List PV:=[.raw (.int .i64 p.1),.raw (.int .i64 p.2)]
abbrev slV (l:List (Int×Int)):TV:= .one (.p (.sl (ls fV l)))
theorem VS (f:FF) (B:Int) (o:0<f 0 0) (s:f 0 0<=4611686018427387904) (c:0<=B) (x:B<=4611686018427387904):CallC prog 94 [cw (mat 1 1 f),.raw (.int .i64 B)] ⟨[],slV [(-isqF (B/f 0 0),isqF (B/f 0 0))]⟩:=by
 have b:0<=B/f 0 0:=adW c (by omega);have t:B/f 0 0<=B:=ae3 _ c;have w:=pZ b (by omega);have cR:=AL (.inr (.inr rfl)) (B/f 0 0) b (by omega);have h:Int.tdiv B (f 0 0)=B/f 0 0:=adi c;have g:(f 0 0=0)=False:=eq_false (by omega);have e:=aU 1 1 f;have u:=bD (n:=1) 1 f (i:=0) (by omega);have l:=aB (m:=1) (f 0) (j:=0) (by omega);have v:=aD 1 (f 0);show CallC _ _ _ ⟨[],.one (.p (.sl [[.raw (.int .i64 (-isqF (B/f 0 0))),.raw (.int .i64 (isqF (B/f 0 0)))]]))⟩;rw[show -isqF (B/f 0 0)=0-isqF (B/f 0 0) by omega];generalize B/f 0 0=q at*
 generalize isqF q=r at*
 generalize f 0 0=d at*
 refine ax func94 rfl ntmps94 (aA (k:=dR e (k:=ai (ar (k:=az rfl (cj [⟨7,_,_,_,cR⟩] (aC u (aC l h)) (k:=ar (k:=aE @results94))))))))
theorem UV (M:List (List Int)) (B k e:Int) (f:e≠0) (c:CallC prog 87 [cw M,.raw (.int .i64 B),.raw (.int .i64 k)] ⟨[],M5 e⟩):CallC prog 44 [cw M,.raw (.int .i64 B),.raw (.int .i64 k)] ⟨[],M5 e⟩:=by
 have b:(e=0)=False:=eq_false f;refine ax func44 rfl ntmps44 (aA (k:=ai (bj [⟨3,_,_,_,c⟩] (k:=dR b (k:=az rfl (bi (k:=aE @results44)))))))
theorem UW (M:List (List Int)) (B k:Int) (L:List Int) (l:List (Int×Int)) (c:CallC prog 87 [cw M,.raw (.int .i64 B),.raw (.int .i64 k)] ⟨[],.tup [(false,[.p (.sl (ls fI L))]),(false,[.p (.raw (.int .i64 0))])]⟩) (b:CallC prog 94 [cw M,.raw (.int .i64 B)] ⟨[],slV l⟩):
  CallC prog 44 [cw M,.raw (.int .i64 B),.raw (.int .i64 k)] ⟨[],.tup [(false,[.p (.sl (ls fV l))]),(false,[.p (.raw (.int .i64 0))])]⟩:=by
 refine ax func44 rfl ntmps44 (aA (k:=ai (bj [⟨3,_,_,_,c⟩] (k:=ar (k:=ao rfl (ak (bj [⟨2,_,_,_,b⟩] (k:=aE @results44))))))))
section
variable {n:Nat} {f:FF}
theorem sU (b:RedR f n) (l:n<=8) (m: ∀i j,i<n->j<n-> -262144<=f i j/\f i j<=262144):StB n f:=fun k i j o g c h e=>by
 have:=mo l b.1 (fun i c j e=>m i j c e) o (fun t p=>⟨b.2.1 t (by omega),eZ (by omega) l b t (by omega),(b.2.2.2 t (by omega)).1⟩) g c h e;constructor<;>omega
theorem Kl (c:RedR f n) (o:1<=n) (l:n<=8) (m: ∀i j,i<n->j<n-> -262144<=f i j/\f i j<=262144):WkH n f:=by
 have h:=sU c l m;have p: ∀k,k<=n->0<dk f k/\dk f k<65536:=fun k b=>by
  cases k with
  |zero=>rw[ce];omega
  |succ k=>exact⟨c.2.1 k (by omega),eZ (by omega) l c k (by omega)⟩
 refine⟨o,by omega,fun t r=>?_,fun i j q e=>?_,fun k b=>?_,fun k j b e=>?_⟩
 ·grind
 ·have:=m i j q e;constructor<;>omega
 ·have:=p k b;constructor<;>omega
 by_cases g:j<k
 ·rw[DI c.pd (by omega) b g];constructor<;>omega
 exact h k k j b (acs k) b (by omega) e
theorem aar (g:RedR f n) (e:n<=8) (b:0<=x) (c:x<=1073741824):pJ n f x:=⟨g,e,b,c⟩
theorem aaq (b:RedR f n) (l:1<=n) (e:n<=8) (c:0<=x) (h:x<=4611686018427387904) (j:n=1\/x<1073741824):TlH n f x:=by
 by_cases g:n=1
 ·subst g;have m:dk f 1<65536:=eZ (by omega) e b 0 (by omega);exact .inl ⟨rfl,b.2.1 0 (by omega),by omega,c,h⟩
 have:=j.resolve_left g;exact .inr ⟨by omega,b,e,c,by omega⟩
end
theorem Hk {M:List (List Int)} (b:isReducedM M=true):M=mat M.length M.length (ent M)/\1<=M.length/\M.length<=8/\RedR (ent M) M.length/\ ∀i j,i<M.length->j<M.length-> -262144<=ent M i j/\ent M i j<=262144:=by
 obtain⟨e,f,c,g⟩:=(fP M).1 b;obtain⟨_,_,_,h⟩:=jX b;grind [Mt,List.mem_iff_getElem?,mK]
noncomputable def sxA (M:List (List Int)) (B k:Int):TV:=
 if isReducedM M=true then
  if B<0\/4611686018427387904<B\/k<0\/1000000<k then M5 1
  else if 1<M.length/\1073741824<=B then M5 9
  else sxR (Nd (E6 M.length) (ent M) M.length B ⟨k,ae M.length 0,false⟩)
 else M5 6
theorem Av (M:List (List Int)) (B k:Int):CallC prog 87 [cw M,.raw (.int .i64 B),.raw (.int .i64 k)] ⟨[],sxA M B k⟩:=by
 unfold sxA;by_cases b:isReducedM M=true
 ·rw[if_pos b];by_cases f:B<0\/4611686018427387904<B\/k<0\/1000000<k
  ·rw[if_pos f];exact U9 M B k b f
  rw[if_neg f];obtain⟨e,g,h,m,j⟩:=Hk b;by_cases c:1<M.length/\1073741824<=B
  ·rw[if_pos c];exact Va M B k b (by omega) (by omega) (by omega) (by omega) c.1 (by omega) c.2
  rw[if_neg c];have l:M.length=1\/B<1073741824:=by omega
  grind [Vb,Kl,aaq]
 rw[if_neg b];exact U8 M B k (by grind)
theorem Xd (u:pJ n b x) (k:Nat) (y:List Int) (l:List (List PV)) (z:y.length+(k+1)=n) (w:rQ y) (L:l.length=n) (K: ∀i,i<y.length->l[k+1+i]?=some [.raw (.int .i64 (y.getD i 0))]):
  CallC prog 147 [.one (.p (.ptr [.sl (ls fI (aN (n+1) (dk b))),.sl (ls (fR fI) (gy n b n))])),.raw (.int .i64 (k:Int)),.one (.p (.sl l))] ⟨[],.raw (.int .i64 (jb b n k (aJ n y)))⟩:=by
 have J:=u.n8;have E:=zX n b (show k<n by omega);have F:=nt n b n;have s:(pC n b k).length=y.length:=(aD _ _).trans (by omega);have H: ∀i,i<y.length->(pC n b k)[i]?=some (bk b k k (k+(i+1))):=fun i P=>aB _ (by omega)
 have e:=fun m (j:m<=y.length)=>u.shP_c z w j
 have c:=rk b z;have g:xq b k y 0=0:=rfl;have h: ∀i,xq b k y i+bk b k k (k+(i+1))*y.getD i 0=xq b k y (i+1):=fun _=>rfl
 have A:IntKind.i64.wrap ((k:Int)+1)=((k+1:Nat):Int):=aL (by omega) (by omega);rw[<- c];clear u w c;generalize aN (n+1) (dk b)=D at*
 generalize gy n b n=M at*
 generalize pC n b k=r at*
 generalize xq b k y=O at*
 refine ax func147 rfl ntmps147 (aA (k:=bi (k:=ai (aH (aC E s) (k:=?_)))));refine ay (G:=fY y.length) (fun q=>⟨(jk::rN k::.one (.p (.sl l))::j4 (.raw (.int .i64 (O q.i))::j4 (j4 (eF r::rN y.length::rN q.i::j16 (jk::[]))))),Hm []⟩) (fun q=>y.length-q.i) ⟨0,by omega⟩ ?_ ?_
 ·refine aj trivial ?_;simp[wk,g]
 rintro⟨i,I⟩;simp only;by_cases j:i<y.length
 ·have o:=H i j;have Q:=e i (by omega);have R:=e (i+1) (by omega);have N:=h i;have C:IntKind.i64.wrap (((k+1:Nat):Int)+(i:Int))=((k+1+i:Nat):Int):=by grind [aL]
  have v:=K i j;generalize bk b k k (k+(i+1))=q at*
  generalize y.getD i 0=S at*
  refine ar (k:=aV rfl (ai (am (aH o (k:=dF (aC A (aC C (aC v N))) (k:=bu (k:=?_)))))));refine⟨⟨i+1,by omega⟩,by grind,aj trivial ?_⟩;simp[wk]
 have t:i=y.length:=by omega
 subst t;refine ar (k:=aW rfl (bi (k:=aE @results147)))
end Go.Proofs.YtalmoejhjceflaaGreat
