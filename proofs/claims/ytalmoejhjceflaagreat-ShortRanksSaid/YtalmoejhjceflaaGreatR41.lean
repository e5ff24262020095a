/-
  Part 42 of a proof (walks and plain facts).
-/
import Derived.Test.YtalmoejhjceflaaGreatR40
set_option linter.all false
set_option maxRecDepth 100000
set_option maxHeartbeats 64000000
open Nat renaming reduceAdd → aa
open Nat renaming reduceEqDiff → ab
open List renaming replicate → ae
namespace Go.Proofs.YtalmoejhjceflaaGreat
open Go.RowKit Go.Proofs.Tryz
variable {n:Nat} {x:Int} {b:FF}
structure vq where
 left:Int
 steps:List Int
 stop:Bool
variable {c:vq}
def Cb (n m:Nat) (c:Int) (g:vq):vq×Bool:=if g.left<c\/c<0\/m<1\/n<m then(⟨g.left,g.steps,true⟩,false)else(⟨g.left-c,g.steps.set (m-1) (g.steps.getD (m-1) 0+c),false⟩,true)
def XA (n:Nat) (g:vq):Prop:=g.stop=false/\0<=g.left/\g.left<=1000000/\g.steps.length=n/\ ∀z∈g.steps,0<=z/\z+g.left<=1000000
theorem XD {m:Nat} (h:XA n c) (f:(Cb n m x c).2=true):XA n (Cb n m x c).1:=by
 unfold Cb at f⊢;split
 ·grind
 rename_i r;obtain⟨l,o,p,q,b⟩:=h;have s:0<=c.steps.getD (m-1) 0/\c.steps.getD (m-1) 0+c.left<=1000000:=by
  rw[aaw];cases e:c.steps[m-1]? with
  |none=>grind
  |some z=>exact b z (aai e)
 refine⟨rfl,by grind,by grind,by grind,fun z j=>?_⟩;grind
def JO (n:Nat) (g:vq):OH:=Hm [(7,[⟨29,1,[[.p (.raw (.int .i64 (if g.stop=true then 9 else 0)))]]⟩]),(9,[⟨2,1,[[.p (.raw (.int .i64 g.left))]]⟩]),(900,[⟨28,1,[[.sl 900 1 0 n]]⟩,⟨3,1,lc fI g.steps⟩,⟨28,1,[[.p (.raw (.slice none 0 0))]]⟩])]
theorem Qv (n:Nat) (g:vq):xF (JO n g):=fun a o b e f x c=>by
 unfold JO Hm at b;split at b
 ·simp only[aaq]at b;subst b;simp only[aaq]at f;subst f;simp only[aaq]at c;subst c;rfl
 unfold Hm at b;split at b
 ·simp only[aaq]at b;subst b;simp only[aaq]at f;subst f;simp only[aaq]at c;subst c;rfl
 unfold Hm at b;split at b
 ·simp only[aaR,abj,or_false]at b;rcases b with rfl|rfl|rfl
  ·simp only[aaq]at f;subst f;simp only[aaq]at c;subst c;rfl
  ·obtain⟨z,_,rfl⟩:=aau.1 f;simp only[fI,aaI,aaY,aaq]at c;subst c;rfl
  simp only[aaq]at f;subst f;simp only[aaq]at c;subst c;rfl
 grind [Hm]
def sxJ (g:vq):Option Code:=if g.stop=true then some .ret else none
def XC (g:vq):TV:=if g.stop=true then .tup [(false,[.p (.raw (.slice none 0 0))]),(false,[.p (.raw (.int .i64 9))])]else .tup [(false,[.p (.sl (ls fI g.steps))]),(false,[.p (.raw (.int .i64 0))])]
abbrev Ue:List TV:=(j4 (jk::jk::.one (.ptr 900 2 0 0)::.one (.ptr 7 0 0 0)::.one (.ptr 900 0 0 0)::.one (.ptr 9 0 0 0)::j16 (j16 (j16 (jk::jk::[])))))
theorem L8 {e:vq} (h:e.steps.length=c.steps.length): ∀(x r:Nat) (o:OObj),(JO n c x)[r]?=some o-> ∃b:OObj,(JO n e x)[r]?=some b/\b.es=o.es/\b.elems.length=o.elems.length:=fun x r o f=>by
 simp only[JO,Hm]at f⊢;grind [my]
theorem I9 {e:Type} {J:e->Prop} {b:Int->e->e×Bool} (h: ∀c g,J g->J (b c g).1): ∀(m:Nat) (x:Int) (g:e),J g->J (lpM b m x g).1
 |0,_,_,f=>f
 |m+1,x,g,f=>by
  have k:=h x g f;unfold lpM;generalize b x g=r at*
  obtain⟨j,t⟩:=r;cases t with
  |true=>exact I9 h m _ _ k
  |false=>exact k
theorem J5 {e:Type} {J:e->Prop} {j:Nat->Int->e->e×Bool} (h: ∀m c g,J g->J (j m c g).1) (f:FF) (n:Nat) (B:Int): ∀(k:Nat) (y:List Int) (g:e),J g->J (jw j f n B k y g).1
 |0,y,g,b=>h _ _ g b
 |k+1,y,g,b=>by
  have q:=h (n-(k+1)) (fC f n B (k+1) (aY n y)-eB f n B (k+1) (aY n y)+1) g b;unfold jw;generalize j (n-(k+1)) (fC f n B (k+1) (aY n y)-eB f n B (k+1) (aY n y)+1) g=r at*
  obtain⟨l,t⟩:=r;cases t with
  |true=>exact I9 (fun c g b=>J5 h f n B k (c::y) g b) _ _ _ q
  |false=>exact q
theorem XF {b:Type} {J:b->Prop} {j:Nat->Int->b->b×Bool} (h: ∀m c g,J g->J (j m c g).1) (f:FF) (n:Nat) (B:Int) (g:b) (e:J g):J (JV j f n B g):=by
 unfold JV;split
 ·exact h _ _ g e
 exact J5 h f n B _ _ g e
theorem JP {m:Nat} (h:c.steps.length=n):(Cb n m x c).1.steps.length=n:=by
 grind [Cb]
theorem M3 {s:AS} {a:Nat} {b:List Int} {M:List (List Int)} (c:s.H a=XR a x n (n+1) n (ae n 0) b M):bG s ⟨s.tmps,ax s.H a (rW a x n n [] b M)⟩:=by
 have h:=l8 (s:=s) a 1 (o:=⟨2,1,lc fI (ae n 0)⟩) (o':=⟨2,1,gh n++lc fI []⟩) (by rw[c];rfl) rfl rfl (by simp only[jq,my,aaL,abO];omega) fun i e f=>by
  grind [gh,lc,fI]
 grind
theorem Vg (n:Nat):ae n [AV.p (.raw (.int .i64 0))]=lc fI (ae n 0):=by simp[lc,fI]
theorem RV {k:Int} (u:XY n b) (N:isReducedM (mat n n b)=true) (O:ZF n b x) (h0:0<=x) (W:x<=4611686018427387904) (Z:n=1\/x<1073741824) (y:0<=k) (A:k<=1000000):
  CallC prog 87 [cq (mat n n b),.raw (.int .i64 x),.raw (.int .i64 k)] ⟨[],XC (JV (Cb n) b n x ⟨k,ae n 0,false⟩)⟩:=by
 have ac:=u.n1;have S:=u.n16;have r:=aT n n b;have v:=fb (mat n n b);rw[N]at v;have M:=Lp u x;refine Db func87 rfl (by kernel_rfl) ?_;rw[ntmps87];refine qj ?_;refine US (k:=?_);show Co _ _ _ _;refine Ng ⟨(cq (mat n n b)::.raw (.int .i64 x)::.raw (.int .i64 k)::jk::jk::jk::.one (.ptr 6 0 0 0)::.one (.ptr 7 0 0 0)::j16 (j16 (j16 (j4 ([]))))),Hm [(6,[⟨28,1,[[.p (.raw (.slice none 0 0))]]⟩]),(7,[⟨29,1,[[.p (.raw (.int .i64 0))]]⟩])]⟩ (am ?_) ?_
 ·refine bK [⟨1,_,_,_,v⟩] (k:=aq rfl (ai (ar (k:=aq rfl (ar (k:=aq rfl (ar (k:=aq rfl (bS (k:=aq rfl ?_))))))))));by_cases Q:n=1
  ·subst Q;refine aL r (k:=aq rfl (ak ?_));refine aj ⟨rfl,rfl,trivial⟩ ?_;simp[wk]
  have hB:=Z.resolve_left Q;refine aL r (k:=aq rfl (ak ?_));refine aj ⟨rfl,rfl,trivial⟩ ?_;simp[wk]
 refine qj ?_;refine yG 4 [] [] (by simp[wk]) (by decide) fun _ K=>?_;simp(disch:=omega) only[kd,aa,cq,r,ab];apply K
 refine⟨_,lk 8 36 900 rfl rfl rfl (by simp[dT,isPure]) (fun e P j C=>by rw[Vg]at P;exact bo 3 1 _ e P j C) (by omega) (by omega) (by omega),by simp[wk],?_⟩;simp only[aaI,aaY,K7,acw,lS,fp,pn];intro _ K;simp(disch:=omega) only[kd,ab];apply K;show Co _ _ _ _;refine Co.weak ((MW 6 900 rfl (by simp[dT,isPure]) (by omega) (by omega)).trans (aj (tm:=(cq (mat n n b)::.raw (.int .i64 x)::.raw (.int .i64 k)::jk::jk::jk::.one (.ptr 900 2 0 0)::.one (.ptr 7 0 0 0)::.one (.ptr 900 0 0 0)::j16 (j16 (j16 (jk::jk::jk::[]))))) (l:=[(7,[⟨29,1,[[.p (.raw (.int .i64 0))]]⟩]),(900,[⟨28,1,[[.sl 900 1 0 n]]⟩,⟨3,1,lc fI (ae n 0)⟩,⟨28,1,[[.p (.raw (.slice none 0 0))]]⟩])]) ⟨rfl,?_,trivial⟩ ?_)) ?_
 ·rw[<- Vg];rfl
 ·simp[wk,lS,fp,pn,ax,Hm]
 refine qj ?_;refine bS (k:=?_);show Co _ _ _ _;refine qj ?_;refine Yx [⟨2,_,_,_,M⟩] (k:=?_);show Co _ _ _ _;refine Co.weak ((M3 (a:=40) rfl).trans (aj (tm:=(j4 (jk::jk::.one (.ptr 900 2 0 0)::.one (.ptr 7 0 0 0)::.one (.ptr 900 0 0 0)::.one (.ptr 9 0 0 0)::.one (.ptr 40 0 0 0)::j16 (j16 (j16 (jk::[])))))) (l:=[(7,[⟨29,1,[[.p (.raw (.int .i64 0))]]⟩]),(9,[⟨2,1,[[.p (.raw (.int .i64 k))]]⟩]),(40,rW 40 x n n [] (aN (n+1) (dk b)) (fd n b n)),(900,[⟨28,1,[[.sl 900 1 0 n]]⟩,⟨3,1,lc fI (ae n 0)⟩,⟨28,1,[[.p (.raw (.slice none 0 0))]]⟩])]) ⟨rfl,rfl,rfl,rfl,trivial⟩ ?_)) ?_
 ·simp[wk]
 have s:XA n ⟨k,ae n 0,false⟩:=⟨rfl,y,A,by simp,fun z D=>by
  grind⟩
 have q:(vq.steps (JV (Cb n) b n x ⟨k,ae n 0,false⟩)).length=n:=XF (J:=fun g:vq=>g.steps.length=n) (fun m c g h=>JP h) b n x _ (by simp);refine FC (tml:=Ue) (H:=JO n) (jump:=sxJ) (hH:=Qv n) (ht:=rfl) (g0:=⟨k,ae n 0,false⟩) (g1:=JV (Cb n) b n x ⟨k,ae n 0,false⟩) (ap:=(0,0,0)) (fa:=40) (F:=rW 0 x n n [] (aN (n+1) (dk b)) (fd n b n)) (F':=rW 0 x n n [] (aN (n+1) (dk b)) (fd n b n)) (rf:= .tup []) (f:=131) (k:=41) [] [] ?_ ?_ ?_ (by omega) rfl rfl ?_ ?_
 ·simp
 ·decide
 ·intro R ρ hl G I L;refine Uh O (fun m c g hg W h2 h3 h4=>?_) (fun m c g h=>XD h) _ s;obtain⟨E,q2,q3,q4,T⟩:=hg;refine Ij G rfl rfl (by simp[sxJ,E]) (L8 ((JP q4).trans q4.symm)) ?_;rw[I,L];clear G I L hl M v O q s u N;obtain⟨left,steps,stop⟩:=g;simp only at E q2 q3 q4 T;subst E;obtain⟨z,D⟩: ∃z,steps[m-1]?=some z:=⟨_,aay (by omega)⟩;have ad:=T z (aai D);have U:IntKind.i64.wrap ((m:Int)-1)=((m-1:Nat):Int):=by grind [aK]
  by_cases w:left<c
  ·have e:Cb n m c ⟨left,steps,false⟩=(⟨left,steps,true⟩,false):=if_pos (.inl w);rw[e];refine ir fun _ K=>?_;simp(disch:=omega) only[kd,mG,abm,qk,oQ,Ue,JO,yf];apply K
   refine sf fun _ K=>?_;simp(disch:=omega) only[kd,mG,abm,qk,oQ,yf];apply K
   refine⟨rfl,yP ?_⟩;refine AG (ir fun _ K=>?_);simp(disch:=omega) only[kd,mG,abm,qk,oQ,yf,ab];apply K;refine CU rfl (fun _=>?_) (fun h=>by cases h);refine ir fun _ K=>?_;simp(disch:=omega) only[kd,mG,abm,qk,oQ,yf,ab];apply K
   refine Iw ?_;refine⟨?_,.inr ⟨rfl,rfl,rfl⟩⟩;funext j;by_cases X:j=7
   ·subst X;rfl
   by_cases o:j=900
   ·subst o;rfl
   simp_all[JO,Hm,ax]
  have e:Cb n m c ⟨left,steps,false⟩=(⟨left-c,steps.set (m-1) (steps.getD (m-1) 0+c),false⟩,true):=if_neg (by grind);have V:steps.getD (m-1) 0=z:=by grind
  rw[e,V];refine ir fun _ K=>?_;simp(disch:=omega) only[kd,mG,abm,qk,oQ,Ue,JO,yf];apply K
  refine sf fun _ K=>?_;simp(disch:=omega) only[kd,mG,abm,qk,oQ,yf];apply K
  refine⟨rfl,yP ?_⟩;refine AG (ir fun _ K=>?_);simp(disch:=omega) only[kd,mG,abm,qk,oQ,yf,ab];apply K;refine CU rfl (fun h=>by cases h) (fun _=>Nd ?_);show vE _ _ _ _ _ _ _;refine ir fun _ K=>?_;simp(disch:=omega) only[kd,mG,abm,qk,oQ,yf,ab,aK];apply K
  refine sf fun _ K=>?_;simp(disch:=omega) only[kd,mG,abm,qk,oQ,yf,ab,U,D,aK];apply K
  refine⟨?_,.inl ⟨rfl,rfl,rfl⟩⟩;funext j;by_cases Y:j=9
  ·subst Y;rfl
  by_cases o:j=900
  ·simp_all[JO,Hm,ax,lc,fI]
  simp_all[JO,Hm,ax]
 ·simp(disch:=omega) only[kd,abp,aa,Nat.reduceSub,JO,Ue,ab];refine⟨by decide,by rw[gY];simp[lc],?_,?_⟩
  ·grind [ax]
  have hq: ∀l:List TV,XQ [7,9,900] l Ue-> ∀(t:Nat) j,Ue[t]?=some j->j=jk\/l[t]?=some j:=fun l h t j C=>((Cj h).2 t j C).imp_right fun h=>h.1
  exact hq _ (by unfold Ue;simp[wk])
 intro ρ ds;generalize JV (Cb n) b n x ⟨k,ae n 0,false⟩=g at*
 obtain⟨left,steps,stop⟩:=g;cases stop with
 |true=>
  refine⟨rfl,_,bG.refl _,?_,rfl⟩;simp(disch:=omega) only[kd,results87,Ue,JO,ab,XC]
 |false=>
  show vE _ _ _ _ _ _ _;simp only at q;refine ir fun _ K=>?_;simp(disch:=omega) only[kd,mG,abm,qk,oQ,Ue,JO,yf,ab];apply K
  refine Iw ⟨.inr rfl,_,vr 900 1 (o0:=⟨3,1,lc fI steps⟩) rfl (bo _ _ _),?_,rfl⟩;simp only[aaI,aaY,IX,gO,qC];simp(disch:=omega) only[kd,results87,ab,reduceCtorEq,qC,gO,XC];grind
abbrev RB (e:Int):TV:= .tup [(false,[.p (.raw (.slice none 0 0))]),(false,[.p (.raw (.int .i64 e))])]
theorem RS (M:List (List Int)) (B k:Int) (h:isReducedM M=false):CallC prog 87 [cq M,.raw (.int .i64 B),.raw (.int .i64 k)] ⟨[],RB 6⟩:=by
 have b:=fb M;rw[h]at b;refine aA func87 rfl ntmps87 (aC (k:=ai (am (bK [⟨1,_,_,_,b⟩] (k:=ay rfl (ar (k:=aD @results87)))))))
theorem RT (M:List (List Int)) (B k:Int) (h:isReducedM M=true) (g:B<0\/4611686018427387904<B\/k<0\/1000000<k):CallC prog 87 [cq M,.raw (.int .i64 B),.raw (.int .i64 k)] ⟨[],RB 1⟩:=by
 have b:=fb M;rw[h]at b;refine aA func87 rfl ntmps87 (aC (k:=ai (am (bK [⟨1,_,_,_,b⟩] (k:=aq rfl (ai ?_))))));by_cases c:B<0
 ·refine ar (k:=ay rfl (ak (ay rfl (ar (k:=aD @results87)))))
 refine ar (k:=aq rfl ?_);by_cases e:4611686018427387904<B
 ·refine ar (k:=ay rfl (ak (ay rfl (ar (k:=aD @results87)))))
 refine ar (k:=aq rfl ?_);by_cases f:k<0
 ·refine ar (k:=ay rfl (ak (ay rfl (ar (k:=aD @results87)))))
 refine ar (k:=aq rfl (bS (k:=ay rfl (ar (k:=aD @results87)))))
theorem RU (M:List (List Int)) (B k:Int) (h:isReducedM M=true) (g:0<=B) (j:B<=4611686018427387904) (c:0<=k) (e:k<=1000000) (m:1<M.length) (f:M.length<=1000) (l:1073741824<=B):CallC prog 87 [cq M,.raw (.int .i64 B),.raw (.int .i64 k)] ⟨[],RB 9⟩:=by
 have b:=fb M;rw[h]at b;refine aA func87 rfl ntmps87 (aC (k:=ai (am (bK [⟨1,_,_,_,b⟩] (k:=aq rfl (ai (ar (k:=aq rfl (ar (k:=aq rfl (ar (k:=aq rfl (bS (k:=aq rfl (ar (k:=ay rfl (ar (k:=aD @results87))))))))))))))))))
abbrev YZ (b:Nat):PV:= .raw (.pointer (some ⟨b,0,none⟩))
abbrev Vc:List PV:=[.raw (.bool true)]
theorem XH (e:Nat) {c:Nat} {i j:Nat} (o:i<n) (q:j<c) (t:n<=16) (s:c<=16) (h:I64 (b i j)):
  CallT prog e 4 241 [.raw (.int .i64 (i:Int)),.raw (.int .i64 (j:Int)),.one (.p (.ptr (kZ (mat n c b)))),.one (.p (YZ e))] Vc ⟨[],.raw (.int .i64 (b i j))⟩ Vc:=by
 have r:=bF c b o;have m:=aw (b i) q;have g:=DD (b i j) h.bg;rw[YN h]at g;refine j5 func241 rfl (by kernel_rfl) ?_;rw[ntmps241];refine CX 3 900 rfl rfl ?_;refine fH.weak (aj (tm:=(.raw (.int .i64 (i:Int))::rN j::.one (.p (.ptr (kZ (mat n c b))))::.one (.ptr 900 0 0 0)::j16 (j4 (jk::[])))) (l:=[(900,[⟨4,1,[[.p (.raw (.bool true))]]⟩])]) ⟨rfl,trivial⟩ (by simp[wk,FR,vP,ae])) ?_;refine j1 (k:=VV [⟨7,_,_,_,g⟩] (aH r m) (k:=j1 (k:=j1 (k:=?_))));refine qi ⟨Vc,rfl,rfl,.inr rfl,rfl,bW rfl ?_ rfl⟩;simp(disch:=omega) only[kd,results241,sN,i5]
theorem NA (b:Nat) (n c:Nat) (f:FF) (A:1<=n) (z:n<=16) (v:1<=c) (u:c<=16) (w: ∀i j,i<n->j<c->I64 (f i j)):
  CallT prog b 4 240 [.raw (.int .i64 (n:Int)),.raw (.int .i64 (c:Int)),.fn 241 [.p (.ptr (kZ (mat n c f))),.p (YZ b)]] Vc ⟨[],cq (mat n c f)⟩ Vc:=by
 refine j5 func240 rfl (by kernel_rfl) ?_;rw[ntmps240];refine UT (k:=cQ (k:=b6 (cQ (k:=?_))));refine iO (G:=jx n) (fun g=>⟨(jk::rN c::.fn 241 [.p (.ptr (kZ (mat n c f))),.p (YZ b)]::j4 (.one (.sl 11 0 0 n)::j4 (jk::rN n::rN g.i::j16 (j4 (j4 (j4 ([]))))))),Hm [(11,kI 11 n c g.i (part f g.i 0))]⟩) (fun _=>Vc) (fun g=>n-g.i) ⟨0,by omega⟩ ?_ rfl ?_
 ·refine aj ⟨?_,trivial⟩ ?_
  ·rfl
  simp[wk]
 rintro⟨i,x⟩;simp only;by_cases m:i<n
 ·have B:=Ba (i:=i) (n:=n) 11 c m;have I:=nH (i:=i) (n:=n) 11 c x;have C:=aT i c (part f i 0);have D:=uE (i:=i) (n:=n) (c:=c) 11 (part f i 0) m (fun j y=>by grind [part]);have r:=wF (i:=i+1) (k:=i) (n:=n) 11 c (by omega);have J:=nH (i:=i+1) (n:=n) 11 c (by omega);have L:=d9 (n:=i+1) c (part f i 0) (i:=i) (by omega);refine cQ (k:=pe rfl (b6 (cA (cQ (k:=iQ (aH B (aH @aaL (aH @acf C))) (k:=?_))))));refine dV.weak (aj (tm:=(jk::rN c::.fn 241 [.p (.ptr (kZ (mat n c f))),.p (YZ b)]::j4 (.one (.sl 11 0 0 n)::rN i::j4 (.raw (.int .i64 (n:Int))::rN i::j16 (j4 (j4 (j4 ([])))))))) (l:=[(11,kI 11 n c (i+1) (part f i 0))]) ⟨?_,trivial⟩ (by simp[wk])) ?_
  ·first|exact D|rfl
  refine iQ r (k:=?_);refine iO (G:=jx c) (fun g=>⟨(jk::rN c::.fn 241 [.p (.ptr (kZ (mat n c f))),.p (YZ b)]::j4 (.one (.sl 11 0 0 n)::rN i::j4 (.raw (.int .i64 (n:Int))::rN i::j4 (j4 (jk::jk::jk::rN c::rN g.i::j4 (j4 (j4 (jk::jk::jk::[])))))))),Hm [(11,kI 11 n c (i+1) (part f i g.i))]⟩) (fun _=>Vc) (fun g=>c-g.i) ⟨0,by omega⟩ ?_ rfl ?_
  ·refine aj ⟨rfl,trivial⟩ ?_;simp[wk]
  rintro⟨j,y⟩;simp only;by_cases h:j<c
  ·have s:=XH b m h z u (w i j m h);have E:=d9 (n:=i+1) c (part f i j) (i:=i) (by omega);have F:=aw (part f i j i) h;refine cQ (k:=pe rfl (b6 (cA (cQ (k:=?_)))));refine jZ b8 8 s [] [] (by kernel_rfl) (by kernel_rfl) (by rfl) (by rfl) fun _ K=>?_;simp(disch:=omega) only[kd,aa,r,E,F,gZ];apply K
   show dV _ _ _ _ _ _ _;refine ss (k:=?_);refine⟨⟨j+1,by omega⟩,by grind,aj ⟨?_,trivial⟩ ?_,rfl⟩
   ·show _::_=_::_;rw[gG fun a b _ _=>iF f i j a b]
   simp[wk]
  have q:j=c:=by omega
  subst q;refine cQ (k:=pb rfl (ss (k:=?_)));refine⟨⟨i+1,by omega⟩,by grind,aj ⟨?_,trivial⟩ ?_,rfl⟩
  ·grind [gG,kf]
  simp[wk]
 have o:i=n:=by omega
 subst o;refine cQ (k:=pb rfl (cQ (k:=?_)));refine dV.weak ((bD 11 (fB (n:=i) (c:=c) (f:=part f i 0) (Gz 11 i c (part f i 0)))).trans (aj (tm:=(j4 (jk::jk::cq (mat i c f)::j16 (j16 (j4 ([])))))) (l:=[]) trivial ?_)) ?_
 ·have e:=wy (H:=Hm [(11,kI 11 i c i (part f i 0))]) (d:=11) (n:=i) (c:=c) (f:=part f i 0) (Gz 11 i c (part f i 0));rw[gQ fun a b t _=>ke f a b t]at e;simp[wk];exact e.symm
 (refine ky ⟨.inr rfl,rfl,bW rfl ?_ rfl⟩;simp(disch:=omega) only[kd,results240,cq])
theorem LF (n c:Nat) (f:FF) (e:1<=n) (o:n<=16) (g:1<=c) (m:c<=16) (r: ∀i j,i<n->j<c->I64 (f i j)):
  CallC prog 203 [da (mat n c f)] ⟨[],.tup [(false,[.p (.sl (ls (fR fI) (mat n c f)))]),(false,[.p (.raw (.bool true))])]⟩:=by
 have h:=Eu (mat n c f);rw[ig (mA f e o g m),aT,i6 f e]at h;refine aA func203 rfl ntmps203 (aC (k:=bL [⟨1,_,_,_,h⟩] (k:=ai (ar (k:=aq rfl (ak ?_))))));refine bf.weak ((qg 1 1 (cs:=kZ (mat n c f)) rfl rfl).trans (aj (tm:=(jk::.one (.p (.ptr (kZ (mat n c f))))::jk::jk::rN n::rN c::.one (.ptr 6 0 0 0)::j16 ([]))) (l:=[(6,[⟨4,1,[[.p (.raw (.bool true))]]⟩])]) ⟨rfl,trivial⟩ (by simp[wk,ew,dF]))) ?_;refine ai (vu 6 (cs:=Vc) rfl fun b=>?_);refine dV.weak (aj (tm:=(jk::.one (.p (.ptr (kZ (mat n c f))))::jk::jk::rN n::rN c::cw b::j16 ([]))) (l:=[]) trivial (by simp[wk,sN,i5])) ?_;have q:=NA b n c f e o g m r;refine fJ 3 q [] [] (by kernel_rfl) (by rfl) (by rfl) fun _ K=>?_;simp only[kd,kZ,cq,aa,cw,iT];apply K
 refine⟨rfl,?_⟩;show bf _ _ _ _;refine bf.weak (aj (tm:=(j4 (jk::jk::.one (.ptr 6 0 0 0)::cq (mat n c f)::j4 (j4 (j4 (jk::jk::jk::[])))))) (l:=[(6,[⟨4,1,[[.p (.raw (.bool true))]]⟩])]) ⟨rfl,trivial⟩ (by simp[wk,FR,vP])) ?_;refine ai (bC (k:=aq rfl (ak (bC (k:=aD @results203)))))
theorem Oc {H:OH} {a:Nat} {j l m:OObj} (h:H a=[j,l,m]) (q: ∀e∈j.elems,∀x∈e,isPure x=true\/(∃c len,x= .sl a 1 c len)\/ ∃c len,x= .sl a 2 c len) (n:dT l) (p:dT m):qB H a:=fun r o b e f x g=>by
 rw[h]at b
 match r with
 |0=>
  grind
 |1=>
  injection b with b
  subst b;exact .inl (n e f x g)
 |2=>
  injection b with b
  subst b;exact .inl (p e f x g)
 |r+3=>simp at b
def Zk (n:Nat) (f:FF):Prop:= ∀k i j,k<n->k<=i->i<n->k<=j->j<n->I64 (bk f k i j)
theorem OE (n:Nat) (f:FF) (k:Nat):List.drop 1 (List.take (n-k) (aN (n-k) (elF f k 0)))=mW n f k:=by
 rw[aaz (by rw[aI];omega)];show _=aN _ _;apply aaC;intro b;rw[abR];by_cases c:b<n-k-1
 ·rw[aw _ (by omega),aw _ c,ab5 1 b];rfl
 grind [aI]
abbrev ZP (n:Nat) (f:FF):TV:= .agg [.p (.sl (ls fI (aN (n+1) (dk f)))),.p (.sl (ls (fR fI) (fd n f n)))]
theorem Jh {s:FuncId} (w:s=138\/s=145) (o:XY n b) (I:Zk n b):CallC prog s [cq (mat n n b)] ⟨[],ZP n b⟩:=by
 have g:=o.n1;have A:=o.n16;have u:=tS n n b g A g A o.i;have r:=CG n b g A fun i j E L=>(o.i i j E L).sz (by omega)
 rw[xZ o.nz]at r;have z:=rH n b n;have B: ∀k,k<n->(t8 n b n)[k]?=some (KV n b k):=fun k M=>by simp[t8,M]
 have N:[[AV.p (.raw (.int .i64 1))]]=lc fI (aN 1 (dk b)):=by
  rfl
 rcases w with rfl|rfl
 all_goals
  first
  |(refine dr func138 rfl (by kernel_rfl) ?_;rw[ntmps138];let D:TypeId:=180)
  |(refine dr func145 rfl (by kernel_rfl) ?_;rw[ntmps145];let D:TypeId:=188)
  (first|refine an fun _ K=>?_|refine ai (an fun _ K=>?_)|refine ai (ai (an fun _ K=>?_)));simp(disch:=omega) only[kd,cq,ae,aa];apply K
  (first|refine aQ [⟨1,_,_,_,u⟩] [] fun _ K=>?_|refine ai (aQ [⟨1,_,_,_,u⟩] [] fun _ K=>?_)|refine ai (ai (aQ [⟨1,_,_,_,u⟩] [] fun _ K=>?_)));simp only[kd,cq,Ru,aa];apply K
  (first|refine aQ [⟨1,_,_,_,r⟩] [] fun _ K=>?_|refine ai (aQ [⟨1,_,_,_,r⟩] [] fun _ K=>?_)|refine ai (ai (aQ [⟨1,_,_,_,r⟩] [] fun _ K=>?_)));simp only[kd,da,aa];apply K
  (first|refine iq 3 [] [22] (by simp[wk]) (by decide) fun _ K=>?_|refine ai (iq 3 [] [22] (by simp[wk]) (by decide) fun _ K=>?_));simp(disch:=omega) only[kd,aa,Nat.reduceMul,Nat.reduceLeDiff,ab];apply K
  refine⟨_,(lk 7 22 900 rfl rfl rfl (by simp[dT,isPure]) (by simp[dT,isPure]) (by omega) (by omega) (by omega)),by simp[wk],?_⟩;simp only[aaI,aaY,K7,acw,lS,fp,pn];intro _ K;simp(disch:=omega) only[kd,ab,aa];apply K;refine bf.weak (io 900 0 0 1 35 1 (by omega) rfl rfl rfl) ?_
  (first|refine an fun _ K=>?_|refine ai (an fun _ K=>?_)|refine ai (ai (an fun _ K=>?_)));simp(disch:=omega) only[kd,aa,ab,z];apply K
  refine aB (G:=jx n) (fun q=>⟨(jk::jk::.one (.ptr 2 0 0 0)::j4 (.one (.ptr 900 0 0 0)::j16 (.one (.p (.sl (ls fM (t8 n b n))))::rN n::rN q.i::j16 (j4 (j4 (j4 (jk::[]))))))),Hm [(2,[⟨D,2,[[.p (.raw (.slice none 0 0)),.p (.raw (.slice none 0 0))]]⟩]),(900,[⟨D,2,[[.sl 900 1 0 (q.i+1),.sl 900 2 0 q.i]]⟩,⟨2,1,lc fI (aN (q.i+1) (dk b))⟩,⟨35,1,lc (fR fI) (fd n b q.i)⟩])]⟩) (fun q=>n-q.i) ⟨0,by omega⟩ ?_ ?_
  ·refine aj ⟨rfl,?_,trivial⟩ ?_
   ·rfl
   simp[wk]
  rintro⟨i,E⟩;simp only;by_cases F:i<n
  ·have O:=B i F;have v:=LF (n-i) (n-i) (elF b i) (by omega) (by omega) (by omega) (by omega) (fun a c Q J=>I i (i+a) (i+c) F (by omega) (by omega) (by omega) (by omega));have H:=bF (n-i) (elF b i) (show 0<n-i by omega);have P:=aw (elF b i 0) (show 0<n-i by omega);have T:=aT (n-i) (n-i) (elF b i);have q4:=aI (n-i) (elF b i 0);have m:=aI (i+1) (dk b);have l:=lN n b i;have C:=OE n b i;have t:1<=n-i:=by omega
   (first|refine an fun _ K=>?_|refine ai (an fun _ K=>?_)|refine ai (ai (an fun _ K=>?_)));simp(disch:=omega) only[kd];apply K
   first|refine be rfl ?_|refine ai (bi rfl (fun _=>ak ?_) (fun h=>by simp at h<;>omega))
   refine ai (am ?_)
   (first|refine an fun _ K=>?_|refine ai (an fun _ K=>?_)|refine ai (ai (an fun _ K=>?_)));simp(disch:=omega) only[kd,aa,O,fM];apply K
   (first|refine aQ [⟨1,_,_,_,v⟩] [] fun _ K=>?_|refine ai (aQ [⟨1,_,_,_,v⟩] [] fun _ K=>?_)|refine ai (ai (aQ [⟨1,_,_,_,v⟩] [] fun _ K=>?_)));simp only[kd,da,aa];apply K
   (first|refine ip b8 (by kernel_rfl) fun _ K=>?_|refine ai (ip b8 (by kernel_rfl) fun _ K=>?_)|refine ai (ai (ip b8 (by kernel_rfl) fun _ K=>?_)));simp(disch:=omega) only[kd,aa,ab,Int.reduceToNat,H,fR,P,lH,Nat.reduceMul,Nat.reduceLeDiff,m,Nat.reduceBEq,wK];apply K
   refine nn (aH H (aH q4 (aH t (aH (sO N7) (aH C (aH l @oz)))))) (k:=bS (k:=?_));refine⟨⟨i+1,by omega⟩,by grind,aj ⟨rfl,?_,trivial⟩ ?_⟩
   ·rw[jS (i+1),<- zr n b i];rfl
   simp[wk]
  have y:i=n:=by omega
  subst y;have m:=aI (i+1) (dk b);have l:=lN i b i
  (first|refine an fun _ K=>?_|refine ai (an fun _ K=>?_)|refine ai (ai (an fun _ K=>?_)));simp(disch:=omega) only[kd];apply K
  first|refine bv rfl ?_|refine ai (bi rfl (fun h=>by simp at h<;>omega) (fun _=>aZ ?_))
  show bf _ _ _ _
  (first|refine iq 1 [] [] (by simp[wk]) (by decide) fun _ K=>?_|refine ai (iq 1 [] [] (by simp[wk]) (by decide) fun _ K=>?_));simp only[kd,ab,aa];apply K
  refine⟨_,bD 900 (Oc rfl (fun e R x S=>?_) (bo _ _ _) (bo _ _ _)),by simp[wk],?_⟩
  ·grind
  simp only[aaI,aaY,ew,dF];intro _ K;simp(disch:=omega) only[kd,ab,aa];apply K
  (refine aW ⟨.inr rfl,bW rfl ?_ rfl⟩;simp(disch:=omega) only[kd,results138,ab,aa,results145])
  grind
def fV (p:Int×Int):List PV:=[.raw (.int .i64 p.1),.raw (.int .i64 p.2)]
abbrev Ya (l:List (Int×Int)):TV:= .one (.p (.sl (ls fV l)))
theorem ST (f:FF) (B:Int) (o:0<f 0 0) (s:f 0 0<=4611686018427387904) (c:0<=B) (x:B<=4611686018427387904):CallC prog 94 [cq (mat 1 1 f),.raw (.int .i64 B)] ⟨[],Ya [(-isqF (B/f 0 0),isqF (B/f 0 0))]⟩:=by
 have b:0<=B/f 0 0:=abH c (by omega);have t:B/f 0 0<=B:=acK _ c;have w:=nE b (by omega);have cR:=xz (.inr (.inr rfl)) (B/f 0 0) b (by omega);have h:Int.tdiv B (f 0 0)=B/f 0 0:=abK c;have g:(f 0 0=0)=False:=eq_false (by omega);have e:=aT 1 1 f;have u:=bF (n:=1) 1 f (i:=0) (by omega);have l:=aw (m:=1) (f 0) (j:=0) (by omega);have v:=aI 1 (f 0);show CallC _ _ _ ⟨[],.one (.p (.sl [[.raw (.int .i64 (-isqF (B/f 0 0))),.raw (.int .i64 (isqF (B/f 0 0)))]]))⟩;rw[show -isqF (B/f 0 0)=0-isqF (B/f 0 0) by omega];generalize B/f 0 0=q at*
 generalize isqF q=r at*
 generalize f 0 0=d at*
 refine aA func94 rfl ntmps94 (aC (k:=f9 e (k:=ai (ar (k:=ay rfl (cO [⟨7,_,_,_,cR⟩] (aH u (aH l h)) (k:=ar (k:=aD @results94))))))))
theorem RC (M:List (List Int)) (B k e:Int) (f:e≠0) (c:CallC prog 87 [cq M,.raw (.int .i64 B),.raw (.int .i64 k)] ⟨[],RB e⟩):CallC prog 44 [cq M,.raw (.int .i64 B),.raw (.int .i64 k)] ⟨[],RB e⟩:=by
 have b:(e=0)=False:=eq_false f;refine aA func44 rfl ntmps44 (aC (k:=ai (bK [⟨3,_,_,_,c⟩] (k:=f9 b (k:=ay rfl (bC (k:=aD @results44)))))))
theorem RD (M:List (List Int)) (B k:Int) (L:List Int) (l:List (Int×Int)) (c:CallC prog 87 [cq M,.raw (.int .i64 B),.raw (.int .i64 k)] ⟨[],.tup [(false,[.p (.sl (ls fI L))]),(false,[.p (.raw (.int .i64 0))])]⟩) (b:CallC prog 94 [cq M,.raw (.int .i64 B)] ⟨[],Ya l⟩):
  CallC prog 44 [cq M,.raw (.int .i64 B),.raw (.int .i64 k)] ⟨[],.tup [(false,[.p (.sl (ls fV l))]),(false,[.p (.raw (.int .i64 0))])]⟩:=by
 refine aA func44 rfl ntmps44 (aC (k:=ai (bK [⟨3,_,_,_,c⟩] (k:=ar (k:=aq rfl (ak (bK [⟨2,_,_,_,b⟩] (k:=aD @results44))))))))
section
variable {n:Nat} {f:FF}
theorem pR (b:RedR f n) (l:n<=8) (m: ∀i j,i<n->j<n-> -262144<=f i j/\f i j<=262144):Zk n f:=fun k i j o g c h e=>by
 have:=kA l b.1 (fun i c j e=>m i j c e) o (fun t p=>⟨b.2.1 t (by omega),lE (by omega) l b t (by omega),(b.2.2.2 t (by omega)).1⟩) g c h e;constructor<;>omega
theorem G3 (c:RedR f n) (o:1<=n) (l:n<=8) (m: ∀i j,i<n->j<n-> -262144<=f i j/\f i j<=262144):XY n f:=by
 have h:=pR c l m;have p: ∀k,k<=n->0<dk f k/\dk f k<65536:=fun k b=>by
  cases k with
  |zero=>rw[cu];omega
  |succ k=>exact⟨c.2.1 k (by omega),lE (by omega) l c k (by omega)⟩
 refine⟨o,by omega,fun t r=>?_,fun i j q e=>?_,fun k b=>?_,fun k j b e=>?_⟩
 ·grind
 ·have:=m i j q e;constructor<;>omega
 ·have:=p k b;constructor<;>omega
 by_cases g:j<k
 ·rw[AM c.pd (by omega) b g];constructor<;>omega
 exact h k k j b (aar k) b (by omega) e
theorem W6 (g:RedR f n) (e:n<=8) (b:0<=x) (c:x<=1073741824):oS n f x:=⟨g,e,b,c⟩
theorem W5 (b:RedR f n) (l:1<=n) (e:n<=8) (c:0<=x) (h:x<=4611686018427387904) (j:n=1\/x<1073741824):ZF n f x:=by
 by_cases g:n=1
 ·subst g;have m:dk f 1<65536:=lE (by omega) e b 0 (by omega);exact .inl ⟨rfl,b.2.1 0 (by omega),by omega,c,h⟩
 have:=j.resolve_left g;exact .inr ⟨by omega,b,e,c,by omega⟩
end
theorem Ef {M:List (List Int)} (b:isReducedM M=true):M=mat M.length M.length (ent M)/\1<=M.length/\M.length<=8/\RedR (ent M) M.length/\ ∀i j,i<M.length->j<M.length-> -262144<=ent M i j/\ent M i j<=262144:=by
 obtain⟨e,f,c,g⟩:=(j7 M).1 b;obtain⟨_,_,_,h⟩:=iB b;grind [Jc,List.mem_iff_getElem?,kX]
noncomputable def Yc (M:List (List Int)) (B k:Int):TV:=
 if isReducedM M=true then
  if B<0\/4611686018427387904<B\/k<0\/1000000<k then RB 1
  else if 1<M.length/\1073741824<=B then RB 9
  else XC (JV (Cb M.length) (ent M) M.length B ⟨k,ae M.length 0,false⟩)
 else RB 6
theorem D4 (M:List (List Int)) (B k:Int):CallC prog 87 [cq M,.raw (.int .i64 B),.raw (.int .i64 k)] ⟨[],Yc M B k⟩:=by
 unfold Yc;by_cases b:isReducedM M=true
 ·rw[if_pos b];by_cases f:B<0\/4611686018427387904<B\/k<0\/1000000<k
  ·rw[if_pos f];exact RT M B k b f
  rw[if_neg f];obtain⟨e,g,h,m,j⟩:=Ef b;by_cases c:1<M.length/\1073741824<=B
  ·rw[if_pos c];exact RU M B k b (by omega) (by omega) (by omega) (by omega) c.1 (by omega) c.2
  rw[if_neg c];have l:M.length=1\/B<1073741824:=by omega
  grind [RV,G3,W5]
 rw[if_neg b];exact RS M B k (by grind)
theorem TY (u:oS n b x) (k:Nat) (y:List Int) (l:List (List PV)) (z:y.length+(k+1)=n) (w:o8 y) (L:l.length=n) (K: ∀i,i<y.length->l[k+1+i]?=some [.raw (.int .i64 (y.getD i 0))]):
  CallC prog 147 [.one (.p (.ptr [.sl (ls fI (aN (n+1) (dk b))),.sl (ls (fR fI) (fd n b n))])),.raw (.int .i64 (k:Int)),.one (.p (.sl l))] ⟨[],.raw (.int .i64 (uS b n k (aY n y)))⟩:=by
 have J:=u.n8;have E:=wH n b (show k<n by omega);have F:=lN n b n;have s:(mW n b k).length=y.length:=(aI _ _).trans (by omega);have H: ∀i,i<y.length->(mW n b k)[i]?=some (bk b k k (k+(i+1))):=fun i P=>aw _ (by omega)
 have e:=fun m (j:m<=y.length)=>u.shP_c z w j
 have c:=oN b z;have g:tX b k y 0=0:=rfl;have h: ∀i,tX b k y i+bk b k k (k+(i+1))*y.getD i 0=tX b k y (i+1):=fun _=>rfl
 have A:IntKind.i64.wrap ((k:Int)+1)=((k+1:Nat):Int):=aK (by omega) (by omega);rw[<- c];clear u w c;generalize aN (n+1) (dk b)=D at*
 generalize fd n b n=M at*
 generalize mW n b k=r at*
 generalize tX b k y=O at*
 refine aA func147 rfl ntmps147 (aC (k:=bC (k:=ai (aL (aH E s) (k:=?_)))));refine aB (G:=jx y.length) (fun q=>⟨(jk::rN k::.one (.p (.sl l))::j4 (.raw (.int .i64 (O q.i))::j4 (j4 (mY r::rN y.length::rN q.i::j16 (jk::[]))))),Hm []⟩) (fun q=>y.length-q.i) ⟨0,by omega⟩ ?_ ?_
 ·refine aj trivial ?_;simp[wk,g]
 rintro⟨i,I⟩;simp only;by_cases j:i<y.length
 ·have o:=H i j;have Q:=e i (by omega);have R:=e (i+1) (by omega);have N:=h i;have C:IntKind.i64.wrap (((k+1:Nat):Int)+(i:Int))=((k+1+i:Nat):Int):=by grind [aK]
  have v:=K i j;generalize bk b k k (k+(i+1))=q at*
  generalize y.getD i 0=S at*
  refine ar (k:=be rfl (ai (am (aL o (k:=eK (aH A (aH C (aH v N))) (k:=bS (k:=?_)))))));refine⟨⟨i+1,by omega⟩,by grind,aj trivial ?_⟩;simp[wk]
 have t:i=y.length:=by omega
 subst t;refine ar (k:=bv rfl (bC (k:=aD @results147)))
end Go.Proofs.YtalmoejhjceflaaGreat
