/-
  Part 28 of a proof (walks and plain facts).
-/
import Derived.Test.YtalmoejhjceflaaGreatV26
set_option linter.all false
set_option maxRecDepth 100000
set_option maxHeartbeats 64000000
open Nat renaming reduceAdd → aa
open Nat renaming reduceEqDiff → ae
open List renaming replicate → af
namespace Go.Proofs.YtalmoejhjceflaaGreat
open Go.RowKit Go.Proofs.Tryz
variable {n m:Nat} {x:Int} {b:List (List Int)} {c:List Int} {e:FF} {s:AS}
structure Aa where
 left:Int
 steps:List Int
 stop:Bool
variable {f:Aa}
def Gw (n m:Nat) (c:Int) (g:Aa):Aa×Bool:=if g.left<c\/c<0\/m<1\/n<m then(⟨g.left,g.steps,true⟩,false)else(⟨g.left-c,g.steps.set (m-1) (g.steps.getD (m-1) 0+c),false⟩,true)
def ac6 (n:Nat) (g:Aa):Prop:=g.stop=false/\0<=g.left/\g.left<=1000000/\g.steps.length=n/\ ∀z∈g.steps,0<=z/\z+g.left<=1000000
theorem ac7 (h:ac6 n f) (j:(Gw n m x f).2=true):ac6 n (Gw n m x f).1:=by
 unfold Gw at j⊢;split
 ·grind
 rename_i s;obtain⟨o,p,q,r,b⟩:=h;have t:0<=f.steps.getD (m-1) 0/\f.steps.getD (m-1) 0+f.left<=1000000:=by
  rw[aeM];cases e:f.steps[m-1]? with
  |none=>grind
  |some z=>exact b z (adQ e)
 refine⟨rfl,by grind,by grind,by grind,fun z l=>?_⟩;grind
def PC (n:Nat) (g:Aa):OH:=Hm [(7,[⟨29,1,[[.p (.raw (.int .i64 (if g.stop=true then 9 else 0)))]]⟩]),(9,[⟨2,1,[[.p (.raw (.int .i64 g.left))]]⟩]),(900,[⟨28,1,[[.sl 900 1 0 n]]⟩,⟨3,1,lc fI g.steps⟩,⟨28,1,[[.p (.raw (.slice none 0 0))]]⟩])]
theorem WP (n:Nat) (g:Aa):B8 (PC n g):=fun a o b e f x c=>by
 unfold PC Hm at b;split at b
 ·simp only[aeK]at b;subst b;simp only[aeK]at f;subst f;simp only[aeK]at c;subst c;rfl
 unfold Hm at b;split at b
 ·simp only[aeK]at b;subst b;simp only[aeK]at f;subst f;simp only[aeK]at c;subst c;rfl
 unfold Hm at b;split at b
 ·simp only[afn,afx,or_false]at b;rcases b with rfl|rfl|rfl
  ·simp only[aeK]at f;subst f;simp only[aeK]at c;subst c;rfl
  ·obtain⟨z,_,rfl⟩:=aeL.1 f;simp only[fI,aeX,afh,aeK]at c;subst c;rfl
  simp only[aeK]at f;subst f;simp only[aeK]at c;subst c;rfl
 grind [Hm]
def sxJ (g:Aa):Option Code:=if g.stop=true then some .ret else none
def sxR (g:Aa):TV:=if g.stop=true then .tup [(false,[.p (.raw (.slice none 0 0))]),(false,[.p (.raw (.int .i64 9))])]else .tup [(false,[.p (.sl (ls fI g.steps))]),(false,[.p (.raw (.int .i64 0))])]
abbrev sxT:List TV:=(j4 (jk::jk::.one (.ptr 900 2 0 0)::.one (.ptr 7 0 0 0)::.one (.ptr 900 0 0 0)::.one (.ptr 9 0 0 0)::j16 (j16 (j16 (jk::jk::[])))))
theorem Sb {c:Aa} (h:c.steps.length=f.steps.length): ∀(x r:Nat) (o:OObj),(PC n f x)[r]?=some o-> ∃b:OObj,(PC n c x)[r]?=some b/\b.es=o.es/\b.elems.length=o.elems.length:=fun x r o e=>by
 simp only[PC,Hm]at e⊢;grind [fO]
theorem OL {e:Type} {J:e->Prop} {b:Int->e->e×Bool} (h: ∀c g,J g->J (b c g).1): ∀(m:Nat) (x:Int) (g:e),J g->J (lpM b m x g).1
 |0,_,_,f=>f
 |m+1,x,g,f=>by
  have k:=h x g f;unfold lpM;generalize b x g=r at*
  obtain⟨j,t⟩:=r;cases t with
  |true=>exact OL h m _ _ k
  |false=>exact k
theorem PY {e:Type} {J:e->Prop} {j:Nat->Int->e->e×Bool} (h: ∀m c g,J g->J (j m c g).1) (f:FF) (n:Nat) (B:Int): ∀(k:Nat) (y:List Int) (g:e),J g->J (lY j f n B k y g).1
 |0,y,g,b=>h _ _ g b
 |k+1,y,g,b=>by
  have q:=h (n-(k+1)) (dy f n B (k+1) (aL n y)-cu f n B (k+1) (aL n y)+1) g b;unfold lY;generalize j (n-(k+1)) (dy f n B (k+1) (aL n y)-cu f n B (k+1) (aL n y)+1) g=r at*
  obtain⟨l,t⟩:=r;cases t with
  |true=>exact OL (fun c g b=>PY h f n B k (c::y) g b) _ _ _ q
  |false=>exact q
theorem ac9 {b:Type} {J:b->Prop} {j:Nat->Int->b->b×Bool} (h: ∀m c g,J g->J (j m c g).1) (f:FF) (n:Nat) (B:Int) (g:b) (e:J g):J (PM j f n B g):=by
 unfold PM;split
 ·exact h _ _ g e
 exact PY h f n B _ _ g e
theorem PE (h:f.steps.length=n):(Gw n m x f).1.steps.length=n:=by
 grind [Gw]
theorem Tk {a:Nat} (e:s.H a=wkO a x n (n+1) n (af n 0) c b):bN s ⟨s.tmps,aK s.H a (wK a x n n [] c b)⟩:=by
 have h:=pi (s:=s) a 1 (o:=⟨2,1,lc fI (af n 0)⟩) (o':=⟨2,1,jo n++lc fI []⟩) (by rw[e];rfl) rfl rfl (by simp only[lT,fO,afc,afP];omega) fun i f g=>by
  grind [jo,lc,fI]
 grind
theorem abg (n:Nat):af n [AV.p (.raw (.int .i64 0))]=lc fI (af n 0):=by simp[lc,fI]
theorem Yp {B k:Int} (s:SR n e) (M:isReducedM (mat n n e)=true) (N:TlH n e B) (h0:0<=B) (V:B<=4611686018427387904) (Y:n=1\/B<1073741824) (v:0<=k) (w:k<=1000000):
  CallC prog 87 [bV (mat n n e),.raw (.int .i64 B),.raw (.int .i64 k)] ⟨[],sxR (PM (Gw n) e n B ⟨k,af n 0,false⟩)⟩:=by
 have ab:=s.n1;have Q:=s.n16;have q:=aS n n e;have I:=ge (mat n n e) M;have L:=Rp s B;refine H4 func87 rfl (by kernel_rfl) ?_;rw[ntmps87];refine uL ?_;refine aaT (k:=?_);show GR _ _ _ _;refine Tu ⟨(bV (mat n n e)::.raw (.int .i64 B)::.raw (.int .i64 k)::jk::jk::jk::.one (.ptr 6 0 0 0)::.one (.ptr 7 0 0 0)::j16 (j16 (j16 (j4 ([]))))),Hm [(6,[⟨28,1,[[.p (.raw (.slice none 0 0))]]⟩]),(7,[⟨29,1,[[.p (.raw (.int .i64 0))]]⟩])]⟩ (ao ?_) ?_
 ·refine bu [⟨1,_,_,_,I⟩] (k:=aq rfl (aj (ax (k:=aq rfl (ax (k:=aq rfl (ax (k:=aq rfl (bK (k:=aq rfl ?_))))))))));by_cases P:n=1
  ·subst P;refine aF q (k:=aq rfl (al ?_));refine ak ⟨rfl,rfl,trivial⟩ ?_;simp[wk]
  have hB:=Y.resolve_left P;refine aF q (k:=aq rfl (al ?_));refine ak ⟨rfl,rfl,trivial⟩ ?_;simp[wk]
 refine uL ?_;refine Qk 4 [] [] (by simp[wk]) (by decide) fun _ K=>?_;simp(disch:=omega) only[kd,aa,bV,q,ae];apply K
 refine⟨_,ot 8 36 900 rfl rfl rfl (by simp[fE,isPure]) (fun b O x y=>by rw[abg]at O;exact bF 3 1 _ b O x y) (by omega) (by omega) (by omega),by simp[wk],?_⟩;simp only[aeX,afh,Ra,agV,oc,iD,tH];intro _ K;simp(disch:=omega) only[kd,ae];apply K;show GR _ _ _ _;refine GR.weak ((Tg 6 900 rfl (by simp[fE,isPure]) (by omega) (by omega)).trans (ak (tm:=(bV (mat n n e)::.raw (.int .i64 B)::.raw (.int .i64 k)::jk::jk::jk::.one (.ptr 900 2 0 0)::.one (.ptr 7 0 0 0)::.one (.ptr 900 0 0 0)::j16 (j16 (j16 (jk::jk::jk::[]))))) (l:=[(7,[⟨29,1,[[.p (.raw (.int .i64 0))]]⟩]),(900,[⟨28,1,[[.sl 900 1 0 n]]⟩,⟨3,1,lc fI (af n 0)⟩,⟨28,1,[[.p (.raw (.slice none 0 0))]]⟩])]) ⟨rfl,?_,trivial⟩ ?_)) ?_
 ·rw[<- abg];rfl
 ·simp[wk,oc,iD,tH,aK,Hm]
 refine uL ?_;refine bK (k:=?_);show GR _ _ _ _;refine uL ?_;refine NP [⟨2,_,_,_,L⟩] (k:=?_);show GR _ _ _ _;refine GR.weak ((Tk (a:=40) rfl).trans (ak (tm:=(j4 (jk::jk::.one (.ptr 900 2 0 0)::.one (.ptr 7 0 0 0)::.one (.ptr 900 0 0 0)::.one (.ptr 9 0 0 0)::.one (.ptr 40 0 0 0)::j16 (j16 (j16 (jk::[])))))) (l:=[(7,[⟨29,1,[[.p (.raw (.int .i64 0))]]⟩]),(9,[⟨2,1,[[.p (.raw (.int .i64 k))]]⟩]),(40,wK 40 B n n [] (aA (n+1) (dk e)) (gX n e n)),(900,[⟨28,1,[[.sl 900 1 0 n]]⟩,⟨3,1,lc fI (af n 0)⟩,⟨28,1,[[.p (.raw (.slice none 0 0))]]⟩])]) ⟨rfl,rfl,rfl,rfl,trivial⟩ ?_)) ?_
 ·simp[wk]
 have r:ac6 n ⟨k,af n 0,false⟩:=⟨rfl,v,w,by simp,fun z A=>by
  grind⟩
 have o:(Aa.steps (PM (Gw n) e n B ⟨k,af n 0,false⟩)).length=n:=ac9 (J:=fun g:Aa=>g.steps.length=n) (fun m c g h=>PE h) e n B _ (by simp);refine KE (tml:=sxT) (H:=PC n) (jump:=sxJ) (hH:=WP n) (ht:=rfl) (g0:=⟨k,af n 0,false⟩) (g1:=PM (Gw n) e n B ⟨k,af n 0,false⟩) (ap:=(0,0,0)) (fa:=40) (F:=wK 0 B n n [] (aA (n+1) (dk e)) (gX n e n)) (F':=wK 0 B n n [] (aA (n+1) (dk e)) (gX n e n)) (rf:= .tup []) (f:=131) (k:=41) [] [] ?_ ?_ ?_ (by omega) rfl rfl ?_ ?_
 ·simp
 ·decide
 ·intro R ρ hl D E G;refine aak N (fun m c g Z V h2 h3 h4=>?_) (fun m c g h=>ac7 h) _ r;obtain⟨C,q2,q3,q4,S⟩:=Z;refine Nu D rfl rfl (by simp[sxJ,C]) (Sb ((PE q4).trans q4.symm)) ?_;rw[E,G];clear D E G hl L I N o r s M;obtain⟨left,steps,stop⟩:=g;simp only at C q2 q3 q4 S;subst C;obtain⟨z,A⟩: ∃z,steps[m-1]?=some z:=⟨_,aeR (by omega)⟩;have ac:=S z (adQ A);have T:IntKind.i64.wrap ((m:Int)-1)=((m-1:Nat):Int):=by grind [aH]
  by_cases u:left<c
  ·have b:Gw n m c ⟨left,steps,false⟩=(⟨left,steps,true⟩,false):=if_pos (.inl u);rw[b];refine kD fun _ K=>?_;simp(disch:=omega) only[kd,qb,afN,uM,qp,sxT,PC,A7];apply K
   refine wX fun _ K=>?_;simp(disch:=omega) only[kd,qb,afN,uM,qp,A7];apply K
   refine⟨rfl,Dg ?_⟩;refine EI (kD fun _ K=>?_);simp(disch:=omega) only[kd,qb,afN,uM,qp,A7,ae];apply K;refine Ho rfl (fun _=>?_) (fun h=>by cases h);refine kD fun _ K=>?_;simp(disch:=omega) only[kd,qb,afN,uM,qp,A7,ae];apply K
   refine NN ?_;refine⟨?_,.inr ⟨rfl,rfl,rfl⟩⟩;funext x;by_cases W:x=7
   ·subst W;rfl
   by_cases j:x=900
   ·subst j;rfl
   simp_all[PC,Hm,aK]
  have b:Gw n m c ⟨left,steps,false⟩=(⟨left-c,steps.set (m-1) (steps.getD (m-1) 0+c),false⟩,true):=if_neg (by grind);have U:steps.getD (m-1) 0=z:=by grind
  rw[b,U];refine kD fun _ K=>?_;simp(disch:=omega) only[kd,qb,afN,uM,qp,sxT,PC,A7];apply K
  refine wX fun _ K=>?_;simp(disch:=omega) only[kd,qb,afN,uM,qp,A7];apply K
  refine⟨rfl,Dg ?_⟩;refine EI (kD fun _ K=>?_);simp(disch:=omega) only[kd,qb,afN,uM,qp,A7,ae];apply K;refine Ho rfl (fun h=>by cases h) (fun _=>Ts ?_);show Ah _ _ _ _ _ _ _;refine kD fun _ K=>?_;simp(disch:=omega) only[kd,qb,afN,uM,qp,A7,ae,aH];apply K
  refine wX fun _ K=>?_;simp(disch:=omega) only[kd,qb,afN,uM,qp,A7,ae,T,A,aH];apply K
  refine⟨?_,.inl ⟨rfl,rfl,rfl⟩⟩;funext x;by_cases X:x=9
  ·subst X;rfl
  by_cases j:x=900
  ·simp_all[PC,Hm,aK,lc,fI]
  simp_all[PC,Hm,aK]
 ·simp(disch:=omega) only[kd,afT,aa,Nat.reduceSub,PC,sxT,ae];refine⟨by decide,by rw[j5];simp[lc],?_,?_⟩
  ·grind [aK]
  have hq: ∀l:List TV,wkL [7,9,900] l sxT-> ∀(t:Nat) x,sxT[t]?=some x->x=jk\/l[t]?=some x:=fun l h t x y=>((GJ h).2 t x y).imp_right fun h=>h.1
  exact hq _ (by unfold sxT;simp[wk])
 intro ρ ds;generalize PM (Gw n) e n B ⟨k,af n 0,false⟩=g at*
 obtain⟨left,steps,stop⟩:=g;cases stop with
 |true=>
  refine⟨rfl,_,bN.refl _,?_,rfl⟩;simp(disch:=omega) only[kd,results87,sxT,PC,ae,sxR]
 |false=>
  show Ah _ _ _ _ _ _ _;simp only at o;refine kD fun _ K=>?_;simp(disch:=omega) only[kd,qb,afN,uM,qp,sxT,PC,A7,ae];apply K
  refine NN ⟨.inr rfl,_,Ab 900 1 (o0:=⟨3,1,lc fI steps⟩) rfl (bF _ _ _),?_,rfl⟩;simp only[aeX,afh,Ox,j2,Fd];simp(disch:=omega) only[kd,results87,ae,reduceCtorEq,Fd,j2,sxR];grind
abbrev sxE (e:Int):TV:= .tup [(false,[.p (.raw (.slice none 0 0))]),(false,[.p (.raw (.int .i64 e))])]
abbrev okP (b:Nat):PV:= .raw (.pointer (some ⟨b,0,none⟩))
abbrev okT:List PV:=[.raw (.bool true)]
theorem adb (b:Nat) {i j:Nat} (q:i<n) (r:j<m) (u:n<=16) (t:m<=16) (h:ju (e i j)):
  CallT prog b 4 241 [.raw (.int .i64 (i:Int)),.raw (.int .i64 (j:Int)),.one (.p (.ptr (nX (mat n m e)))),.one (.p (okP b))] okT ⟨[],.raw (.int .i64 (e i j))⟩ okT:=by
 have s:=bA m e q;have o:=aw (e i) r;have g:=IC (e i j) h.bg;rw[adU h]at g;refine mM func241 rfl (by kernel_rfl) ?_;rw[ntmps241];refine Hr 3 900 rfl rfl (lu ?_);refine eF.weak (ak (tm:=(.raw (.int .i64 (i:Int))::rN j::.one (.p (.ptr (nX (mat n m e))))::.one (.ptr 900 0 0 0)::j16 (j4 (jk::[])))) (l:=[(900,[⟨4,1,[[.p (.raw (.bool true))]]⟩])]) ⟨rfl,trivial⟩ (by simp[wk,HV,Ar,af])) ?_;refine bU (k:=Tz [⟨7,_,_,_,g⟩] (aG s o) (k:=bU (k:=bU (k:=?_))));refine dX ⟨okT,rfl,rfl,.inr rfl,rfl,bQ rfl ?_ rfl⟩;simp(disch:=omega) only[kd,results241,yT,qz]
theorem TT (b:Nat) (n c:Nat) (f:FF) (A:1<=n) (z:n<=16) (v:1<=c) (u:c<=16) (w: ∀i j,i<n->j<c->ju (f i j)):
  CallT prog b 4 240 [.raw (.int .i64 (n:Int)),.raw (.int .i64 (c:Int)),.fn 241 [.p (.ptr (nX (mat n c f))),.p (okP b)]] okT ⟨[],bV (mat n c f)⟩ okT:=by
 refine mM func240 rfl (by kernel_rfl) ?_;rw[ntmps240];refine aaV (k:=dG (k:=ck (dG (k:=?_))));refine lw (G:=fp n) (fun g=>⟨(jk::rN c::.fn 241 [.p (.ptr (nX (mat n c f))),.p (okP b)]::j4 (.one (.sl 11 0 0 n)::j4 (jk::rN n::rN g.i::j16 (j4 (j4 (j4 ([]))))))),Hm [(11,kI 11 n c g.i (part f g.i 0))]⟩) (fun _=>okT) (fun g=>n-g.i) ⟨0,by omega⟩ ?_ rfl ?_
 ·refine ak ⟨?_,trivial⟩ ?_
  ·rfl
  simp[wk]
 rintro⟨i,x⟩;simp only;by_cases m:i<n
 ·have B:=xr (i:=i) (n:=n) 11 c m;have I:=lU (i:=i) (n:=n) 11 c x;have C:=aS i c (part f i 0);have D:=si (i:=i) (n:=n) (c:=c) 11 (part f i 0) m (fun j y=>by grind [part]);have r:=tU (i:=i+1) (k:=i) (n:=n) 11 c (by omega);have J:=lU (i:=i+1) (n:=n) 11 c (by omega);have L:=eU (n:=i+1) c (part f i 0) (i:=i) (by omega);refine dG (k:=tC rfl (ck (dE (dG (k:=l5 (aG B (aG @afc (aG @agb C))) (k:=?_))))));refine fx.weak (ak (tm:=(jk::rN c::.fn 241 [.p (.ptr (nX (mat n c f))),.p (okP b)]::j4 (.one (.sl 11 0 0 n)::rN i::j4 (.raw (.int .i64 (n:Int))::rN i::j16 (j4 (j4 (j4 ([])))))))) (l:=[(11,kI 11 n c (i+1) (part f i 0))]) ⟨?_,trivial⟩ (by simp[wk])) ?_
  ·first|exact D|rfl
  refine l5 r (k:=?_);refine lw (G:=fp c) (fun g=>⟨(jk::rN c::.fn 241 [.p (.ptr (nX (mat n c f))),.p (okP b)]::j4 (.one (.sl 11 0 0 n)::rN i::j4 (.raw (.int .i64 (n:Int))::rN i::j4 (j4 (jk::jk::jk::rN c::rN g.i::j4 (j4 (j4 (jk::jk::jk::[])))))))),Hm [(11,kI 11 n c (i+1) (part f i g.i))]⟩) (fun _=>okT) (fun g=>c-g.i) ⟨0,by omega⟩ ?_ rfl ?_
  ·refine ak ⟨rfl,trivial⟩ ?_;simp[wk]
  rintro⟨j,y⟩;simp only;by_cases h:j<c
  ·have s:=adb b m h z u (w i j m h);have E:=eU (n:=i+1) c (part f i j) (i:=i) (by omega);have F:=aw (part f i j i) h;refine dG (k:=tC rfl (ck (dE (dG (k:=?_)))));refine mK bZ 8 s [] [] (by kernel_rfl) (by kernel_rfl) (by rfl) (by rfl) fun _ K=>?_;simp(disch:=omega) only[kd,aa,r,E,F,f7];apply K
   show fx _ _ _ _ _ _ _;refine sW (k:=?_);refine⟨⟨j+1,by omega⟩,by grind,ak ⟨?_,trivial⟩ ?_,rfl⟩
   ·show _::_=_::_;rw[dw fun a b _ _=>ij f i j a b]
   simp[wk]
  have q:j=c:=by omega
  subst q;refine dG (k:=tB rfl (sW (k:=?_)));refine⟨⟨i+1,by omega⟩,by grind,ak ⟨?_,trivial⟩ ?_,rfl⟩
  ·grind [dw,jr]
  simp[wk]
 have o:i=n:=by omega
 subst o;refine dG (k:=tB rfl (dG (k:=?_)));refine fx.weak ((bR 11 (oH (n:=i) (c:=c) (f:=part f i 0) (Fp 11 i c (part f i 0)))).trans (ak (tm:=(j4 (jk::jk::bV (mat i c f)::j16 (j16 (j4 ([])))))) (l:=[]) trivial ?_)) ?_
 ·have e:=QV (H:=Hm [(11,kI 11 i c i (part f i 0))]) (d:=11) (n:=i) (c:=c) (f:=part f i 0) (Fp 11 i c (part f i 0));rw[gJ fun a b t _=>jq f a b t]at e;simp[wk];exact e.symm
 (refine px ⟨.inr rfl,rfl,bQ rfl ?_ rfl⟩;simp(disch:=omega) only[kd,results240,bV])
theorem RF (n c:Nat) (f:FF) (e:1<=n) (o:n<=16) (g:1<=c) (m:c<=16) (r: ∀i j,i<n->j<c->ju (f i j)):
  CallC prog 203 [dq (mat n c f)] ⟨[],.tup [(false,[.p (.sl (ls (fR fI) (mat n c f)))]),(false,[.p (.raw (.bool true))])]⟩:=by
 have h:=JF (mat n c f);rw[jx (mo f e o g m),aS,j7 f e]at h;refine aB func203 rfl ntmps203 (aE (k:=bD [⟨1,_,_,_,h⟩] (k:=aj (ax (k:=aq rfl (al ?_))))));refine bv.weak ((uI 1 1 (cs:=nX (mat n c f)) rfl rfl).trans (ak (tm:=(jk::.one (.p (.ptr (nX (mat n c f))))::jk::jk::rN n::rN c::.one (.ptr 6 0 0 0)::j16 ([]))) (l:=[(6,[⟨4,1,[[.p (.raw (.bool true))]]⟩])]) ⟨rfl,trivial⟩ (by simp[wk,f5,gn]))) ?_;refine aj (tu 6 (cs:=okT) rfl fun b=>?_);refine fx.weak (ak (tm:=(jk::.one (.p (.ptr (nX (mat n c f))))::jk::jk::rN n::rN c::fk b::j16 ([]))) (l:=[]) trivial (by simp[wk,yT,qz])) ?_;have q:=TT b n c f e o g m r;refine jI 3 q [] [] (by kernel_rfl) (by rfl) (by rfl) fun _ K=>?_;simp only[kd,nX,bV,aa,fk,lB];apply K
 refine⟨rfl,?_⟩;show bv _ _ _ _;refine bv.weak (ak (tm:=(j4 (jk::jk::.one (.ptr 6 0 0 0)::bV (mat n c f)::j4 (j4 (j4 (jk::jk::jk::[])))))) (l:=[(6,[⟨4,1,[[.p (.raw (.bool true))]]⟩])]) ⟨rfl,trivial⟩ (by simp[wk,HV,Ar])) ?_;refine aj (aZ (k:=aq rfl (al (aZ (k:=aI @results203)))))
theorem UJ {H:OH} {a:Nat} {j l m:OObj} (h:H a=[j,l,m]) (q: ∀e∈j.elems,∀x∈e,isPure x=true\/(∃c len,x= .sl a 1 c len)\/ ∃c len,x= .sl a 2 c len) (n:fE l) (p:fE m):ve H a:=fun r o b e f x g=>by
 rw[h]at b
 match r with
 |0=>
  grind
 |1=>
  injection b with b
  subst b;exact .inl (n e f x g)
 |2=>
  injection b with b
  subst b;exact .inl (p e f x g)
 |r+3=>simp at b
abbrev fmT (n:Nat) (f:FF):TV:= .agg [.p (.sl (ls fI (aA (n+1) (dk f)))),.p (.sl (ls (fR fI) (gX n f n)))]
theorem OW {o:FuncId} (w:o=138\/o=145) (m:SR n e):CallC prog o [bV (mat n n e)] ⟨[],fmT n e⟩:=by
 have j:=m.n1;have E:=m.n16;have t:=yz n n e j E j E m.i;have v:=G6 m;have z:=wu n e n;have A: ∀k,k<n->(yW n e n)[k]?=some (QQ n e k):=fun k I=>by simp[yW,I]
 have J:[[AV.p (.raw (.int .i64 1))]]=lc fI (aA 1 (dk e)):=by
  rfl
 rcases w with rfl|rfl
 all_goals
  first
  |(refine b6 func138 rfl (by kernel_rfl) ?_;rw[ntmps138];let C:TypeId:=180)
  |(refine b6 func145 rfl (by kernel_rfl) ?_;rw[ntmps145];let C:TypeId:=188)
  (first|refine am fun _ K=>?_|refine aj (am fun _ K=>?_)|refine aj (aj (am fun _ K=>?_)));simp(disch:=omega) only[kd,bV,af,aa];apply K
  (first|refine bf [⟨1,_,_,_,t⟩] [] fun _ K=>?_|refine aj (bf [⟨1,_,_,_,t⟩] [] fun _ K=>?_)|refine aj (aj (bf [⟨1,_,_,_,t⟩] [] fun _ K=>?_)));simp only[kd,bV,fiY,aa];apply K
  (first|refine bf [⟨1,_,_,_,v⟩] [] fun _ K=>?_|refine aj (bf [⟨1,_,_,_,v⟩] [] fun _ K=>?_)|refine aj (aj (bf [⟨1,_,_,_,v⟩] [] fun _ K=>?_)));simp only[kd,dq,aa];apply K
  (first|refine iW 3 [] [22] (by simp[wk]) (by decide) fun _ K=>?_|refine aj (iW 3 [] [22] (by simp[wk]) (by decide) fun _ K=>?_));simp(disch:=omega) only[kd,aa,Nat.reduceMul,Nat.reduceLeDiff,ae];apply K
  refine⟨_,(ot 7 22 900 rfl rfl rfl (by simp[fE,isPure]) (by simp[fE,isPure]) (by omega) (by omega) (by omega)),by simp[wk],?_⟩;simp only[aeX,afh,Ra,agV,oc,iD,tH];intro _ K;simp(disch:=omega) only[kd,ae,aa];apply K;refine bv.weak (ib 900 0 0 1 35 1 (by omega) rfl rfl rfl) ?_
  (first|refine am fun _ K=>?_|refine aj (am fun _ K=>?_)|refine aj (aj (am fun _ K=>?_)));simp(disch:=omega) only[kd,aa,ae,z];apply K
  refine ay (G:=fp n) (fun q=>⟨(jk::jk::.one (.ptr 2 0 0 0)::j4 (.one (.ptr 900 0 0 0)::j16 (.one (.p (.sl (ls fM (yW n e n))))::rN n::rN q.i::j16 (j4 (j4 (j4 (jk::[]))))))),Hm [(2,[⟨C,2,[[.p (.raw (.slice none 0 0)),.p (.raw (.slice none 0 0))]]⟩]),(900,[⟨C,2,[[.sl 900 1 0 (q.i+1),.sl 900 2 0 q.i]]⟩,⟨2,1,lc fI (aA (q.i+1) (dk e))⟩,⟨35,1,lc (fR fI) (gX n e q.i)⟩])]⟩) (fun q=>n-q.i) ⟨0,by omega⟩ ?_ ?_
  ·refine ak ⟨rfl,?_,trivial⟩ ?_
   ·rfl
   simp[wk]
  rintro⟨i,P⟩;simp only;by_cases D:i<n
  ·have L:=A i D;have u:=RF (n-i) (n-i) (kZ e i) (by omega) (by omega) (by omega) (by omega) (fun a b N H=>by have:=m.s i (i+a) (i+b) D (by omega) (by omega) (by omega) (by omega);show ju (bk e i (i+a) (i+b));constructor<;>omega);have F:=bA (n-i) (kZ e i) (show 0<n-i by omega);have M:=aw (kZ e i 0) (show 0<n-i by omega);have R:=aS (n-i) (n-i) (kZ e i);have q4:=az (n-i) (kZ e i 0);have l:=az (i+1) (dk e);have g:=oK n e i;have B:=IM n e i;have r:1<=n-i:=by omega
   (first|refine am fun _ K=>?_|refine aj (am fun _ K=>?_)|refine aj (aj (am fun _ K=>?_)));simp(disch:=omega) only[kd];apply K
   first|refine aP rfl ?_|refine aj (aX rfl (fun _=>al ?_) (fun h=>by simp at h<;>omega))
   refine aj (ao ?_)
   (first|refine am fun _ K=>?_|refine aj (am fun _ K=>?_)|refine aj (aj (am fun _ K=>?_)));simp(disch:=omega) only[kd,aa,L,fM];apply K
   (first|refine bf [⟨1,_,_,_,u⟩] [] fun _ K=>?_|refine aj (bf [⟨1,_,_,_,u⟩] [] fun _ K=>?_)|refine aj (aj (bf [⟨1,_,_,_,u⟩] [] fun _ K=>?_)));simp only[kd,dq,aa];apply K
   (first|refine kC bZ (by kernel_rfl) fun _ K=>?_|refine aj (kC bZ (by kernel_rfl) fun _ K=>?_)|refine aj (aj (kC bZ (by kernel_rfl) fun _ K=>?_)));simp(disch:=omega) only[kd,aa,ae,Int.reduceToNat,F,fR,M,oG,Nat.reduceMul,Nat.reduceLeDiff,l,Nat.reduceBEq,j6];apply K
   refine jz (aG F (aG q4 (aG r (aG (fj Fb) (aG B (aG g @i7)))))) (k:=bK (k:=?_));refine⟨⟨i+1,by omega⟩,by grind,ak ⟨rfl,?_,trivial⟩ ?_⟩
   ·rw[kS (i+1),<- DE n e i];rfl
   simp[wk]
  have y:i=n:=by omega
  subst y;have l:=az (i+1) (dk e);have g:=oK i e i
  (first|refine am fun _ K=>?_|refine aj (am fun _ K=>?_)|refine aj (aj (am fun _ K=>?_)));simp(disch:=omega) only[kd];apply K
  first|refine aQ rfl ?_|refine aj (aX rfl (fun h=>by simp at h<;>omega) (fun _=>aT ?_))
  show bv _ _ _ _
  (first|refine iW 1 [] [] (by simp[wk]) (by decide) fun _ K=>?_|refine aj (iW 1 [] [] (by simp[wk]) (by decide) fun _ K=>?_));simp only[kd,ae,aa];apply K
  refine⟨_,bR 900 (UJ rfl (fun c O x Q=>?_) (bF _ _ _) (bF _ _ _)),by simp[wk],?_⟩
  ·grind
  simp only[aeX,afh,f5,gn];intro _ K;simp(disch:=omega) only[kd,ae,aa];apply K
  (refine aM ⟨.inr rfl,bQ rfl ?_ rfl⟩;simp(disch:=omega) only[kd,results138,ae,aa,results145])
  grind
def fV (p:Int×Int):List PV:=[.raw (.int .i64 p.1),.raw (.int .i64 p.2)]
abbrev slV (l:List (Int×Int)):TV:= .one (.p (.sl (ls fV l)))
theorem Y4 (f:FF) (B:Int) (o:0<f 0 0) (s:f 0 0<=4611686018427387904) (c:0<=B) (x:B<=4611686018427387904):CallC prog 94 [bV (mat 1 1 f),.raw (.int .i64 B)] ⟨[],slV [(-isqF (B/f 0 0),isqF (B/f 0 0))]⟩:=by
 have b:0<=B/f 0 0:=af9 c (by omega);have t:B/f 0 0<=B:=ahh _ c;have w:=qY b (by omega);have cR:=BW (.inr (.inr rfl)) (B/f 0 0) b (by omega);have h:Int.tdiv B (f 0 0)=B/f 0 0:=agk c;have g:(f 0 0=0)=False:=eq_false (by omega);have e:=aS 1 1 f;have u:=bA (n:=1) 1 f (i:=0) (by omega);have l:=aw (m:=1) (f 0) (j:=0) (by omega);have v:=az 1 (f 0);show CallC _ _ _ ⟨[],.one (.p (.sl [[.raw (.int .i64 (-isqF (B/f 0 0))),.raw (.int .i64 (isqF (B/f 0 0)))]]))⟩;rw[show -isqF (B/f 0 0)=0-isqF (B/f 0 0) by omega];generalize B/f 0 0=q at*
 generalize isqF q=r at*
 generalize f 0 0=d at*
 refine aB func94 rfl ntmps94 (aE (k:=d9 e (k:=aj (ax (k:=aC rfl (ce [⟨7,_,_,_,cR⟩] (aG u (aG l h)) (k:=ax (k:=aI @results94))))))))
theorem Yf (M:List (List Int)) (B k e:Int) (f:e≠0) (c:CallC prog 87 [bV M,.raw (.int .i64 B),.raw (.int .i64 k)] ⟨[],sxE e⟩):CallC prog 44 [bV M,.raw (.int .i64 B),.raw (.int .i64 k)] ⟨[],sxE e⟩:=by
 have b:(e=0)=False:=eq_false f;refine aB func44 rfl ntmps44 (aE (k:=aj (bu [⟨3,_,_,_,c⟩] (k:=d9 b (k:=aC rfl (aZ (k:=aI @results44)))))))
theorem Yg (M:List (List Int)) (B k:Int) (L:List Int) (l:List (Int×Int)) (c:CallC prog 87 [bV M,.raw (.int .i64 B),.raw (.int .i64 k)] ⟨[],.tup [(false,[.p (.sl (ls fI L))]),(false,[.p (.raw (.int .i64 0))])]⟩) (b:CallC prog 94 [bV M,.raw (.int .i64 B)] ⟨[],slV l⟩):
  CallC prog 44 [bV M,.raw (.int .i64 B),.raw (.int .i64 k)] ⟨[],.tup [(false,[.p (.sl (ls fV l))]),(false,[.p (.raw (.int .i64 0))])]⟩:=by
 refine aB func44 rfl ntmps44 (aE (k:=aj (bu [⟨3,_,_,_,c⟩] (k:=ax (k:=aq rfl (al (bu [⟨2,_,_,_,b⟩] (k:=aI @results44))))))))
section
variable {n:Nat} {f:FF}
theorem Me (b:RedR f n) (l:1<=n) (m:n<=4) (p: ∀i j,i<n->j<n-> -262144<=f i j/\f i j<=262144):SR n f:=by
 refine⟨l,by omega,fun k o=>?_,fun k i j o g c h e=>?_⟩
 ·cases k with
  |zero=>rw[b8];omega
  |succ k=>
   have l:=b.2.1 k (by omega);have q:=fW (by omega) m b k (by omega);omega
 have:=EQ (by omega) b.1 (fun i c j e=>p i j c e) o (fun t r=>⟨b.2.1 t (by omega),fW (by omega) m b t (by omega),(b.2.2.2 t (by omega)).1⟩) g c h e;omega
theorem acI (g:RedR f n) (e:n<=4) (b:0<=x) (c:x<=1073741824):qH n f x:=⟨g,e,b,c⟩
theorem acH (b:RedR f n) (l:1<=n) (e:n<=4) (c:0<=x) (h:x<=4611686018427387904) (j:n=1\/x<1073741824):TlH n f x:=by
 by_cases g:n=1
 ·subst g;have m:dk f 1<65536:=fW (by omega) e b 0 (by omega);exact .inl ⟨rfl,b.2.1 0 (by omega),by omega,c,h⟩
 have:=j.resolve_left g;exact .inr ⟨by omega,b,e,c,by omega⟩
end
theorem Jm (l:isReducedM b=true):b=mat b.length b.length (ent b)/\1<=b.length/\b.length<=4/\RedR (ent b) b.length/\ ∀i j,i<b.length->j<b.length-> -262144<=ent b i j/\ent b i j<=262144:=by
 obtain⟨g,h,f,c⟩:=(iL b).1 l;have n:=iZ g h c;refine⟨OP fun r c=>?_,g,h,c,fun i j e m=>by have:=n i e j m;omega⟩;obtain⟨i,e⟩:=afo.1 c;exact f.at_ e
noncomputable def sxA (M:List (List Int)) (B k:Int):TV:=sxR (PM (Gw M.length) (ent M) M.length B ⟨k,af M.length 0,false⟩)
theorem BA {k:Int} (j:isReducedM b=true) (h:0<=x) (o:x<=65536) (n:0<=k) (c:k<=1000000):CallC prog 87 [bV b,.raw (.int .i64 x),.raw (.int .i64 k)] ⟨[],sxA b x k⟩:=by
 obtain⟨e,f,g,l,m⟩:=Jm j;have:=Yp (B:=x) (k:=k) (Me l f g m) (by rw[<- e];exact j) (acH l f g h (by omega) (.inr (by omega))) h (by omega) (.inr (by omega)) n c;rw[<- e]at this;exact this
theorem Z8 (u:qH n e x) (k:Nat) (y:List Int) (l:List (List PV)) (z:y.length+(k+1)=n) (w:tn y) (L:l.length=n) (K: ∀i,i<y.length->l[k+1+i]?=some [.raw (.int .i64 (y.getD i 0))]):
  CallC prog 147 [.one (.p (.ptr [.sl (ls fI (aA (n+1) (dk e))),.sl (ls (fR fI) (gX n e n))])),.raw (.int .i64 (k:Int)),.one (.p (.sl l))] ⟨[],.raw (.int .i64 (jU e n k (aL n y)))⟩:=by
 have J:=u.n8;have E:=Ba n e (show k<n by omega);have F:=oK n e n;have s:(rc n e k).length=y.length:=(az _ _).trans (by omega);have H: ∀i,i<y.length->(rc n e k)[i]?=some (bk e k k (k+(i+1))):=fun i P=>aw _ (by omega)
 have c:=fun m (j:m<=y.length)=>u.shP_c z w j
 have b:=sN e z;have g:yG e k y 0=0:=rfl;have h: ∀i,yG e k y i+bk e k k (k+(i+1))*y.getD i 0=yG e k y (i+1):=fun _=>rfl
 have A:IntKind.i64.wrap ((k:Int)+1)=((k+1:Nat):Int):=aH (by omega) (by omega);rw[<- b];clear u w b;generalize aA (n+1) (dk e)=D at*
 generalize gX n e n=M at*
 generalize rc n e k=r at*
 generalize yG e k y=O at*
 refine aB func147 rfl ntmps147 (aE (k:=aZ (k:=aj (aF (aG E s) (k:=?_)))));refine ay (G:=fp y.length) (fun q=>⟨(jk::rN k::.one (.p (.sl l))::j4 (.raw (.int .i64 (O q.i))::j4 (j4 (d7 r::rN y.length::rN q.i::j16 (jk::[]))))),Hm []⟩) (fun q=>y.length-q.i) ⟨0,by omega⟩ ?_ ?_
 ·refine ak trivial ?_;simp[wk,g]
 rintro⟨i,I⟩;simp only;by_cases j:i<y.length
 ·have o:=H i j;have Q:=c i (by omega);have R:=c (i+1) (by omega);have N:=h i;have C:IntKind.i64.wrap (((k+1:Nat):Int)+(i:Int))=((k+1+i:Nat):Int):=by grind [aH]
  have v:=K i j;generalize bk e k k (k+(i+1))=q at*
  generalize y.getD i 0=S at*
  refine ax (k:=aP rfl (aj (ao (aF o (k:=dz (aG A (aG C (aG v N))) (k:=bK (k:=?_)))))));refine⟨⟨i+1,by omega⟩,by grind,ak trivial ?_⟩;simp[wk]
 have t:i=y.length:=by omega
 subst t;refine ax (k:=aQ rfl (aZ (k:=aI @results147)))
theorem ZH (L:List Int) (z:Int) (m:1<=L.length) (b:L.length<=1000) (g:L[L.length-1]?=some z) (h: -1000000000<=z) (j:z<=1000000000):CallC prog 88 [d7 L] ⟨[],.raw (.int .i64 (Int.tdiv (z-1) 2))⟩:=by
 have e:IntKind.i64.wrap ((L.length:Int)-1)=((L.length-1:Nat):Int):=by grind [aH]
 have l:(Int.tdiv (z-1) 2).natAbs<=(z-1).natAbs:=by
  grind
 have f:IntKind.i64.wrap (Int.tdiv (z-1) 2)=Int.tdiv (z-1) 2:=aH (by omega) (by omega);have c:L.length-1<L.length:=by omega
 refine aB func88 rfl ntmps88 (aE (k:=aF (aG e (aG g f)) (k:=aI @results88)))
def Ru (f:FF) (x:List Int) (i j:Nat):Int:=smF (fun b=>f i b*x.getD i 0*x.getD b 0) j
def SW (f:FF) (x:List Int) (n i:Nat):Int:=smF (fun a=>Ru f x a n) i
theorem OZ {x:List Int} {T i b:Nat} (h: ∀i j,i<n->j<n->(e i j).natAbs<=m) (l: ∀i,(x.getD i 0).natAbs<=T) (o:m*T*T<=72057594037927936) (p:i<n) (q:b<n):(e i b*x.getD i 0).natAbs<=72057594037927936/\(e i b*x.getD i 0*x.getD b 0).natAbs<=72057594037927936:=by
 have c:(e i b*x.getD i 0).natAbs<=m*T:=by simp_all[afr,afd]
 have g:(e i b*x.getD i 0*x.getD b 0).natAbs<=m*T*T:=by rw[afr];simp_all[afd]
 grind [Nat.le_trans,Nat.le_mul_of_pos_right]
theorem Zs (n:Nat) (f:FF) (x:List Int) (E T:Nat) (hn:n<=8) (hx:x.length=n) (o: ∀i j,i<n->j<n->(f i j).natAbs<=E) (y: ∀i,(x.getD i 0).natAbs<=T) (z:E*T*T<=72057594037927936):
  CallC prog 40 [bV (mat n n f),d7 x] ⟨[],.raw (.int .i64 (SW f x n n))⟩:=by
 have H:=aS n n f;have K: ∀i,i<n-> ∀j,j<=n->(Ru f x i j).natAbs<=576460752303423488:=fun i c j C=>by
  have:=ki (F:=fun b=>f i b*x.getD i 0*x.getD b 0) (B:=72057594037927936) j fun b M=>(OZ o y z c (by omega)).2
  unfold Ru;omega
 have L: ∀i,i<=n->(SW f x n i).natAbs<=4611686018427387904:=fun i c=>by
  have:=ki (F:=fun a=>Ru f x a n) (B:=576460752303423488) i fun a ha=>K a (by omega) n (aeJ n)
  unfold SW;omega
 have l: ∀i,i<n->x[i]?=some (x.getD i 0):=fun i c=>by grind
 have r: ∀i j,Ru f x i j+f i j*x.getD i 0*x.getD j 0=Ru f x i (j+1):=fun _ _=>rfl
 have v: ∀i,SW f x n i+Ru f x i n=SW f x n (i+1):=fun _=>rfl
 have q: ∀i,Ru f x i 0=0:=fun _=>rfl
 have t:SW f x n 0=0:=rfl;have h: ∀i,i<n->(mat n n f)[i]?=some (aA n (f i)):=fun i c=>bA n f c
 have P:=fun i b (c:i<n) (C:b<n)=>OZ (x:=x) o y z c C
 clear o y z;refine aB func40 rfl ntmps40 (aE (k:=aZ (k:=aj (d9 H (k:=?_)))));refine ay (G:=fp n) (fun g=>⟨(jk::d7 x::jk::jk::jk::.raw (.int .i64 (SW f x n g.i))::j4 (bV (mat n n f)::rN n::rN g.i::j16 (j4 (j4 (jk::jk::jk::[]))))),Hm []⟩) (fun g=>n-g.i) ⟨0,by omega⟩ ?_ ?_
 ·refine ak trivial ?_;simp[wk,t]
 rintro⟨i,c⟩;simp only;by_cases m:i<n
 ·have O:=h i m;have I:=az n (f i);refine ax (k:=aP rfl (aj (ao (aF O (k:=d9 I (k:=?_))))));refine ay (G:=fp n) (fun g=>⟨(jk::d7 x::jk::jk::jk::.raw (.int .i64 (SW f x n i+Ru f x i g.i))::rN i::jk::jk::jk::bV (mat n n f)::rN n::rN i::j4 (d7 (aA n (f i))::rN n::rN g.i::j16 (j4 ([])))),Hm []⟩) (fun g=>n-g.i) ⟨0,by omega⟩ ?_ ?_
  ·refine ak trivial ?_;simp[wk,q]
  rintro⟨j,C⟩;simp only;by_cases e:j<n
  ·have N:=aw (f i) e;have U:=l i m;have V:=l j e;have t1:=P i j m e;have s1:=r i j;have Y:=K i m (j+1) (by omega);have Z:=L i (by omega);have S:SW f x n i+Ru f x i j+f i j*x.getD i 0*x.getD j 0=SW f x n i+Ru f x i (j+1):=by omega
   generalize x.getD i 0=W at*
   generalize x.getD j 0=X at*
   generalize f i j=a at*
   generalize J:Ru f x i (j+1)=s' at*
   generalize Ru f x i j=s at*
   generalize SW f x n i=p at*
   generalize Q:a*W=u at*
   generalize R:u*X=w at*
   refine ax (k:=aP rfl (aj (ao (aF N (k:=jz (aG U (aG Q (aG V (aG R S)))) (k:=bK (k:=?_)))))));refine⟨⟨j+1,by omega⟩,by grind,ak trivial ?_⟩;simp[wk,J]
  have D:j=n:=by omega
  subst D;refine ax (k:=aQ rfl (bK (k:=?_)));refine⟨⟨i+1,by omega⟩,by grind,ak trivial ?_⟩;simp[wk,v]
 have A:i=n:=by omega
 subst A;refine ax (k:=aQ rfl (aZ (k:=aI @results40)))
theorem K7 (n:Nat) (f:FF) (r:1<=n) (x:n<=16):CallC prog 39 [bV (mat n n f)] ⟨[],d7 (aA n fun i=>f i i)⟩:=by
 have b:=aS n n f;have u:af n [AV.p (.raw (.int .i64 0))]=lc fI (aA n fun j=>if j<0 then f j j else 0):=by
  have v:(aA n fun j=>if j<0 then f j j else 0)=af n 0:=aeW fun i=>by
   grind [aA]
  grind [fI0]
 refine aB func39 rfl ntmps39 (aE (k:=aF b (k:=aj (d9 b (k:=?_)))));refine ay (G:=fp n) (fun g=>⟨(jk::jk::jk::.one (.sl 8 0 0 n)::j4 (jk::bV (mat n n f)::rN n::rN g.i::j4 (j4 (j4 (jk::[]))))),Hm [(8,[⟨2,1,lc fI (aA n fun j=>if j<g.i then f j j else 0)⟩])]⟩) (fun g=>n-g.i) ⟨0,by omega⟩ ?_ ?_
 ·refine ak ⟨?_,trivial⟩ ?_
  ·rw[<- u];rfl
  simp[wk]
 rintro⟨i,w⟩;simp only;by_cases m:i<n
 ·have s:=bA n f m;have q:=aw (f i) m;have t:=az n (f i);have h:=az n (fun j=>if j<i then f j j else 0);have e:=aw (fun j=>if j<i then f j j else 0) m;have c:(lc fI (aA n fun j=>if j<i then f j j else 0)).set i [AV.p (.raw (.int .i64 (f i i)))]=lc fI (aA n fun j=>if j<i+1 then f j j else 0):=by
   rw[show[AV.p (.raw (.int .i64 (f i i)))]=(fI (f i i)).map AV.p from rfl,tW,lQ];grind
  refine ax (k:=aP rfl (aj (ao (aF s (k:=dz (aG q (aG e c)) (k:=bK (k:=?_)))))));refine⟨⟨i+1,by omega⟩,by grind,ak ⟨rfl,trivial⟩ ?_⟩;simp[wk]
 have l:i=n:=by omega
 subst l;have h:=az i (fun j=>if j<i then f j j else 0);refine ax (k:=aQ rfl (aZ (k:=?_)));refine aM ⟨.inr rfl,dI 8 (bj rfl) ?_ rfl⟩;have o:List.take i (aA i fun j=>if j<i then f j j else 0)=aA i fun j=>f j j:=by
  grind [bG]
 simp(disch:=omega) only[kd,results39,o,d7]
def LK (L:List Int):Nat->Int
 |0=>L.getD 0 0
 |i+1=>if L.getD (i+1) 0<LK L i then L.getD (i+1) 0 else LK L i
structure MnG (n:Nat) where
 i:Nat
 h:i+1<=n
theorem adX (L:List Int) (m:1<=L.length) (p:L.length<=1000):CallC prog 38 [d7 L] ⟨[],.raw (.int .i64 (LK L (L.length-1)))⟩:=by
 have j: ∀i,i<L.length->L[i]?=some (L.getD i 0):=fun i n=>by grind
 have l:=j 0 (by omega);have c:LK L 0=L.getD 0 0:=rfl;have e: ∀i,(if L.getD (i+1) 0<LK L i then L.getD (i+1) 0 else LK L i)=LK L (i+1):=fun _=>rfl
 refine aB func38 rfl ntmps38 (aE (k:=aj (ax (k:=aq rfl (al (aF l (k:=aj (aZ (k:=?_)))))))));refine ay (G:=MnG L.length) (fun g=>⟨(d7 L::jk::jk::.raw (.int .i64 (LK L g.i))::.raw (.int .i64 ((g.i+1:Nat):Int))::j16 (j4 ([]))),Hm []⟩) (fun g=>L.length-g.i) ⟨0,m⟩ ?_ ?_
 ·refine ak trivial ?_;simp[wk,c]
 rintro⟨i,n⟩;simp only;by_cases h:i+1<L.length
 ·have f:=j (i+1) h;have o:=e i;refine aj (ax (k:=aC rfl (al (aj (ao (dz (aG f o) (k:=bK (k:=?_))))))));refine⟨⟨i+1,h⟩,by grind,ak trivial ?_⟩;simp[wk]
 have b:i=L.length-1:=by omega
 subst b;refine aj (ax (k:=aq rfl (aT (aZ (k:=aI @results38)))))
theorem Vl (x:Int) (l:List Int):ls fI (x::l)=fI x::ls fI l:=rfl
theorem acK {P:Program} {e:Func} {d:Nat} {g:TypeId} (j:s.H d=[⟨g,1,lc fI c⟩]) (b:uh P s e.results.toList=some (.one (.sl d 0 0 c.length))) (h:d<=4999):
  ∃f,bN s f/\qn P e ⟨[⟨g,1,lc fI c⟩],.one (.sl 0 0 0 c.length)⟩ f:=
 ⟨s,bN.refl s,_,d,b,Cf (by rfl) h,by grind [renO,jh],rfl⟩
theorem Ia (l:List Int) (e:1<=l.length) (f:l.length<=1000):CallC prog 142 [d7 l] ⟨[⟨2,1,lc fI l⟩],.one (.sl 0 0 0 l.length)⟩:=by
 obtain⟨x,c,rfl⟩: ∃x c,l=x::c:=by
  cases l with
  |nil=>simp at e
  |cons x c=>simp
 refine aB func142 rfl ntmps142 (aE (k:=aj (d9 @Vl (k:=?_))));have b:([PV.raw (.int .i64 x)]::ls fI c)=ls fI (x::c):=rfl;simp only[b];clear b;generalize x::c=L at*
 refine aq rfl (al ?_);show bv _ _ _ _;refine bf [] [5] fun _ K=>?_;simp(disch:=omega) only[kd,aa,Nat.reduceMul,afl,Nat.reduceLeDiff,jg Fb];apply K
 refine aM ⟨.inr rfl,acK (d:=5) rfl ?_ (by decide)⟩;simp(disch:=omega) only[kd,results142]
theorem jM {a b:Int} (h:a<=b):rng a b=a::rng (a+1) b:=by
 unfold rng;rw[show(b-a+1).toNat=(b-(a+1)+1).toNat+1 by omega,agl,aeX,aga]
 congr 1
 ·simp
 grind [List.map_congr_left]
theorem lP {a:Int} (h: ¬a<=x):rng a x=[]:=by
 grind [rng]
theorem Hj {P:Program} {j:Type} {L:iz j} {f:List Nat} {g:j} {c z:Code} {Q:Exit->AS->j->Prop} (S:AS) (n:eF P L f c (wC (fun h b=>bN h S/\b=g) Q) s g) (o:eF P L f z Q S g):eF P L f c (wC (eF P L f z Q) Q) s g:=fun q Y t O X a w r=>
 wp_mono (n q Y t O X a w r) fun e u v ⟨h,b,l,m⟩=>by
  cases e with
  |normal=>
   obtain⟨p,rfl⟩:=l;exact⟨h,b,o.weak p,m⟩
  |_=>exact⟨h,b,l,m⟩
noncomputable def CP (f:FF) (n:Nat) (B:Int) (ex:Bool):Nat->List Int->Bool->List (List Int)
 |0,y,z=>(rng (if z=true then 0 else cu f n B 0 (aL n y)) (dy f n B 0 (aL n y))).flatMap fun c=>if(z&&decide (c=0))=true\/(ex&&!decide (uk f n B 0 (aL n (c::y))=0))=true then[]else[c::y]
 |k+1,y,z=>(rng (if z=true then 0 else cu f n B (k+1) (aL n y)) (dy f n B (k+1) (aL n y))).flatMap fun c=>CP f n B ex k (c::y) (z&&decide (c=0))
abbrev Ie (a n m:Nat) (y D:List Int) (M acc:List (List Int)) (ex:Bool):List OObj:=[⟨182,1,[[.fn 139 a [(1,0,0),(2,0,0),(0,0,0),(6,0,0),(4,0,0)]]]⟩,⟨180,2,[[.p (.sl (ls fI D)),.p (.sl (ls (fR fI) M))]]⟩,⟨35,1,[[.sl a 3 0 n]]⟩,⟨2,1,jo m++lc fI y⟩,⟨26,1,[[.sl a 5 0 acc.length]]⟩,⟨35,1,lc (fR fI) acc⟩,⟨4,1,[[.p (.raw (.bool ex))]]⟩]
theorem zj (a d n m:Nat) (y D:List Int) (M acc:List (List Int)) (ex:Bool):(Ie a n m y D M acc ex).map (renO d)=Ie d n m y D M acc ex:=by
 simp only[Ie,aeX,afh,renO,dA,jh,afv,j5,ah0,afq,if_false]
theorem If (a n m:Nat) (y D:List Int) (M acc:List (List Int)) (ex:Bool): ∀o∈Ie a n m y D M acc ex,selfO a o:=fun o f e b x c=>by
 simp only[afn,afx,or_false]at f;rcases f with rfl|rfl|rfl|rfl|rfl|rfl|rfl
 ·simp only[aeK]at b;subst b;simp only[aeK]at c;subst c;exact⟨rfl,by simp⟩
 ·simp only[aeK]at b;subst b;simp only[afn,afx,or_false]at c;rcases c with rfl|rfl<;>trivial
 ·simp only[aeK]at b;subst b;simp only[aeK]at c;subst c;rfl
 ·simp only[afD]at b;rcases b with b|b
  ·obtain⟨_,rfl⟩:=agM.1 b;simp only[aeK]at c;subst c;trivial
  exact dj (bF 2 1 _ e b x c)
 ·simp only[aeK]at b;subst b;simp only[aeK]at c;subst c;rfl
 ·exact dj (bF 35 1 _ e b x c)
 simp only[aeK]at b;subst b;simp only[aeK]at c;subst c;trivial
abbrev srP:List (Nat×Nat):=[(1,3),(2,4),(0,5),(6,6),(4,7)]
theorem ab9 (a n m f:Nat) (y g D:List Int) (M acc b:List (List Int)) (ex:Bool): ∀r∈srP.map Prod.fst,∀o,(Ie a n m y D M acc ex)[r]?=some o-> ∃c,(Ie a n f g D M b ex)[r]?=some c/\c.es=o.es/\o.elems.length<=c.elems.length:=fun r e o h=>by
 simp only[srP,aeX,afh,afn,afx,or_false]at e;rcases e with rfl|rfl|rfl|rfl|rfl<;>(injection h with h;subst h;simp)
abbrev srA (k:Nat) (b:Int) (z:Bool):List TV:=[.raw (.int .i64 (k:Int)),.raw (.int .i64 b),.raw (.bool z),.one (.ptr 0 1 0 0),.one (.ptr 0 2 0 0),.one (.ptr 0 0 0 0),.one (.ptr 0 6 0 0),.one (.ptr 0 4 0 0)]
abbrev SrC (n:Nat) (f:FF) (B:Int) (ex:Bool) (k:Nat) (y:List Int) (z:Bool) (acc:List (List Int)):Prop:=
 lZ prog VI (srP.map Prod.fst) 139 (srA k (uk f n B (k+1) (aL n y)) z) (Ie 0 n (k+1) y (aA (n+1) (dk f)) (gX n f n) acc ex) (Ie 0 n (k+1) y (aA (n+1) (dk f)) (gX n f n) (acc++CP f n B ex k y z) ex) () () (.tup [])
end Go.Proofs.YtalmoejhjceflaaGreat
