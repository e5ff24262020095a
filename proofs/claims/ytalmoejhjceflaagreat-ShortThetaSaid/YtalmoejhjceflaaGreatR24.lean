/-
  Part 25 of a proof (walks and plain facts).
-/
import Derived.Test.YtalmoejhjceflaaGreatR23
set_option linter.all false
set_option maxRecDepth 100000
set_option maxHeartbeats 64000000
open Nat renaming reduceAdd → aa
open List renaming replicate → ae
namespace Go.Proofs.YtalmoejhjceflaaGreat
open Go.RowKit Go.Proofs.Tryz
variable {n m:Nat} {b:List (List Int)} {c:List Int} {e:List Nat} {x:Int} {f:FF} {g:FuncId} {w:World} {h:v8}
section
variable {n:Nat} {f:FF} {B:Int}
theorem SR {d:Int} (b:0<d) (c:0<=x):isqF (x*d)/d=isqF (x/d):=by
 have l:=dx (aaZ c (acd b));have m:=dx (abW c (acd b));refine Kb.uniq ?_ m;obtain⟨j,p,s⟩:=l;generalize isqF (x*d)=r at*
 have g:0<=r/d:=abW j (acd b);have h:=Int.ediv_mul_le r (show d≠0 by omega);have o:=ack r b;generalize r/d=q at*
 refine⟨g,?_,?_⟩
 ·rw[acl b];have e:q*q*d*d<=x*d:=by
   have:(q*d)*(q*d)<=r*r:=aa9 h h (aaZ g (acd b)) j;grind
  simp_all
 rw[Int.ediv_lt_iff_lt_mul b];have e:x*d<(q+1)*(q+1)*d*d:=by
  have:(r+1)*(r+1)<=((q+1)*d)*((q+1)*d):=aa9 (by omega) (by omega) (by omega) (by omega);grind
 simp_all
theorem xH (c:0<dk f 1) (b:0<=B):cz f 1 B 0 (aL 1 [])= -isqF (B/dk f 1)/\di f 1 B 0 (aL 1 [])=isqF (B/dk f 1):=by
 have g:lA f 1 0 (aL 1 [])=0:=by rfl
 have e:gU f 1 B 0 (aL 1 [])=B*dk f 1:=by
  grind [BF,aL,dJ,gU,cu]
 grind [cz,di,SR]
theorem TM {a c:Int} (h:a<=c) (g:c<=x+1):rng a x=rng a (c-1)++rng c x:=by
 obtain⟨m,e⟩: ∃m:Nat,c=a+m:=⟨(c-a).toNat,by omega⟩;subst e;clear h
 induction m generalizing a with
 |zero=>
  grind [jM]
 |succ m j=>
  rw[ip (a:=a) (b:=x) (by omega),ip (a:=a) (by omega)];grind
noncomputable def toL (f:FF) (n:Nat) (B:Int):Nat->List Int->Nat
 |0,y=>(rng (cz f n B 0 (aL n y)) (di f n B 0 (aL n y))).length
 |k+1,y=>(rng (cz f n B (k+1) (aL n y)) (di f n B (k+1) (aL n y))).length+((rng (cz f n B (k+1) (aL n y)) (di f n B (k+1) (aL n y))).map fun c=>toL f n B k (c::y)).sum
theorem JU {F G:Int->Nat}: ∀l:List Int,(∀c,F c<=1+G c)->(l.map F).sum<=l.length+(l.map G).sum
 |[],_=>by simp
 |c::l,h=>by
  have:=JU l h;grind
theorem Gj: ∀(k:Nat) (y:List Int),(qo f n B k y).length<=1+toL f n B k y
 |0,y=>by show 1<=_;omega
 |k+1,y=>by
  have:=JU (rng (cz f n B (k+1) (aL n y)) (di f n B (k+1) (aL n y))) fun c=>Gj k (c::y)
  grind [qo,toL,List.length_flatMap]
theorem vI {F G:Int->Nat}: ∀l:List Int,(∀c,c∈l->F c<=G c)->(l.map F).sum<=(l.map G).sum
 |[],_=>by simp
 |c::l,h=>by
  have:=vI l fun c b=>h c (by simp[b])
  grind
theorem JV {G:Int->Nat} {a c:Int} (h:a<=c):((rng c x).map G).sum<=((rng a x).map G).sum:=by
 by_cases e:c<=x+1
 ·rw[TM h e,aba,List.sum_append];omega
 grind [jM]
theorem Bf: ∀(k:Nat) (y:List Int),(fb f n B (k+1) y).length<=toL f n B k y
 |0,y=>by
  rw[jZ];show((rng _ _).map fun _=>1).sum<=_;rw[vJ];exact aaq _
 |k+1,y=>by
  rw[jZ];simp only[toL];exact aaj (vI _ fun c _=>Bf k (c::y)) (by omega)
/-! Steps. -/
structure OkG (n:Nat) (g:v8):Prop where
 s:g.stop=false
 l:0<=g.left
 ln:g.steps.length=n
 p: ∀i,i<n->0<=g.steps.getD i 0
structure AR (n T V:Nat) (g:v8) (r:v8×Bool):Prop where
 ok:(T:Int)<=g.left->r.2=true/\OkG n r.1/\r.1.left=g.left-T/\r.1.steps.getD (n-1) 0=g.steps.getD (n-1) 0+V/\sL n r.1.steps=sL n g.steps+T
 no:g.left<T->r.2=false/\r.1.stop=true
theorem AR.comp {o l p:Nat} {c r:v8×Bool} (q:AR n m o h c) (s:c.2=true->OkG n c.1->AR n l p c.1 r) (t:c.2=false->r=(c.1,false)):AR n (m+l) (o+p) h r:=by
 by_cases u:(m:Int)<=h.left
 ·obtain⟨e,j,v,w,x⟩:=q.ok u;have k:=s e j;refine⟨fun b=>?_,fun b=>?_⟩
  ·obtain⟨y,z,A,C,D⟩:=k.ok (by omega);grind
  exact k.no (by omega)
 obtain⟨e,j⟩:=q.no (by omega);rw[t e];exact⟨fun b=>by omega,fun _=>⟨rfl,j⟩⟩
theorem Rp (l:OkG n h) {m c:Nat} (s:1<=m) (r:m<=n):AR n c (if m=n then c else 0) h (Cj n m c h):=by
 have e:=l.ln;refine⟨fun b=>?_,fun b=>?_⟩
 ·unfold Cj;rw[if_neg (by omega)];have o:=Ba (n:=n) (m:=m-1) (d:=(c:Int)-1) l.ln (by omega);have j:=fun i=>wT (m:=m-1) (i:=i) (d:=(c:Int)-1) (c:=h.steps) (by omega)
  unfold Dg at o j;rw[show(c:Int)-1+1=c by omega]at o j;refine⟨rfl,⟨rfl,by grind,by simp[e],fun i q=>?_⟩,rfl,?_,o⟩
  ·show 0<=(h.steps.set (m-1) (h.steps.getD (m-1) 0+c)).getD i 0;rw[j i];have:=l.p i q;grind
  grind
 grind [Cj]
theorem OZ {b:Int->v8->v8×Bool} {T V:Int->Nat} {hi:Int}: ∀(m:Nat) (x:Int) (g:v8),hi-x+1=m->OkG n g->(∀c g,x<=c->c<=hi->OkG n g->AR n (T c) (V c) g (b c g))->AR n ((rng x hi).map T).sum ((rng x hi).map V).sum g (lpM b m x g)
 |0,x,g,s,e,_=>by
  rw[jM (by omega)];refine⟨fun _=>⟨rfl,e,?_,?_,?_⟩,fun h=>?_⟩
  ·simp[lpM]
  ·simp[lpM]
  ·simp[lpM]
  have:=e.l;grind
 |m+1,x,g,s,e,j=>by
  rw[ip (by omega)];simp only[aaC,List.sum_cons];refine(j x g (acp _) (by omega) e).comp (fun o p=>?_) fun o=>?_
  ·have:=OZ m (x+1) (b x g).1 (by omega) p fun c g t q r=>j c g (by omega) q r
   grind [lpM]
  grind [lpM]
theorem J6 (o:pn n f B): ∀(k:Nat) (y:List Int) (g:v8),y.length+(k+1)=n->pA y->fC f n B (k+1) (aL n y)->OkG n g->AR n (toL f n B k y) (fb f n B (k+1) y).length g (jU (Cj n) f n B k y g)
 |0,y,g,l,p,j,r=>by
  have s:=(o.lohi l p j).2.2;have h:=Rp r (m:=n) (c:=(rng (cz f n B 0 (aL n y)) (di f n B 0 (aL n y))).length) (by omega) (aaq _);rw[if_pos rfl]at h;have e:(fb f n B (0+1) y).length=(rng (cz f n B 0 (aL n y)) (di f n B 0 (aL n y))).length:=by
   rw[jZ];show((rng _ _).map fun _=>1).sum=_;rw[vJ]
  rw[e];have q:(((rng (cz f n B 0 (aL n y)) (di f n B 0 (aL n y))).length:Nat):Int)=di f n B 0 (aL n y)-cz f n B 0 (aL n y)+1:=by rw[rI];omega
  rw[q]at h;exact h
 |k+1,y,g,l,p,j,r=>by
  have s:=(o.lohi l p j).2.2;have h:=Rp r (m:=n-(k+1)) (c:=(rng (cz f n B (k+1) (aL n y)) (di f n B (k+1) (aL n y))).length) (by omega) (by omega);rw[if_neg (by omega)]at h;have q:(((rng (cz f n B (k+1) (aL n y)) (di f n B (k+1) (aL n y))).length:Nat):Int)=di f n B (k+1) (aL n y)-cz f n B (k+1) (aL n y)+1:=by rw[rI];omega
  rw[q]at h;rw[jZ,show((rng (cz f n B (k+1) (aL n y)) (di f n B (k+1) (aL n y))).map fun x=>(fb f n B (k+1) (x::y)).length).sum=0+((rng (cz f n B (k+1) (aL n y)) (di f n B (k+1) (aL n y))).map fun x=>(fb f n B (k+1) (x::y)).length).sum by omega];unfold toL jU;refine h.comp (fun v w=>?_) fun v=>?_
  ·have:=OZ (b:=fun c=>jU (Cj n) f n B k (c::y)) (T:=fun c=>toL f n B k (c::y)) (V:=fun c=>(fb f n B (k+1) (c::y)).length) (hi:=di f n B (k+1) (aL n y)) (di f n B (k+1) (aL n y)-cz f n B (k+1) (aL n y)+1).toNat (cz f n B (k+1) (aL n y)) _ (by omega) w fun c g t u z=>J6 o k (c::y) g (by grind) (o.tcb l p j t u) (o.step l j t u).1 z
   grind
  grind
theorem XJ (c:pn n f B) (o:1<=n) (m:OkG n h): ∃t,AR n (toL f n B (n-1) []) (fb f n B n []).length h (J3 (Cj n) f n B h,t):=by
 have j:fC f n B n (aL n []):=ji c.r.pd c.b0;have b:=J6 c (n-1) [] h (by simp;omega) pA.nil (by grind) m;rw[show n-1+1=n by omega]at b;by_cases e:n=1
 ·subst e;have l:=c.d (k:=1) (by omega);obtain⟨l1,p⟩:=xH (f:=f) l.1 c.b0;grind [jU,J3]
 grind [J3]
end
section
structure Rf (M:List (List Int)) (n:Nat) (f:FF):Prop where
 red:isReducedM M=true
 e:M=mat n n f
 n1:1<=n
 n8:n<=8
 r:RedR f n
 b: ∀i j,i<n->j<n-> -262144<=f i j/\f i j<=262144
 en:ent M=f
 l:M.length=n
theorem PU {M:List (List Int)} (h:isReducedM M=true):Rf M M.length (ent M):=by
 obtain⟨e,b,c,g,f⟩:=Ei h;exact⟨h,e,b,c,g,f,rfl,rfl⟩
section
variable {M:List (List Int)} {n:Nat} {f:FF} {B k:Int}
theorem Rf.vs (h:Rf M n f) (b:0<=B) (c:B<=65536):pn n f B:=W9 h.r h.n8 b (by omega)
theorem Tj (b:0<=k):OkG n ⟨k,ae n 0,false⟩:=⟨rfl,b,by simp,fun i _=>by
 grind⟩
theorem EH (h:Rf M n f) (g:0<=B) (j:B<=65536) (m:0<=k) (o:k<=1000000):
  ((toL f n B (n-1) []:Int)<=k-> ∃L:List Int,Ye M B k= .tup [(false,[.p (.sl (ls fI L))]),(false,[.p (.raw (.int .i64 0))])]/\L.length=n/\(∀i,i<n->0<=L.getD i 0)/\sL n L=toL f n B (n-1) []/\L.getD (n-1) 0=((fb f n B n []).length:Int))/\
  (k<(toL f n B (n-1) []:Int)->Ye M B k=L8 9):=by
 have q:Ye M B k=XF (J3 (Cj n) f n B ⟨k,ae n 0,false⟩):=by
  unfold Ye;rw[if_pos h.red,if_neg (by omega),h.l,h.en,if_neg (by omega)]
 obtain⟨t,e⟩:=XJ (h.vs g j) h.n1 (Tj (n:=n) m);rw[q];have w:(ae n (0:Int)).getD (n-1) 0=0:=by
  grind
 have r:sL n (ae n (0:Int))=0:=by
  simp_all[sL,bA,iO]
 refine⟨fun c=>?_,fun c=>?_⟩
 ·obtain⟨_,b,_,u,v⟩:=e.ok c;refine⟨_,by unfold XF;rw[if_neg (by rw[b.s];decide)],b.ln,b.p,?_,?_⟩
  ·grind
  grind
 obtain⟨_,b⟩:=e.no c;grind [XF]
theorem WK (h:Rf M n f) (c:0<=B) (l:B<=65536) (o:(qo f n B (n-1) []).length<=2000000):CallC prog 94 [dn M,.raw (.int .i64 B)] ⟨[],Yb (qo f n B (n-1) [])⟩:=by
 have g:=h.vs c l;rw[h.e];by_cases e:n=1
 ·subst e;have m:=g.d (k:=1) (aaq 1);have j:dk f 1=f 0 0:=by show bk f 0 0 0=f 0 0;exact dr f 0 0
  obtain⟨l1,p⟩:=xH (f:=f) m.1 c;have:=SO f B (by omega) (by omega) c (by omega);show CallC _ _ _ ⟨[],Yb [(cz f 1 B 0 (aL 1 []),di f 1 B 0 (aL 1 []))]⟩;rw[l1,p,j];exact this
 have:=h.n1;exact SP g (G0 h.r h.n1 h.n8 h.b) (qh h.r h.n8 h.b) (by omega) o
theorem N6 (h:Rf M n f) (c:0<=B) (e:B<=65536) (g:0<=k) (b:k<=1000000):
  ((toL f n B (n-1) []:Int)<=k->CallC prog 44 [dn M,.raw (.int .i64 B),.raw (.int .i64 k)] ⟨[],.tup [(false,[.p (.sl (ls fV (qo f n B (n-1) [])))]),(false,[.p (.raw (.int .i64 0))])]⟩)/\
  (k<(toL f n B (n-1) []:Int)->CallC prog 44 [dn M,.raw (.int .i64 B),.raw (.int .i64 k)] ⟨[],L8 9⟩):=by
 grind [EH,D9,Gj,RG,WK,RF]
noncomputable def Zf (f:FF) (n b:Nat):List Int:=aQ (b+1) fun m=>(gF (ld n f) (0,fun _=>0) (fb f n (b:Int) n [])).2 m
theorem CK (h:Rf M n f) (b:Nat) (hb:b<=1000) (V:0<=k) (D:k<=1000000) (J:(toL f n (b:Int) (n-1) []:Int)<=k):
  CallC prog 19 [dn M,.raw (.int .i64 (b:Int)),.raw (.int .i64 k)] ⟨[],.tup [(false,[.p (.sl (ls fI (Zf f n b)))]),(false,[.p (.raw (.int .i64 0))])]⟩:=by
 have L:=h.vs (B:=(b:Int)) (by omega) (by omega);have X:=h.l;have Q:=h.n1;have R:=h.n8;have H:=ff M;rw[h.red]at H;have O:=(N6 h (B:=(b:Int)) (by omega) (by omega) V D).1 J;have w:=Gj (f:=f) (n:=n) (B:=(b:Int)) (n-1) [];have g:=Bf (f:=f) (n:=n) (B:=(b:Int)) (n-1) [];rw[show n-1+1=n by omega]at g;have F:=Sw L Q (fun z E S=>by
  obtain⟨N,Y,Z⟩:=Pm h.r R h.b (by omega) (by omega) E S;exact⟨N,by constructor<;>omega⟩) (by omega) (by omega)
 rw[<- h.e]at F;have o:=(Ok (nm:=ld n f) (fb f n (b:Int) n []) In);have q: ∀j,0<=(gF (ld n f) (0,fun _=>0) (fb f n (b:Int) n [])).2 j/\(gF (ld n f) (0,fun _=>0) (fb f n (b:Int) n [])).2 j<=4000000:=fun j=>by
  have:=o.1 j;omega
 unfold Zf;generalize gF (ld n f) (0,fun _=>0) (fb f n (b:Int) n [])=G at*
 generalize qo f n (b:Int) (n-1) []=I at*
 clear o g w J L;have P:IntKind.i64.wrap ((b:Int)+1)=((b+1:Nat):Int):=aR (by omega) (by omega);have t:((b:Int)<0)=False:=eq_false (by omega);have u:(1000<(b:Int))=False:=eq_false (by omega);refine ay func19 rfl ntmps19 (aA (k:=ai (am (bM [⟨1,_,_,_,H⟩] (k:=aq rfl (ai (fL t (k:=aq rfl (nA u (k:=aq rfl (ak (bM [⟨3,_,_,_,O⟩] (k:=ai (ar (k:=aq rfl (ak (R4 2 34 F [] [] (by decide) rfl fun K c=>?_)))))))))))))))));simp only[kd];refine c _ ⟨rfl,by simp[xR,jc],?_⟩;clear c K;intro r K c;simp only[kd,aa];apply c;clear c K;have E:ae (b+1) [AV.p (.raw (.int .i64 0))]=lc fI (aQ (b+1) fun j=>if j<0 then G.2 (j:Int)else 0):=by
  have h0:(aQ (b+1) fun j=>if j<0 then G.2 (j:Int)else 0)=ae (b+1) 0:=aay fun i=>by
   grind [aQ]
  grind [WB]
 refine d6 P (k:=bV (gD (k:=?_)));refine ku (G:=jo (b+1)) (fun v=>⟨(j4 (j4 (jk::jk::.raw (.map (some r))::.one (.sl 37 0 0 (b+1))::j16 (j4 (j4 (jk::jk::jk::.raw (.int .i64 ((b+1:Nat):Int))::rN v.i::j4 (j4 (jk::jk::[])))))))),Hm [(37,[⟨2,1,lc fI (aQ (b+1) fun j=>if j<v.i then G.2 (j:Int)else 0)⟩])]⟩) (fun _=>G) (fun v=>b+1-v.i) ⟨0,by omega⟩ ?_ rfl ?_
 ·refine aj ⟨?_,trivial⟩ ?_
  ·rw[<- E];rfl
  simp[wk]
 rintro⟨i,hi⟩;simp only;by_cases W:i<b+1
 ·have A:=aI (b+1) (fun j=>if j<i then G.2 (j:Int)else 0);have y:=aB (fun j=>if j<i then G.2 (j:Int)else 0) W;have s:(lc fI (aQ (b+1) fun j=>if j<i then G.2 (j:Int)else 0)).set i [AV.p (.raw (.int .i64 (G.2 (i:Int))))]=lc fI (aQ (b+1) fun j=>if j<i+1 then G.2 (j:Int)else 0):=by
   rw[show[AV.p (.raw (.int .i64 (G.2 (i:Int))))]=(fI (G.2 (i:Int))).map AV.p from rfl,tg,mn];grind
  have T:=q (i:Int);refine gD (k:=FC rfl (bV (gd (gD (k:=FB U7 4 47 (i:Int) [] [] (by kernel_rfl) (by decide) rfl ⟨by omega,by omega⟩ fun K c=>?_)))));simp only[kd,aa];refine c _ ⟨rfl,?_⟩;clear c K;intro K c;simp(disch:=omega) only[kd,aa,y,s];apply c;clear c K;show eD _ _ _ _ _ _ _;refine uL (k:=?_);refine⟨⟨i+1,by omega⟩,by grind,aj ⟨rfl,trivial⟩ ?_,rfl⟩;simp[wk]
 have C:i=b+1:=by omega
 subst C;refine gD (k:=FA rfl ?_);show eD _ _ _ _ _ _ _;have x:(aQ (b+1) fun j=>if j<b+1 then G.2 (j:Int)else 0)=aQ (b+1) fun m=>G.2 (m:Int):=eB fun j U=>if_pos U
 rw[x];have A:=aI (b+1) (fun m=>G.2 (m:Int));refine gD (k:=mv ?_);show _/\_;refine⟨.inr rfl,fF 37 (bG rfl) ?_ rfl⟩;simp(disch:=omega) only[kd,results19];grind
end
end
theorem qf (x y:List Int):CallC prog 21 [kE x,kE y] ⟨[],.raw (.int .i64 (dm x y))⟩:=by
 refine lZ (by kernel_rfl) fun X w vs u p f=>?_
 obtain⟨C,s,q⟩:=wA f (j:=0) rfl;obtain⟨D,t,r⟩:=wA f (j:=1) rfl;obtain⟨A,c,rfl,v,o,l⟩:=BV q;obtain⟨B,d,rfl,z,b,m⟩:=BV r;obtain rfl:vs= #[.slice A x.length c,.slice B y.length d]:=by
  grind
 refine(oA A B c d x y w l m o b).mono fun e E ⟨g,h⟩=>?_
 obtain⟨n,rfl⟩:=h;exact⟨_,g,fun _ _ _=>bQ.raw _ rfl,(Ext.refl _).drewN n⟩
theorem Pj {k:Nat} {X:Nat->Prop} {A:Option Addr} (h:RO k w A b) (p: ∀f,X f->f<k):bQ X w (.sl (ls (fR fI) b)) (.slice A b.length b.length):=by
 obtain⟨F,f,rfl,E,q,s⟩:=h;have:=bQ.sl (X:=X) (w:=w) f 0 1 b.length (ls (fR fI) b) (fun i _=>(w.cell? ⟨f,i,none⟩).getD undef) (fun h=>absurd (p _ h) (by omega)) q (fun e g=>by
  obtain⟨z,_,rfl⟩:=aai.1 g;rfl) (by grind [dU]) (by rw[dU];omega) (fun i e j x g l=>by
  grind [fX,fR]) (fun i e j x g l=>by
  rw[fX]at g;obtain⟨r,t,rfl⟩:=u6.1 g;cases j with
  |succ j=>simp[fR]at l
  |zero=>
   simp[fR]at l;subst l;obtain⟨u,c,n,y,B,o,C⟩:=s i r t;simp only[n,abh];cases r with
   |nil=>exact bQ.nil _ _
   |cons H G=>
    obtain⟨v,m,rfl,D⟩:=o (by simp);grind [PQ])
 grind [dU]
theorem PR {g:Rho} {H:OH} {X:Nat->Prop} {v:Value} (e:Bool) (h:bQ X w (.sl (ls (fR fI) b)) v):(WH b e).rel g H X w (.tuple #[v,.bool e]):=by
 refine⟨#[v,.bool e],rfl,rfl,fun j c l f=>?_⟩
 match j,f with
 |0,f=>
  simp at f;obtain⟨rfl,rfl⟩:=f;exact⟨_,rfl,.inr ⟨rfl,_,rfl,h⟩⟩
 |1,f=>
  simp at f;obtain⟨rfl,rfl⟩:=f;exact⟨_,rfl,.inr ⟨rfl,_,rfl,bQ.raw _ rfl⟩⟩
 |j+2,f=>simp at f
def Vp (M l:List (List Int)):Option (List (Int×List Int)):=if isReducedM M then gE M l else none
def Xz (M l:List (List Int)):List (List Int):=match Vp M l with|none=>[]|some b=>(iV b).map Prod.snd
def Xy (M l:List (List Int)):Bool:=(Vp M l).isSome
theorem Qu {l:List (List Int)} (h:Vp b l=none):WH (Xz b l) (Xy b l)=WH [] false:=by simp[Xz,Xy,h]
theorem Qv {l:List (List Int)} {c:List (Int×List Int)} (h:Vp b l=some c):WH (Xz b l) (Xy b l)=WH ((iV c).map Prod.snd) true:=by simp[Xz,Xy,h]
theorem Tr (M l:List (List Int)) (p:l.length<=65536):CallC prog 89 [dn M,dn l] ⟨[],WH (Xz M l) (Xy M l)⟩:=by
 refine wI (by kernel_rfl) fun X w vs D s g=>?_
 obtain⟨G,x,t⟩:=wA g (j:=0) rfl;obtain⟨H,y,u⟩:=wA g (j:=1) rfl;obtain⟨A,c,rfl,o,r,n⟩:=rG t;obtain⟨B,d,rfl,E,q,m⟩:=rG u;obtain rfl:vs= #[.slice A M.length c,.slice B l.length d]:=by
  grind
 refine(yo A B c d M l w n m r o p).mono fun e I ⟨b,h⟩=>?_
 change ZG _ _ (Vp M l) _ at b
 cases f:Vp M l with
 |none=>
  rw[f]at b;rw[Qu f];exact⟨_,b,fun _ _ _ _=>PR _ (bQ.nil _ _),h⟩
 |some F=>
  rw[f]at b;rw[Qv f];obtain⟨v,z,C⟩:=b;grind [PR,Pj]
/-! Insertion. -/
def qN (M:List (List Int)) (x:List Int):Int:=BF M.length (ent M) (fun i=>x.getD i 0) (fun i=>x.getD i 0)
theorem W5 (g:x=1\/x= -1):qN b (c.map fun a=>x*a)=qN b c:=by
 unfold qN BF;refine bA _ fun i _=>?_
 have e: ∀i,(c.map fun a=>x*a).getD i 0=x*c.getD i 0:=fun i=>by
  grind
 simp only[e];have f:dJ (fun j=>ent b i j*(x*c.getD j 0)) b.length=x*dJ (fun j=>ent b i j*c.getD j 0) b.length:=by
  rw[<- jl];grind
 grind
def itV (M:List (List Int)) (x:List Int):Int×List Int:=(qN M x,Sp x)
def Y9 (M l:List (List Int)):List (Int×List Int):=iV (l.map (itV M))
theorem Dz: ∀(l acc:List (Int×List Int)),(l.foldl (fun acc x=>ox x acc) acc).length<=l.length+acc.length
 |[],acc=>by simp
 |x::l,acc=>by
  have:=Dz l (ox x acc);grind [PI]
section
section
variable {M:List (List Int)} {n:Nat} {f:FF} {B:Int}
theorem YJ (r:RedR f n) (l:n<=8) (h:0<=B) (j:B<=65536) (t:c.length=n) (g:ld n f c<=B): ∀b∈c,b.natAbs<=524288:=fun b o=>by
 rw[pu]at g;have m:B*((2^n:Nat):Int)<=((4096:Nat):Int)*((4096:Nat):Int):=by
  have e:(2^n:Nat)<=256:=aaj (aaE (by omega) l) (by decide);generalize(2^n:Nat)=p at*
  have:=aa9 j (adW.2 e) (by omega) (by omega);omega
 obtain⟨i,s⟩:=abl.1 o;have q:i<n:=by grind
 have:=zF r (fun i=>c.getD i 0) h g m (n-i-1) i (by omega);have e:2^(n-i-1)<=2^7:=aaE (by omega) (by omega);grind
theorem N9 (c:RedR f n) (b:0<=B) (z:List Int):z∈fb f n B n []↔z.length=n/\ld n f z<=B:=by
 rw[Jo c.pd b,pu]
theorem Oc: ∀(k:Nat) (w z:List Int),z∈fb f n B k w-> ∃p,z=p++w
 |0,w,z,h=>⟨[],by grind [fb]⟩
 |k+1,w,z,h=>by
  simp only[fb,adQ]at h;obtain⟨c,_,h⟩:=h;obtain⟨p,rfl⟩:=Oc k (c::w) z h;exact⟨p++[c],by simp⟩
theorem Qh {r:List Int} (g: ∀b∈c,b=0) (e:x≠0):gO (c++x::r)=if x<0 then -1 else 1:=by
 grind [gO]
theorem JP {p:List Int} (g: ∀b∈c,b=0) (e:x≠0):gO (p++x::c).reverse=if x<0 then -1 else 1:=by
 grind [Qh]
theorem Jp (j:pn n f B) (z:List Int): ∀(k:Nat) (y:List Int) (b:Bool),y.length+(k+1)=n->pA y->fC f n B (k+1) (aL n y)->(b=true-> ∀x∈y,x=0)->(z∈yE f n B false k y b↔z∈fb f n B (k+1) y/\(b=true->gO z.reverse=1))
 |0,y,b,h,u,g,o=>by
  have r:=fun e=>oT j h g (o e)
  simp only[yE,fb,adQ,oU,aam,aea,aa5,or_false];constructor
  ·rintro⟨c,⟨l,m⟩,t⟩;split at t
   ·simp at t
   rename_i s;obtain rfl:z=c::y:=by grind
   cases b with
   |false=>grind
   |true=>
    have q:c≠0:=fun e=>s (by simp[e])
    simp only[if_true]at l;refine⟨⟨c,⟨by grind,m⟩,rfl⟩,fun _=>?_⟩;have:=JP (p:=[]) (o rfl) q;grind
  grind [gO]
 |k+1,y,b,h,u,g,o=>by
  have r:=fun e=>oT j h g (o e)
  have w:=fun c (l:cz f n B (k+1) (aL n y)<=c) (m:c<=di f n B (k+1) (aL n y))=>Jp j z k (c::y) (b&&decide (c=0)) (by grind) (j.tcb h u g l m) (j.step h g l m).1 fun e=>by
   grind
  have v:fb f n B (k+1+1) y=(rng (cz f n B (k+1) (aL n y)) (di f n B (k+1) (aL n y))).flatMap fun c=>fb f n B (k+1) (c::y):=rfl
  grind [yE,oU,Oc,JP]
noncomputable def EE (f:FF) (n:Nat) (B:Int):List (List Int):=yE f n B false (n-1) [] true
theorem GI (h:Rf M n f) (b:0<=B) (e:B<=65536) (z:List Int):z∈EE f n B↔z.length=n/\ld n f z<=B/\gO z.reverse=1:=by
 have c:=h.vs b e;have g:fC f n B n (aL n []):=ji c.r.pd b;have l:=h.n1;unfold EE;rw[Jp c z (n-1) [] true (by simp;omega) pA.nil (by grind) (fun _ x j=>by simp at j),show n-1+1=n by omega,N9 h.r b,and_assoc]
 simp
theorem PK (h:Rf M n f) (z:List Int):qN M z=ld n f z:=by
 unfold qN;rw[h.l,h.en,pu]
theorem Qg (h:gO c.reverse=1):gO c≠0:=fun e=>by
 grind [LX]
def X9 (n:Nat) (f:FF) (z:List Int):Int×List Int:=(ld n f z,Sp z)
theorem WL (h:Rf M n f) (q:0<=B) (s:B<=65536) (m:c.length=n) (t:ld n f c<=B) (v:gO c≠0):n5 M c=some (X9 n f c):=by
 have w:=YJ h.r h.n8 q s m t;have g:E9 c=true:=by
  grind [E9]
 have b:yF M.length c=true:=qu.2 ⟨by rw[m,h.l],g⟩;have u:0<=ld n f c:=by
  rw[pu];have:=(jf h.r.pd.1 h.r.pd.2 (fun i=>c.getD i 0) n 0 (by omega)).1;rwa[jm (f':=f) (fun i j _ _=>dr f i j) (fun _ _=>rfl) (fun _ _=>rfl)]at this
 have e:=WJ h.red b b;unfold n5;rw[if_pos b];have o:uw M c=some (ld n f c):=by
  unfold uw;rw[e,show BF M.length (ent M) (fun i=>c.getD i 0) (fun i=>c.getD i 0)=ld n f c from PK h c];grind
 have p:i5 c=some (Sp c):=by
  rw[FX g,if_neg v];rfl
 rw[o,p];rfl
theorem Jc (h:Rf M n f) (b:0<=B) (c:B<=65536): ∀{l:List (List Int)},(∀z∈l,z.length=n/\ld n f z<=B/\gO z≠0)->gE M l=some (l.map (X9 n f))
 |[],_=>rfl
 |x::l,e=>by
  obtain⟨g,j,m⟩:=e x (by simp);unfold gE;rw[WL h b c g j m,Jc h b c (fun y o=>e y (by simp[o]))];rfl
noncomputable def Cv (f:FF) (n:Nat) (B:Int):List (Int×List Int):=iV ((EE f n B).map (X9 n f))
theorem ZX (h:Rf M n f) (b:0<=B) (c:B<=65536):Xz M (EE f n B)=(Cv f n B).map Prod.snd/\Xy M (EE f n B)=true:=by
 have e:=Jc h b c (l:=EE f n B) fun z j=>by
  grind [GI,Qg]
 have g:Vp M (EE f n B)=some ((EE f n B).map (X9 n f)):=by unfold Vp;rw[if_pos h.red,e]
 unfold Xz Xy;rw[g];exact⟨rfl,rfl⟩
theorem GO (h:Rf M n f) (b:x=1\/x= -1) (z:List Int):ld n f (z.map fun a=>x*a)=ld n f z:=by
 rw[<- PK h,<- PK h,W5 b]
theorem Wk (h:gO c=1):Sp c=c:=by
 simp_all[Sp]
theorem Rj (h:Rf M n f) (l:0<=B) (m:B<=65536) (p:Int×List Int):p∈Cv f n B↔p.2.length=n/\p.1=ld n f p.2/\p.1<=B/\gO p.2=1:=by
 unfold Cv;rw[AH,aai];constructor
 ·grind [GI,gO,X9,Sp,GO,yk]
 rintro⟨c,b,g,j⟩;obtain⟨v,y⟩:=p;simp only at c b g j;subst b;have o:gO y.reverse≠0:=fun e=>by
  grind [gO]
 have q:gO y.reverse=1\/gO y.reverse= -1:=by grind [Ha]
 refine⟨y.map fun a=>gO y.reverse*a,(GI h l m _).2 ⟨by grind,by grind [GO],?_⟩,?_⟩
 ·rw[<- List.map_reverse,yk q];grind
 grind [X9,GO,Sr,Wk]
end
end
section
section
variable {M:List (List Int)} {n:Nat} {f:FF} {B k:Int}
theorem Xq (c:0<dk f 1) (b:0<=B):EE f 1 B=(rng 1 (isqF (B/dk f 1))).flatMap (Pd (dk f 1) B false):=by
 obtain⟨l1,e⟩:=xH (f:=f) c b;have g:=(dx (abW b (acd c))).1;unfold EE;simp only[show 1-1=0 from rfl,yE,if_true,e];grind [ip,List.map_congr_left,oU,Pd]
theorem Xl {F:Nat->Int} {i:Nat} (h:i<=n) (b: ∀a,a<n->0<=F a):dJ F i<=dJ F n:=by
 induction n with
 |zero=>grind
 |succ n c=>
  grind [dJ]
theorem Vo (j:pn n f B): ∀(k:Nat) (y:List Int) (z:Bool),y.length+(k+1)=n->pA y->fC f n B (k+1) (aL n y)->(z=true-> ∀x∈y,x=0)->(yE f n B false k y z).length<=(fb f n B (k+1) y).length
 |0,y,z,h,q,g,o=>by
  have m:=fun e=>oT j h g (o e)
  rw[jZ];simp only[yE,aeh];have b:cz f n B 0 (aL n y)<=(if z=true then 0 else cz f n B 0 (aL n y)):=by
   grind
  refine aaj (vI (G:=fun c=>(fb f n B 0 (c::y)).length) _ fun c _=>?_) (JV b);show _<=1;grind
 |k+1,y,z,h,q,g,o=>by
  have m:=fun e=>oT j h g (o e)
  rw[jZ];simp only[yE,aeh];have b:cz f n B (k+1) (aL n y)<=(if z=true then 0 else cz f n B (k+1) (aL n y)):=by
   grind
  refine aaj (vI (G:=fun c=>(fb f n B (k+1) (c::y)).length) _ fun c r=>?_) (JV b);obtain⟨l,p⟩:=oU.1 r;have l:cz f n B (k+1) (aL n y)<=c:=by omega
  refine Vo j k (c::y) _ (by grind) (j.tcb h q g l p) (j.step h g l p).1 fun e=>?_
  grind
theorem Qp (h:Rf M n f) (b:0<=B) (e:B<=65536):(EE f n B).length<=(fb f n B n []).length:=by
 have c:=h.vs b e;have g:fC f n B n (aL n []):=ji c.r.pd b;have l:=h.n1;have:=Vo c (n-1) [] true (by simp;omega) pA.nil (by grind) (fun _ x j=>by simp at j);rwa[show n-1+1=n by omega]at this
theorem Su (h:Rf M 1 f) (b:0<=B) (u:B<=65536):CallC prog 90 [dn M,.raw (.int .i64 B),.raw (.bool false)] ⟨[],dn (EE f 1 B)⟩:=by
 have s:=(h.vs b u).d (k:=1) (aaq 1);have v:dk f 1<=10000:=h.r.2.2.1;have t:dk f 1=f 0 0:=by show bk f 0 0 0=f 0 0;exact dr f 0 0
 rw[Xq s.1 b];have w:0<=B/dk f 1:=abW b (by omega);have x:B/dk f 1<=B:=acX _ b;have o:=dx w;have z:isqF (B/dk f 1)<=256:=by
  refine ab8 fun q=>?_
  have:=aa9 (show(257:Int)<=isqF (B/dk f 1) by omega) (show(257:Int)<=isqF (B/dk f 1) by omega) (by omega) (by omega);have:=o.2.1;omega
 have p:=WU (dk f 1) B false s.1 (by omega) b (by omega) (by
  grind [List.length_flatMap,Pd,vJ,rI])
 have c:=h.l;have g:M[0]?=some (aQ 1 (f 0)):=by rw[h.e];rfl
 have q:=aB (m:=1) (f 0) (j:=0) (by omega);have y:=aI 1 (f 0);generalize(rng 1 (isqF (B/dk f 1))).flatMap (Pd (dk f 1) B false)=E at*
 rw[t]at p;refine ay func90 rfl ntmps90 (aA (k:=ai (aK c (k:=aC rfl (gh [⟨7,_,_,_,p⟩] (aH g q) (k:=aG @results90))))))
theorem Wn (h:Rf M n f) (c:0<=B) (g:B<=65536) (j:(EE f n B).length<=1000000):CallC prog 90 [dn M,.raw (.int .i64 B),.raw (.bool false)] ⟨[],dn (EE f n B)⟩:=by
 by_cases e:n=1
 ·subst e;exact Su h c g
 have:=h.n1;rw[h.e];exact Sv (h.vs c g) (G0 h.r h.n1 h.n8 h.b) (qh h.r h.n8 h.b) false (by omega) j
abbrev vtT (l:List (List Int)) (s e:Int):TV:= .tup [(false,[.p (.sl (ls (fR fI) l))]),(false,[.p (.raw (.int .i64 s))]),(false,[.p (.raw (.int .i64 e))])]
abbrev vtE (e:Int):TV:= .tup [(false,[.p (.raw (.slice none 0 0))]),(false,[.p (.raw (.int .i64 0))]),(false,[.p (.raw (.int .i64 e))])]
theorem VL (h:Rf M n f) (g:0<=B) (o:B<=65536) (S:0<=k) (E:k<=1000000) (N:(toL f n B (n-1) []:Int)<=k):
  CallC prog 37 [dn M,.raw (.int .i64 B),.raw (.int .i64 k)] ⟨[],if 8194<(fb f n B n []).length then vtE 7 else vtT ((Cv f n B).map Prod.snd) (toL f n B (n-1) []) 0⟩:=by
 obtain⟨L,K,t,j,u,x⟩:=(EH h g o S E).1 N;have q:=D9 M B k;rw[K]at q;have T:=h.n1;have U:=h.n8;have l:=Bf (f:=f) (n:=n) (B:=B) (n-1) [];rw[show n-1+1=n by omega]at l;have P:=Qp h g o;have s: ∀i,i<n->L[i]?=some (L.getD i 0):=fun i C=>by grind
 have p:=Tt L ((fb f n B n []).length:Int) (by omega) (by omega) (by grind) (by omega) (by omega);have X:1<=(fb f n B n []).length:=by
  have H:ae n (0:Int)∈fb f n B n []:=(N9 h.r g _).2 ⟨by simp,by
   grind [pu,uV]⟩
  grind
 have W:Int.tdiv (((fb f n B n []).length:Int)-1) 2=(((fb f n B n []).length:Int)-1)/2:=abB (by omega);rw[W]at p;have A:=Wn h g o;have m:=ZX h g o;have b:=Tr M (EE f n B);rw[m.1,m.2]at b;have I: ∀i,i<n->sL i L+L.getD i 0=sL (i+1) L:=fun _ _=>rfl
 have y: ∀i,i<=n->0<=sL i L/\sL i L<=1000000:=fun i C=>by
  refine⟨ng i fun a O=>j a (by omega),?_⟩;have:=Xl (F:=fun i=>L.getD i 0) C fun a O=>j a O
  grind [sL]
 have J:sL 0 L=0:=rfl;rw[<- u]at N⊢;generalize(fb f n B n []).length=z at*
 generalize EE f n B=Q at*
 generalize(Cv f n B).map Prod.snd=V at*
 clear K x;by_cases c:8194<z
 ·rw[if_pos c];have e:(4096<((z:Int)-1)/2)=True:=eq_true (by omega);refine ay func37 rfl ntmps37 (aA (k:=bM [⟨3,_,_,_,q⟩] (k:=ai (ar (k:=aq rfl (ak (ai (cn [⟨1,_,_,_,p⟩] e (k:=aC rfl (bz (k:=aG @results37)))))))))))
 rw[if_neg c];have e:(4096<((z:Int)-1)/2)=False:=eq_false (by omega);have R:=A (by omega);have b:=b (by omega);refine ay func37 rfl ntmps37 (aA (k:=bM [⟨3,_,_,_,q⟩] (k:=ai (ar (k:=aq rfl (ak (ai (fj [⟨1,_,_,_,p⟩] e (k:=aq rfl (ak (bz (k:=ai (fL t (k:=?_))))))))))))));refine aF (G:=jo n) (fun v=>⟨(dn M::.raw (.int .i64 B)::j4 (j4 (jk::.raw (.int .i64 (sL v.i L))::j16 (jk::kE L::rN n::rN v.i::j16 (jk::[]))))),Hm []⟩) (fun v=>n-v.i) ⟨0,by omega⟩ ?_ ?_
 ·refine aj trivial ?_;simp[wk,J]
 rintro⟨i,C⟩;simp only;by_cases H:i<n
 ·have w:=s i H;have Y:=I i H;have Z:=y (i+1) (by omega);refine ar (k:=bi rfl (ai (am (aK w (k:=dZ Y (k:=bL (k:=?_)))))));refine⟨⟨i+1,by omega⟩,by grind,aj trivial ?_⟩;simp[wk]
 have D:i=n:=by omega
 subst D;refine ar (k:=bv rfl (fj [⟨3,_,_,_,R⟩,⟨4,_,_,_,b⟩] @WH.eq_1 (k:=bz (k:=aG @results37))))
end
end
section
variable {n:Nat}
theorem Yg {f:FF} {a:Nat} (c:a<n) (e:m<n):BF n f (eC a) (eC m)=f a m:=by
 grind [eC,pc,BF]
def l1 (y:Nat->Int):Nat->Nat
 |0=>0
 |k+1=>l1 y k+(y k).natAbs
end
section
section
variable {M:List (List Int)} {n:Nat} {f:FF} {B k:Int}
def yT (n:Nat) (f:FF):Int:=GJ (aQ n fun i=>f i i) (n-1)
theorem Pc (L:List Int): ∀i j,j<=i->GJ L i<=L.getD j 0
 |0,j,h=>by rw[show j=0 by omega];exact acp _
 |i+1,j,h=>by
  show(if L.getD (i+1) 0<GJ L i then L.getD (i+1) 0 else GJ L i)<=_;by_cases e:j=i+1
  ·grind
  have:=Pc L i j (by omega);omega
theorem Pb (L:List Int): ∀i,∃j,j<=i/\GJ L i=L.getD j 0
 |0=>⟨0,aaq 0,rfl⟩
 |i+1=>by
  obtain⟨j,b,c⟩:=Pb L i;grind [GJ]
theorem IW {i:Nat} (b:i<n):(aQ n fun i=>f i i).getD i 0=f i i:=by
 grind [aB]
theorem YV (c:1<=n): ∀i,i<n->yT n f<=f i i:=fun i b=>by
 have:=Pc (aQ n fun i=>f i i) (n-1) i (by omega);rwa[IW b]at this
theorem U8 (c:1<=n): ∃i,i<n/\yT n f=f i i:=by
 obtain⟨j,e,b⟩:=Pb (aQ n fun i=>f i i) (n-1);exact⟨j,by omega,by rw[<- IW (n:=n) (f:=f) (i:=j) (by omega)];exact b⟩
theorem O5 (h:Rf M n f):0<yT n f/\yT n f<=65536:=by
 have b:=h.n1;obtain⟨i,g,e⟩:=U8 (f:=f) b;have l:=(h.vs (B:=0) (by omega) (by omega)).d (k:=1) b;have j:dk f 1=f 0 0:=by show bk f 0 0 0=f 0 0;exact dr f 0 0
 have:=YV (f:=f) b 0 (by omega);refine⟨?_,by omega⟩;rw[e];have c:=h.r.pd.diag g;exact c
def XS (n i:Nat):List Int:=aQ n (eC i)
theorem XT {i:Nat} (b:i<n):gO (XS n i)=1:=by
 have e:XS n i=ae i 0++1::ae (n-i-1) 0:=by
  apply aay;intro j;by_cases c:j<n
  ·grind [XS,eC,aB]
  grind [XS,aI]
 grind [Qh]
theorem Zh {i:Nat} (b:i<n):ld n f (XS n i)=f i i:=by
 rw[pu,<- Yg (f:=f) b b];refine jm (fun _ _ _ _=>rfl) (fun j c=>?_) (fun j c=>?_)<;>
 ·grind [XS,aB]
theorem Zi (h:Rf M n f):0<(Cv f n (yT n f)).length:=by
 obtain⟨i,b,e⟩:=U8 (f:=f) h.n1;have c:=O5 h;exact List.length_pos_of_mem ((Rj h (by omega) (by omega) (f i i,XS n i)).2 ⟨aI _ _,(Zh b).symm,by omega,XT b⟩)
theorem XW (h:Rf M n f) (b:0<=B) (c:B<=65536):(Cv f n B).length<=(fb f n B n []).length:=by
 grind [Dz,Qp,Cv,iV]
def ZZ (b:List (Int×List Int)):List (Int×List Int):=b.takeWhile fun p=>p.1==(b.getD 0 (0,[])).1
theorem Vq (v:Int): ∀(b:List (Int×List Int)) (i:Nat) p,b[i]?=some p->(i<(b.takeWhile fun p=>p.1==v).length->p.1=v)/\(i=(b.takeWhile fun p=>p.1==v).length->p.1≠v)
 |[],i,p,h=>by simp at h
 |q::b,i,p,h=>by
  by_cases e:q.1=v
  ·rw[ady (by simp[e])];cases i with
   |zero=>grind
   |succ i=>
    have:=Vq v b i p (by grind);grind
  grind [List.takeWhile_cons_of_neg]
theorem J2 (p:(Int×List Int)->Bool): ∀b:List (Int×List Int),b.take (b.takeWhile p).length=b.takeWhile p
 |[]=>rfl
 |q::b=>by
  by_cases e:p q=true
  ·rw[ady e,aaG,abS,J2 p b]
  simp_all
abbrev ZT (v:Int) (l:List (List Int)) (e:Int):TV:= .tup [(false,[.p (.raw (.int .i64 v))]),(false,[.p (.sl (ls (fR fI) l))]),(false,[.p (.raw (.int .i64 e))])]
structure MiG (m:Nat) where
 i:Nat
 h1:1<=i
 h2:i<=m
theorem VE (h:Rf M n f) (U:(fb f n (yT n f) n []).length<=8194) (Y:CallC prog 37 [dn M,.raw (.int .i64 (yT n f)),.raw (.int .i64 k)] ⟨[],vtT ((Cv f n (yT n f)).map Prod.snd) B 0⟩):
  CallC prog 15 [dn M,.raw (.int .i64 k)] ⟨[],ZT ((Cv f n (yT n f)).getD 0 (0,[])).1 ((ZZ (Cv f n (yT n f))).map Prod.snd) 0⟩:=by
 have R:=O5 h;have P:=ff M;rw[h.red]at P;have O:=Wu n f h.n1 (by have:=h.n8;omega);rw[<- h.e]at O;have Q:=YW (aQ n fun i=>f i i) (by rw[aI];exact h.n1) (by rw[aI];have:=h.n8;omega);rw[aI,show GJ (aQ n fun i=>f i i) (n-1)=yT n f from rfl]at Q;have y:=Zi h;have o: ∀i (p:Int×List Int),(Cv f n (yT n f))[i]?=some p->CallC prog 40 [dn M,kE p.2] ⟨[],.raw (.int .i64 p.1)⟩:=fun i p s=>by
  obtain⟨N,W,a3,_⟩:=(Rj h (by omega) (by omega) p).1 (u5 s);have hP:fC f n (yT n f) 0 (aL n p.2):=by
   rw[nI,show aL n p.2=fun i=>p.2.getD i 0 from funext fun i=>oI N i,<- pu];omega
  rw[W,h.e];exact(Pm h.r h.n8 h.b (by omega) R.2 N hP).1
 have S:(Cv f n (yT n f)).length<=8194:=aaj (XW h (by omega) R.2) U;clear U;unfold ZZ;generalize Cv f n (yT n f)=g at*
 generalize yT n f=B0 at*
 obtain⟨j,z⟩: ∃j,g[0]?=some j:=⟨g[0],by simp[y]⟩;have Z:g.getD 0 (0,[])=j:=by grind
 rw[Z];have A:=fun(i:Nat) (p:Int×List Int)=>Vq j.1 g i p
 have L:=J2 (fun p=>p.1==j.1) g;have K:(g.takeWhile fun p=>p.1==j.1).length<=g.length:=by
  grind
 have J:1<=(g.takeWhile fun p=>p.1==j.1).length:=by
  grind
 rw[<- L];generalize(g.takeWhile fun p=>p.1==j.1).length=m at*
 rw[List.map_take];have D: ∀(i:Nat) (p:Int×List Int),g[i]?=some p->(g.map Prod.snd)[i]?=some p.2:=fun i p s=>by grind
 have E:=D 0 j z;have l:(g.map Prod.snd).length=g.length:=by simp
 have w: ∀i,i<g.length-> ∃p:Int×List Int,g[i]?=some p:=fun i hi=>⟨g[i],by simp[hi]⟩
 have X:=o 0 j z;have T:0<g.length:=y;generalize aa:g.map Prod.snd=V at*
 refine ay func15 rfl ntmps15 (aA (k:=ai (bM [⟨1,_,_,_,P⟩] (k:=aq rfl (ak (bM [⟨2,_,_,_,O⟩,⟨3,_,_,_,Q⟩,⟨5,_,_,_,Y⟩] (k:=ai (ar (k:=aq rfl (ak (cn [⟨4,_,_,_,X⟩] E (k:=bz (k:=ai ?_)))))))))))));refine aF (G:=MiG m) (fun v=>⟨(dn M::j4 (jk::jk::dn V::jk::jk::.raw (.int .i64 j.1)::rN v.i::j16 (j16 (j4 (j4 (jk::[])))))),Hm []⟩) (fun v=>m-v.i) ⟨1,aaq 1,J⟩ ?_ ?_
 ·refine aj trivial ?_;simp[wk]
 rintro⟨i,ab,ac⟩;simp only;by_cases H:i<m
 ·have u:i<g.length:=by omega
  obtain⟨p,s⟩:=w i u;have t:=D i p s;have C:=o i p s;have F:(p.1=j.1)=True:=eq_true ((A i p s).1 H);refine ai (cn [⟨10,_,_,_,C⟩] (aH l (aH t F)) (k:=aC rfl (ak (am (bL (k:=?_))))));refine⟨⟨i+1,by omega,by omega⟩,by grind,aj trivial ?_⟩;simp[wk]
 obtain rfl:i=m:=by omega
 have x:(i<=g.length)=True:=eq_true K;have q:(∀c∈ls (fR fI) V,c.length=1)=True:=kD (f:=fR fI) (fun _=>rfl) V;by_cases u:i<g.length
 ·obtain⟨p,s⟩:=w i u;have t:=D i p s;have C:=o i p s;have F:(p.1=j.1)=False:=eq_false ((A i p s).2 rfl);refine ai (cn [⟨10,_,_,_,C⟩] (aH l (aH t F)) (k:=aq rfl (aY (gW (aH @aaW (aH l (aH x q))) (k:=aG @results15)))))
 have I:((i:Int)<(g.length:Int))=False:=eq_false (by omega);refine ai (aK (aH l I) (k:=aq rfl (aY (gW (aH @aaW (aH l (aH x q))) (k:=aG @results15)))))
end
end
/-! The same by computable functions. -/
def Rz (a:Nat):Nat->Nat
 |0=>0
 |m+1=>if(m+1)*(m+1)<=a then m+1 else Rz a m
theorem DG (a:Nat): ∀m,a<(m+1)*(m+1)->Rz a m*Rz a m<=a/\a<(Rz a m+1)*(Rz a m+1)
 |0,h=>⟨by simp[Rz],by grind⟩
 |m+1,h=>by
  unfold Rz;split
  ·omega
  exact DG a m (by omega)
theorem U5 (a:Int):isqF a=(Rz a.toNat a.toNat:Int):=by
 by_cases c:0<=a
 ·have b:a.toNat<(a.toNat+1)*(a.toNat+1):=aas (adT _) (abK _ (Nat.succ_pos _));obtain⟨e,f⟩:=DG a.toNat a.toNat b;refine Kb.uniq (dx c) ⟨by omega,?_,?_⟩
  ·omega
  grind
 have:a.toNat=0:=by omega
 rw[this];show isqF a=0;unfold isqF;rw[dif_neg];rintro⟨r,b,g,h⟩;have:=aaZ b b;omega
def U6 (f:FF) (n:Nat) (B:Int) (k:Nat) (y:List Int):Int:= -(((Rz (gU f n B k (aL n y)).toNat (gU f n B k (aL n y)).toNat:Int)+lA f n k (aL n y))/dk f (k+1))
def U4 (f:FF) (n:Nat) (B:Int) (k:Nat) (y:List Int):Int:=((Rz (gU f n B k (aL n y)).toNat (gU f n B k (aL n y)).toNat:Int)-lA f n k (aL n y))/dk f (k+1)
theorem OV (f:FF) (n:Nat) (B:Int) (k:Nat) (y:List Int):cz f n B k (aL n y)=U6 f n B k y:=by unfold cz U6;rw[U5]
theorem Ot (f:FF) (n:Nat) (B:Int) (k:Nat) (y:List Int):di f n B k (aL n y)=U4 f n B k y:=by unfold di U4;rw[U5]
def ZQ (f:FF) (n:Nat) (B:Int):Nat->List Int->List (List Int)
 |0,y=>[y]
 |k+1,y=>(rng (U6 f n B k y) (U4 f n B k y)).flatMap fun c=>ZQ f n B k (c::y)
theorem Wz (f:FF) (n:Nat) (B:Int): ∀k y,fb f n B k y=ZQ f n B k y
 |0,y=>rfl
 |k+1,y=>by
  unfold fb ZQ;rw[OV,Ot]
  congr 1
  funext c;exact Wz f n B k (c::y)
def toC (f:FF) (n:Nat) (B:Int):Nat->List Int->Nat
 |0,y=>(rng (U6 f n B 0 y) (U4 f n B 0 y)).length
 |k+1,y=>(rng (U6 f n B (k+1) y) (U4 f n B (k+1) y)).length+((rng (U6 f n B (k+1) y) (U4 f n B (k+1) y)).map fun c=>toC f n B k (c::y)).sum
theorem XL (f:FF) (n:Nat) (B:Int): ∀k y,toL f n B k y=toC f n B k y
 |0,y=>by unfold toL toC;rw[OV,Ot]
 |k+1,y=>by
  unfold toL toC;rw[OV,Ot]
  congr 3
  funext c;exact XL f n B k (c::y)
def Zw (f:FF) (n:Nat) (B:Int):Nat->List Int->Bool->List (List Int)
 |0,y,z=>(rng (if z=true then 0 else U6 f n B 0 y) (U4 f n B 0 y)).flatMap fun c=>if(z&&decide (c=0))=true then[]else[c::y]
 |k+1,y,z=>(rng (if z=true then 0 else U6 f n B (k+1) y) (U4 f n B (k+1) y)).flatMap fun c=>Zw f n B k (c::y) (z&&decide (c=0))
theorem Y8 (f:FF) (n:Nat) (B:Int): ∀k y z,yE f n B false k y z=Zw f n B k y z
 |0,y,z=>by
  grind [yE,Zw,OV,Ot]
 |k+1,y,z=>by
  unfold yE Zw;rw[OV,Ot]
  congr 1
  funext c;exact Y8 f n B k (c::y) _
abbrev UV:List (List Int):=[[2,1],[1,2]]
abbrev X4:List (List Int):=[[1,0],[0,1]]
theorem YE:Rf UV 2 (ent UV):=PU (M:=UV) (by decide+kernel)
theorem YD:Rf X4 2 (ent X4):=PU (M:=X4) (by decide+kernel)
theorem Nt:yT 2 (ent UV)=2:=by rfl
theorem V6:toL (ent UV) 2 2 1 []=10:=by rw[XL];rfl
theorem V0:(fb (ent UV) 2 2 2 []).length=7:=by rw[Wz];rfl
theorem YG:Cv (ent UV) 2 2=[(2,[0,1]),(2,[1,-1]),(2,[1,0])]:=by
 unfold Cv EE;rw[Y8];rfl
theorem V5:toL (ent X4) 2 5 1 []<=100:=by rw[XL];decide+kernel
theorem YF:Zf (ent X4) 2 5=[1,4,4,0,4,8]:=by
 unfold Zf;rw[Wz];rfl
theorem RL {k:Int} (h:Rf b n f) (j:0<=k) (c:k<=1000000) (e:(toL f n (yT n f) (n-1) []:Int)<=k) (l:(fb f n (yT n f) n []).length<=8194):
  CallC prog 15 [dn b,.raw (.int .i64 k)] ⟨[],ZT ((Cv f n (yT n f)).getD 0 (0,[])).1 ((ZZ (Cv f n (yT n f))).map Prod.snd) 0⟩:=by
 have g:=O5 h;grind [VL,VE]
theorem V3:CallC prog 15 [dn UV,.raw (.int .i64 100)] ⟨[],ZT 2 [[0,1],[1,-1],[1,0]] 0⟩:=by
 have h:=RL YE (k:=100) (by omega) (by omega) (by grind [Nt,V6]) (by rw[Nt,V0];decide);rw[Nt,YG]at h;exact h
theorem V4:CallC prog 19 [dn X4,.raw (.int .i64 5),.raw (.int .i64 100)] ⟨[],.tup [(false,[.p (.sl (ls fI [1,4,4,0,4,8]))]),(false,[.p (.raw (.int .i64 0))])]⟩:=by
 have h:=CK YD 5 (by omega) (k:=100) (by omega) (by omega) (by
  grind [V5])
 grind [YF]
abbrev pI (z:Int):PV:= .raw (.int .i64 z)
theorem KB:CallC prog 18 [] ⟨[],.raw (.bool true)⟩:=by
 have c:CallC prog 15 [.one (.p (.sl [[.sl [[pI 2],[pI 1]]],[.sl [[pI 1],[pI 2]]]])),.raw (.int .i64 100)] ⟨[],.tup [(false,[.p (pI 2)]),(false,[.p (.sl [[.sl [[pI 0],[pI 1]]],[.sl [[pI 1],[pI (-1)]]],[.sl [[pI 1],[pI 0]]]])]),(false,[.p (pI 0)])]⟩:=V3;have f:CallC prog 19 [.one (.p (.sl [[.sl [[pI 1],[pI 0]]],[.sl [[pI 0],[pI 1]]]])),.raw (.int .i64 5),.raw (.int .i64 100)] ⟨[],.tup [(false,[.p (.sl [[pI 1],[pI 4],[pI 4],[pI 0],[pI 4],[pI 8]])]),(false,[.p (pI 0)])]⟩:=V4;have e:CallC prog 17 [.one (.p (.sl [[.sl [[pI 0],[pI 1]]],[.sl [[pI 1],[pI (-1)]]],[.sl [[pI 1],[pI 0]]]])),.one (.p (.sl [[.sl [[pI 0],[pI 1]]],[.sl [[pI 1],[pI (-1)]]],[.sl [[pI 1],[pI 0]]]]))] ⟨[],.raw (.bool true)⟩:=by
  have:=Xf [[0,1],[1,-1],[1,0]] [[0,1],[1,-1],[1,0]];rw[decide_eq_true rfl]at this;exact this
 have b:CallC prog 21 [.one (.p (.sl [[pI 1],[pI 4],[pI 4],[pI 0],[pI 4],[pI 8]])),.one (.p (.sl [[pI 1],[pI 4],[pI 4],[pI 0],[pI 4],[pI 8]]))] ⟨[],.raw (.int .i64 0)⟩:=by
  have:=qf [1,4,4,0,4,8] [1,4,4,0,4,8];rw[ik]at this;exact this
 refine ay func18 rfl ntmps18 (aA (k:=cn [⟨3,_,_,_,c⟩] @pI.eq_1 (k:=cn [⟨3,_,_,_,f⟩] @pI.eq_1 (k:=cn [⟨16,_,_,_,e⟩,⟨21,_,_,_,b⟩] @pI.eq_1 (k:=aG @results18)))))
theorem Ol (nm:List Int->Int) (m:Int): ∀(l:List (List Int)) (g:MapS),(gF nm g l).2 m=g.2 m+((l.filter fun z=>decide (nm z=m)).length:Int)
 |[],g=>by simp[gF]
 |z::l,g=>by
  have:=Ol nm m l (oq g (nm z) (g.2 (nm z)+1));grind [gF,oq]
theorem Rs (N:Nat) {F:Nat->Int} (h: ∀i,i<N->F i=0):aQ N F=ae N 0:=aay fun i=>by
 grind [aB,aI]
section
section
variable {n:Nat} {f:FF} {B:Int}
/-! Lists without repetitions. -/
end
section
variable {M:List (List Int)} {n:Nat} {f:FF}
noncomputable def X7 (f:FF) (n b:Nat) (m:Nat):Int:=(((fb f n (b:Int) n []).filter fun z=>decide (ld n f z=(m:Int))).length:Int)
theorem XH (f:FF) (n b:Nat):Zf f n b=aQ (b+1) (X7 f n b):=eB fun m _=>by
 rw[Ol];exact aex _
end
end
def Pa (f:FF) (k i j:Nat):Nat->Nat->Int:=fun a b=>f (if a<k then a else i) (if b<k then b else j)
theorem JF {c:Type} (k i:Nat) (g:Nat->c):(List.range k++[i]).map g=(List.range (k+1)).map fun a=>g (if a<k then a else i):=by
 rw[abi,aba,aba]
 congr 1
 ·exact aaA fun a b=>by rw[if_pos (aaK.1 b)]
 simp
theorem Xg (k i j:Nat) (f:FF):((List.range k++[i]).map fun r=>(List.range k++[j]).map (f r))=mat (k+1) (k+1) (Pa f k i j):=by
 rw[JF];exact aaA fun a _=>JF k j _
theorem YL {k i:Nat} (g:m<=k):dk (Pa f k i n) m=dk f m:=wV fun a b c e=>by unfold Pa;rw[if_pos (by omega),if_pos (by omega)]
theorem YH (f:FF) (k i j:Nat):dk (Pa f k i j) (k+1)=bk f k i j:=by
 have e:om (Pa f k i j) k=om (fun a b=>f a (if b<k then b else j)) k:=D6 fun t n=>by unfold Pa;rw[if_pos n]
 have g:om (fun a b=>f a (if b<k then b else j)) k=fun l=>om f k (l.map fun b=>if b<k then b else j):=funext fun l=>Po (R:=f) (fun b=>if b<k then b else j) k l
 have h:(yC k).map (fun b=>if b<k then b else j)=yC k:=by
  have:(yC k).map (fun b=>if b<k then b else j)=(yC k).map id:=aaA fun a m=>if_pos (pP m)
  rw[this,ab0]
 rw[cb];unfold bk;rw[e,g];have:=Bs (r:=f i) (fun b=>if b<k then b else j) (k::yC k) (om f k);rw[aaC,h,if_neg (by omega)]at this;rw[<- this]
 congr 1
 funext c;unfold Pa;rw[if_neg (by omega)]
theorem Wt {k:Nat} (b: ∀t,t<k->dk f (t+1)≠0) (i j:Nat):detF (k+1) (Pa f k i j)=bk f k i j:=by
 rw[mJ fun t c=>by rw[YL (by omega)];exact b t (by omega),YH]
theorem WS {k i:Nat} (h:k<n) (e:i<n) (g:m<n) (b: ∀i m,i<n->m<n->Sz (f i m) 1024): ∀r c,r<k+1->c<k+1->Sz (Pa f k i m r c) 1024:=fun r c _ _=>by
 unfold Pa;exact b _ _ (by split<;>omega) (by split<;>omega)
def Au (n:Nat) (f:FF) (m:Nat):List (List (List Int)):=(List.range m).map fun k=>mat (n-k) (n-k) (j6 f k)
theorem Qd (m:Nat):Au n f m++[mat (n-m) (n-m) (j6 f m)]=Au n f (m+1):=by
 unfold Au;rw[abi,aba];rfl
theorem JL (n:Nat) (f:FF) (m:Nat):(Au n f m).length=m:=by simp[Au]
theorem JK (f:FF) {k:Nat} (h:k<m):(Au n f m)[k]?=some (mat (n-k) (n-k) (j6 f k)):=by
 unfold Au;rw[u9,ado h];rfl
abbrev fB:List (List Int)->List PV:=fR (fR fZ)
theorem OO (l:List (List (List Int))) (M:List (List Int)):lc fB l++[[.p (.sl (ls (fR fZ) M))]]=lc fB (l++[M]):=by simp[lc,fR]
theorem RU (n:Nat) (f:FF) (k:Nat) (U:n<=8) (O:k<n) (M: ∀t,t<k->dk f (t+1)≠0) (N: ∀i j,i<n->j<n->Sz (f i j) 1024):
  CallC prog 149 [dF (mat n n f),.raw (.int .i64 (k:Int))] ⟨[],dF (mat (n-k) (n-k) (j6 f k))⟩:=by
 have v:=aU n n f;obtain⟨m,P,Q⟩: ∃m,n-k=m/\1<=m:=⟨n-k,rfl,by omega⟩;have E:IntKind.i64.wrap ((n:Int)-(k:Int))=(m:Int):=by rw[aR (by omega) (by omega)];omega
 have B:=wu m m (by omega) (by omega);rw[rh,p7]at B;rw[P];refine ay func149 rfl ntmps149 (aA (k:=fL (aH v E) (k:=bM [⟨2,_,_,_,B⟩] (k:=ai (bz (k:=?_))))));refine aF (G:=jo m) (fun g=>⟨(dF (mat n n f)::rN k::j4 (.one (.sl 15 0 0 m)::j4 (j4 (jk::jk::rN m::rN g.i::j16 (j16 ([])))))),Hm [(15,iT 15 m m (part (j6 f k) g.i 0))]⟩) (fun g=>m-g.i) ⟨0,by omega⟩ ?_ ?_
 ·refine aj ⟨?_,trivial⟩ ?_
  ·rw[tz];exact gz 0 15 m m _
  simp[wk]
 rintro⟨i,S⟩;simp only;by_cases o:i<m
 ·have z:=ch (n:=m) (i:=i) 15 m o;have A:=fG m (part (j6 f k) i 0) o;refine ar (k:=bi rfl (ai (am (bz (k:=aK z (k:=?_))))));refine aF (G:=jo m) (fun g=>⟨(dF (mat n n f)::rN k::j4 (.one (.sl 15 0 0 m)::rN i::j4 (j4 (jk::rN m::rN i::j4 (jk::jk::rN m::rN g.i::j16 (j4 (j4 ([])))))))),Hm [(15,iT 15 m m (part (j6 f k) i g.i))]⟩) (fun g=>m-g.i) ⟨0,by omega⟩ ?_ ?_
  ·refine aj ⟨rfl,trivial⟩ ?_;simp[wk]
  rintro⟨j,T⟩;simp only;by_cases p:j<m
  ·have A:=fG m (part (j6 f k) i j) o;have J:=aB (part (j6 f k) i j i) p;have C:=Bi k (k+i) (by omega) (by omega);have D:=Bi k (k+j) (by omega) (by omega);have r: ∀q,q<m-> ∀x∈List.range k++[k+q],x<n:=fun q V x R=>by
    rcases abe.1 R with h|h
    ·have:=aaK.1 h;omega
    rw[aam.1 h];omega
   have w:=vZ n n f (List.range k++[k+i]) (List.range k++[k+j]) (by omega) (by omega) (r i o) (r j p) (by simp;omega) (by simp;omega);rw[Xg]at w;have y:=gK (k+1) (Pa f k (k+i) (k+j)) (by omega) (by omega) (WS O (by omega) (by omega) N);rw[Wt M,show bk f k (k+i) (k+j)=j6 f k i j from rfl]at y;have F:IntKind.i64.wrap ((k:Int)+(i:Int))=((k+i:Nat):Int):=by rw[aR (by omega) (by omega)];omega
   have I:IntKind.i64.wrap ((k:Int)+(j:Int))=((k+j:Nat):Int):=by rw[aR (by omega) (by omega)];omega
   refine ar (k:=bi rfl (ai (am (bz (k:=gf [⟨10,_,_,_,C⟩,⟨15,_,_,_,D⟩,⟨16,_,_,_,w⟩,⟨17,_,_,_,y⟩] (aH z (aH F (aH I (aH A (aH J @k9))))) (k:=bL (k:=?_)))))));refine⟨⟨j+1,by omega⟩,by simp only;omega,aj ⟨?_,trivial⟩ ?_⟩
   ·show _::_=_::_;rw[ca fun a b _ _=>io (j6 f k) i j a b]
   simp[wk]
  have u:j=m:=by omega
  subst u;refine ar (k:=bv rfl (bL (k:=?_)));refine⟨⟨i+1,by omega⟩,by simp only;omega,aj ⟨?_,trivial⟩ ?_⟩
  ·show _::_=_::_;rw[ca fun a b _ L=>jK (j6 f k) i a b L]
  simp[wk]
 have s:i=m:=by omega
 subst s;refine ar (k:=bv rfl ?_);show bo _ _ _ _;have e:iT 15 i i (part (j6 f k) i 0)=iT 15 i i (j6 f k):=by
  show _::_=_::_;rw[ca fun a b K _=>jJ (j6 f k) a b K]
 rw[e];refine bo.weak ((bH 15 (j1 rfl)).trans (aj (tm:=(j4 (jk::jk::dF (mat i i (j6 f k))::j16 (j16 (j4 (j4 (j4 ([])))))))) (l:=[]) trivial (by simp[wk];exact(SJ (H:=Hm [(15,iT 15 i i (j6 f k))]) (d:=15) (n:=i) (c:=i) (f:=j6 f k) rfl).symm))) ?_;refine bz (k:=aG @results149)
theorem LJ (n:Nat) (f:FF) (s:1<=n) (F:n<=8) (e: ∀t,t<n->dk f (t+1)≠0) (h: ∀i j,i<n->j<n->Sz (f i j) 1024):
  CallC prog 97 [dF (mat n n f)] ⟨[],.tup [(false,[.p (.sl (ls fB (Au n f n)))]),(false,[.p (.raw (.bool true))])]⟩:=by
 have r:=aU n n f;have A:=lS n f s (by omega) h;have c:(yR n f).length=n:=aI _ _;have B:IntKind.i64.wrap ((n:Int)-1)=((n-1:Nat):Int):=by rw[aR (by omega) (by omega)];omega
 have v:((yR n f).take (n-1)).length=n-1:=by rw[abc,c];omega
 refine ay func97 rfl ntmps97 (aA (k:=fj [⟨1,_,_,_,A⟩] @WO.eq_1 (k:=ai (bz (k:=aq rfl (ak (ai (aK (aH c (aH B (aH @aaW (aH @Nat.sub_le (aH (kD xc) v))))) (k:=?_)))))))));refine aF (G:=jo (n-1)) (fun g=>⟨(dF (mat n n f)::j16 (j4 (y6 ((yR n f).take (n-1))::.raw (.int .i64 ((n-1:Nat):Int))::rN g.i::j16 (j4 ([]))))),Hm []⟩) (fun g=>n-1-g.i) ⟨0,by omega⟩ ?_ ?_
 ·refine aj trivial ?_;simp[wk]
 rintro⟨i,L⟩;simp only;by_cases E:i<n-1
 ·have w:((yR n f).take (n-1))[i]?=some (detF (i+1) f):=by rw[aaH,if_pos E,aB _ (by omega)]
  have x:detF (i+1) f=dk f (i+1):=mJ fun t H=>e t (by omega)
  rw[x]at w;have y:=lL (dk f (i+1)) (by rw[<- x];exact(oO (by omega) fun a b J K=>h a b (by omega) (by omega)).mono (by omega));have I:=JM (e i (by omega));generalize sg (dk f (i+1))=q at*
  generalize dk f (i+1)=D at*
  refine ar (k:=bi rfl (ai (am (aK w (k:=cn [⟨1,_,_,_,y⟩] I (k:=aq rfl (ak (bL (k:=?_)))))))));refine⟨⟨i+1,by omega⟩,by simp only;omega,aj trivial ?_⟩;simp[wk]
 have l:i=n-1:=by omega
 subst l;refine ar (k:=bv rfl (bz (k:=ai (fL r (k:=?_)))));refine aF (G:=jo n) (fun g=>⟨(dF (mat n n f)::j4 (jk::jk::jk::.one (.sl 41 0 0 g.i)::j16 (j4 (jk::jk::jk::rN n::rN g.i::j4 (j4 (jk::jk::[])))))),Hm [(41,[⟨42,1,lc fB (Au n f g.i)⟩])]⟩) (fun g=>n-g.i) ⟨0,by omega⟩ ?_ ?_
 ·refine(dB (k:=8) (d:=41) 42 1 (by omega) rfl rfl).trans (aj ⟨rfl,trivial⟩ ?_);simp[wk]
 rintro⟨k,M⟩;simp only;by_cases o:k<n
 ·have z:=RU n f k F o (fun t H=>e t (by omega)) h;have u:=JL n f k;refine ar (k:=bi rfl (ai (am (bz (k:=wv [⟨3,_,_,_,z⟩] (aH u (aH @OO @Qd)) (k:=bL (k:=?_)))))));refine⟨⟨k+1,by omega⟩,by simp only;omega,aj ⟨rfl,trivial⟩ ?_⟩;simp[wk]
 have m:k=n:=by omega
 subst m;refine ar (k:=bv rfl (bz (k:=?_)));have C:List.take k (Au k f k)=Au k f k:=aar (by rw[JL];omega);refine aW ⟨.inr rfl,fF 41 (bG rfl) ?_ rfl⟩;simp(disch:=omega) only[kd,results97,C]
section
structure X0 (a len:Nat) where
 t:Nat
 O:List Nat
 ht:t<=32*len
 len:O.length=len
 lmb:Lmb O
 q:Nat
 val:natV O=q*2^t
 lo:natV O*natV O<=a
 hi:a<(natV O+2^t)*(natV O+2^t)
theorem IF {k q:Nat} (v:k+1<=32*n) (len:e.length=n) (lmb:Lmb e) (val:natV e=q*2^(k+1)) (h:e[k/32]?=some m):
  m|||2^(k%32)=m+2^(k%32)/\m+2^(k%32)<4294967296/\natV (e.set (k/32) (m+2^(k%32)))=natV e+2^k/\(m+2^(k%32))&&&(4294967295-2^(k%32))=m:=by
 have c:=bW lmb h;have s:k%32<32:=aaQ _ (by omega);have l:=mU lmb h;have t:2^(k+1)=2^(32*(k/32))*2^(k%32+1):=by rw[<- abM];congr 1;omega
 rw[Al]at l;have p:m=q%2^(31-k%32)*2^(k%32+1):=by
  rw[<- l,val,t,abj (2^(32*(k/32))),<- ace,adz _ (abk (by omega))];rw[show(4294967296:Nat)=2^(31-k%32)*2^(k%32+1) by rw[<- abM,show 31-k%32+(k%32+1)=32 by omega],ad8]
 have f:m|||2^(k%32)=m+2^(k%32):=by
  have:=qa (q%2^(31-k%32)) (2^(k%32)) (k%32+1) (aci (by omega) (by omega));rw[<- p]at this;exact this
 have g:m|||2^(k%32)<4294967296:=Nat.or_lt_two_pow (n:=32) c (aci (by omega) s);have o:=ot e (k/32) (m+2^(k%32)) m h;rw[Al]at o;rw[abg,<- abM,show k%32+32*(k/32)=k by omega]at o;refine⟨f,by rw[<- f];exact g,by omega,?_⟩;rw[<- f];apply Nat.eq_of_testBit_eq;intro i;have u:(4294967295-2^(k%32))=2^32-(2^(k%32)+1):=by omega
 rw[Nat.testBit_and,Nat.testBit_or,u,Nat.testBit_two_pow_sub_succ (aci (by omega) s),aej];by_cases r:i<32
 ·by_cases b:k%32=i
  ·have j:m.testBit i=false:=by
    rw[p,<- b,Nat.testBit_mul_two_pow,decide_eq_false (by omega),aea]
   rw[j];simp[b]
  simp[r,b]
 have:m.testBit i=false:=Nat.testBit_lt_two_pow (aas c (aaj (by decide:4294967296<=2^32) (aaE (by omega) (show 32<=i by omega))));rw[this];simp[r]
theorem Nq (b:n<4294967296) (c:m<4294967296):IntKind.u32.wrap (((BitVec.ofInt IntKind.u32.bits (n:Int)&&& ~~~BitVec.ofInt IntKind.u32.bits (m:Int)).toNat:Nat):Int)=((n&&&(4294967295-m):Nat):Int):=by
 rw[Cp];show(((BitVec.ofInt 32 (n:Int)&&& ~~~BitVec.ofInt 32 (m:Int)).toNat%4294967296:Nat):Int)=_;rw[BitVec.toNat_and,BitVec.toNat_not];have e: ∀y:Nat,y<4294967296->(BitVec.ofInt 32 (y:Int)).toNat=y:=fun y f=>by rw[BitVec.toNat_ofInt];show((y:Int)%4294967296).toNat=y;omega
 rw[e n b,e m c,abP];exact abZ Nat.and_le_left b
theorem Y5 {a len k:Nat} (g:X0 a len) (e:g.t=k+1) (j:g.O[k/32]?=some n) (h:(natV g.O+2^k)*(natV g.O+2^k)<=a): ∃c:X0 a len,c.t=k/\c.O=g.O.set (k/32) (n+2^(k%32)):=by
 obtain⟨t,O,o,f,lmb,q,val,r,m⟩:=g;simp only at e j h;subst e;obtain⟨p,l,b,_⟩:=IF o f lmb val j;refine⟨⟨k,_,by omega,by simp[f],qY lmb l,2*q+1,?_,by rw[b];exact h,?_⟩,rfl,rfl⟩
 ·rw[b,val,aby];grind
 rw[b,acE,<- Nat.two_mul,abj 2,<- aby];exact m
theorem Y6 {a len k:Nat} (g:X0 a len) (c:g.t=k+1) (h:a<(natV g.O+2^k)*(natV g.O+2^k)): ∃b:X0 a len,b.t=k/\b.O=g.O:=by
 obtain⟨t,O,l,e,lmb,q,val,f,j⟩:=g;simp only at c h;subst c;exact⟨⟨k,_,by omega,e,lmb,2*q,by rw[val,aby];grind,f,h⟩,rfl,rfl⟩
theorem Xn {a len:Nat} (g:X0 a len) (h:g.t=0):(natV g.O:Int)=isqF (a:Int):=by
 obtain⟨t,O,f,e,lmb,q,val,c,b⟩:=g;simp only at h;subst h;refine Kb.uniq (a:=(a:Int)) ⟨by omega,by exact_mod_cast c,?_⟩ (dx (by omega));have:=Int.ofNat_lt.2 b;simpa using this
theorem Qq {a len:Nat} (h:(au a).length<=2*len):a<(0+2^(32*len))*(0+2^(32*len)):=by
 have b:=fH (aE a);rw[az,Al]at b;rw[aaO,<- abM];exact aas b (aaE (by omega) (by omega))
/-! A call that reads an own row: the callee is right wherever the row's block holds these numbers. -/
def Vj (L:List Nat):List PV:=L.map fun n:Nat=> .raw (.int .u32 (n:Int))
section
variable {P:Program} {b:Nat} {ty:TypeId}
theorem Xe {i:Nat} (h:AN b ty (Vj e) w) (g:e[i]?=some n):w.cell? ⟨b,i,none⟩=some (.int .u32 (n:Int)):=by
 obtain⟨v,c,f,_⟩:=h.2 i (.raw (.int .u32 (n:Int))) (by simp[Vj,g]);injection c with c
 rw[c];exact f
theorem CallG.ofO {cap:Nat} {res:CallRes} (m:CallC P g [cK e] res) (p:vz res) (hL:e.length<=cap) (hm:e.length<=9223372036854775807):CallG P b ty g [.raw (.slice (some ⟨b,0,none⟩) e.length cap)] (Vj e) res:=by
 refine⟨m.1,fun w N=>⟨m.1,fun X vs M K Q=>?_⟩⟩;refine(m.2 (fun _=>False) w vs (fun _ h=>h.elim) K fun j t J=>?_).mono ?_
 ·obtain⟨v,v1,v2⟩:=Q 0 _ rfl;cases j with
  |succ j=>simp at J
  |zero=>
   simp at J;subst J;refine⟨v,v1,?_⟩;obtain rfl:=(aV (ρ:=fun _ _=>none) (H:=fun _=>[]) v2).1;have l:(ls fU e).length=e.length:=by simp[ls]
   have:=bQ.sl (X:=fun _=>False) (w:=w) b 0 1 cap (ls fU e) (fun i _=> .int .u32 (e.getD i 0:Nat)) (fun h=>h) N.lt (fun l q=>by
    obtain⟨z,_,rfl⟩:=aai.1 q;rfl) (by omega) (by omega) (fun i l j x q y=>by
    simp only[ls,u9]at q;obtain⟨z,A,rfl⟩:=u6.1 q;cases j with
    |succ j=>simp[fU]at y
    |zero=>simp only[aaO,ac7,aa3,aav,A,abh];exact Xe N A) (fun i l j x q y=>by
    simp only[ls,u9]at q;obtain⟨z,A,rfl⟩:=u6.1 q;cases j with
    |succ j=>simp[fU]at y
    |zero=>
     simp[fU]at y;subst y;simp only[aav,A,abh];exact bQ.raw _ rfl)
   rw[l]at this;exact this
 rintro l w1 ⟨v,rfl,F,B,R⟩;have D: ∀(x r:Nat) o,(famH 0 res.fam x)[r]?=some o->o∈res.fam:=fun x r o s=>by
  unfold famH at s;split at s
  ·exact u5 s
  simp at s
 refine⟨v,rfl,F,⟨B.keep,fun x r o s=>?_,B.inj,fun x r o C c s I=>?_,fun C I=>aas (M C I) B.keep.size,B.self⟩,ya p.1 R⟩
 ·obtain⟨z1,z2,G⟩:=B.objs x r o s;refine⟨z1,z2,?_⟩;cases E:F x r with
  |none=>rw[E]at G;exact G
  |some O=>
   obtain⟨C,n⟩:=O;rw[E]at G;obtain⟨cells,S,T,U,V,W⟩:=G;refine⟨cells,S,T,U,V,fun i l j z q A=>?_⟩;obtain⟨u,Y,Z,u3⟩:=W i l j z q A;exact⟨u,Y,Z,oE (p.2 o (D x r o s) l (u5 q) z (u5 A)) u3⟩
 have:=(B.old x r o C c s I).1;rcases this with h|h
 ·exact⟨.inl h,fun y=>by have:=M C y;omega⟩
 exact h.elim
variable {s:AS} {w0 w:World} {O X:Nat->Prop} {a:Act}
structure ZB (ops:Array Oper) (m:Nat) (f:FuncId) (x:Bool) (fa:Nat) (ty:TypeId) (L:List Nat) (s:AS):Prop where
 ts:cwTs ops m s=some (f,[.raw (.bool x),.one (.sl fa 0 0 L.length)])
 row:s.H fa=[⟨ty,1,lc fU L⟩]
theorem Nv (T:da w0 O X s a w) {o:Oper} {c:Call} (ho:o.op= .call c) (M:c.callee= .value (.func g)) {x:Bool} {r:TV} (C: ∀b cap,e.length<=cap->CallG P b ty g [.raw (.bool x),.raw (.slice (some ⟨b,0,none⟩) e.length cap)] (Vj e) ⟨[],r⟩) (S:CallRes.plain ⟨[],r⟩=false) (aa:eK s.ev c.args.toList=some [.raw (.bool x),.one (.sl n 0 0 e.length)]) (U:s.H n=[⟨ty,1,lc fU e⟩]) (hL:0<e.length) {d:Nat} (N:o.dst=some d) {K:Act->World->Prop} {Q:Exit->Act->World->Prop} (hK: ∀v w',da w0 O X (AS.put s o.dst (renTV d r)) (a.put o.dst v) w'->K (a.put o.dst v) w'):o.wp P a w K Q:=by
 obtain⟨h1,ab,E,q,t⟩:=T;have t:aX X E s a w:=t;obtain⟨e1,e2⟩:=bP aa;obtain⟨y0,ae,ac⟩:=e2 0 _ rfl;obtain⟨y1,af,ad⟩:=e2 1 _ rfl;have r0:=(aV (ρ:=E) (H:=s.H) (be t y0 _ ac)).1;have I: ∀j,Xo X E s.H j->j<w.heap.size:=fun b hb=>by
  rcases hb with hb|⟨x,y,o',m,G,g2⟩
  ·exact q.bar b hb
  exact bf (q.objs x y o' G) g2
 obtain⟨o',G,g2,g3⟩:=be t y1 _ ad;have D:(s.H n)[0]?=some ⟨ty,1,lc fU e⟩:=by rw[U];rfl
 rw[D]at G;injection G with G
 subst G;obtain⟨b,Z,cap,W,hv,B⟩: ∃b Z cap,E n 0=some (b,Z)/\a.eval y1= .slice (some ⟨b,0,none⟩) e.length cap/\e.length<=cap:=by
  rcases g3 with⟨_,_,g4,_⟩|⟨b,Z,cap,g3,g5,g6,_⟩
  ·omega
  exact⟨b,Z,cap,g3,by rw[g5,ab2],g6⟩
 have R:=q.objs n 0 _ D;have J:AN b ty (Vj e) w:=by
  refine⟨bf R W,fun j x hj=>?_⟩;obtain⟨_,_,q3⟩:=R;rw[W]at q3;obtain⟨cells,p1,p2,p3,p4,p5⟩:=q3;simp only[Vj,u9]at hj;obtain⟨z,hz,rfl⟩:=u6.1 hj;obtain⟨v,v1,v2,v3⟩:=p5 j [.p (.raw (.int .u32 (z:Int)))] 0 _ (by simp[lc,fU,hz]) rfl;have:=(aV (ρ:=E) (H:=s.H) v3).1;subst this;refine⟨_,rfl,?_,v2⟩;simp only[ac7,aa3]at v1;simp[World.cell?,p1,v1]
 have V:=f9 (w:=w) ho M (e:=a.eval) rfl (C b cap B).1;unfold Oper.wp;rw[V];simp only[Oper.upon];have F:c.args.size=2:=by simpa using e1.symm
 refine(((C b cap B).2 w J).2 (Xo X E s.H) (c.args.map a.eval) I (by simp[F]) fun j u A=>?_).mono ?_
 ·match j,A with
  |0,A=>
   simp at A;subst A;refine⟨a.eval y0,?_,by rw[r0];exact bQ.raw _ rfl⟩;rw[aaS];have:c.args[0]?=some y0:=by simpa using ae
   rw[this];rfl
  |1,A=>
   simp at A;subst A;refine⟨a.eval y1,?_,by rw[hv];exact bQ.raw _ rfl⟩;rw[aaS];have:c.args[1]?=some y1:=by simpa using af
   rw[this];rfl
  |j+2,A=>simp at A
 rintro l w1 ⟨v,rfl,Y,hi,hr⟩;show K (a.put o.dst v) w1;have:=l4 (P:=P) (it:=(⟨0,g,[],⟨[],r⟩⟩:cB P)) (d:=d) (v:=v) (w1:=w1) (ρc:=Y) h1 ab q t rfl rfl (fun h=>(h rfl).elim) (by rw[if_neg (by rw[S];decide)];exact hi) (by rw[if_neg (by rw[S];decide)];exact hr);rw[N]at hK⊢;exact hK v w1 this
theorem Fr (m:Nat) {x:Bool} {r:TV} (C: ∀b cap,e.length<=cap->CallG P b ty g [.raw (.bool x),.raw (.slice (some ⟨b,0,none⟩) e.length cap)] (Vj e) ⟨[],r⟩) (M:CallRes.plain ⟨[],r⟩=false) (U:Nat) (hL:0<e.length) (p:List (ao P)) (E:List Nat) {id:Nat} {n:Array Oper} {y:Code} {Q:Exit->AS->Prop} {d:Nat} (G:cwD n m=some d) (H:m<n.toList.length) (h: ∀K:AS->Prop,(∀A,(ZB n m g x U ty e A/\ ∀K:AS->Prop,(∀u,bo P y Q u->K u)->aT P (p.map ao.a) E (aJ n (n.toList.drop (m+1)) (m+1)) (some (A.put (some d) (renTV d r))) K)->K A)->aT P (p.map ao.a) E (aJ n (n.toList.take m) 0) (some s) K):bo P (.seq (.region id n false) y) Q s:=ai fun w0 O X a w r0=>by
 obtain⟨A,V,⟨q,q2⟩,W⟩:=aO P (p.map ao.a) E n _ 0 s _ (h _ fun A h=>h);obtain⟨u,Y,Z⟩:=aO P (p.map ao.a) E n _ (m+1) _ _ (W (iP (bo P y Q) Q .normal) fun _ h=>h);obtain⟨o,J⟩: ∃o,n[m]?=some o:=⟨n[m],by simp at H;simp[H]⟩;have t:o.dst=some d:=by
  unfold cwD at G;rw[J]at G;exact G
 unfold cwTs at q;rw[J]at q;simp only at q;split at q
 ·rename_i c hg D;split at q
  ·rename_i f' B;split at q
   ·rename_i ts S;injection q with q
    injection q with q q3
    subst q q3;refine wp_region ?_;have R:n.size=(n.toList.take m).length+(1+(n.toList.drop (m+1)).length):=by simp at H⊢;omega
    rw[R,aax,<- abf,aaO];have I:(n.toList.take m).length=m:=by rw[abc];omega
    refine mo (ao.ok p) (n.toList.take m) 0 s A a w (fun j o z=>?_) V r0 fun F T r'=>?_
    ·rw[aaH]at z;split at z
     ·simpa using z
     cases z
    rw[I,abX 1,aa1];simp only[wpOps,J];rw[if_pos (by simp[Region.wanted,hg])];refine .inl (Nv r' D B C M S q2 hL t fun v w1 N=>?_);refine ic (ao.ok p) (Q:=fun l F T=> ∃u,iP (bo P y Q) Q l u/\da w0 O X u F T) (n.toList.drop (m+1)) (m+1) _ u _ _ (fun j o z=>?_) Y ?_ (fun F T hr=>⟨u,Z,hr⟩)
    ·rw[aaN]at z;simpa using z
    rw[<- t];exact N
   cases q
  cases q
 cases q
end
theorem XM (l:List Nat) (r:l.length<=1073741824):CallC prog 72 [cK l] ⟨[⟨165,1,lc fU (cJ l)⟩],.one (.sl 0 0 0 (cJ l).length)⟩:=by
 refine ay func72 rfl ntmps72 (aA (k:=bz (k:=?_)));refine Iu (G:={n:Nat//n<=l.length/\cJ l=cJ (l.take n)}) (fun n=>⟨(cK l::jk::.raw (.slice none 0 0)::.raw (.int .i64 n.1)::j16 (jk::jk::[])),Hm []⟩) (fun n=>n.1) ⟨l.length,aaq _,by simp⟩ ?_ ?_
 ·refine aj trivial ?_;simp[wk]
 rintro⟨n,s,j⟩;simp only;by_cases q:0<n
 ·obtain⟨a,o⟩:=getElem?_of_lt (l:=l) (k:=n-1) (by omega);have p:((n:Int)-1).toNat=n-1:=by omega
  refine ai (aK (aH p o) (k:=?_));have h:l.take n=l.take (n-1)++[a]:=by
   have:=acC (i:=n-1) (l:=l) (by omega);rw[show n-1+1=n by omega]at this;rw[this,(aaf.1 o).2]
  refine aZ rfl (fun g=>ak ?_) (fun g=>aY ?_)
  ·have f:a=0:=by simpa using g
   refine am (bL (k:=?_));refine⟨⟨n-1,by omega,?_⟩,by simp only;omega,aj trivial ?_⟩
   ·rw[j,h,f,kJ]
   have e:((n-1:Nat):Int)=(n:Int)-1:=by omega
   simp[wk,e]
  have f:a≠0:=by intro e;simp[e]at g
  have b:cJ l=l.take n:=by rw[j,h,tO f]
  show bo _ _ _ _;have c:(l.take n).length=n:=by simp;omega
  rw[b,c];refine aK (aH @aaW (aH (kD pR) (aH c (xu pR)))) (k:=?_);refine aW ⟨.inr rfl,_,bD.refl _,?_⟩;refine⟨.one (.sl 21 0 0 n),21,?_,rfl,?_,rfl⟩
  ·simp(disch:=omega) only[kd,results72]
  simp[Hm,aw,renO,iH]
 have m:n=0:=by omega
 subst m;have b:cJ l=[]:=by rw[j];simp[cJ]
 rw[b];refine ai (ar (k:=aZ rfl (fun g=>by cases g) (fun g=>aY (aK (aH @aaW (kD pR)) (k:=?_)))));refine aW ⟨.inr rfl,_,bD.refl _,?_⟩;refine⟨.one (.sl 21 0 0 0),21,?_,rfl,?_,rfl⟩
 ·simp(disch:=omega) only[kd,results72]
 simp[Hm,aw,renO,lc]
theorem Gr {H:OH} {d:Nat} {t:TypeId} {l:List Nat} (h:H d=[⟨t,1,lc fU l⟩]):fc H d (.one (.sl d 0 0 l.length))=cK l:=by
 simp only[fc,dN,if_true,h,acj,aaO,abL];rw[aar (by simp[lc]),fT]
theorem P6 (l:List Nat):vz ⟨[⟨165,1,lc fU l⟩],.one (.sl 0 0 0 l.length)⟩:=by
 refine⟨rfl,fun o c e b x f=>?_⟩;simp at c;subst c;simp only[lc,fU,aai]at b;obtain⟨y,_,rfl⟩:=b;simp at f;subst f;rfl
theorem WR {b:Nat} (l:List Nat) (h:Lmb l) (e:l.length<=1073741824) {cap:Nat} (f:l.length<=cap):CallG prog b 165 105 [.raw (.bool false),.raw (.slice (some ⟨b,0,none⟩) l.length cap)] (Vj l) ⟨[],tZ (natV l:Int)⟩:=by
 have c:=CallG.ofO (b:=b) (ty:=165) (XM l e) (P6 _) f (by omega);rw[dA h]at c;refine NE func105 rfl (by kernel_rfl) ?_;rw[ntmps105];refine Yy (k:=?_);refine Fu [⟨1,_,_,_,c,rfl⟩] [] [] fun _ K=>?_;simp(disch:=omega) only[kd,lR.a,aa,Nat.reduceEqDiff];apply K
 refine nM.weak ((aj (tm:=(.raw (.bool false)::jk::jk::jk::.one (.ptr 4 0 0 0)::.one (.sl 7 0 0 (au (natV l)).length)::j4 (j4 (jk::jk::[])))) (l:=[(4,ud),(7,[⟨165,1,lc fU (au (natV l))⟩])]) ⟨rfl,rfl,trivial⟩ (by simp[wk])).trans ((bH 7 (bG rfl)).trans (aj (tm:=(.raw (.bool false)::jk::jk::jk::.one (.ptr 4 0 0 0)::cK (au (natV l))::j4 (j4 (jk::jk::[])))) (l:=[(4,ud)]) ⟨rfl,trivial⟩ (by
  simp[wk]
  (repeat' apply u7)<;>first|rfl|exact(Gr (d:=7) (t:=165) (l:=au (natV l)) rfl).symm)))) ?_
 refine ZK (k:=?_)
 (refine R5 ⟨.inr rfl,rfl,cd rfl ?_ rfl⟩;simp(disch:=omega) only[kd,results105,aa,tZ])
 simp[tZ]
end
end Go.Proofs.YtalmoejhjceflaaGreat
