/-
  Part 49 of a proof (walks and plain facts).
-/
import Derived.Test.YtalmoejhjceflaaGreatQ47
set_option linter.all false
set_option maxRecDepth 100000
set_option maxHeartbeats 64000000
open List renaming replicate → ae
namespace Go.Proofs.YtalmoejhjceflaaGreat
open Go.RowKit Go.Proofs.Tryz
variable {b:List (List Int)} {c:List Int} {x:Int} {n:Nat}
theorem iT (x y:List Int):CallC prog 21 [eF x,eF y] ⟨[],.raw (.int .i64 (dn x y))⟩:=by
 refine nj (by kernel_rfl) fun X w vs u p f=>?_
 obtain⟨C,s,q⟩:=y5 f (j:=0) rfl;obtain⟨D,t,r⟩:=y5 f (j:=1) rfl;obtain⟨A,c,rfl,v,o,l⟩:=EG q;obtain⟨B,d,rfl,z,b,m⟩:=EG r;obtain rfl:vs= #[.slice A x.length c,.slice B y.length d]:=by
  grind
 refine(qp A B c d x y w l m o b).mono fun e E ⟨g,h⟩=>?_
 obtain⟨n,rfl⟩:=h;exact⟨_,g,fun _ _ _=>bS.raw _ rfl,(Ext.refl _).drewN n⟩
theorem SJ {k:Nat} {X:Nat->Prop} {w:World} {A:Option Addr} (h:U4 k w A b) (p: ∀f,X f->f<k):bS X w (.sl (ls (fR fI) b)) (.slice A b.length b.length):=by
 obtain⟨F,f,rfl,E,q,s⟩:=h;have:=bS.sl (X:=X) (w:=w) f 0 1 b.length (ls (fR fI) b) (fun i _=>(w.cell? ⟨f,i,none⟩).getD undef) (fun h=>absurd (p _ h) (by omega)) q (fun e g=>by
  obtain⟨z,_,rfl⟩:=acn.1 g;rfl) (by grind [d8]) (by rw[d8];omega) (fun i e j x g l=>by
  grind [gV,fR]) (fun i e j x g l=>by
  rw[gV]at g;obtain⟨r,t,rfl⟩:=acf.1 g;cases j with
  |succ j=>simp[fR]at l
  |zero=>
   simp[fR]at l;subst l;obtain⟨u,c,n,y,B,o,C⟩:=s i r t;simp only[n,ads];cases r with
   |nil=>exact bS.nil _ _
   |cons H G=>
    obtain⟨v,m,rfl,D⟩:=o (by simp);grind [Td])
 grind [d8]
theorem Te {g:Rho} {H:OH} {X:Nat->Prop} {w:World} {v:Value} (e:Bool) (h:bS X w (.sl (ls (fR fI) b)) v):(ZZ b e).rel g H X w (.tuple #[v,.bool e]):=by
 refine⟨#[v,.bool e],rfl,rfl,fun j c l f=>?_⟩
 match j,f with
 |0,f=>
  simp at f;obtain⟨rfl,rfl⟩:=f;exact⟨_,rfl,.inr ⟨rfl,_,rfl,h⟩⟩
 |1,f=>
  simp at f;obtain⟨rfl,rfl⟩:=f;exact⟨_,rfl,.inr ⟨rfl,_,rfl,bS.raw _ rfl⟩⟩
 |j+2,f=>simp at f
def YO (M l:List (List Int)):Option (List (Int×List Int)):=if isReducedM M then iw M l else none
def suL (M l:List (List Int)):List (List Int):=match YO M l with|none=>[]|some b=>(jM b).map Prod.snd
def suB (M l:List (List Int)):Bool:=(YO M l).isSome
theorem TN {l:List (List Int)} (h:YO b l=none):ZZ (suL b l) (suB b l)=ZZ [] false:=by simp[suL,suB,h]
theorem TO {l:List (List Int)} {c:List (Int×List Int)} (h:YO b l=some c):ZZ (suL b l) (suB b l)=ZZ ((jM c).map Prod.snd) true:=by simp[suL,suB,h]
theorem Wz (M l:List (List Int)) (p:l.length<=65536):CallC prog 89 [cw M,cw l] ⟨[],ZZ (suL M l) (suB M l)⟩:=by
 refine zg (by kernel_rfl) fun X w vs D s g=>?_
 obtain⟨G,x,t⟩:=y5 g (j:=0) rfl;obtain⟨H,y,u⟩:=y5 g (j:=1) rfl;obtain⟨A,c,rfl,o,r,n⟩:=uL t;obtain⟨B,d,rfl,E,q,m⟩:=uL u;obtain rfl:vs= #[.slice A M.length c,.slice B l.length d]:=by
  grind
 refine(Bb A B c d M l w n m r o p).mono fun e I ⟨b,h⟩=>?_
 change SUX _ _ (YO M l) _ at b
 cases f:YO M l with
 |none=>
  rw[f]at b;rw[TN f];exact⟨_,b,fun _ _ _ _=>Te _ (bS.nil _ _),h⟩
 |some F=>
  rw[f]at b;rw[TO f];obtain⟨v,z,C⟩:=b;grind [Te,SJ]
/-! Insertion. -/
def qN (M:List (List Int)) (x:List Int):Int:=BF M.length (ent M) (fun i=>x.getD i 0) (fun i=>x.getD i 0)
theorem aam (g:x=1\/x= -1):qN b (c.map fun a=>x*a)=qN b c:=by
 unfold qN BF;refine aO _ fun i _=>?_
 have e: ∀i,(c.map fun a=>x*a).getD i 0=x*c.getD i 0:=fun i=>by
  grind
 simp only[e];have f:bW (fun j=>ent b i j*(x*c.getD j 0)) b.length=x*bW (fun j=>ent b i j*c.getD j 0) b.length:=by
  rw[<- gp];grind
 grind
def itV (M:List (List Int)) (x:List Int):Int×List Int:=(qN M x,Vw x)
def UQ (M l:List (List Int)):List (Int×List Int):=jM (l.map (itV M))
theorem GC: ∀(l acc:List (Int×List Int)),(l.foldl (fun acc x=>kV x acc) acc).length<=l.length+acc.length
 |[],acc=>by simp
 |x::l,acc=>by
  have:=GC l (kV x acc);grind [Hg]
section
section
variable {M:List (List Int)} {n:Nat} {f:FF} {B:Int}
theorem Yp (r:RedR f n) (l:n<=8) (h:0<=B) (j:B<=65536) (t:c.length=n) (g:fA n f c<=B): ∀b∈c,b.natAbs<=524288:=fun b o=>by
 rw[gA]at g;have m:B*((2^n:Nat):Int)<=((4096:Nat):Int)*((4096:Nat):Int):=by
  have e:(2^n:Nat)<=256:=acl (acF (by omega) l) (by decide);generalize(2^n:Nat)=p at*
  have:=acZ j (afj.2 e) (by omega) (by omega);omega
 obtain⟨i,s⟩:=adr.1 o;have q:i<n:=by grind
 have:=Cr r (fun i=>c.getD i 0) h g m (n-i-1) i (by omega);have e:2^(n-i-1)<=2^7:=acF (by omega) (by omega);grind
theorem jW (c:RedR f n) (b:0<=B) (z:List Int):z∈dO f n B n []↔z.length=n/\fA n f z<=B:=by
 rw[Ed c.pd b,gA]
theorem JG: ∀(k:Nat) (w z:List Int),z∈dO f n B k w-> ∃p,z=p++w
 |0,w,z,h=>⟨[],by grind [dO]⟩
 |k+1,w,z,h=>by
  simp only[dO,afs]at h;obtain⟨c,_,h⟩:=h;obtain⟨p,rfl⟩:=JG k (c::w) z h;exact⟨p++[c],by simp⟩
theorem Tz {r:List Int} (g: ∀b∈c,b=0) (e:x≠0):cQ (c++x::r)=if x<0 then -1 else 1:=by
 grind [cQ]
theorem MT {p:List Int} (g: ∀b∈c,b=0) (e:x≠0):cQ (p++x::c).reverse=if x<0 then -1 else 1:=by
 grind [Tz]
theorem Mw (j:pJ n f B) (z:List Int): ∀(k:Nat) (y:List Int) (b:Bool),y.length+(k+1)=n->rQ y->fj f n B (k+1) (aJ n y)->(b=true-> ∀x∈y,x=0)->(z∈Bx f n B false k y b↔z∈dO f n B (k+1) y/\(b=true->cQ z.reverse=1))
 |0,y,b,h,u,g,o=>by
  have r:=fun e=>qQ j h g (o e)
  simp only[Bx,dO,afs,oR,aco,afi,ada,or_false];constructor
  ·rintro⟨c,⟨l,m⟩,t⟩;split at t
   ·simp at t
   rename_i s;obtain rfl:z=c::y:=by grind
   cases b with
   |false=>grind
   |true=>
    have q:c≠0:=fun e=>s (by simp[e])
    simp only[if_true]at l;refine⟨⟨c,⟨by grind,m⟩,rfl⟩,fun _=>?_⟩;have:=MT (p:=[]) (o rfl) q;grind
  grind [cQ]
 |k+1,y,b,h,u,g,o=>by
  have r:=fun e=>qQ j h g (o e)
  have w:=fun c (l:b9 f n B (k+1) (aJ n y)<=c) (m:c<=cq f n B (k+1) (aJ n y))=>Mw j z k (c::y) (b&&decide (c=0)) (by grind) (j.tcb h u g l m) (j.step h g l m).1 fun e=>by
   grind
  have v:dO f n B (k+1+1) y=(rng (b9 f n B (k+1) (aJ n y)) (cq f n B (k+1) (aJ n y))).flatMap fun c=>dO f n B (k+1) (c::y):=rfl
  grind [Bx,oR,JG,MT]
noncomputable def Ia (f:FF) (n:Nat) (B:Int):List (List Int):=Bx f n B false (n-1) [] true
theorem J1 (h:Rf M n f) (b:0<=B) (e:B<=65536) (z:List Int):z∈Ia f n B↔z.length=n/\fA n f z<=B/\cQ z.reverse=1:=by
 have c:=h.vs b e;have g:fj f n B n (aJ n []):=gZ c.r.pd b;have l:=h.n1;unfold Ia;rw[Mw c z (n-1) [] true (by simp;omega) rQ.nil (by grind) (fun _ x j=>by simp at j),show n-1+1=n by omega,jW h.r b,and_assoc]
 simp
theorem S7 (h:Rf M n f) (z:List Int):qN M z=fA n f z:=by
 unfold qN;rw[h.l,h.en,gA]
theorem Ty (h:cQ c.reverse=1):cQ c≠0:=fun e=>by
 grind [rj]
def itN (n:Nat) (f:FF) (z:List Int):Int×List Int:=(fA n f z,Vw z)
theorem Z3 (h:Rf M n f) (q:0<=B) (s:B<=65536) (m:c.length=n) (t:fA n f c<=B) (v:cQ c≠0):p8 M c=some (itN n f c):=by
 have w:=Yp h.r h.n8 q s m t;have g:vD c=true:=by
  grind [vD]
 have b:By M.length c=true:=tj.2 ⟨by rw[m,h.l],g⟩;have u:0<=fA n f c:=by
  rw[gA];have:=(im h.r.pd.1 h.r.pd.2 (fun i=>c.getD i 0) n 0 (by omega)).1;rwa[dI (f':=f) (fun i j _ _=>cH f i j) (fun _ _=>rfl) (fun _ _=>rfl)]at this
 have e:=Z1 h.red b b;unfold p8;rw[if_pos b];have o:xf M c=some (fA n f c):=by
  unfold xf;rw[e,show BF M.length (ent M) (fun i=>c.getD i 0) (fun i=>c.getD i 0)=fA n f c from S7 h c];grind
 have p:gS c=some (Vw c):=by
  rw[lV g,if_neg v];rfl
 rw[o,p];rfl
theorem Mj (h:Rf M n f) (b:0<=B) (c:B<=65536): ∀{l:List (List Int)},(∀z∈l,z.length=n/\fA n f z<=B/\cQ z≠0)->iw M l=some (l.map (itN n f))
 |[],_=>rfl
 |x::l,e=>by
  obtain⟨g,j,m⟩:=e x (by simp);unfold iw;rw[Z3 h b c g j m,Mj h b c (fun y o=>e y (by simp[o]))];rfl
noncomputable def ma (f:FF) (n:Nat) (B:Int):List (Int×List Int):=jM ((Ia f n B).map (itN n f))
theorem ab0 (h:Rf M n f) (b:0<=B) (c:B<=65536):suL M (Ia f n B)=(ma f n B).map Prod.snd/\suB M (Ia f n B)=true:=by
 have e:=Mj h b c (l:=Ia f n B) fun z j=>by
  grind [J1,Ty]
 have g:YO M (Ia f n B)=some ((Ia f n B).map (itN n f)):=by unfold YO;rw[if_pos h.red,e]
 unfold suL suB;rw[g];exact⟨rfl,rfl⟩
theorem Ak (h:Rf M n f) {s:Int} (b:s=1\/s= -1) (z:List Int):fA n f (z.map fun a=>s*a)=fA n f z:=by
 rw[<- S7 h,<- S7 h,aam b]
theorem ZD (h:cQ c=1):Vw c=c:=by
 simp_all[Vw]
theorem ta (h:Rf M n f) (l:0<=B) (m:B<=65536) (p:Int×List Int):p∈ma f n B↔p.2.length=n/\p.1=fA n f p.2/\p.1<=B/\cQ p.2=1:=by
 unfold ma;rw[Dl,acn];constructor
 ·grind [J1,cQ,itN,Vw,Ak,nQ]
 rintro⟨c,b,g,j⟩;obtain⟨v,y⟩:=p;simp only at c b g j;subst b;have o:cQ y.reverse≠0:=fun e=>by
  grind [cQ]
 have q:cQ y.reverse=1\/cQ y.reverse= -1:=by grind [iV]
 refine⟨y.map fun a=>cQ y.reverse*a,(J1 h l m _).2 ⟨by grind,by grind [Ak],?_⟩,?_⟩
 ·rw[<- List.map_reverse,nQ q];grind
 grind [itN,Ak,Vx,ZD]
theorem Bu (f:FF) (n:Nat) (B:Int):BV (ma f n B):=Dk _
end
end
section
section
variable {M:List (List Int)} {n:Nat} {f:FF} {B k:Int}
theorem aaG (c:0<dk f 1) (b:0<=B):Ia f 1 B=(rng 1 (isqF (B/dk f 1))).flatMap (SC (dk f 1) B false):=by
 obtain⟨l1,e⟩:=Ar (f:=f) c b;have g:=(de (adW b (ad2 c))).1;unfold Ia;simp only[show 1-1=0 from rfl,Bx,if_true,e];grind [i5,List.map_congr_left,oR,SC]
theorem aaD {F:Nat->Int} {i:Nat} (h:i<=n) (b: ∀a,a<n->0<=F a):bW F i<=bW F n:=by
 induction n with
 |zero=>grind
 |succ n c=>
  grind [bW]
theorem YN (j:pJ n f B): ∀(k:Nat) (y:List Int) (z:Bool),y.length+(k+1)=n->rQ y->fj f n B (k+1) (aJ n y)->(z=true-> ∀x∈y,x=0)->(Bx f n B false k y z).length<=(dO f n B (k+1) y).length
 |0,y,z,h,q,g,o=>by
  have m:=fun e=>qQ j h g (o e)
  rw[lg];simp only[Bx,afF];have b:b9 f n B 0 (aJ n y)<=(if z=true then 0 else b9 f n B 0 (aJ n y)):=by
   grind
  refine acl (ym (G:=fun c=>(dO f n B 0 (c::y)).length) _ fun c _=>?_) (M4 b);show _<=1;grind
 |k+1,y,z,h,q,g,o=>by
  have m:=fun e=>qQ j h g (o e)
  rw[lg];simp only[Bx,afF];have b:b9 f n B (k+1) (aJ n y)<=(if z=true then 0 else b9 f n B (k+1) (aJ n y)):=by
   grind
  refine acl (ym (G:=fun c=>(dO f n B (k+1) (c::y)).length) _ fun c r=>?_) (M4 b);obtain⟨l,p⟩:=oR.1 r;have l:b9 f n B (k+1) (aJ n y)<=c:=by omega
  refine YN j k (c::y) _ (by grind) (j.tcb h q g l p) (j.step h g l p).1 fun e=>?_
  grind
theorem TJ (h:Rf M n f) (b:0<=B) (e:B<=65536):(Ia f n B).length<=(dO f n B n []).length:=by
 have c:=h.vs b e;have g:fj f n B n (aJ n []):=gZ c.r.pd b;have l:=h.n1;have:=YN c (n-1) [] true (by simp;omega) rQ.nil (by grind) (fun _ x j=>by simp at j);rwa[show n-1+1=n by omega]at this
theorem Vz (h:Rf M 1 f) (b:0<=B) (u:B<=65536):CallC prog 90 [cw M,.raw (.int .i64 B),.raw (.bool false)] ⟨[],cw (Ia f 1 B)⟩:=by
 have s:=(h.vs b u).d (k:=1) (acs 1);have v:dk f 1<=10000:=h.r.2.2.1;have t:dk f 1=f 0 0:=by show bk f 0 0 0=f 0 0;exact cH f 0 0
 rw[aaG s.1 b];have w:0<=B/dk f 1:=adW b (by omega);have x:B/dk f 1<=B:=ae3 _ b;have o:=de w;have z:isqF (B/dk f 1)<=256:=by
  refine ad7 fun q=>?_
  have:=acZ (show(257:Int)<=isqF (B/dk f 1) by omega) (show(257:Int)<=isqF (B/dk f 1) by omega) (by omega) (by omega);have:=o.2.1;omega
 have p:=Z9 (dk f 1) B false s.1 (by omega) b (by omega) (by
  grind [List.length_flatMap,SC,yn,o6])
 have c:=h.l;have g:M[0]?=some (aN 1 (f 0)):=by rw[h.e];rfl
 have q:=aB (m:=1) (f 0) (j:=0) (by omega);have y:=aD 1 (f 0);generalize(rng 1 (isqF (B/dk f 1))).flatMap (SC (dk f 1) B false)=E at*
 rw[t]at p;refine ax func90 rfl ntmps90 (aA (k:=ai (aH c (k:=az rfl (ch [⟨7,_,_,_,p⟩] (aC g q) (k:=aE @results90))))))
theorem ZH (h:Rf M n f) (c:0<=B) (g:B<=65536) (j:(Ia f n B).length<=1000000):CallC prog 90 [cw M,.raw (.int .i64 B),.raw (.bool false)] ⟨[],cw (Ia f n B)⟩:=by
 by_cases e:n=1
 ·subst e;exact Vz h c g
 have:=h.n1;rw[h.e];exact VA (h.vs c g) (Kl h.r h.n1 h.n8 h.b) (sU h.r h.n8 h.b) false (by omega) j
abbrev vtT (l:List (List Int)) (s e:Int):TV:= .tup [(false,[.p (.sl (ls (fR fI) l))]),(false,[.p (.raw (.int .i64 s))]),(false,[.p (.raw (.int .i64 e))])]
abbrev vtE (e:Int):TV:= .tup [(false,[.p (.raw (.slice none 0 0))]),(false,[.p (.raw (.int .i64 0))]),(false,[.p (.raw (.int .i64 e))])]
theorem Zb (M:List (List Int)) (B k e:Int) (g:e≠0) (c:CallC prog 87 [cw M,.raw (.int .i64 B),.raw (.int .i64 k)] ⟨[],M5 e⟩):CallC prog 37 [cw M,.raw (.int .i64 B),.raw (.int .i64 k)] ⟨[],vtE e⟩:=by
 have b:(e=0)=False:=eq_false g;refine ax func37 rfl ntmps37 (aA (k:=bj [⟨3,_,_,_,c⟩] (k:=ai (dR b (k:=az rfl (bi (k:=aE @results37)))))))
theorem Zc (h:Rf M n f) (g:0<=B) (o:B<=65536) (S:0<=k) (E:k<=1000000) (N:(toL f n B (n-1) []:Int)<=k):
  CallC prog 37 [cw M,.raw (.int .i64 B),.raw (.int .i64 k)] ⟨[],if 8194<(dO f n B n []).length then vtE 7 else vtT ((ma f n B).map Prod.snd) (toL f n B (n-1) []) 0⟩:=by
 obtain⟨L,K,t,j,u,x⟩:=(Bk h g o S E).1 N;have q:=Av M B k;rw[K]at q;have T:=h.n1;have U:=h.n8;have l:=oE (f:=f) (n:=n) (B:=B) (n-1) [];rw[show n-1+1=n by omega]at l;have P:=TJ h g o;have s: ∀i,i<n->L[i]?=some (L.getD i 0):=fun i C=>by grind
 have p:=WB L ((dO f n B n []).length:Int) (by omega) (by omega) (by grind) (by omega) (by omega);have X:1<=(dO f n B n []).length:=by
  have H:ae n (0:Int)∈dO f n B n []:=(jW h.r g _).2 ⟨by simp,by
   grind [gA,jc]⟩
  grind
 have W:Int.tdiv (((dO f n B n []).length:Int)-1) 2=(((dO f n B n []).length:Int)-1)/2:=adi (by omega);rw[W]at p;have A:=ZH h g o;have m:=ab0 h g o;have b:=Wz M (Ia f n B);rw[m.1,m.2]at b;have I: ∀i,i<n->sL i L+L.getD i 0=sL (i+1) L:=fun _ _=>rfl
 have y: ∀i,i<=n->0<=sL i L/\sL i L<=1000000:=fun i C=>by
  refine⟨l8 i fun a O=>j a (by omega),?_⟩;have:=aaD (F:=fun i=>L.getD i 0) C fun a O=>j a O
  grind [sL]
 have J:sL 0 L=0:=rfl;rw[<- u]at N⊢;generalize(dO f n B n []).length=z at*
 generalize Ia f n B=Q at*
 generalize(ma f n B).map Prod.snd=V at*
 clear K x;by_cases c:8194<z
 ·rw[if_pos c];have e:(4096<((z:Int)-1)/2)=True:=eq_true (by omega);refine ax func37 rfl ntmps37 (aA (k:=bj [⟨3,_,_,_,q⟩] (k:=ai (ar (k:=ao rfl (ak (ai (cj [⟨1,_,_,_,p⟩] e (k:=az rfl (bi (k:=aE @results37)))))))))))
 rw[if_neg c];have e:(4096<((z:Int)-1)/2)=False:=eq_false (by omega);have R:=A (by omega);have b:=b (by omega);refine ax func37 rfl ntmps37 (aA (k:=bj [⟨3,_,_,_,q⟩] (k:=ai (ar (k:=ao rfl (ak (ai (dU [⟨1,_,_,_,p⟩] e (k:=ao rfl (ak (bi (k:=ai (dR t (k:=?_))))))))))))));refine ay (G:=fY n) (fun v=>⟨(cw M::.raw (.int .i64 B)::j4 (j4 (jk::.raw (.int .i64 (sL v.i L))::j16 (jk::eF L::rN n::rN v.i::j16 (jk::[]))))),Hm []⟩) (fun v=>n-v.i) ⟨0,by omega⟩ ?_ ?_
 ·refine aj trivial ?_;simp[wk,J]
 rintro⟨i,C⟩;simp only;by_cases H:i<n
 ·have w:=s i H;have Y:=I i H;have Z:=y (i+1) (by omega);refine ar (k:=aV rfl (ai (am (aH w (k:=dF Y (k:=bu (k:=?_)))))));refine⟨⟨i+1,by omega⟩,by grind,aj trivial ?_⟩;simp[wk]
 have D:i=n:=by omega
 subst D;refine ar (k:=aW rfl (dU [⟨3,_,_,_,R⟩,⟨4,_,_,_,b⟩] @ZZ.eq_1 (k:=bi (k:=aE @results37))))
end
end
section
variable {n:Nat}
theorem aa6 {f:FF} {a b:Nat} (c:a<n) (e:b<n):BF n f (eC a) (eC b)=f a b:=by
 grind [eC,mH,BF]
def l1 (y:Nat->Int):Nat->Nat
 |0=>0
 |k+1=>l1 y k+(y k).natAbs
end
section
section
variable {M:List (List Int)} {n:Nat} {f:FF} {B k:Int}
def gh (n:Nat) (f:FF):Int:=Ei (aN n fun i=>f i i) (n-1)
theorem SB (L:List Int): ∀i j,j<=i->Ei L i<=L.getD j 0
 |0,j,h=>by rw[show j=0 by omega];exact adT _
 |i+1,j,h=>by
  show(if L.getD (i+1) 0<Ei L i then L.getD (i+1) 0 else Ei L i)<=_;by_cases e:j=i+1
  ·grind
  have:=SB L i j (by omega);omega
theorem SA (L:List Int): ∀i,∃j,j<=i/\Ei L i=L.getD j 0
 |0=>⟨0,acs 0,rfl⟩
 |i+1=>by
  obtain⟨j,b,c⟩:=SA L i;grind [Ei]
theorem xY {i:Nat} (b:i<n):(aN n fun i=>f i i).getD i 0=f i i:=by
 grind [aB]
theorem Mv (c:1<=n): ∀i,i<n->gh n f<=f i i:=fun i b=>by
 have:=SB (aN n fun i=>f i i) (n-1) i (by omega);rwa[xY b]at this
theorem Yy (c:1<=n): ∃i,i<n/\gh n f=f i i:=by
 obtain⟨j,e,b⟩:=SA (aN n fun i=>f i i) (n-1);exact⟨j,by omega,by rw[<- xY (n:=n) (f:=f) (i:=j) (by omega)];exact b⟩
theorem J6 (h:Rf M n f) (q:c.length=n) (m:cQ c≠0):0<fA n f c:=by
 have g:=h.r.pd;rw[gA];have l:=(im g.1 g.2 (fun i=>c.getD i 0) n 0 (by omega));have e:BF n (bk f 0) (fun i=>c.getD i 0) (fun i=>c.getD i 0)=BF n f (fun i=>c.getD i 0) (fun i=>c.getD i 0):=dI (fun i j _ _=>cH f i j) (fun _ _=>rfl) (fun _ _=>rfl);rw[e]at l;refine Int.lt_iff_le_and_ne.2 ⟨l.1,fun o=>m (rj.2 fun b p=>?_)⟩;grind [List.mem_iff_getElem?]
theorem my (h:Rf M n f):0<gh n f/\gh n f<=65536:=by
 have b:=h.n1;obtain⟨i,g,e⟩:=Yy (f:=f) b;have l:=(h.vs (B:=0) (by omega) (by omega)).d (k:=1) b;have j:dk f 1=f 0 0:=by show bk f 0 0 0=f 0 0;exact cH f 0 0
 have:=Mv (f:=f) b 0 (by omega);refine⟨?_,by omega⟩;rw[e];have c:=h.r.pd.diag g;exact c
def unL (n i:Nat):List Int:=aN n (eC i)
theorem aa1 {i:Nat} (b:i<n):cQ (unL n i)=1:=by
 have e:unL n i=ae i 0++1::ae (n-i-1) 0:=by
  apply acz;intro j;by_cases c:j<n
  ·grind [unL,eC,aB]
  grind [unL,aD]
 grind [Tz]
theorem abL {i:Nat} (b:i<n):fA n f (unL n i)=f i i:=by
 rw[gA,<- aa6 (f:=f) b b];refine dI (fun _ _ _ _=>rfl) (fun j c=>?_) (fun j c=>?_)<;>
 ·grind [unL,aB]
theorem Ix (h:Rf M n f):0<(ma f n (gh n f)).length:=by
 obtain⟨i,b,e⟩:=Yy (f:=f) h.n1;have c:=my h;exact aga ((ta h (by omega) (by omega) (f i i,unL n i)).2 ⟨aD _ _,(abL b).symm,by omega,aa1 b⟩)
theorem Lj (h:Rf M n f) (b:0<=B) (c:B<=65536):(ma f n B).length<=(dO f n B n []).length:=by
 grind [GC,TJ,ma,jM]
def Fa (b:List (Int×List Int)):List (Int×List Int):=b.takeWhile fun p=>p.1==(b.getD 0 (0,[])).1
theorem YP (v:Int): ∀(b:List (Int×List Int)) (i:Nat) p,b[i]?=some p->(i<(b.takeWhile fun p=>p.1==v).length->p.1=v)/\(i=(b.takeWhile fun p=>p.1==v).length->p.1≠v)
 |[],i,p,h=>by simp at h
 |q::b,i,p,h=>by
  by_cases e:q.1=v
  ·rw[aeZ (by simp[e])];cases i with
   |zero=>grind
   |succ i=>
    have:=YP v b i p (by grind);grind
  grind [List.takeWhile_cons_of_neg]
theorem Nc (p:(Int×List Int)->Bool): ∀b:List (Int×List Int),b.take (b.takeWhile p).length=b.takeWhile p
 |[]=>rfl
 |q::b=>by
  by_cases e:p q=true
  ·rw[aeZ e,acC,adS,Nc p b]
  simp_all
abbrev mnT (v:Int) (l:List (List Int)) (e:Int):TV:= .tup [(false,[.p (.raw (.int .i64 v))]),(false,[.p (.sl (ls (fR fI) l))]),(false,[.p (.raw (.int .i64 e))])]
abbrev mnE (e:Int):TV:= .tup [(false,[.p (.raw (.int .i64 0))]),(false,[.p (.raw (.slice none 0 0))]),(false,[.p (.raw (.int .i64 e))])]
structure MiG (m:Nat) where
 i:Nat
 h1:1<=i
 h2:i<=m
theorem Y6 (h:Rf M n f) (U:(dO f n (gh n f) n []).length<=8194) (Y:CallC prog 37 [cw M,.raw (.int .i64 (gh n f)),.raw (.int .i64 k)] ⟨[],vtT ((ma f n (gh n f)).map Prod.snd) B 0⟩):
  CallC prog 15 [cw M,.raw (.int .i64 k)] ⟨[],mnT ((ma f n (gh n f)).getD 0 (0,[])).1 ((Fa (ma f n (gh n f))).map Prod.snd) 0⟩:=by
 have R:=my h;have P:=fg M;rw[h.red]at P;have O:=Rk n f h.n1 (by have:=h.n8;omega);rw[<- h.e]at O;have Q:=Yz (aN n fun i=>f i i) (by rw[aD];exact h.n1) (by rw[aD];have:=h.n8;omega);rw[aD,show Ei (aN n fun i=>f i i) (n-1)=gh n f from rfl]at Q;have y:=Ix h;have o: ∀i (p:Int×List Int),(ma f n (gh n f))[i]?=some p->CallC prog 40 [cw M,eF p.2] ⟨[],.raw (.int .i64 p.1)⟩:=fun i p s=>by
  obtain⟨N,W,a3,_⟩:=(ta h (by omega) (by omega) p).1 (acd s);have hP:fj f n (gh n f) 0 (aJ n p.2):=by
   rw[m0,show aJ n p.2=fun i=>p.2.getD i 0 from funext fun i=>nS N i,<- gA];omega
  rw[W,h.e];exact(SL h.r h.n8 h.b (by omega) R.2 N hP).1
 have S:(ma f n (gh n f)).length<=8194:=acl (Lj h (by omega) R.2) U;clear U;unfold Fa;generalize ma f n (gh n f)=g at*
 generalize gh n f=B0 at*
 obtain⟨j,z⟩: ∃j,g[0]?=some j:=⟨g[0],by simp[y]⟩;have Z:g.getD 0 (0,[])=j:=by grind
 rw[Z];have A:=fun(i:Nat) (p:Int×List Int)=>YP j.1 g i p
 have L:=Nc (fun p=>p.1==j.1) g;have K:(g.takeWhile fun p=>p.1==j.1).length<=g.length:=by
  grind
 have J:1<=(g.takeWhile fun p=>p.1==j.1).length:=by
  grind
 rw[<- L];generalize(g.takeWhile fun p=>p.1==j.1).length=m at*
 rw[List.map_take];have D: ∀(i:Nat) (p:Int×List Int),g[i]?=some p->(g.map Prod.snd)[i]?=some p.2:=fun i p s=>by grind
 have E:=D 0 j z;have l:(g.map Prod.snd).length=g.length:=by simp
 have w: ∀i,i<g.length-> ∃p:Int×List Int,g[i]?=some p:=fun i hi=>⟨g[i],by simp[hi]⟩
 have X:=o 0 j z;have T:0<g.length:=y;generalize aa:g.map Prod.snd=V at*
 refine ax func15 rfl ntmps15 (aA (k:=ai (bj [⟨1,_,_,_,P⟩] (k:=ao rfl (ak (bj [⟨2,_,_,_,O⟩,⟨3,_,_,_,Q⟩,⟨5,_,_,_,Y⟩] (k:=ai (ar (k:=ao rfl (ak (cj [⟨4,_,_,_,X⟩] E (k:=bi (k:=ai ?_)))))))))))));refine ay (G:=MiG m) (fun v=>⟨(cw M::j4 (jk::jk::cw V::jk::jk::.raw (.int .i64 j.1)::rN v.i::j16 (j16 (j4 (j4 (jk::[])))))),Hm []⟩) (fun v=>m-v.i) ⟨1,acs 1,J⟩ ?_ ?_
 ·refine aj trivial ?_;simp[wk]
 rintro⟨i,ab,ac⟩;simp only;by_cases H:i<m
 ·have u:i<g.length:=by omega
  obtain⟨p,s⟩:=w i u;have t:=D i p s;have C:=o i p s;have F:(p.1=j.1)=True:=eq_true ((A i p s).1 H);refine ai (cj [⟨10,_,_,_,C⟩] (aC l (aC t F)) (k:=az rfl (ak (am (bu (k:=?_))))));refine⟨⟨i+1,by omega,by omega⟩,by grind,aj trivial ?_⟩;simp[wk]
 obtain rfl:i=m:=by omega
 have x:(i<=g.length)=True:=eq_true K;have q:(∀c∈ls (fR fI) V,c.length=1)=True:=dW (f:=fR fI) (fun _=>rfl) V;by_cases u:i<g.length
 ·obtain⟨p,s⟩:=w i u;have t:=D i p s;have C:=o i p s;have F:(p.1=j.1)=False:=eq_false ((A i p s).2 rfl);refine ai (cj [⟨10,_,_,_,C⟩] (aC l (aC t F)) (k:=ao rfl (aX (gM (aC @acL (aC l (aC x q))) (k:=aE @results15)))))
 have I:((i:Int)<(g.length:Int))=False:=eq_false (by omega);refine ai (aH (aC l I) (k:=ao rfl (aX (gM (aC @acL (aC l (aC x q))) (k:=aE @results15)))))
end
end
/-! The same by computable functions. -/
def UM (a:Nat):Nat->Nat
 |0=>0
 |m+1=>if(m+1)*(m+1)<=a then m+1 else UM a m
theorem GJ (a:Nat): ∀m,a<(m+1)*(m+1)->UM a m*UM a m<=a/\a<(UM a m+1)*(UM a m+1)
 |0,h=>⟨by simp[UM],by grind⟩
 |m+1,h=>by
  unfold UM;split
  ·omega
  exact GJ a m (by omega)
theorem Ys (a:Int):isqF a=(UM a.toNat a.toNat:Int):=by
 by_cases c:0<=a
 ·have b:a.toNat<(a.toNat+1)*(a.toNat+1):=acp (af5 _) (adO _ (Nat.succ_pos _));obtain⟨e,f⟩:=GJ a.toNat a.toNat b;refine Ls.uniq (de c) ⟨by omega,?_,?_⟩
  ·omega
  grind
 have:a.toNat=0:=by omega
 rw[this];show isqF a=0;unfold isqF;rw[dif_neg];rintro⟨r,b,g,h⟩;have:=acP b b;omega
def Yw (f:FF) (n:Nat) (B:Int) (k:Nat) (y:List Int):Int:= -(((UM (fH f n B k (aJ n y)).toNat (fH f n B k (aJ n y)).toNat:Int)+jb f n k (aJ n y))/dk f (k+1))
def Yr (f:FF) (n:Nat) (B:Int) (k:Nat) (y:List Int):Int:=((UM (fH f n B k (aJ n y)).toNat (fH f n B k (aJ n y)).toNat:Int)-jb f n k (aJ n y))/dk f (k+1)
theorem Si (f:FF) (n:Nat) (B:Int) (k:Nat) (y:List Int):b9 f n B k (aJ n y)=Yw f n B k y:=by unfold b9 Yw;rw[Ys]
theorem RP (f:FF) (n:Nat) (B:Int) (k:Nat) (y:List Int):cq f n B k (aJ n y)=Yr f n B k y:=by unfold cq Yr;rw[Ys]
def enC (f:FF) (n:Nat) (B:Int):Nat->List Int->List (List Int)
 |0,y=>[y]
 |k+1,y=>(rng (Yw f n B k y) (Yr f n B k y)).flatMap fun c=>enC f n B k (c::y)
theorem ZR (f:FF) (n:Nat) (B:Int): ∀k y,dO f n B k y=enC f n B k y
 |0,y=>rfl
 |k+1,y=>by
  unfold dO enC;rw[Si,RP]
  congr 1
  funext c;exact ZR f n B k (c::y)
def toC (f:FF) (n:Nat) (B:Int):Nat->List Int->Nat
 |0,y=>(rng (Yw f n B 0 y) (Yr f n B 0 y)).length
 |k+1,y=>(rng (Yw f n B (k+1) y) (Yr f n B (k+1) y)).length+((rng (Yw f n B (k+1) y) (Yr f n B (k+1) y)).map fun c=>toC f n B k (c::y)).sum
theorem aaV (f:FF) (n:Nat) (B:Int): ∀k y,toL f n B k y=toC f n B k y
 |0,y=>by unfold toL toC;rw[Si,RP]
 |k+1,y=>by
  unfold toL toC;rw[Si,RP]
  congr 3
  funext c;exact aaV f n B k (c::y)
def srC (f:FF) (n:Nat) (B:Int):Nat->List Int->Bool->List (List Int)
 |0,y,z=>(rng (if z=true then 0 else Yw f n B 0 y) (Yr f n B 0 y)).flatMap fun c=>if(z&&decide (c=0))=true then[]else[c::y]
 |k+1,y,z=>(rng (if z=true then 0 else Yw f n B (k+1) y) (Yr f n B (k+1) y)).flatMap fun c=>srC f n B k (c::y) (z&&decide (c=0))
theorem abE (f:FF) (n:Nat) (B:Int): ∀k y z,Bx f n B false k y z=srC f n B k y z
 |0,y,z=>by
  grind [Bx,srC,Si,RP]
 |k+1,y,z=>by
  unfold Bx srC;rw[Si,RP]
  congr 1
  funext c;exact abE f n B k (c::y) _
abbrev Yj:List (List Int):=[[2,1],[1,2]]
abbrev awI:List (List Int):=[[1,0],[0,1]]
theorem abk:Rf Yj 2 (ent Yj):=Tf (M:=Yj) (by decide+kernel)
theorem abj:Rf awI 2 (ent awI):=Tf (M:=awI) (by decide+kernel)
theorem QN:gh 2 (ent Yj)=2:=by rfl
theorem Zs:toL (ent Yj) 2 2 1 []=10:=by rw[aaV];rfl
theorem Zo:(dO (ent Yj) 2 2 2 []).length=7:=by rw[ZR];rfl
theorem abm:ma (ent Yj) 2 2=[(2,[0,1]),(2,[1,-1]),(2,[1,0])]:=by
 unfold ma Ia;rw[abE];rfl
theorem Zr:toL (ent awI) 2 5 1 []<=100:=by rw[aaV];decide+kernel
theorem abl:thL (ent awI) 2 5=[1,4,4,0,4,8]:=by
 unfold thL;rw[ZR];rfl
theorem xP {f:FF} {k:Int} (h:Rf b n f) (j:0<=k) (c:k<=1000000) (e:(toL f n (gh n f) (n-1) []:Int)<=k) (l:(dO f n (gh n f) n []).length<=8194):
  CallC prog 15 [cw b,.raw (.int .i64 k)] ⟨[],mnT ((ma f n (gh n f)).getD 0 (0,[])).1 ((Fa (ma f n (gh n f))).map Prod.snd) 0⟩:=by
 have g:=my h;grind [Zc,Y6]
theorem Zp:CallC prog 15 [cw Yj,.raw (.int .i64 100)] ⟨[],mnT 2 [[0,1],[1,-1],[1,0]] 0⟩:=by
 have h:=xP abk (k:=100) (by omega) (by omega) (by grind [QN,Zs]) (by rw[QN,Zo];decide);rw[QN,abm]at h;exact h
theorem Zq:CallC prog 19 [cw awI,.raw (.int .i64 5),.raw (.int .i64 100)] ⟨[],.tup [(false,[.p (.sl (ls fI [1,4,4,0,4,8]))]),(false,[.p (.raw (.int .i64 0))])]⟩:=by
 have h:=tw abj 5 (by omega) (k:=100) (by omega) (by omega) (by
  grind [Zr])
 grind [abl]
abbrev pI (z:Int):PV:= .raw (.int .i64 z)
theorem qG:CallC prog 18 [] ⟨[],.raw (.bool true)⟩:=by
 have c:CallC prog 15 [.one (.p (.sl [[.sl [[pI 2],[pI 1]]],[.sl [[pI 1],[pI 2]]]])),.raw (.int .i64 100)] ⟨[],.tup [(false,[.p (pI 2)]),(false,[.p (.sl [[.sl [[pI 0],[pI 1]]],[.sl [[pI 1],[pI (-1)]]],[.sl [[pI 1],[pI 0]]]])]),(false,[.p (pI 0)])]⟩:=Zp;have f:CallC prog 19 [.one (.p (.sl [[.sl [[pI 1],[pI 0]]],[.sl [[pI 0],[pI 1]]]])),.raw (.int .i64 5),.raw (.int .i64 100)] ⟨[],.tup [(false,[.p (.sl [[pI 1],[pI 4],[pI 4],[pI 0],[pI 4],[pI 8]])]),(false,[.p (pI 0)])]⟩:=Zq;have e:CallC prog 17 [.one (.p (.sl [[.sl [[pI 0],[pI 1]]],[.sl [[pI 1],[pI (-1)]]],[.sl [[pI 1],[pI 0]]]])),.one (.p (.sl [[.sl [[pI 0],[pI 1]]],[.sl [[pI 1],[pI (-1)]]],[.sl [[pI 1],[pI 0]]]]))] ⟨[],.raw (.bool true)⟩:=by
  have:=Ks [[0,1],[1,-1],[1,0]] [[0,1],[1,-1],[1,0]];rw[decide_eq_true rfl]at this;exact this
 have b:CallC prog 21 [.one (.p (.sl [[pI 1],[pI 4],[pI 4],[pI 0],[pI 4],[pI 8]])),.one (.p (.sl [[pI 1],[pI 4],[pI 4],[pI 0],[pI 4],[pI 8]]))] ⟨[],.raw (.int .i64 0)⟩:=by
  have:=iT [1,4,4,0,4,8] [1,4,4,0,4,8];rw[ig]at this;exact this
 refine ax func18 rfl ntmps18 (aA (k:=cj [⟨3,_,_,_,c⟩] @pI.eq_1 (k:=cj [⟨3,_,_,_,f⟩] @pI.eq_1 (k:=cj [⟨16,_,_,_,e⟩,⟨21,_,_,_,b⟩] @pI.eq_1 (k:=aE @results18)))))
theorem RJ (nm:List Int->Int) (m:Int): ∀(l:List (List Int)) (g:MapS),(gF nm g l).2 m=g.2 m+((l.filter fun z=>decide (nm z=m)).length:Int)
 |[],g=>by simp[gF]
 |z::l,g=>by
  have:=RJ nm m l (qk g (nm z) (g.2 (nm z)+1));grind [gF,qk]
theorem UH (N:Nat) {F:Nat->Int} (h: ∀i,i<N->F i=0):aN N F=ae N 0:=acz fun i=>by
 grind [aB,aD]
end Go.Proofs.YtalmoejhjceflaaGreat
