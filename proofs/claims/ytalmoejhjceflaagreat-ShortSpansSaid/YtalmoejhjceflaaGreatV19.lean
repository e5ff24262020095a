/-
  Part 20 of a proof (walks and plain facts).
-/
import Derived.Test.YtalmoejhjceflaaGreatV18
set_option linter.all false
set_option maxRecDepth 100000
set_option maxHeartbeats 64000000
open Nat renaming reduceAdd → aa
open List renaming replicate → af
namespace Go.Proofs.YtalmoejhjceflaaGreat
open Go.RowKit Go.Proofs.Tryz
variable {n m:Nat} {w:World} {b:Nat->Prop} {c:List Int} {e:Value} {f:FF} {g:OH}
section
def chF (f:FF):Ch->Nat->Nat->Int
 | .add i j=>gO f i j (cF f i j)
 | .swp m=>oq f m
def chT (f:FF):Ch->Nat->Nat->Int
 | .add i j=>TC i j (cF f i j)
 | .swp m=>SY m
inductive Rch (n:Nat):(Nat->Nat->Int)->(Nat->Nat->Int)->(Nat->Nat->Int)->(Nat->Nat->Int)->Prop
 |done (f t:FF) (h:scanF f n=none):Rch n f t f t
 |step (f t h T:FF) (c:Ch) (hc:scanF f n=some c) (hr:Rch n (chF f c) (eJ n t (chT f c)) h T):Rch n f t h T
structure GQ (N B S Z:Nat):Prop where
 n8:N<=8
 b1:9<=B
 lMs: ∀n,n<N+1->lM n B+1<4294967296^Z
 eNs: ∀n,n<N+1->eN n B<4294967296^400
 pt: ¬4^S<=3^S*B^N
 sz:(Z+4)*(28*S+28)+1<=16000000
 z4:Z<=400
structure RedI (N B Z n:Nat) (f0 f t:FF) (s adds:Nat):Prop where
 dfn:Def f n B
 jn:Jn f n B
 det:dk f n=dk f0 n
 pot:4^s*prD f n<=3^s*B^N
 cnt:adds<=28*s+rankF f n
 szt: ∀a b,a<n->b<n->Sz (t a b) (1+(Z+4)*adds)
theorem bd8:GQ 8 bB 970 41:=⟨by decide,by decide,by decide+kernel,by decide+kernel,by decide+kernel,by decide,by decide⟩
theorem bd4:GQ 4 (2^192) 1860 90:=⟨by decide,by decide,by decide+kernel,by decide+kernel,by decide+kernel,by decide,by decide⟩
theorem MQ (h:n<=8):CE n<=28:=aeN (mH h) (by decide)
theorem ZI (K:Nat) (e: ¬4^K<=3^K*n) (s:Nat) (f:K<=s) (b:4^s<=3^s*n):False:=by
 obtain⟨r,rfl⟩: ∃r,s=K+r:=⟨s-K,by omega⟩;rw[af8,af8]at b;have c:3^K*3^r*n<=3^K*n*4^r:=by
  rw[agj,ahl (3^r),<- agj];simp_all[ae7,afX]
 exact e (Nat.le_of_mul_le_mul_right (aeN b c) (agB (by omega)))
section
variable {N B S Z:Nat} {n:Nat} {f0 f t:FF} {s adds:Nat}
theorem RedI.s_le (k:GQ N B S Z) (h:RedI N B Z n f0 f t s adds):s<S:=by
 rcases agT s S with b|b
 ·exact b
 exfalso;have e:=O7 h.dfn n (aeJ _);have c:4^s<=3^s*B^N:=aeN (agh _ e) h.pot;exact ZI S k.pt s b c
theorem RedI.adds_le (k:GQ N B S Z) (h:RedI N B Z n f0 f t s adds) (b:n<=N):adds<=28*S+28:=by
 have c:=h.s_le k;have e:=h.cnt;have g:=BM f n;have j:=MQ (aeN b k.n8);omega
theorem RedI.szf (k:GQ N B S Z) (h:RedI N B Z n f0 f t s adds) (j:n<=N) {a:Nat} (e:a<n) (g:m<n):Sz (f a m) 400:=by
 have c:=h.jn.ent h.dfn (aeN (by decide) k.b1) e g;exact agd c (k.eNs n (by omega))
theorem RedI.szc (k:GQ N B S Z) (h:RedI N B Z n f0 f t s adds) (p:n<=N) {i:Nat} (b:i<n) (c:m<i):Sz (cF f i m) Z:=by
 rw[TU h.dfn (by omega)];have e:=Mb (l:=bk f m i m) (h.dfn.pos m (by omega));have g:=h.jn.lam h.dfn (aeN (by decide) k.b1) i m b c;have o:=k.lMs n (by omega);grind [Sz]
theorem RU {c:Ch} (h:scanF f n=some c):rankF f n=Jj c:=by grind [rankF]
theorem RedI.add (k:GQ N B S Z) (h:RedI N B Z n f0 f t s adds) (C:n<=N) {i:Nat} (w:scanF f n=some (.add i m)):RedI N B Z n f0 (gO f i m (cF f i m)) (eJ n t (TC i m (cF f i m))) s (adds+1)/\rankF f n<rankF (gO f i m (cF f i m)) n:=by
 obtain⟨r,e⟩:=iS w;have e:i<n:=e;obtain⟨c,D,F,E⟩:=id r;have o:rankF f n<rankF (gO f i m (cF f i m)) n:=by
  rw[RU w];exact ZN c e (fun G g=>D6 h.dfn _ c e g (E G g)) (fun H y q=>Gp h.dfn c e y q (fun z=>F H z q))
 obtain⟨p,_⟩:=mL h.dfn.sym h.dfn.ne (cF f i m) c e;have A:=h.cnt;refine⟨⟨h.dfn.add _ c e,aby h.dfn (aeN (by decide) k.b1) h.jn r e,by rw[p n (aeJ _)];exact h.det,by rw[xG n (fun t J=>p (t+1) (by omega))];exact h.pot,by omega,fun a b u v=>?_⟩,o⟩;rw[FI (by omega) (by omega) t a b v];have x:=h.szt a b u v;split
 ·have I:=(h.szc k C e c).mul (h.szt a m u (by omega));exact(Sz.add (x.mono (l:=Z+(1+(Z+4)*adds)) (by omega)) I).mono (by grind)
 rw[aid];exact x.mono (by grind)
theorem RedI.swap (k:GQ N B S Z) (h:RedI N B Z n f0 f t s adds) (y:n<=N) (w:scanF f n=some (.swp m)):RedI N B Z n f0 (oq f m) (eJ n t (SY m)) (s+1) adds:=by
 obtain⟨g,c⟩:=iS w;have c:m+1<n:=c;obtain⟨e,_,_⟩:=id g;obtain⟨u,_⟩:=rL h.dfn.sym h.dfn.pos c;have x:=h.cnt;have z:=BM f n;have A:=MQ (aeN y k.n8);refine⟨h.dfn.swap c e,Yj h.dfn h.jn g c,by rw[u n (aeJ _) (by omega)];exact h.det,?_,by omega,fun a b v j=>?_⟩
 ·have p:=Jc h.dfn c e n (by omega) (aeJ _);have q:=ae7 (4^s) p;have l:4^(s+1)*prD (oq f m) n=4^s*(4*prD (oq f m) n):=by grind
  have o:4^s*(3*prD f n)=3*(4^s*prD f n):=ahw _ _ _;have r:3^(s+1)*B^N=3*(3^s*B^N):=by grind
  rw[l,r];rw[o]at q;exact aeN q (ae7 3 h.pot)
 rw[FJ c t a b j];exact h.szt a _ v (un c j)
def muR (S n:Nat) (f:FF) (s:Nat):Nat:=(S-s)*30+(29-rankF f n)
theorem RedI.mu_add (k:GQ N B S Z) (h:RedI N B Z n f0 f t s adds) (b:n<=N) {i:Nat} (c:scanF f n=some (.add i m)):muR S n (gO f i m (cF f i m)) s<muR S n f s:=by
 have e:=(h.add k b c).2;have g:=BM (gO f i m (cF f i m)) n;have l:=MQ (aeN b k.n8);unfold muR;omega
theorem RedI.mu_swap (k:GQ N B S Z) (h:RedI N B Z n f0 f t s adds) (c:n<=N) (b:scanF f n=some (.swp m)):muR S n (oq f m) (s+1)<muR S n f s:=by
 have e:=(h.swap k c b).s_le k;grind [muR]
theorem ug (k:GQ N B S Z) (e:n<=N): ∀m f t s adds,muR S n f s<=m->RedI N B Z n f0 f t s adds-> ∃h T,Rch n f t h T
 |0,f,t,s,adds,o,h=>by
  cases b:scanF f n with
  |none=>exact⟨f,t,.done f t b⟩
  |some c=>
   cases c with
   |add i j=>have:=h.mu_add k e b;omega
   |swp m=>have:=h.mu_swap k e b;omega
 |m+1,f,t,s,adds,o,h=>by
  cases b:scanF f n with
  |none=>exact⟨f,t,.done f t b⟩
  |some c=>
   cases c with
   |add i j=>
    have:=h.mu_add k e b;obtain⟨g,T,l⟩:=ug k e m _ _ _ _ (by omega) (h.add k e b).1;exact⟨g,T,.step f t g T _ b l⟩
   |swp q=>
    have:=h.mu_swap k e b;obtain⟨g,T,l⟩:=ug k e m _ _ _ _ (by omega) (h.swap k e b);exact⟨g,T,.step f t g T _ b l⟩
theorem RedI.red (h:RedI N B Z n f0 f t s adds) (b:1<=n) (g:dk f0 n<=10000) (e:scanF f n=none):RedR f n:=by
 refine(Ga b).1 ⟨h.dfn.sym,fun k c=>?_,?_,Mp e⟩
 ·rw[va h.dfn.pos k c];exact h.dfn.pos k c
 have:=va h.dfn.pos (n-1) (by omega);rw[show n-1+1=n by omega]at this;rw[this,h.det];exact g
theorem RedI.start_ (k:GQ N B S Z) (m:n<=N) (p:SymF f n) (o:uG f n) (j: ∀k,k<=n->(dk f k).natAbs<=B) (h: ∀a,a<n->(f a a).natAbs<=B) (q: ∀a b,a<n->b<n->Sz (t a b) 1):RedI N B Z n f f t 0 0:=by
 have e: ∀k,k<n->0<dk f (k+1):=fun k l=>(n9 o k l).1
 have c:Def f n B:=⟨p,e,j⟩;have r:=k.b1;refine⟨c,.inl fun a g=>aeN (h a g) ?_,rfl,?_,by omega,fun a b g h=>(q a b g h).mono (by omega)⟩
 ·unfold cN;exact aeN (Nat.le_add_right B (B*B)) (agh _ (agB (by omega)))
 simp only[ai1,Nat.one_mul];exact aeN (VZ c n (aeJ _)) (ae5 (by omega) m)
theorem RedI.start (g:1<=n) (e:n<=8) (j:SymF f n) (h:uG f n) (c: ∀a b,(f a b).natAbs<=9) (l: ∀a b,a<n->b<n->Sz (t a b) 1):RedI 8 bB 41 n f f t 0 0:=
 RedI.start_ bd8 e j h (fun k m=>adL c (by omega)) (fun a _=>aeN (c a a) (by decide)) l
end
end
theorem UE {b:World} (h:fm w b):Keep (fun _=>False) w b:=⟨h.os,h.tape,h.output,h.size,fun k c _=>h.block k c⟩
theorem U5 {b:World} (h:Keep (fun _=>False) w b):fm w b:=⟨h.os,h.tape,h.output,h.size,fun k c=>h.block k c (fun h=>h)⟩
theorem OC {j:World} (h:fm w j) (l: ∀f,b f->f<w.heap.size):Inv w (fun _=>False) b (famH 0 []) (fun _ _=>none) j:=by
 have e: ∀a,famH 0 [] a=[]:=fun a=>by grind [famH]
 refine⟨UE h,fun a r o g=>?_,fun a r n s o q f c p g=>?_,fun a r o f c g=>?_,fun f m=>aeT (l f m) h.size,fun a r o g=>?_⟩<;>(grind)
theorem oB {P:Program} {f:FuncId} {args:List TV} {r:TV} (q:callable P f=true) (h: ∀(X:Nat->Prop) (w:World) (vs:Array Value),(∀b,X b->b<w.heap.size)->vs.size=args.length->
  (∀(j:Nat) t,args[j]?=some t-> ∃v:Value,vs[j]?=some v/\t.rel (fun _ _=>none) (fun _=>[]) X w v)->Calls P f vs w fun e g=> ∃v,e= .returned v/\(∀s H Y,r.rel s H Y g v)/\fm w g):CallC P f args ⟨[],r⟩:=
 ⟨q,fun X w vs l c p=>(h X w vs l c p).mono fun e g ⟨v,m,n,o⟩=>⟨v,m,fun _ _=>none,OC o l,n _ _ _⟩⟩
theorem CallC.calls {P:Program} {f:FuncId} {args:List TV} {r:TV} (h:CallC P f args ⟨[],r⟩) {vs:Array Value} (c:vs.size=args.length) (p: ∀(j:Nat) t,args[j]?=some t-> ∃v:Value,vs[j]?=some v/\t.rel (fun _ _=>none) (fun _=>[]) (fun _=>False) w v):Calls P f vs w fun e g=> ∃v,e= .returned v/\(∃l H X,r.rel l H X g v)/\fm w g:=
 (h.2 (fun _=>False) w vs (fun b h=>h.elim) c p).mono fun e g ⟨v,m,l,n,o⟩=>⟨v,m,⟨_,_,_,o⟩,U5 n.keep⟩
theorem Pc {h:Rho} (v:Int) (e:Bool):(tvI v e).rel h g b w (.tuple #[.int .i64 v,.bool e]):=by
 refine⟨#[.int .i64 v,.bool e],rfl,rfl,fun j c l f=>?_⟩
 match j,f with
 |0,f=>
  simp at f;obtain⟨rfl,rfl⟩:=f;exact⟨_,rfl,.inr ⟨rfl,_,rfl,bS.raw _ rfl⟩⟩
 |1,f=>
  simp at f;obtain⟨rfl,rfl⟩:=f;exact⟨_,rfl,.inr ⟨rfl,_,rfl,bS.raw _ rfl⟩⟩
 |j+2,f=>simp at f
theorem Wd {e:Rho} (c:Bool):(TV.raw (.bool c)).rel e g b w (.bool c):=bS.raw _ rfl
theorem jw {v:Value} (h:bS b w (.raw e) v):v=e:=by cases h;rfl
theorem zu (h:bS b w (.sl (ls fI c)) e): ∃A j,e= .slice A c.length j/\c.length<=j/\c.length<=9223372036854775807/\RdI .i64 w A c:=by
 generalize m:PV.sl (ls fI c)=x at h;cases h with
 |raw e h=>cases m
 |ptr g o F f y B r t=>cases m
 |nil a j=>
  injection m with m
  have D:c=[]:=by simp_all[ls]
  subst D;exact⟨a,j,rfl,afl _,by simp,RdI.nil _ _ _⟩
 |sl g o u cap J f y B q n s r t=>
  injection m with m
  subst m;rw[iM]at n s;refine⟨some ⟨g,o,none⟩,cap,by rw[iM],n,s,fun E=>⟨g,o,rfl,fun i x m=>?_⟩⟩;rw[aeG]at m;obtain⟨z,I,rfl⟩:=adT.1 m;have p:(ls fI c)[i]?=some (fI z):=by grind [kN]
  have C:u=1:=by rw[<- q _ (adQ p)];rfl
  subst C;have G:=r i _ 0 _ p rfl;have H:=jw (t i _ 0 _ p rfl);grind
theorem Pe {M:List (List Int)} (h:bS b w (.sl (ls (fR fI) M)) e): ∃A c,e= .slice A M.length c/\M.length<=c/\M.length<=9223372036854775807/\S9 .i64 w A M:=by
 generalize l:PV.sl (ls (fR fI) M)=x at h;cases h with
 |raw e h=>cases l
 |ptr g m F f z B q t=>cases l
 |nil a c=>
  injection l with l
  have D:M=[]:=by simp_all[ls]
  subst D;exact⟨a,c,rfl,afl _,by simp,S9.nil _ _ _⟩
 |sl g m u cap H f z B o j s q t=>
  injection l with l
  subst l;rw[iM]at j s;refine⟨some ⟨g,m,none⟩,cap,by rw[iM],j,s,fun E=>⟨g,m,rfl,fun i r G=>?_⟩⟩;have n:(ls (fR fI) M)[i]?=some (fR fI r):=by grind [kN]
  have C:u=1:=by rw[<- o _ (adQ n)];rfl
  subst C;have p:=q i _ 0 _ n rfl;have y:=zu (t i _ 0 _ n rfl);rw[aja,ago]at p;exact⟨_,p,y⟩
/-! The program's functions. -/
theorem HJ {args:List TV} {vs:Array Value} (h: ∀(j:Nat) t,args[j]?=some t-> ∃v:Value,vs[j]?=some v/\t.rel (fun _ _=>none) (fun _=>[]) b w v) {j:Nat} {x:PV} (c:args[j]?=some (.one (.p x))): ∃v:Value,vs[j]?=some v/\bS b w x v:=h j _ c
def MJ (v:Value) (a:Nat) (g:Nat->Value):Nat->Value:=fun j=>if j=0 then v else if j=1 then .int .i64 (a:Int)else g j
theorem Rs (tx n:Nat) (A:Option Addr) (c:Nat) (l:List Int) (a:Nat) (g:Nat->Value) (w:World) (hn:2<=n) (hl:RdI .i8 w A l) (hb: ∀z∈l,-128<=z/\z<=127) (ll:l.length<=9223372036854775807) (ha:a<=l.length) (hT:w.rowIs tx 104 n (MJ (.slice A l.length c) a g)) (hne:l≠[]-> ∀p,A=some p->p.block≠tx):
  Calls prog 61 #[.pointer (some ⟨tx,0,none⟩)] w fun e w'=>e= .returned (.int .i64 (l.getD a 0))/\w'.rowIs tx 104 n (MJ (.slice A l.length c) (bL l a) g)/\w.grownBy w' (some tx):=by
 have HT:=aeV hT;have HL:=aeV hl;have HB:=aeV hb;have HN:=aeV hne;clear hT hl hb hne;have t0:w.cell? ⟨tx,0,none⟩=some (.slice A l.length c):=HT.out.cell (by omega);have t1:w.cell? ⟨tx,1,none⟩=some (.int .i64 (a:Int)):=HT.out.cell (by omega);have t2:w.frozen? ⟨tx,1,none⟩=false:=HT.out.frozen 1;by_cases hlt:a<l.length
 ·obtain⟨z,hz⟩:=getElem?_of_lt hlt;obtain⟨b,off,rfl,hc⟩:=HL.out.at_ hz;have hbt:b≠tx:=HN.out (by grind) _ rfl;have hzb:=HB.out z (adQ hz);have hz1:=hzb.1;have hz2:=hzb.2;have HZ:Hid (l.getD a 0=z):=aeV (by grind);have HNx:Hid (bL l a=a+1):=aeV (if_pos hlt);clear hz hzb
  go_enter func61,ntmps61
  go_wp2_with fail
  go_quiet (fail)
  go_wp2_with fail
  have hrow:=((rF HT.out nq).set 1 (.int .i64 ((a:Int)+1))).congr (g:=MJ (.slice (some ⟨b,off,none⟩) l.length c) (a+1) g) (fun j hj=>by
   grind [MJ])
  have HROW:=aeV hrow;have HG:=aeV (Fe (ii ((fm.refl w).drewN nq) tx) 1 (.int .i64 ((a:Int)+1)));have s0:((w.drewN nq).setCell ⟨tx,1,none⟩ (.int .i64 ((a:Int)+1))).cell? ⟨tx,0,none⟩=some (.slice (some ⟨b,off,none⟩) l.length c):=HROW.out.cell (i:=0) (by omega);have s1:((w.drewN nq).setCell ⟨tx,1,none⟩ (.int .i64 ((a:Int)+1))).cell? ⟨tx,1,none⟩=some (.int .i64 ((a:Int)+1)):=by
   have:=HROW.out.cell (i:=1) (by omega);grind [MJ]
  have s2:((w.drewN nq).setCell ⟨tx,1,none⟩ (.int .i64 ((a:Int)+1))).cell? ⟨b,off+a,none⟩=some (.int .i8 z):=r8 HG.out hc hbt;have a1:IntKind.i64.wrap ((a:Int)+1-1)=(a:Int):=by grind [IntWalk.i64_in]
  have a2:(a:Int)<(l.length:Int):=by omega
  clear t0 t1 t2 hc hrow;generalize(w.drewN nq).setCell ⟨tx,1,none⟩ (.int .i64 ((a:Int)+1))=w3 at*
  go_quiet (fail)
  go_wp2_with fail
  go_ret
  rw[HZ.out,HNx.out];exact⟨rfl,rF HROW.out _,lF HG.out (ii ((fm.refl _).drewN _) tx)⟩
 go_enter func61,ntmps61
 have HZ:Hid (l.getD a 0=0):=aeV (by grind);have HNx:Hid (bL l a=a):=aeV (if_neg hlt)
 go_wp2_with fail
 go_quiet (fail)
 go_wp2_with fail
 go_ret
 rw[HZ.out,HNx.out];exact⟨rfl,rF HT.out _,ii ((fm.refl _).drewN _) tx⟩
def f8 (z:Int):List PV:=[.raw (.int .i8 z)]
abbrev ML (L:List Int) (a:Nat):List PV:=[.sl (ls f8 L),.raw (.int .i64 (a:Int))]
abbrev fk (b:Nat):TV:= .raw (.pointer (some ⟨b,0,none⟩))
def I8 (L:List Int):Prop:= ∀z∈L,-128<=z/\z<=127
theorem I8.getD (h:I8 c) (a:Nat): -128<=c.getD a 0/\c.getD a 0<=127:=by
 rw[aeM];cases b:c[a]? with
 |none=>simp
 |some z=>exact h z (adQ b)
theorem ZU (h:bS b w (.sl (ls f8 c)) e): ∃A j,e= .slice A c.length j/\c.length<=9223372036854775807/\RdI .i8 w A c/\(c≠[]-> ∀p,A=some p-> ¬b p.block):=by
 generalize m:PV.sl (ls f8 c)=x at h;cases h with
 |raw e h=>cases m
 |ptr g n G f B C s u=>cases m
 |nil a j=>
  injection m with m
  have E:c=[]:=by simp_all[ls]
  subst E;exact⟨a,j,rfl,by simp,RdI.nil _ _ _,fun h=>absurd rfl h⟩
 |sl g n y cap L f B C r o t s u=>
  injection m with m
  subst m;rw[iM]at o t;refine⟨some ⟨g,n,none⟩,cap,by rw[iM],t,fun F=>⟨g,n,rfl,fun i x m=>?_⟩,fun _ p J=>by grind⟩;rw[aeG]at m;obtain⟨z,K,rfl⟩:=adT.1 m;have q:(ls f8 c)[i]?=some (f8 z):=by grind [kN]
  have D:y=1:=by rw[<- r _ (adQ q)];rfl
  subst D;have H:=s i _ 0 _ q rfl;have I:=jw (u i _ 0 _ q rfl);grind
theorem Kt (b:Nat) (L:List Int) (a:Nat) (T:I8 L) (V:a<=L.length):CallT prog b 104 61 [fk b] (ML L a) ⟨[],.raw (.int .i64 (L.getD a 0))⟩ (ML L (bL L a)):=by
 refine⟨by kernel_rfl,fun X w vs U B s aa l=>?_⟩;obtain⟨cells,c,O,P,Q,R,S,I⟩:=s;obtain⟨v0,e0,r0⟩:=l 0 _ rfl;have H:v0= .pointer (some ⟨b,0,none⟩):=jw r0;subst H;obtain rfl:vs= #[.pointer (some ⟨b,0,none⟩)]:=by
  grind
 obtain⟨v,c0,_,N⟩:=I 0 _ rfl;obtain⟨u,c1,_,r2⟩:=I 1 _ rfl;have M:=jw r2;subst M;obtain⟨A,cap,rfl,Z,F,W⟩:=ZU N;have G:cells.size=c*2:=P;have z:w.rowIs b 104 (c*2) (MJ (.slice A L.length cap) a fun j=>(cells[j]?).getD undef):=by
  refine⟨cells,O,G,fun i hi=>?_⟩;grind [MJ]
 have q:L≠[]-> ∀p,A=some p->p.block≠b:=fun y p K Y=>W y p K (by rw[Y];exact B)
 refine(Rs b (c*2) A cap L a _ w (by omega) F T Z V z q).mono fun e w' ⟨q1,⟨f,q2,q3,q4⟩,n⟩=>?_
 have t: ∀k,k<w.heap.size->k≠b->w'.heap[k]?=w.heap[k]?:=fun k D y=>n.block k D (by grind)
 have C: ∀j,Xo X (fun _ _=>none) (famH 0 []) j->X j:=fun j m=>by
  rcases m with m|⟨_,_,_,_,_,g⟩
  ·exact m
  cases g
 refine⟨_,q1,fun _ _=>none,?_,bS.raw _ rfl,f,c,q2,q3,Q,R,S,fun j x h=>?_⟩
 ·have e: ∀a,famH 0 [] a=[]:=fun a=>by grind [famH]
  refine⟨⟨n.os,n.tape,n.output,n.size,fun k D J=>t k D J⟩,fun a r o E=>?_,fun a r a' r' o o' b c c' E=>?_,fun a r o b c E=>?_,fun j m=>aeT (U j m) n.size,fun a r o E=>?_⟩<;>(grind)
 match j,h with
 |0,h=>
  have h:x= .sl (ls f8 L):=by grind
  subst h;refine⟨.slice A L.length cap,q4 0 (by omega),rfl,N.later (fun j _ m=>C j m) n.size fun p u K J M=>?_⟩;grind [iX]
 |1,h=>
  have h:x= .raw (.int .i64 (bL L a:Nat)):=by grind
  subst h;exact⟨_,q4 1 (by omega),rfl,bS.raw _ rfl⟩
 |j+2,h=>simp at h
def kr (L:List Int) (a n:Nat):Nat:=((L.getD a 0)%256).toNat%n
theorem dH {n:Nat} (L:List Int) (a:Nat) (h:0<n):kr L a n<n:=afp _ h
theorem Qw (L:List Int) (a n:Nat):Int.tmod (L.getD a 0%256) (n:Int)=(kr L a n:Int):=by
 grind [kr]
theorem adn (x:Int):IntKind.u8.wrap x=x%256:=by rfl
theorem fg {a:Nat} (h:a<=c.length):bL c a<=c.length:=by grind [bL]
theorem uB (b:Nat) (L:List Int) (a n:Nat) (g:I8 L) (h:a<=L.length) (j:0<n) (l:n<=100):CallT prog b 104 82 [fk b,.raw (.int .i64 (n:Int))] (ML L a) ⟨[],.raw (.int .i64 (kr L a n:Int))⟩ (ML L (bL L a)):=by
 have c:=Kt b L a g h;have e:=Qw L a n;have f:=adn (L.getD a 0);refine mM func82 rfl (by kernel_rfl) ?_;rw[ntmps82];refine KJ @fk.eq_1 (k:=?_);refine rU 1 c [] [] (by kernel_rfl) (by rfl) (by rfl) fun _ K=>?_;simp(disch:=omega) only[kd,List.map,fk,aa,f,aH,e];apply K
 (refine px ⟨.inr rfl,rfl,bQ rfl ?_ rfl⟩;simp(disch:=omega) only[kd,results82])
section
def Pj (r:List Int):OObj:=⟨2,1,lc fI r⟩
abbrev kI (d n c i:Nat) (f:FF):List OObj:=⟨35,1,kw d (af i c)++af (n-i) vD⟩::(mat i c f).map Pj
abbrev lV (d n c:Nat) (f:FF):List OObj:=⟨35,1,kw d (af n c)⟩::(mat n c f).map Pj
theorem Fp (d n c:Nat) (f:FF):kI d n c n f=lV d n c f:=by simp
theorem lU {i n:Nat} (d c:Nat) (h:i<=n):(kw d (af i c)++af (n-i) vD).length=n:=by grind [eQ]
theorem tU {i k n:Nat} (d c:Nat) (h:k<i):(kw d (af i c)++af (n-i) vD)[k]?=some [.sl d (k+1) 0 c]:=by
 grind [eQ,bO]
theorem xr {i n:Nat} (d c:Nat) (h:i<n):(kw d (af i c)++af (n-i) vD)[i]?=some vD:=by
 grind [eQ]
theorem eU {n i:Nat} (c:Nat) (f:FF) (h:i<n):((mat n c f).map Pj)[i]?=some ⟨2,1,lc fI (aA c (f i))⟩:=by
 rw[aeG,bA _ _ h];rfl
theorem f7 {n i j:Nat} (c:Nat) (f:FF) (v:Int):((mat n c f).map Pj).set i ⟨2,1,(lc fI (aA c (f i))).set j [.p (.raw (.int .i64 v))]⟩=(mat n c (upd f i j v)).map Pj:=by
 have e:(⟨2,1,(lc fI (aA c (f i))).set j [.p (.raw (.int .i64 v))]⟩:OObj)=Pj (aA c fun b=>if b=j then v else f i b):=by
  rw[<- lQ,Pj,<- tW];rfl
 rw[e,<- aiX,OQ];rfl
theorem dw {g:FF} (h: ∀i j,i<n->j<m->f i j=g i j):(mat n m f).map Pj=(mat n m g).map Pj:=by rw[gJ h]
theorem si {i n c:Nat} (d:Nat) (f:FF) (l:i<n) (e: ∀j,j<c->f i j=0):
  (⟨35,1,(kw d (af i c)++af (n-i) vD).set i [.sl d (i+1) 0 c]⟩::((mat i c f).map Pj++[⟨2,1,af c [.raw (.int .i64 0)]⟩]):List OObj)=kI d n c (i+1) f:=by
 have g:(kw d (af i c)++af (n-i) vD).set i [.sl d (i+1) 0 c]=kw d (af (i+1) c)++af (n-(i+1)) vD:=by
  rw[ahe _ _ (by simp[eQ]),eQ,afc,afO,agS (n:=i),ws,afc,ae8]
  congr 1
  rw[show n-i=n-(i+1)+1 by omega,agG];rfl
 have h:(⟨2,1,af c [.raw (.int .i64 0)]⟩:OObj)=Pj (aA c (f i)):=by
  rw[Pj]
  congr 1
  apply aeW;intro j;rw[agC,Bf];by_cases b:j<c
  ·rw[if_pos b,aw _ b,e j b];rfl
  grind [az]
 grind [IY]
theorem ff (d e n c:Nat) (f:FF):(lV d n c f).map (renO e)=lV e n c f:=by
 grind [renO,Px,List.map_congr_left,Pj,jh]
theorem oH {d n c:Nat} {f:FF} (h:g d=lV d n c f):ve g d:=fun r o b e j x m=>by
 rw[h]at b;cases r with
 |succ r=>
  rw[agW,aeG]at b;obtain⟨l,p,rfl⟩:=adT.1 b;exact .inl (bF _ _ l e j x m)
 |zero=>
  grind [List.mem_iff_getElem?,eQ,bO,Pj,bF,bA]
theorem QV {H:OH} {d n c:Nat} {f:FF} (h:H d=lV d n c f):f5 H d (.one (.sl d 0 0 n))=bV (mat n c f):=by
 have e:((kw d (af n c)).map (List.map (qo H d)))=ls (fR fI) (mat n c f):=by
  apply aeW;intro i;rw[aeG,kN];by_cases b:i<n
  ·rw[bO d c b,bA _ _ b];simp only[afV,aeX,afh,qo,h,agW,eU _ _ b,fR,ld,Fx,nG];grind [az]
  grind [eQ,aS]
 grind [f5,gn,eQ]
theorem YY {H:OH} {d n c:Nat} {f:FF} (h:H d=lV d n c f):gn H d (.sl d 0 0 n)= .p (.sl (ls (fR fI) (mat n c f))):=TV.one.inj (QV h)
abbrev acj (k:Nat) (b:Bool):TV:= .tup [(false,[.sl 0 0 0 k]),(false,[.p (.raw (.bool b))])]
theorem acJ {g:Func} {d k:Nat} {b:Bool} {s:AS} (l:s.H d=lV d k n f) (e:uh prog s g.results.toList=some (.tup [(false,[.sl d 0 0 k]),(false,[.p (.raw (.bool b))])])) (j:d<=4999):
  ∃h,bN s h/\qn prog g ⟨lV 0 k n f,acj k b⟩ h:=
 ⟨s,bN.refl s,_,d,e,Cf (by simp[selfTV,bJ]) j,by rw[l,ff],rfl⟩
section
variable {P:Program} {fu:FuncId} {args:List TV} {n c:Nat} {g:FF}
theorem CallC.fzI (h:CallC P fu args ⟨lV 0 n c g,.one (.sl 0 0 0 n)⟩):CallC P fu args ⟨[],bV (mat n c g)⟩:=
 h.weak ((bR 0 (oH (d:=0) (n:=n) (c:=c) (f:=g) rfl)).trans (ak (tm:=[bV (mat n c g)]) (l:=[(0,[])]) ⟨rfl,trivial⟩ (by
  simp[wk];exact(QV (H:=famH 0 (lV 0 n c g)) (d:=0) (n:=n) (c:=c) (f:=g) rfl).symm)))
theorem CallC.fzT {b:List (Bool×List AV)} (h:CallC P fu args ⟨lV 0 n c g,.tup ((false,[.sl 0 0 0 n])::b)⟩) (m: ∀t∈b,∀x∈t.2,isPure x=true):
  CallC P fu args ⟨[],.tup ((false,[.p (.sl (ls (fR fI) (mat n c g)))])::b)⟩:=by
 refine h.weak ((bR 0 (oH (d:=0) (n:=n) (c:=c) (f:=g) rfl)).trans (ak (tm:=[.tup ((false,[.p (.sl (ls (fR fI) (mat n c g)))])::b)]) (l:=[(0,[])]) ⟨rfl,trivial⟩ ?_));have q:=YY (H:=famH 0 (lV 0 n c g)) (d:=0) (n:=n) (c:=c) (f:=g) rfl;have o: ∀x,isPure x=true->gn (famH 0 (lV 0 n c g)) 0 x=x/\FR [0] x=true:=fun x e=>by cases x<;>first|exact⟨rfl,rfl⟩|cases e
 have r:b.map (fun t=>(t.1,t.2.map (gn (famH 0 (lV 0 n c g)) 0)))=b:=by
  refine(ae1 fun t j=>?_).trans (agz b);show(t.1,t.2.map _)=t;rw[(ae1 fun x e=>(o x (m t j x e)).1).trans (agz t.2)]
 refine⟨.inr ⟨?_,?_⟩,trivial⟩
 ·grind [f5]
 show(List.all _ _)=true;simp only[List.all_cons,List.all_nil,Bool.and_true,aeP,afb];exact⟨rfl,fun t j x e=>(o x (m t j x e)).2⟩
end
def ux (L:List Int) (a:Nat):Nat->Nat
 |0=>a
 |i+1=>bL L (ux L a i)
theorem EL {L:List Int} {a:Nat} (h:a<=L.length): ∀i,ux L a i<=L.length
 |0=>h
 |i+1=>fg (EL h i)
def oo (L:List Int) (a b:Nat):Nat->Nat->Int:=fun i j=>if i=j then 1+(kr L (ux L a i) b:Int)else 0
def SU (L:List Int) (a b i:Nat):Nat->Nat->Int:=fun x y=>if x<i then oo L a b x y else 0
theorem Uj (L:List Int) (a b i x y:Nat):upd (SU L a b i) i i (1+(kr L (ux L a i) b:Int)) x y=SU L a b (i+1) x y:=by
 unfold upd SU oo;by_cases c:x=i
 ·subst c;grind
 have:x<i+1↔x<i:=by omega
 simp_all
theorem pM (b:Nat) (L:List Int) (a n f:Nat) (r:I8 L) (s:a<=L.length) (C:n<=8) (h:0<f) (p:f<=100):
  CallT prog b 104 83 [fk b,.raw (.int .i64 (n:Int)),.raw (.int .i64 (f:Int))] (ML L a) ⟨lV 0 n n (oo L a f),.one (.sl 0 0 0 n)⟩ (ML L (ux L a n)):=by
 refine mM func83 rfl (by kernel_rfl) ?_;rw[ntmps83];refine KJ @fk.eq_1 (k:=dG (k:=ck (dG (k:=?_))));refine lw (G:=fp n) (fun g=>⟨(fk b::rN n::rN f::j4 (.one (.sl 10 0 0 n)::j4 (.raw (.int .i64 (n:Int))::rN g.i::j16 (jk::jk::jk::[])))),Hm [(10,kI 10 n n g.i (SU L a f g.i))]⟩) (fun g=>ML L (ux L a g.i)) (fun g=>n-g.i) ⟨0,by omega⟩ ?_ rfl ?_
 ·refine ak ⟨?_,trivial⟩ ?_
  ·rfl
  simp[wk]
 rintro⟨i,u⟩;simp only;by_cases o:i<n
 ·have q:=uB b L (ux L a i) f r (EL s i) h p;have t:=dH (n:=f) L (ux L a i) h;have v:=xr (i:=i) (n:=n) 10 n o;have D:=lU (i:=i) (n:=n) 10 n u;have w:=aS i n (SU L a f i);have x:=si (i:=i) (n:=n) (c:=n) 10 (SU L a f i) o (fun j B=>by grind [SU]);have y:=tU (i:=i+1) (k:=i) (n:=n) 10 n (by omega);have E:=lU (i:=i+1) (n:=n) 10 n (by omega);have z:=eU (n:=i+1) n (SU L a f i) (i:=i) (by omega);have A:=aw (SU L a f i i) o;refine l5 @fk.eq_1 (k:=tC rfl (ck (dE (dG (k:=l5 (aG v (aG @afc (aG @agb (aG w x)))) (k:=?_))))));refine fx.weak (ak (tm:=(fk b::rN n::rN f::j4 (.one (.sl 10 0 0 n)::rN i::jk::jk::jk::rN n::rN i::j16 (jk::jk::jk::[])))) (l:=[(10,kI 10 n n (i+1) (SU L a f i))]) ⟨?_,trivial⟩ (by simp[wk])) ?_
  ·rfl
  refine mK bZ 7 q [] [] (by kernel_rfl) (by kernel_rfl) (by rfl) (by rfl) fun _ K=>?_;simp(disch:=omega) only[kd,fk,aa,y,aH,z,A,f7];apply K
  show fx _ _ _ _ _ _ _;refine sW (k:=?_);refine⟨⟨i+1,by omega⟩,by grind,ak ⟨?_,trivial⟩ ?_,rfl⟩
  ·show _::_=_::_;grind [dw,Uj]
  simp[wk]
 have m:i=n:=by omega
 subst m;refine l5 @fk.eq_1 (k:=tB rfl ?_);show fx _ _ _ _ _ _ _;have e:kI 10 i i i (SU L a f i)=lV 10 i i (oo L a f):=by
  grind [dw,SU]
 rw[e];refine dG (k:=?_);refine px ⟨.inr rfl,rfl,_,bN.refl _,?_⟩;refine⟨.one (.sl 10 0 0 i),10,?_,rfl,?_,rfl⟩
 ·simp(disch:=omega) only[kd,results83]
 grind [ff]
end
theorem aag (m:Nat):swp (m+1) m idF=SY m:=by
 grind [swp,SY,tf]
def stT (n:Nat) (f:FF):Option Ch->TV
 |none=> .tup [(false,[.p (.raw (.slice none 0 0))]),(false,[.p (.raw (.bool false))])]
 |some c=> .tup [(false,[.p (.sl (ls (fR fZ) (mat n n (chT f c))))]),(false,[.p (.raw (.bool true))])]
structure StG (n:Nat) (f:FF) where
 i:Nat
 hi:i<=n
 h:scanF f n=scanI f (n-i) i
structure StJ (i:Nat) (f:FF) where
 k:Nat
 hk:k<=i
 h:scanJ f i i=scanJ f i k
theorem ac0 (n:Nat) (f:FF) (t:1<=n) (U:n<=8) (V: ∀k,k<n->0<dk f (k+1)) (r: ∀i j,i<n->j<n->Sz (f i j) 1024):
  CallC prog 57 [dq (mat n n f)] ⟨[],stT n f (scanF f n)⟩:=by
 have O:=kB n f t (by omega) r;have N:=zP n t (by omega);have s:=aS n n f;refine b6 func57 rfl (by kernel_rfl) ?_;rw[ntmps57];refine am fun _ K=>?_;simp only[kd,dq,af];apply K
 refine bf [⟨1,_,_,_,O⟩] [] fun _ K=>?_;simp only[kd,dq,Zd,aa];apply K
 refine bf [⟨2,_,_,_,N⟩] [] fun _ K=>?_;simp only[kd,aa,s];apply K
 refine aj (am fun _ K=>?_);simp only[kd,aa,s];apply K;refine ay (G:=StG n f) (fun g=>⟨(dq (mat n n f)::jk::jk::jk::qE (yw n f)::jk::.one (.sl 18 0 0 n)::j4 (j4 (j4 (jk::jk::jk::rN n::rN g.i::j16 (j16 (j16 (j4 (j4 (jk::jk::jk::[]))))))))),Hm [(18,gC 18 n n idF)]⟩) (fun g=>n-g.i) ⟨0,by omega,rfl⟩ ?_ ?_
 ·refine ak ⟨?_,trivial⟩ ?_
  ·exact fD 0 18 n n _
  simp[wk]
 rintro⟨i,S,C⟩;simp only;by_cases m:i<n
 ·have v:scanI f (n-i) i=match scanJ f i i with
   |some j=>some (.add i j)
   |none=>if 0<i/\ ¬LovF f i then some (.swp (i-1))else scanI f (n-(i+1)) (i+1):=by
   rw[show n-i=n-(i+1)+1 by omega];rfl
  refine am fun _ K=>?_;simp(disch:=omega) only[kd,dq,qE];apply K
  refine aP rfl ?_;refine aj (ao ?_);refine am fun _ K=>?_;simp only[kd];apply K
  refine aj (am fun _ K=>?_);simp(disch:=omega) only[kd,aa,aH];apply K;refine ay (G:=StJ i f) (fun g=>⟨(dq (mat n n f)::jk::jk::jk::qE (yw n f)::jk::.one (.sl 18 0 0 n)::jk::rN i::.raw (.int .i64 ((g.k:Int)-1))::j4 (j4 (j4 (.raw (.int .i64 (n:Int))::rN i::j16 (j16 (j16 (j4 (j4 (jk::jk::jk::[]))))))))),Hm [(18,gC 18 n n idF)]⟩) (fun g=>g.k) ⟨i,by omega,rfl⟩ ?_ ?_
  ·refine ak ⟨rfl,trivial⟩ ?_;simp[wk]
  rintro⟨k,T,q⟩;simp only;cases k with
  |zero=>
   refine aj (am fun _ K=>?_);simp(disch:=omega) only[kd,dq,qE];apply K;refine aq rfl (aT ?_);show bv _ _ _ _;have w:scanJ f i i=none:=q;rw[w]at v;by_cases L:0<i
   ·have e:=G1 n f i (by omega) m L r;by_cases o:LovF f i
    ·rw[decide_eq_true (show 3*(dd f i*dd f i)<=4*(dd f (i-1)*dd f (i+1)+lam f i (i-1)*lam f i (i-1))from o)]at e;have b:scanF f n=scanI f (n-(i+1)) (i+1):=by grind
     refine bf [⟨6,_,_,_,e⟩] [] fun _ K=>?_;simp(disch:=omega) only[kd,dq,qE,aa];apply K
     refine aq rfl (al ?_);show bv _ _ _ _;refine cJ fun _ K=>?_;simp(disch:=omega) only[kd,aH];apply K
     refine⟨⟨i+1,by omega,b⟩,by grind,ak ⟨rfl,trivial⟩ ?_⟩;simp[wk]
    rw[decide_eq_false (show ¬3*(dd f i*dd f i)<=4*(dd f (i-1)*dd f (i+1)+lam f i (i-1)*lam f i (i-1))from o)]at e;have b:scanF f n=some (.swp (i-1)):=by grind
    rw[b];have P:((i:Int)-1).toNat=i-1:=by omega
    have x:=bO (n:=n) (i:=i) 18 n m;have y:=bO (n:=n) (i:=i-1) 18 n (by omega);have J:((kw 18 (af n n)).set i [.sl 18 (i-1+1) 0 n])[i-1]?=some [.sl 18 (i-1+1) 0 n]:=by
     grind
    refine bf [⟨6,_,_,_,e⟩] [] fun _ K=>?_;simp(disch:=omega) only[kd,dq,qE,aa];apply K
    refine aC rfl ?_;refine kC bZ (by kernel_rfl) fun _ K=>?_;simp(disch:=omega) only[kd,aa,aH,P,y,x,J,Nat.reduceLeDiff,reduceCtorEq];apply K
    refine bv.weak ((y7 18 (i+1) (i-1+1) (gC 18 n n (swp i (i-1) idF)) (zq idF m (by omega) (by omega))).trans (ak (tm:=(j4 (jk::jk::.one (.sl 18 0 0 n)::j16 (j16 (j16 (j16 (j4 (j4 (j4 ([])))))))))) (l:=[(18,gC 18 n n (swp i (i-1) idF))]) ⟨rfl,trivial⟩ (by simp[wk,WN,oc,aaf,iD,swP,SV,sw]))) ?_;rw[show swp i (i-1) idF=SY (i-1) by grind [aag]];refine bv.weak ((bR 18 (iq rfl)).trans (ak (tm:=(j4 (jk::jk::dq (mat n n (SY (i-1)))::j16 (j16 (j16 (j16 (j4 (j4 (j4 ([])))))))))) (l:=[]) trivial (by simp[wk];exact(Ow (H:=Hm [(18,gC 18 n n (SY (i-1)))]) (d:=18) (n:=n) (c:=n) (f:=SY (i-1)) rfl).symm))) ?_;refine am fun _ K=>?_;simp only[kd,aa,dq];apply K
    (refine aM ⟨.inr rfl,bQ rfl ?_ rfl⟩;simp(disch:=omega) only[kd,results57,stT,chT])
   have z:i=0:=by omega
   subst z;have b:scanF f n=scanI f (n-(0+1)) (0+1):=by grind
   refine am fun _ K=>?_;simp(disch:=omega) only[kd,aa];apply K
   refine aq rfl (al ?_);show bv _ _ _ _;refine cJ fun _ K=>?_;simp(disch:=omega) only[kd,aH];apply K
   refine⟨⟨1,by omega,b⟩,by grind,ak ⟨rfl,trivial⟩ ?_⟩;simp[wk]
  |succ j=>
   have Q:((j+1:Nat):Int)-1=(j:Int):=by omega
   rw[Q];have e:=NG n f i j (by omega) m (by omega) r;by_cases o:SizF f i j
   ·rw[decide_eq_true (show 2*((lam f i j).natAbs:Int)<=dd f (j+1)from o)]at e;have b:scanJ f i i=scanJ f i j:=by rw[q];exact if_pos o
    refine aj (am fun _ K=>?_);simp(disch:=omega) only[kd,dq,qE];apply K;refine aC rfl (al ?_);refine aj (ao ?_);refine bf [⟨4,_,_,_,e⟩] [] fun _ K=>?_;simp only[kd,dq,qE,aa];apply K
    refine aq rfl (al ?_);show bv _ _ _ _;refine cJ fun _ K=>?_;simp(disch:=omega) only[kd,aa,aH];apply K
    refine⟨⟨j,by omega,b⟩,by simp,ak ⟨rfl,trivial⟩ ?_⟩;simp[wk]
   rw[decide_eq_false (show ¬2*((lam f i j).natAbs:Int)<=dd f (j+1)from o)]at e;have b:scanJ f i i=some j:=by rw[q];exact if_neg o
   have u:scanF f n=some (.add i j):=by grind
   rw[u,show stT n f (some (.add i j))= .tup [(false,[.p (.sl (ls (fR fZ) (mat n n (upd idF j i (cF f i j)))))]),(false,[.p (.raw (.bool true))])]from rfl];have h:0<dd f (j+1):=by grind [nB]
   have D:=Ly (n:=n) (i:=i) (j:=j) (by omega) m (by omega) r;have F:=Io (n:=n) (k:=j+1) (by omega) (by omega) r;have d1:=zT n f i j (by omega) m (by omega) r;have d2:=vy n f (j+1) (by omega) (by omega);rw[show((j+1:Nat):Int)=(j:Int)+1 by omega]at d2;have d3:=tl (lam f i j) (dd f (j+1)) h (D.mono (by omega)) (F.mono (by omega));have B:=uc (n:=lam f i j) h;have d4:=Qa (nN (lam f i j) (dd f (j+1))) (nD (lam f i j) (dd f (j+1))) B ((DO D).mono (by omega)) ((DN F).mono (by omega));rw[aeu h]at d4;have sq:Sz (qF (lam f i j) (dd f (j+1))) 67174401:=by
    have R:=Mb (l:=lam f i j) h;have M:Sz ((lam f i j).natAbs+1:Int) (67174400+1):=Sz.add (D.le (by omega)) (ni (by omega));exact M.le (by omega)
   have d5:=I4 (qF (lam f i j) (dd f (j+1))) (sq.mono (by omega));rw[show -(qF (lam f i j) (dd f (j+1)))=cF f i j from rfl]at d5;have x:=bO (n:=n) (i:=j) 18 n (by omega);have y:=dp n idF (show j<n by omega);have I:=aw (idF j) m;generalize cF f i j=E at*
   generalize qF (lam f i j) (dd f (j+1))=Y at*
   generalize nN (lam f i j) (dd f (j+1))=W at*
   generalize nD (lam f i j) (dd f (j+1))=X at*
   refine aj (am fun _ K=>?_);simp(disch:=omega) only[kd,dq,qE];apply K;refine aC rfl (al ?_);refine aj (ao ?_);refine bf [⟨4,_,_,_,e⟩] [] fun _ K=>?_;simp only[kd,dq,qE,aa];apply K
   refine aC rfl ?_;refine rT bZ [⟨8,_,_,_,d1⟩,⟨12,_,_,_,d2⟩,⟨13,_,_,_,d3⟩,⟨14,_,_,_,d4⟩,⟨15,_,_,_,d5⟩] [] (by kernel_rfl) fun _ K=>?_;simp(disch:=omega) only[kd,dq,tZ,qE,tR,aa,x,aH,Nat.reduceBEq,y,fZ,I,gS];apply K
   refine bv.weak ((ak (tm:=(j4 (jk::jk::.one (.sl 18 0 0 n)::j16 (j16 (j16 (j16 (j4 (j4 (j4 ([])))))))))) (l:=[(18,gC 18 n n (upd idF j i E))]) ⟨rfl,trivial⟩ (by simp[wk])).trans ((bR 18 (iq rfl)).trans (ak (tm:=(j4 (jk::jk::dq (mat n n (upd idF j i E))::j16 (j16 (j16 (j16 (j4 (j4 (j4 ([])))))))))) (l:=[]) trivial (by
    simp[wk];grind [Ow,Hm])))) ?_
   refine am fun _ K=>?_;simp only[kd,aa,dq];apply K
   (refine aM ⟨.inr rfl,bQ rfl ?_ rfl⟩;simp(disch:=omega) only[kd,results57])
 have A:i=n:=by omega
 subst A;have b:scanF f i=none:=by rw[C,afO];rfl
 rw[b];refine am fun _ K=>?_;simp(disch:=omega) only[kd,dq,qE];apply K
 refine aQ rfl ?_;show bv _ _ _ _;refine am fun _ K=>?_;simp only[kd];apply K
 (refine aM ⟨.inr rfl,bQ rfl ?_ rfl⟩;simp(disch:=omega) only[kd,results57,stT])
def stG (L:List Int) (i k:Nat) (s:(Nat->Nat->Int)×Nat):(Nat->Nat->Int)×Nat:=(upd (upd s.1 i k (Int.tmod (L.getD s.2 0) 3)) k i (Int.tmod (L.getD s.2 0) 3),bL L s.2)
def X8 (L:List Int) (i:Nat) (s:(Nat->Nat->Int)×Nat):Nat->(Nat->Nat->Int)×Nat
 |0=>s
 |k+1=>stG L i k (X8 L i s k)
def GS (L:List Int) (s:(Nat->Nat->Int)×Nat):Nat->(Nat->Nat->Int)×Nat
 |0=>s
 |i+1=>X8 L i (GS L s i) i
theorem Lx {L:List Int} {i:Nat} {s:(Nat->Nat->Int)×Nat} (h:s.2<=L.length): ∀k,(X8 L i s k).2<=L.length
 |0=>h
 |k+1=>fg (Lx h k)
theorem Lw {L:List Int} {s:(Nat->Nat->Int)×Nat} (h:s.2<=L.length): ∀i,(GS L s i).2<=L.length
 |0=>h
 |i+1=>Lx (Lw h i) i
theorem XL (f:FF) (i j:Nat) (v:Int):upd f i j v i j=v:=by simp[upd]
theorem QX (b:Nat) (L:List Int) (a n:Nat) (j:I8 L) (w:a<=L.length) (I:n<=8):
  CallT prog b 104 80 [fk b,.raw (.int .i64 (n:Int))] (ML L a) ⟨lV 0 n n (GS L (oo L a 6,ux L a n) n).1,.one (.sl 0 0 0 n)⟩ (ML L (GS L (oo L a 6,ux L a n) n).2):=by
 have u:=pM b L a n 6 j w I (by omega) (by omega);rw[show((6:Nat):Int)=6 from rfl]at u;have o:(oo L a 6,ux L a n).2<=L.length:=EL w n;refine mM func80 rfl (by kernel_rfl) ?_;rw[ntmps80];refine KJ @fk.eq_1 (k:=?_);refine rU 2 u [] [] (by kernel_rfl) (by rfl) (by rfl) fun _ K=>?_;simp only[kd,fk,aa];apply K
 refine ck (dG (k:=?_));refine lw (G:=fp n) (fun g=>⟨(fk b::j4 (.one (.sl 10 0 0 n)::j4 (jk::jk::rN n::rN g.i::j16 (j4 (j4 (j4 (jk::jk::jk::[]))))))),Hm [(10,lV 10 n n (GS L (oo L a 6,ux L a n) g.i).1)]⟩) (fun g=>ML L (GS L (oo L a 6,ux L a n) g.i).2) (fun g=>n-g.i) ⟨0,by omega⟩ ?_ rfl ?_
 ·refine ak ⟨?_,trivial⟩ ?_
  ·exact ff 0 10 n n _
  simp[wk]
 rintro⟨i,M⟩;simp only;have q:=Lw o i;by_cases h:i<n
 ·refine l5 @fk.eq_1 (k:=tC rfl (ck (dE (dG (k:=dG (k:=?_))))));refine lw (G:=fp i) (fun g=>⟨(fk b::j4 (.one (.sl 10 0 0 n)::rN i::rN g.i::j4 (.raw (.int .i64 (n:Int))::rN i::j16 (j4 (j4 (j4 (jk::jk::jk::[]))))))),Hm [(10,lV 10 n n (X8 L i (GS L (oo L a 6,ux L a n) i) g.i).1)]⟩) (fun g=>ML L (X8 L i (GS L (oo L a 6,ux L a n) i) g.i).2) (fun g=>i-g.i) ⟨0,by omega⟩ ?_ rfl ?_
  ·refine ak ⟨rfl,trivial⟩ ?_;simp[wk]
  rintro⟨k,N⟩;simp only;have e:=Lx (i:=i) q k;by_cases H:k<i
  ·have r:X8 L i (GS L (oo L a 6,ux L a n) i) (k+1)=stG L i k (X8 L i (GS L (oo L a 6,ux L a n) i) k):=rfl;generalize X8 L i (GS L (oo L a 6,ux L a n) i) k=s at*
   obtain⟨f,p⟩:=s;simp only at e⊢;have F:=Kt b L p j e;have J:=j.getD p;have t:=bO (n:=n) (i:=i) 10 n h;have y:=bO (n:=n) (i:=k) 10 n (by omega);have z:=eU n f h;have A:=aw (f i) (show k<n by omega);have c:stG L i k (f,p)=(upd (upd f i k (Int.tmod (L.getD p 0) 3)) k i (Int.tmod (L.getD p 0) 3),bL L p):=rfl;obtain⟨v,x⟩: ∃v,Int.tmod (L.getD p 0) 3=v:=⟨_,rfl⟩;rw[x]at c;have B:=eU n (upd f i k v) h;have C:=eU n (upd f i k v) (show k<n by omega);have D:(aA n (upd f i k v i))[k]?=some v:=by grind [aw,XL]
   have E:=aw (upd f i k v k) h;refine ck (l5 @fk.eq_1 (k:=iG rfl (jV (ck (dE ?_)))));refine KH bZ 6 F [] [] (by kernel_rfl) (by kernel_rfl) (by rfl) (by rfl) fun _ K=>?_;simp(disch:=omega) only[kd,fk,aa,t,x,z,A,f7];apply K
   refine EJ (aG y (aG t (aG B (aG D (aG C (aG E @f7)))))) (k:=sW (k:=?_));refine⟨⟨k+1,by omega⟩,by grind,ak ⟨?_,trivial⟩ ?_,?_⟩
   ·rw[r,c];rfl
   ·simp[wk]
   grind
  have m:k=i:=by omega
  subst m;refine ck (l5 @fk.eq_1 (k:=cw rfl (Hq (sW (k:=?_)))));refine⟨⟨k+1,by omega⟩,by grind,ak ⟨rfl,trivial⟩ ?_,rfl⟩;simp[wk]
 have l:i=n:=by omega
 subst l;refine l5 @fk.eq_1 (k:=tB rfl (dG (k:=?_)));refine px ⟨.inr rfl,rfl,_,bN.refl _,?_⟩;refine⟨.one (.sl 10 0 0 i),10,?_,rfl,?_,rfl⟩
 ·simp(disch:=omega) only[kd,results80]
 grind [ff]
end Go.Proofs.YtalmoejhjceflaaGreat
