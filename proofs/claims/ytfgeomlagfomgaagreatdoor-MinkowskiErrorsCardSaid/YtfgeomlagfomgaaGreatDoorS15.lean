/-
  Part 16 of a proof (walks and plain facts).
-/
import Derived.Test.YtfgeomlagfomgaaGreatDoorS14
set_option linter.all false
set_option maxRecDepth 100000
set_option maxHeartbeats 64000000
open Nat renaming reduceAdd → aa
open Nat renaming le_refl → ac
open List renaming replicate → ae
open Nat renaming reduceBEq → af
open Nat renaming add_zero → an
open List renaming getElem?_eq_none → aq
open List renaming mem_of_getElem? → au
open List renaming length_replicate → ax
open List renaming getElem?_map → ay
open Nat renaming le_trans → az
namespace Go.Proofs.YtfgeomlagfomgaaGreatDoor
open Go.RowKit
section
def QE (f:FF):Ch->Nat->Nat->Int
 | .add i j=>fd f i j (cF f i j)
 | .swp m=>jg f m
def Ns (f:FF):Ch->Nat->Nat->Int
 | .add i j=>Hf i j (cF f i j)
 | .swp m=>GP m
inductive Rch (n:Nat):(Nat->Nat->Int)->(Nat->Nat->Int)->(Nat->Nat->Int)->(Nat->Nat->Int)->Prop
 |done (f t:FF) (h:scanF f n=none):Rch n f t f t
 |step (f t h T:FF) (c:Ch) (hc:scanF f n=some c) (hr:Rch n (QE f c) (gX n t (Ns f c)) h T):Rch n f t h T
structure A4 (N B S Z:Nat):Prop where
 n8:N<=8
 b1:9<=B
 lMs: ∀n,n<N+1->lM n B+1<4294967296^Z
 eNs: ∀n,n<N+1->eN n B<4294967296^400
 pt: ¬4^S<=3^S*B^N
 sz:(Z+4)*(28*S+28)+1<=16000000
 z4:Z<=400
structure RedI (N B Z n:Nat) (f0 f t:FF) (s adds:Nat):Prop where
 dfn:Def f n B
 jn:Jn f n B
 det:dk f n=dk f0 n
 pot:4^s*prD f n<=3^s*B^N
 cnt:adds<=28*s+rankF f n
 szt: ∀a b,a<n->b<n->Sz (t a b) (1+(Z+4)*adds)
theorem QC:A4 8 bB 970 41:=⟨by decide,by decide,by decide+kernel,by decide+kernel,by decide+kernel,by decide,by decide⟩
theorem yA {n:Nat} (h:n<=8):vi n<=28:=az (jh h) (by decide)
theorem L9 {C:Nat} (K:Nat) (hK: ¬4^K<=3^K*C) (s:Nat) (hs:K<=s) (h1:4^s<=3^s*C):False:=by
 obtain⟨r,rfl⟩: ∃r,s=K+r:=⟨s-K,by omega⟩;rw[Nat.pow_add,Nat.pow_add]at h1;have h2:3^K*3^r*C<=3^K*C*4^r:=by
  rw[Nat.mul_assoc,Nat.mul_comm (3^r),<- Nat.mul_assoc];exact Nat.mul_le_mul_left _ (Nat.pow_le_pow_left (by omega) r)
 exact hK (Nat.le_of_mul_le_mul_right (az h1 h2) (Nat.pow_pos (by omega)))
section
variable {N B S Z:Nat} {n:Nat} {f0 f t:FF} {s adds:Nat}
theorem RedI.s_le (k:A4 N B S Z) (h:RedI N B Z n f0 f t s adds):s<S:=by
 rcases Nat.lt_or_ge s S with hs|hs
 ·exact hs
 exfalso;have p1:=Eh h.dfn n (ac _);have h1:4^s<=3^s*B^N:=az (Nat.le_mul_of_pos_right _ p1) h.pot;exact L9 S k.pt s hs h1
theorem RedI.adds_le (k:A4 N B S Z) (h:RedI N B Z n f0 f t s adds) (hn:n<=N):adds<=28*S+28:=by
 have h1:=h.s_le k;have h2:=h.cnt;have h3:=pQ f n;have h4:=yA (az hn k.n8);omega
theorem RedI.szf (k:A4 N B S Z) (h:RedI N B Z n f0 f t s adds) (hn:n<=N) {a b:Nat} (ha:a<n) (hb:b<n):Sz (f a b) 400:=by
 have h1:=h.jn.ent h.dfn (az (by decide) k.b1) ha hb;exact Nat.lt_of_le_of_lt h1 (k.eNs n (by omega))
theorem RedI.szc (k:A4 N B S Z) (h:RedI N B Z n f0 f t s adds) (hn:n<=N) {i j:Nat} (hi:i<n) (hj:j<i):Sz (cF f i j) Z:=by
 rw[Hq h.dfn (by omega)];have h1:=Cy (l:=bk f j i j) (h.dfn.pos j (by omega));have h2:=h.jn.lam h.dfn (az (by decide) k.b1) i j hi hj;have h3:=k.lMs n (by omega);unfold Sz;rw[Int.natAbs_neg];generalize 4294967296^Z=p at*
 omega
theorem Gg {c:Ch} (h:scanF f n=some c):rankF f n=Aq c:=by unfold rankF;rw[h]
theorem RedI.add (k:A4 N B S Z) (h:RedI N B Z n f0 f t s adds) (hn:n<=N) {i j:Nat} (hc:scanF f n=some (.add i j)):RedI N B Z n f0 (fd f i j (cF f i j)) (gX n t (Hf i j (cF f i j))) s (adds+1)/\rankF f n<rankF (fd f i j (cF f i j)) n:=by
 obtain⟨hF,hi⟩:=ip hc;have hi:i<n:=hi;obtain⟨hji,hns,hs,hr⟩:=id hF;have hrk:rankF f n<rankF (fd f i j (cF f i j)) n:=by
  rw[Gg hc];exact Mi hji hi (fun i' hi'=>wQ h.dfn _ hji hi hi' (hr i' hi')) (fun j' h1 h2=>yq h.dfn hji hi h1 h2 (fun h3=>hs j' h3 h2))
 obtain⟨g1,_⟩:=jm h.dfn.sym h.dfn.ne (cF f i j) hji hi;have hcn:=h.cnt;refine⟨⟨h.dfn.add _ hji hi,NU h.dfn (az (by decide) k.b1) h.jn hF hi,by rw[g1 n (ac _)];exact h.det,by rw[qU n (fun t ht=>g1 (t+1) (by omega))];exact h.pot,by omega,fun a b ha hb=>?_⟩,hrk⟩;rw[Cj (by omega) (by omega) t a b hb];have z1:=h.szt a b ha hb;split
 ·have z2:=(h.szc k hn hi hji).mul (h.szt a j ha (by omega));exact(Sz.add (z1.mono (l:=Z+(1+(Z+4)*adds)) (by omega)) z2).mono (by rw[Nat.mul_add];omega)
 rw[Int.add_zero];exact z1.mono (by rw[Nat.mul_add];omega)
theorem RedI.swap (k:A4 N B S Z) (h:RedI N B Z n f0 f t s adds) (hn:n<=N) {m:Nat} (hc:scanF f n=some (.swp m)):RedI N B Z n f0 (jg f m) (gX n t (GP m)) (s+1) adds:=by
 obtain⟨hF,hm⟩:=ip hc;have hm:m+1<n:=hm;obtain⟨hnl,_,_⟩:=id hF;obtain⟨g1,_⟩:=mZ h.dfn.sym h.dfn.pos hm;have hcn:=h.cnt;have h3:=pQ f n;have h4:=yA (az hn k.n8);refine⟨h.dfn.swap hm hnl,K0 h.dfn h.jn hF hm,by rw[g1 n (ac _) (by omega)];exact h.det,?_,by omega,fun a b ha hb=>?_⟩
 ·have p:=An h.dfn hm hnl n (by omega) (ac _);have q:=Nat.mul_le_mul_left (4^s) p;have e1:4^(s+1)*prD (jg f m) n=4^s*(4*prD (jg f m) n):=by rw[Nat.pow_succ,Nat.mul_assoc]
  have e2:4^s*(3*prD f n)=3*(4^s*prD f n):=Nat.mul_left_comm _ _ _;have e3:3^(s+1)*B^N=3*(3^s*B^N):=by rw[Nat.pow_succ,Nat.mul_comm (3^s) 3,Nat.mul_assoc]
  rw[e1,e3];rw[e2]at q;exact az q (Nat.mul_le_mul_left 3 h.pot)
 rw[Ck hm t a b hb];exact h.szt a _ ha (o6 hm hb)
def Nw (S n:Nat) (f:FF) (s:Nat):Nat:=(S-s)*30+(29-rankF f n)
theorem RedI.mu_add (k:A4 N B S Z) (h:RedI N B Z n f0 f t s adds) (hn:n<=N) {i j:Nat} (hc:scanF f n=some (.add i j)):Nw S n (fd f i j (cF f i j)) s<Nw S n f s:=by
 have h1:=(h.add k hn hc).2;have h2:=pQ (fd f i j (cF f i j)) n;have h3:=yA (az hn k.n8);unfold Nw;omega
theorem RedI.mu_swap (k:A4 N B S Z) (h:RedI N B Z n f0 f t s adds) (hn:n<=N) {m:Nat} (hc:scanF f n=some (.swp m)):Nw S n (jg f m) (s+1)<Nw S n f s:=by
 have h1:=(h.swap k hn hc).s_le k;have h2:=pQ f n;have h3:=yA (az hn k.n8);unfold Nw;omega
theorem oW (k:A4 N B S Z) (hn:n<=N): ∀m f t s adds,Nw S n f s<=m->RedI N B Z n f0 f t s adds-> ∃h T,Rch n f t h T
 |0,f,t,s,adds,hk,h=>by
  cases hc:scanF f n with
  |none=>exact⟨f,t,.done f t hc⟩
  |some c=>
   cases c with
   |add i j=>have:=h.mu_add k hn hc;omega
   |swp m=>have:=h.mu_swap k hn hc;omega
 |m+1,f,t,s,adds,hk,h=>by
  cases hc:scanF f n with
  |none=>exact⟨f,t,.done f t hc⟩
  |some c=>
   cases c with
   |add i j=>
    have:=h.mu_add k hn hc;obtain⟨g,T,hr⟩:=oW k hn m _ _ _ _ (by omega) (h.add k hn hc).1;exact⟨g,T,.step f t g T _ hc hr⟩
   |swp q=>
    have:=h.mu_swap k hn hc;obtain⟨g,T,hr⟩:=oW k hn m _ _ _ _ (by omega) (h.swap k hn hc);exact⟨g,T,.step f t g T _ hc hr⟩
theorem RedI.red (h:RedI N B Z n f0 f t s adds) (hn1:1<=n) (hd:dk f0 n<=10000) (hc:scanF f n=none):RedR f n:=by
 refine(sj hn1).1 ⟨h.dfn.sym,fun k hk=>?_,?_,CH hc⟩
 ·rw[ny h.dfn.pos k hk];exact h.dfn.pos k hk
 have:=ny h.dfn.pos (n-1) (by omega);rw[show n-1+1=n by omega]at this;rw[this,h.det];exact hd
theorem RedI.start_ (k:A4 N B S Z) (hn:n<=N) (hs:SymF f n) (hp:xd f n) (hdb: ∀k,k<=n->(dk f k).natAbs<=B) (hb: ∀a,a<n->(f a a).natAbs<=B) (ht: ∀a b,a<n->b<n->Sz (t a b) 1):RedI N B Z n f f t 0 0:=by
 have hpos: ∀k,k<n->0<dk f (k+1):=fun k hk=>(uy hp k hk).1
 have hdef:Def f n B:=⟨hs,hpos,hdb⟩;have b1:=k.b1;refine⟨hdef,.inl fun a ha=>az (hb a ha) ?_,rfl,?_,by omega,fun a b ha hb=>(ht a b ha hb).mono (by omega)⟩
 ·unfold cN;exact az (Nat.le_add_right B (B*B)) (Nat.le_mul_of_pos_right _ (Nat.pow_pos (by omega)))
 simp only[Nat.pow_zero,Nat.one_mul];exact az (Jq hdef n (ac _)) (Nat.pow_le_pow_right (by omega) hn)
theorem RedI.start (hn1:1<=n) (hn:n<=8) (hs:SymF f n) (hp:xd f n) (hb: ∀a b,(f a b).natAbs<=9) (ht: ∀a b,a<n->b<n->Sz (t a b) 1):RedI 8 bB 41 n f f t 0 0:=
 RedI.start_ QC hn hs hp (fun k hk=>PL hb (by omega)) (fun a _=>az (hb a a) (by decide)) ht
end
end
theorem zE {w w':World} (h:Ext w w'):Keep (fun _=>False) w w':=⟨h.os,h.tape,h.output,h.size,fun k hk _=>h.block k hk⟩
theorem zM {w w':World} (h:Keep (fun _=>False) w w'):Ext w w':=⟨h.os,h.tape,h.output,h.size,fun k hk=>h.block k hk (fun h=>h)⟩
theorem DU {w w':World} {X:Nat->Prop} (h:Ext w w') (hX: ∀b,X b->b<w.heap.size):Inv w (fun _=>False) X (famH 0 []) (fun _ _=>none) w':=by
 have e: ∀a,famH 0 [] a=[]:=fun a=>by unfold famH;split<;>rfl
 refine⟨zE h,fun a r o ho=>?_,fun a r a' r' o o' b c c' ho=>?_,fun a r o b c ho=>?_,fun b hb=>Nat.lt_of_lt_of_le (hX b hb) h.size,fun a r o ho=>?_⟩<;>(rw[e]at ho;simp at ho)
theorem ii {P:Program} {f:FuncId} {args:List TV} {r:TV} (hc:callable P f=true) (h: ∀(X:Nat->Prop) (w:World) (vs:Array Value),(∀b,X b->b<w.heap.size)->vs.size=args.length->
  (∀(j:Nat) t,args[j]?=some t-> ∃v:Value,vs[j]?=some v/\t.rel (fun _ _=>none) (fun _=>[]) X w v)->Calls P f vs w fun e w'=> ∃v,e= .returned v/\(∀ρ H Y,r.rel ρ H Y w' v)/\Ext w w'):CallC P f args ⟨[],r⟩:=
 ⟨hc,fun X w vs hX hvs ha=>(h X w vs hX hvs ha).mono fun e w' ⟨v,h1,h2,h3⟩=>⟨v,h1,fun _ _=>none,DU h3 hX,h2 _ _ _⟩⟩
theorem CallC.calls {P:Program} {f:FuncId} {args:List TV} {r:TV} (h:CallC P f args ⟨[],r⟩) {w:World} {vs:Array Value} (hvs:vs.size=args.length)
  (ha: ∀(j:Nat) t,args[j]?=some t-> ∃v:Value,vs[j]?=some v/\t.rel (fun _ _=>none) (fun _=>[]) (fun _=>False) w v):Calls P f vs w fun e w'=> ∃v,e= .returned v/\(∃ρ H X,r.rel ρ H X w' v)/\Ext w w':=
 (h.2 (fun _=>False) w vs (fun b h=>h.elim) hvs ha).mono fun e w' ⟨v,h1,ρ,h2,h3⟩=>⟨v,h1,⟨_,_,_,h3⟩,zM h2.keep⟩
theorem sk {ρ:Rho} {H:OH} {X:Nat->Prop} {w:World} (v:Int) (b:Bool):(Gs v b).rel ρ H X w (.tuple #[.int .i64 v,.bool b]):=by
 refine⟨#[.int .i64 v,.bool b],rfl,rfl,fun j c cs hj=>?_⟩
 match j,hj with
 |0,hj=>
  simp at hj;obtain⟨rfl,rfl⟩:=hj;exact⟨_,rfl,.inr ⟨rfl,_,rfl,cu.raw _ rfl⟩⟩
 |1,hj=>
  simp at hj;obtain⟨rfl,rfl⟩:=hj;exact⟨_,rfl,.inr ⟨rfl,_,rfl,cu.raw _ rfl⟩⟩
 |j+2,hj=>simp at hj
theorem uG {ρ:Rho} {H:OH} {X:Nat->Prop} {w:World} (b:Bool):(TV.raw (.bool b)).rel ρ H X w (.bool b):=cu.raw _ rfl
theorem lT {X:Nat->Prop} {w:World} {u v:Value} (h:cu X w (.raw u) v):v=u:=by cases h;rfl
theorem jW {X:Nat->Prop} {w:World} {l:List Int} {v:Value} (h:cu X w (.sl (ls fI l)) v): ∃A c,v= .slice A l.length c/\l.length<=c/\l.length<=9223372036854775807/\RdI .i64 w A l:=by
 generalize hx:PV.sl (ls fI l)=x at h;cases h with
 |raw v h=>cases hx
 |ptr b off cs f hX hb hc hr=>cases hx
 |nil a c=>
  injection hx with hx
  have hl:l=[]:=by simpa[ls] using hx
  subst hl;exact⟨a,c,rfl,Nat.zero_le _,by simp,RdI.nil _ _ _⟩
 |sl b off es cap xs f hX hb hes hcap hm hc hr=>
  injection hx with hx
  subst hx;rw[dW]at hcap hm;refine⟨some ⟨b,off,none⟩,cap,by rw[dW],hcap,hm,fun hne=>⟨b,off,rfl,fun i x hx=>?_⟩⟩;rw[ay]at hx;obtain⟨z,hz,rfl⟩:=Option.map_eq_some_iff.1 hx;have h1:(ls fI l)[i]?=some (fI z):=by rw[fv,hz];rfl
  have he:es=1:=by rw[<- hes _ (au h1)];rfl
  subst he;have h2:=hc i _ 0 _ h1 rfl;have h3:=lT (hr i _ 0 _ h1 rfl);rw[h3,Nat.mul_one,an]at h2;exact h2
theorem nX {X:Nat->Prop} {w:World} {M:List (List Int)} {v:Value} (h:cu X w (.sl (ls (fR fI) M)) v): ∃A c,v= .slice A M.length c/\M.length<=c/\M.length<=9223372036854775807/\qv .i64 w A M:=by
 generalize hx:PV.sl (ls (fR fI) M)=x at h;cases h with
 |raw v h=>cases hx
 |ptr b off cs f hX hb hc hr=>cases hx
 |nil a c=>
  injection hx with hx
  have hl:M=[]:=by simpa[ls] using hx
  subst hl;exact⟨a,c,rfl,Nat.zero_le _,by simp,qv.nil _ _ _⟩
 |sl b off es cap xs f hX hb hes hcap hm hc hr=>
  injection hx with hx
  subst hx;rw[dW]at hcap hm;refine⟨some ⟨b,off,none⟩,cap,by rw[dW],hcap,hm,fun hne=>⟨b,off,rfl,fun i r hi=>?_⟩⟩;have h1:(ls (fR fI) M)[i]?=some (fR fI r):=by rw[fv,hi];rfl
  have he:es=1:=by rw[<- hes _ (au h1)];rfl
  subst he;have h2:=hc i _ 0 _ h1 rfl;have h3:=jW (hr i _ 0 _ h1 rfl);rw[Nat.mul_one,an]at h2;exact⟨_,h2,h3⟩
theorem Mn {w:World} {l:List Int} {A:Option Addr} {c:Nat} (hl:l.length<=c) (hm:l.length<=9223372036854775807) (h:RdI .i64 w A l):cu (fun _=>False) w (.sl (ls fI l)) (.slice A l.length c):=by
 cases l with
 |nil=>exact cu.nil _ _
 |cons z0 l0=>
  obtain⟨b,off,rfl,hc⟩:=h (by simp);have h0:=hc 0 (.int .i64 z0) (by simp);have hb:b<w.heap.size:=jL h0;have:=cu.sl (X:=fun _=>False) (w:=w) b off 1 c (ls fI (z0::l0)) (fun i _=> .int .i64 ((z0::l0).getD i 0)) (fun h=>h) hb (fun e he=>by
   obtain⟨z,_,rfl⟩:=List.mem_map.1 he;rfl) (by rw[dW];exact hl) (by rw[dW];exact hm) (fun i e j x he hx=>by
   rw[fv]at he;obtain⟨z,hz,rfl⟩:=Option.map_eq_some_iff.1 he;cases j with
   |succ j=>simp[fI]at hx
   |zero=>
    have:=hc i (.int .i64 z) (by rw[ay,hz];rfl);simp only[Nat.mul_one,an,List.getD_eq_getElem?_getD,hz,Option.getD_some];exact this) (fun i e j x he hx=>by
   rw[fv]at he;obtain⟨z,hz,rfl⟩:=Option.map_eq_some_iff.1 he;cases j with
   |succ j=>simp[fI]at hx
   |zero=>
    simp[fI]at hx;subst hx;simp only[List.getD_eq_getElem?_getD,hz,Option.getD_some];exact cu.raw _ rfl)
  rw[dW]at this;exact this
theorem ye {w:World} {M:List (List Int)} {A:Option Addr} {c:Nat} (hl:M.length<=c) (hm:M.length<=9223372036854775807) (h:qv .i64 w A M):cu (fun _=>False) w (.sl (ls (fR fI) M)) (.slice A M.length c):=by
 cases M with
 |nil=>exact cu.nil _ _
 |cons r0 M0=>
  obtain⟨b,off,rfl,hc⟩:=h (by simp);obtain⟨v0,h0,_⟩:=hc 0 r0 rfl;have hb:b<w.heap.size:=jL h0;have:=cu.sl (X:=fun _=>False) (w:=w) b off 1 c (ls (fR fI) (r0::M0)) (fun i _=>(w.cell? ⟨b,off+i,none⟩).getD undef) (fun h=>h) hb (fun e he=>by
   obtain⟨z,_,rfl⟩:=List.mem_map.1 he;rfl) (by rw[dW];exact hl) (by rw[dW];exact hm) (fun i e j x he hx=>by
   rw[fv]at he;obtain⟨r,hr,rfl⟩:=Option.map_eq_some_iff.1 he;cases j with
   |succ j=>simp[fR]at hx
   |zero=>
    obtain⟨v,h1,h2⟩:=hc i r hr;simp only[Nat.mul_one,an,h1,Option.getD_some]) (fun i e j x he hx=>by
   rw[fv]at he;obtain⟨r,hr,rfl⟩:=Option.map_eq_some_iff.1 he;cases j with
   |succ j=>simp[fR]at hx
   |zero=>
    simp[fR]at hx;subst hx;obtain⟨v,h1,B,c',rfl,h3,h4,h5⟩:=hc i r hr;simp only[h1,Option.getD_some];exact Mn h3 h4 h5)
  rw[dW]at this;exact this
/-! The program's functions. -/
theorem mv {args:List TV} {vs:Array Value} {X:Nat->Prop} {w:World} (h: ∀(j:Nat) t,args[j]?=some t-> ∃v:Value,vs[j]?=some v/\t.rel (fun _ _=>none) (fun _=>[]) X w v) {j:Nat} {x:PV} (hj:args[j]?=some (.one (.p x))): ∃v:Value,vs[j]?=some v/\cu X w x v:=h j _ hj
theorem Jk (M:List (List Int)) (x y:List Int):CallC Tryz.prog 47 [bi M,iU x,iU y] ⟨[],Fu M x y⟩:=by
 refine ii (by kernel_rfl) fun X w vs hX hvs ha=>?_
 obtain⟨v0,e0,r0⟩:=mv ha (j:=0) rfl;obtain⟨v1,e1,r1⟩:=mv ha (j:=1) rfl;obtain⟨v2,e2,r2⟩:=mv ha (j:=2) rfl;obtain⟨A,c,rfl,hc,hl,hR⟩:=nX r0;obtain⟨B,d,rfl,hd,hlx,hx⟩:=jW r1;obtain⟨C,d',rfl,hd',hly,hy⟩:=jW r2;obtain rfl:vs= #[.slice A M.length c,.slice B x.length d,.slice C y.length d']:=by
  apply Array.ext_getElem?;intro j
  match j with
  |0=>exact e0
  |1=>exact e1
  |2=>exact e2
  |j+3=>rw[Array.getElem?_eq_none (by simp at hvs;omega)];rfl
 obtain⟨v,b,g1,g2⟩:=tS M x y;refine(ws A B C c d d' M x y w hR hx hy hl hc hlx hly).mono fun e w' ⟨h1,h2⟩=>?_
 rw[g2]at h1;rw[g1];exact⟨_,h1,fun _ _ _=>sk v b,h2⟩
theorem Eg (M:List (List Int)) (x:List Int):CallC Tryz.prog 93 [bi M,iU x] ⟨[],Fu M x x⟩:=by
 refine ii (by kernel_rfl) fun X w vs hX hvs ha=>?_
 obtain⟨v0,e0,r0⟩:=mv ha (j:=0) rfl;obtain⟨v1,e1,r1⟩:=mv ha (j:=1) rfl;obtain⟨A,c,rfl,hc,hl,hR⟩:=nX r0;obtain⟨B,d,rfl,hd,hlx,hx⟩:=jW r1;obtain rfl:vs= #[.slice A M.length c,.slice B x.length d]:=by
  apply Array.ext_getElem?;intro j
  match j with
  |0=>exact e0
  |1=>exact e1
  |j+2=>rw[Array.getElem?_eq_none (by simp at hvs;omega)];rfl
 obtain⟨v,b,g1,g2⟩:=tS M x x;refine(IZ A B c d M x w hR hx hl hc hlx).mono fun e w' ⟨h1,h2⟩=>?_
 rw[g2]at h1;rw[g1];exact⟨_,h1,fun _ _ _=>sk v b,h2⟩
def AP (v:Value) (a:Nat) (g:Nat->Value):Nat->Value:=fun j=>if j=0 then v else if j=1 then .int .i64 (a:Int)else g j
theorem FS (tx n:Nat) (A:Option Addr) (c:Nat) (l:List Int) (a:Nat) (g:Nat->Value) (w:World) (hn:2<=n) (hl:RdI .i8 w A l) (hb: ∀z∈l,-128<=z/\z<=127) (ll:l.length<=9223372036854775807) (ha:a<=l.length) (hT:w.rowIs tx 95 n (AP (.slice A l.length c) a g)) (hne:l≠[]-> ∀p,A=some p->p.block≠tx):
  Calls Tryz.prog 68 #[.pointer (some ⟨tx,0,none⟩)] w fun e w'=>e= .returned (.int .i64 (l.getD a 0))/\w'.rowIs tx 95 n (AP (.slice A l.length c) (gE l a) g)/\w.grownBy w' (some tx):=by
 have HT:=Lib.hid hT;have HL:=Lib.hid hl;have HB:=Lib.hid hb;have HN:=Lib.hid hne;clear hT hl hb hne;have t0:w.cell? ⟨tx,0,none⟩=some (.slice A l.length c):=HT.out.cell (by omega);have t1:w.cell? ⟨tx,1,none⟩=some (.int .i64 (a:Int)):=HT.out.cell (by omega);have t2:w.frozen? ⟨tx,1,none⟩=false:=HT.out.frozen 1;by_cases hlt:a<l.length
 ·obtain⟨z,hz⟩:=getElem?_of_lt hlt;obtain⟨b,off,rfl,hc⟩:=HL.out.at_ hz;have hbt:b≠tx:=HN.out (by rintro rfl;simp at hlt) _ rfl;have hzb:=HB.out z (au hz);have hz1:=hzb.1;have hz2:=hzb.2;have HZ:Hid (l.getD a 0=z):=Lib.hid (by rw[List.getD_eq_getElem?_getD,hz];rfl);have HNx:Hid (gE l a=a+1):=Lib.hid (if_pos hlt);clear hz hzb
  go_enter Tryz.func68,Tryz.ntmps68
  go_wp2_with fail
  go_quiet (fail)
  go_wp2_with fail
  have hrow:=((mR HT.out nq).set 1 (.int .i64 ((a:Int)+1))).congr (g:=AP (.slice (some ⟨b,off,none⟩) l.length c) (a+1) g) (fun j hj=>by
   match j,hj with
   |0,_=>rfl
   |1,_=>simp[AP]
   |j+2,_=>simp[AP])
  have HROW:=Lib.hid hrow;have HG:=Lib.hid (Oq (qH ((Ext.refl w).drewN nq) tx) 1 (.int .i64 ((a:Int)+1)));have s0:((w.drewN nq).setCell ⟨tx,1,none⟩ (.int .i64 ((a:Int)+1))).cell? ⟨tx,0,none⟩=some (.slice (some ⟨b,off,none⟩) l.length c):=HROW.out.cell (i:=0) (by omega);have s1:((w.drewN nq).setCell ⟨tx,1,none⟩ (.int .i64 ((a:Int)+1))).cell? ⟨tx,1,none⟩=some (.int .i64 ((a:Int)+1)):=by
   have:=HROW.out.cell (i:=1) (by omega);rw[this];simp[AP]
  have s2:((w.drewN nq).setCell ⟨tx,1,none⟩ (.int .i64 ((a:Int)+1))).cell? ⟨b,off+a,none⟩=some (.int .i8 z):=DN HG.out hc hbt;have a1:IntKind.i64.wrap ((a:Int)+1-1)=(a:Int):=by rw[Int.add_sub_cancel];exact IntWalk.i64_in _ (by omega)
  have a2:(a:Int)<(l.length:Int):=by omega
  clear t0 t1 t2 hc hrow;generalize(w.drewN nq).setCell ⟨tx,1,none⟩ (.int .i64 ((a:Int)+1))=w3 at*
  go_quiet (fail)
  go_wp2_with fail
  go_ret
  rw[HZ.out,HNx.out];exact⟨rfl,mR HROW.out _,zG HG.out (qH ((Ext.refl _).drewN _) tx)⟩
 go_enter Tryz.func68,Tryz.ntmps68
 have HZ:Hid (l.getD a 0=0):=Lib.hid (by rw[List.getD_eq_getElem?_getD,aq (by omega)];rfl);have HNx:Hid (gE l a=a):=Lib.hid (if_neg hlt)
 go_wp2_with fail
 go_quiet (fail)
 go_wp2_with fail
 go_ret
 rw[HZ.out,HNx.out];exact⟨rfl,mR HT.out _,qH ((Ext.refl _).drewN _) tx⟩
def f8 (z:Int):List PV:=[.raw (.int .i8 z)]
abbrev Gp (L:List Int) (a:Nat):List PV:=[.sl (ls f8 L),.raw (.int .i64 (a:Int))]
abbrev dF (b:Nat):TV:= .raw (.pointer (some ⟨b,0,none⟩))
def I8 (L:List Int):Prop:= ∀z∈L,-128<=z/\z<=127
theorem I8.getD {L:List Int} (h:I8 L) (a:Nat): -128<=L.getD a 0/\L.getD a 0<=127:=by
 rw[List.getD_eq_getElem?_getD];cases hx:L[a]? with
 |none=>simp
 |some z=>exact h z (au hx)
theorem Mp {X:Nat->Prop} {w:World} {l:List Int} {v:Value} (h:cu X w (.sl (ls f8 l)) v): ∃A c,v= .slice A l.length c/\l.length<=9223372036854775807/\RdI .i8 w A l/\(l≠[]-> ∀p,A=some p-> ¬X p.block):=by
 generalize hx:PV.sl (ls f8 l)=x at h;cases h with
 |raw v h=>cases hx
 |ptr b off cs f hX hb hc hr=>cases hx
 |nil a c=>
  injection hx with hx
  have hl:l=[]:=by simpa[ls] using hx
  subst hl;exact⟨a,c,rfl,by simp,RdI.nil _ _ _,fun h=>absurd rfl h⟩
 |sl b off es cap xs f hX hb hes hcap hm hc hr=>
  injection hx with hx
  subst hx;rw[dW]at hcap hm;refine⟨some ⟨b,off,none⟩,cap,by rw[dW],hm,fun hne=>⟨b,off,rfl,fun i x hx=>?_⟩,fun _ p hp=>by injection hp with hp;subst hp;exact hX⟩;rw[ay]at hx;obtain⟨z,hz,rfl⟩:=Option.map_eq_some_iff.1 hx;have h1:(ls f8 l)[i]?=some (f8 z):=by rw[fv,hz];rfl
  have he:es=1:=by rw[<- hes _ (au h1)];rfl
  subst he;have h2:=hc i _ 0 _ h1 rfl;have h3:=lT (hr i _ 0 _ h1 rfl);rw[h3,Nat.mul_one,an]at h2;exact h2
theorem GX (b:Nat) (L:List Int) (a:Nat) (hL:I8 L) (ha:a<=L.length):CallT Tryz.prog b 95 68 [dF b] (Gp L a) ⟨[],.raw (.int .i64 (L.getD a 0))⟩ (Gp L (gE L a)):=by
 refine⟨by kernel_rfl,fun X w vs hX hXb hbox hvs hargs=>?_⟩;obtain⟨cells,c,h1,h2,h3,h4,h5,h6⟩:=hbox;obtain⟨v0,e0,r0⟩:=hargs 0 _ rfl;have hv0:v0= .pointer (some ⟨b,0,none⟩):=lT r0;subst hv0;obtain rfl:vs= #[.pointer (some ⟨b,0,none⟩)]:=by
  apply Array.ext_getElem?;intro j
  match j with
  |0=>exact e0
  |j+1=>rw[Array.getElem?_eq_none (by simp at hvs;omega)];rfl
 obtain⟨v,c0,_,r1⟩:=h6 0 _ rfl;obtain⟨u,c1,_,r2⟩:=h6 1 _ rfl;have hu:=lT r2;subst hu;obtain⟨A,cap,rfl,hl,hrd,hb⟩:=Mp r1;have hsz:cells.size=c*2:=h2;have hrow:w.rowIs b 95 (c*2) (AP (.slice A L.length cap) a fun j=>(cells[j]?).getD undef):=by
  refine⟨cells,h1,hsz,fun i hi=>?_⟩
  match i with
  |0=>exact c0
  |1=>exact c1
  |i+2=>simp[AP,hsz,hi]
 have hblk:L≠[]-> ∀p,A=some p->p.block≠b:=fun hne p hp he=>hb hne p hp (by rw[he];exact hXb)
 refine(FS b (c*2) A cap L a _ w (by omega) hrd hL hl ha hrow hblk).mono fun e w' ⟨q1,⟨cells',q2,q3,q4⟩,q5⟩=>?_
 have hbut: ∀k,k<w.heap.size->k≠b->w'.heap[k]?=w.heap[k]?:=fun k hk hne=>q5.block k hk (by simp;exact hne)
 have hXo: ∀j,Xo X (fun _ _=>none) (famH 0 []) j->X j:=fun j hj=>by
  rcases hj with hj|⟨_,_,_,_,_,g⟩
  ·exact hj
  cases g
 refine⟨_,q1,fun _ _=>none,?_,cu.raw _ rfl,cells',c,q2,q3,h3,h4,h5,fun j x hx=>?_⟩
 ·have e: ∀a,famH 0 [] a=[]:=fun a=>by unfold famH;split<;>rfl
  refine⟨⟨q5.os,q5.tape,q5.output,q5.size,fun k hk hn=>hbut k hk hn⟩,fun a r o ho=>?_,fun a r a' r' o o' b c c' ho=>?_,fun a r o b c ho=>?_,fun j hj=>Nat.lt_of_lt_of_le (hX j hj) q5.size,fun a r o ho=>?_⟩<;>(rw[e]at ho;simp at ho)
 match j,hx with
 |0,hx=>
  have hx:x= .sl (ls f8 L):=by simpa using hx.symm
  subst hx;refine⟨.slice A L.length cap,q4 0 (by omega),rfl,r1.later (fun j _ hj=>hXo j hj) q5.size fun p u hp hn hu=>?_⟩;rw[ns (hbut p.block hp (fun he=>hn (by rw[he];exact hXb)))];exact hu
 |1,hx=>
  have hx:x= .raw (.int .i64 (gE L a:Nat)):=by simpa using hx.symm
  subst hx;exact⟨_,q4 1 (by omega),rfl,cu.raw _ rfl⟩
 |j+2,hx=>simp at hx
def mg (L:List Int) (a n:Nat):Nat:=((L.getD a 0)%256).toNat%n
theorem li {n:Nat} (L:List Int) (a:Nat) (h:0<n):mg L a n<n:=Nat.mod_lt _ h
theorem EZ (L:List Int) (a n:Nat):Int.tmod (L.getD a 0%256) (n:Int)=(mg L a n:Int):=by
 have h:L.getD a 0%256=((L.getD a 0%256).toNat:Int):=by omega
 unfold mg;rw[Int.ofNat_tmod,<- h]
theorem Ph (x:Int):IntKind.u8.wrap x=x%256:=by rw[IntKind.wrap_u8]
theorem nJ {L:List Int} {a:Nat} (h:a<=L.length):gE L a<=L.length:=by unfold gE;split<;>omega
theorem xb (b:Nat) (L:List Int) (a n:Nat) (hL:I8 L) (ha:a<=L.length) (hn1:0<n) (hn:n<=100):CallT Tryz.prog b 95 67 [dF b,.raw (.int .i64 (n:Int))] (Gp L a) ⟨[],.raw (.int .i64 (mg L a n:Int))⟩ (Gp L (gE L a)):=by
 have c1:=GX b L a hL ha;have e1:=EZ L a n;have e2:=Ph (L.getD a 0);refine my Tryz.func67 rfl (by kernel_rfl) ?_;rw[Tryz.ntmps67];refine be fun _ K=>?_;simp only[kd,dF,aa,ae];apply K
 refine qx 1 c1 [] [] (by kernel_rfl) (by rfl) (by rfl) fun _ K=>?_;simp(disch:=omega) only[kd,List.map,dF,aa,e2,aP,e1];apply K
 (refine np ⟨.inr rfl,rfl,aH rfl ?_ rfl⟩;simp(disch:=omega) only[kd,Tryz.results67])
section
def jf (r:List Int):OObj:=⟨2,1,lc fI r⟩
abbrev kI (d n c i:Nat) (f:FF):List OObj:=⟨27,1,gm d (ae i c)++ae (n-i) oV⟩::(bu i c f).map jf
abbrev de (d n c:Nat) (f:FF):List OObj:=⟨27,1,gm d (ae n c)⟩::(bu n c f).map jf
theorem mG (d n c:Nat) (f:FF):kI d n c n f=de d n c f:=by simp[kI,de]
theorem jt {i n:Nat} (d c:Nat) (h:i<=n):(gm d (ae i c)++ae (n-i) oV).length=n:=by simp[ch];omega
theorem qK {i k n:Nat} (d c:Nat) (h:k<i):(gm d (ae i c)++ae (n-i) oV)[k]?=some [.sl d (k+1) 0 c]:=by
 rw[List.getElem?_append_left (by simp[ch];exact h),bO d c h]
theorem qL {i n:Nat} (d c:Nat) (h:i<n):(gm d (ae i c)++ae (n-i) oV)[i]?=some oV:=by
 rw[List.getElem?_append_right (by simp[ch]),ch,ax,Nat.sub_self,List.getElem?_replicate,if_pos (by omega)]
theorem cL {n i:Nat} (c:Nat) (f:FF) (h:i<n):((bu n c f).map jf)[i]?=some ⟨2,1,lc fI (bG c (f i))⟩:=by
 rw[ay,bD _ _ h];rfl
theorem fj {n i j:Nat} (c:Nat) (f:FF) (v:Int):((bu n c f).map jf).set i ⟨2,1,(lc fI (bG c (f i))).set j [.p (.raw (.int .i64 v))]⟩=(bu n c (upd f i j v)).map jf:=by
 have e:(⟨2,1,(lc fI (bG c (f i))).set j [.p (.raw (.int .i64 v))]⟩:OObj)=jf (bG c fun b=>if b=j then v else f i b):=by
  rw[<- pY,jf,<- xQ];rfl
 rw[e,<- List.map_set,xU];rfl
theorem cw {n c:Nat} {f g:FF} (h: ∀i j,i<n->j<c->f i j=g i j):(bu n c f).map jf=(bu n c g).map jf:=by rw[fp h]
theorem nB {i n c:Nat} (d:Nat) (f:FF) (hi:i<n) (h0: ∀j,j<c->f i j=0):
  (⟨27,1,(gm d (ae i c)++ae (n-i) oV).set i [.sl d (i+1) 0 c]⟩::((bu i c f).map jf++[⟨2,1,ae c [.raw (.int .i64 0)]⟩]):List OObj)=kI d n c (i+1) f:=by
 have e1:(gm d (ae i c)++ae (n-i) oV).set i [.sl d (i+1) 0 c]=gm d (ae (i+1) c)++ae (n-(i+1)) oV:=by
  rw[List.set_append_right _ _ (by simp[ch]),ch,ax,Nat.sub_self,List.replicate_succ' (n:=i),mX,ax,List.append_assoc]
  congr 1
  rw[show n-i=n-(i+1)+1 by omega,List.replicate_succ];rfl
 have e2:(⟨2,1,ae c [.raw (.int .i64 0)]⟩:OObj)=jf (bG c (f i)):=by
  rw[jf]
  congr 1
  apply List.ext_getElem?;intro j;rw[List.getElem?_replicate,Ca];by_cases hj:j<c
  ·rw[if_pos hj,aU _ hj,h0 j hj];rfl
  rw[if_neg hj,aq (by rw[bz];omega)];rfl
 rw[e1,e2,kI,uc,List.map_append];rfl
theorem cx (d e n c:Nat) (f:FF):(de d n c f).map (renO e)=de e n c f:=by
 simp only[de,List.map_cons,List.map_map]
 congr 1
 ·simp[renO,Er]
 exact List.map_congr_left fun r _=>by simp[renO,jf,xP]
theorem dj {H:OH} {d n c:Nat} {f:FF} (h:H d=de d n c f):vw H d:=fun r o ho e he x hx=>by
 rw[h]at ho;cases r with
 |succ r=>
  rw[List.getElem?_cons_succ,ay]at ho;obtain⟨l,hl,rfl⟩:=Option.map_eq_some_iff.1 ho;exact .inl (eA _ _ l e he x hx)
 |zero=>
  simp at ho;subst ho;simp only at he;obtain⟨k,hk⟩:=List.mem_iff_getElem?.1 he;have hkn:k<n:=by
   have:=(List.getElem?_eq_some_iff.1 hk).1;rwa[ch,ax]at this
  rw[bO d c hkn]at hk;injection hk with hk
  subst hk;simp at hx;subst hx;refine .inr ⟨k+1,0,c,jf (bG c (f k)),rfl,?_,eA _ _ _⟩;rw[h,List.getElem?_cons_succ,ay,bD _ _ hkn];rfl
theorem ky {H:OH} {d n c:Nat} {f:FF} (h:H d=de d n c f):gW H d (.one (.sl d 0 0 n))=bi (bu n c f):=by
 have e:((gm d (ae n c)).map (List.map (jK H d)))=ls (fR fI) (bu n c f):=by
  apply List.ext_getElem?;intro i;rw[ay,fv];by_cases hi:i<n
  ·rw[bO d c hi,bD _ _ hi];simp only[Option.map_some,List.map_cons,List.map_nil,jK,h,List.getElem?_cons_succ,cL _ _ hi,fR,gu,xN,se];rw[List.drop_zero,List.take_of_length_le (by rw[bz];omega)]
  rw[aq (by rw[ch,ax];omega),aq (by rw[aV];omega)];rfl
 simp only[gW,fD,if_true,h,List.getElem?_cons_zero];rw[List.drop_zero,List.take_of_length_le (by rw[ch,ax];omega),e]
abbrev lE (k:Nat) (b:Bool):TV:= .tup [(false,[.sl 0 0 0 k]),(false,[.p (.raw (.bool b))])]
theorem CB {fn:Func} {d k c:Nat} {F:FF} {b:Bool} {s:AS} (hd:s.H d=de d k c F)
  (hres:rU Tryz.prog s fn.results.toList=some (.tup [(false,[.sl d 0 0 k]),(false,[.p (.raw (.bool b))])])) (h5:d<=4999):
  ∃s',ca s s'/\ol Tryz.prog fn ⟨de 0 k c F,lE k b⟩ s':=
 ⟨s,ca.refl s,_,d,hres,uU (by simp[iR,dX]) h5,by rw[hd,cx],rfl⟩
section
variable {P:Program} {fu:FuncId} {args:List TV} {n c:Nat} {g:FF}
theorem CallC.fzI (h:CallC P fu args ⟨de 0 n c g,.one (.sl 0 0 0 n)⟩):CallC P fu args ⟨[],bi (bu n c g)⟩:=
 h.weak ((bW 0 (dj (d:=0) (n:=n) (c:=c) (f:=g) rfl)).trans (aF (tm:=[bi (bu n c g)]) (l:=[(0,[])]) ⟨rfl,trivial⟩ (by
  simp[wk];exact(ky (H:=famH 0 (de 0 n c g)) (d:=0) (n:=n) (c:=c) (f:=g) rfl).symm)))
end
def ko (L:List Int) (a:Nat):Nat->Nat
 |0=>a
 |i+1=>gE L (ko L a i)
theorem qy {L:List Int} {a:Nat} (h:a<=L.length): ∀i,ko L a i<=L.length
 |0=>h
 |i+1=>nJ (qy h i)
def gC (L:List Int) (a most:Nat):Nat->Nat->Int:=fun i j=>if i=j then 1+(mg L (ko L a i) most:Int)else 0
def Fd (L:List Int) (a most i:Nat):Nat->Nat->Int:=fun x y=>if x<i then gC L a most x y else 0
theorem H5 (L:List Int) (a most i x y:Nat):upd (Fd L a most i) i i (1+(mg L (ko L a i) most:Int)) x y=Fd L a most (i+1) x y:=by
 unfold upd Fd gC;by_cases h1:x=i
 ·subst h1;by_cases h2:y=x
  ·subst h2;simp
  simp[h2,Ne.symm h2]
 have:x<i+1↔x<i:=by omega
 simp[h1,this]
theorem lB (b:Nat) (L:List Int) (a n most:Nat) (hL:I8 L) (ha:a<=L.length) (hn:n<=8) (hm1:0<most) (hmm:most<=100):
  CallT Tryz.prog b 95 85 [dF b,.raw (.int .i64 (n:Int)),.raw (.int .i64 (most:Int))] (Gp L a) ⟨de 0 n n (gC L a most),.one (.sl 0 0 0 n)⟩ (Gp L (ko L a n)):=by
 refine my Tryz.func85 rfl (by kernel_rfl) ?_;rw[Tryz.ntmps85];refine be fun _ K=>?_;simp only[kd,dF,aa,ae];apply K
 refine be fun _ K=>?_;simp(disch:=omega) only[kd,aa];apply K
 refine da (be fun _ K=>?_);simp only[kd,aa];apply K;refine mr (G:=jD n) (fun g=>⟨(dF b::rN n::rN most::j4 (.one (.sl 10 0 0 n)::j4 (.raw (.int .i64 (n:Int))::rN g.i::j16 (jk::jk::jk::[])))),Hm [(10,kI 10 n n g.i (Fd L a most g.i))]⟩) (fun g=>Gp L (ko L a g.i)) (fun g=>n-g.i) ⟨0,by omega⟩ ?_ rfl ?_
 ·refine aF ⟨?_,trivial⟩ ?_
  ·show[_]=_;simp[gm,bu]
  simp[wk]
 rintro⟨i,hi⟩;simp only;by_cases hm:i<n
 ·have c1:=xb b L (ko L a i) most hL (qy ha i) hm1 hmm;have hbl:=li (n:=most) L (ko L a i) hm1;have k1:=qL (i:=i) (n:=n) 10 n hm;have k2:=jt (i:=i) (n:=n) 10 n hi;have k3:=aV i n (Fd L a most i);have k4:=nB (i:=i) (n:=n) (c:=n) 10 (Fd L a most i) hm (fun j hj=>by unfold Fd;rw[if_neg (by omega)]);have k5:=qK (i:=i+1) (k:=i) (n:=n) 10 n (by omega);have k6:=jt (i:=i+1) (n:=n) 10 n (by omega);have k7:=cL (n:=i+1) n (Fd L a most i) (i:=i) (by omega);have k8:=aU (Fd L a most i i) hm;refine be fun _ K=>?_;simp(disch:=omega) only[kd,dF];apply K
  refine xg rfl ?_;refine da (dO ?_);refine be fun _ K=>?_;simp only[kd];apply K
  refine be fun _ K=>?_;simp(disch:=omega) only[kd,aa,Nat.reduceEqDiff,k1,Nat.reduceLeDiff,ax,List.all_replicate,k3,k4,af];apply K
  refine eZ.weak (aF (tm:=(dF b::rN n::rN most::j4 (.one (.sl 10 0 0 n)::rN i::jk::jk::jk::rN n::rN i::j16 (jk::jk::jk::[])))) (l:=[(10,kI 10 n n (i+1) (Fd L a most i))]) ⟨?_,trivial⟩ (by simp[wk])) ?_
  ·first|exact k4|rfl
  refine lf aZ 7 c1 [] [] (by kernel_rfl) (by kernel_rfl) (by rfl) (by rfl) fun _ K=>?_;simp(disch:=omega) only[kd,dF,aa,k5,aP,k7,k8,fj];apply K
  show eZ _ _ _ _ _ _ _;refine fo fun _ K=>?_;simp(disch:=omega) only[kd,aP];apply K
  refine⟨⟨i+1,by omega⟩,by simp only;omega,aF ⟨?_,trivial⟩ ?_,rfl⟩
  ·show _::_=_::_;rw[cw fun x y _ _=>H5 L a most i x y]
  simp[wk]
 have hin:i=n:=by omega
 subst hin;refine be fun _ K=>?_;simp(disch:=omega) only[kd,dF];apply K
 refine xf rfl ?_;show eZ _ _ _ _ _ _ _;have e:kI 10 i i i (Fd L a most i)=de 10 i i (gC L a most):=by
  rw[mG];show _::_=_::_;rw[cw fun x y hx _=>show Fd L a most i x y=gC L a most x y by unfold Fd;rw[if_pos hx]]
 rw[e];refine be fun _ K=>?_;simp only[kd];apply K
 refine np ⟨.inr rfl,rfl,_,ca.refl _,?_⟩;refine⟨.one (.sl 10 0 0 i),10,?_,rfl,?_,rfl⟩
 ·simp(disch:=omega) only[kd,Tryz.results85]
 exact(cx 10 0 _ _ _).symm
end
theorem MP (m:Nat):swp (m+1) m idF=GP m:=by
 funext a;unfold swp GP n7;by_cases h1:a=m+1
 ·subst h1;simp
 by_cases h2:a=m
 ·subst h2;simp
 simp[h1,h2]
def Pp (n:Nat) (f:FF):Option Ch->TV
 |none=> .tup [(false,[.p (.raw (.slice none 0 0))]),(false,[.p (.raw (.bool false))])]
 |some c=> .tup [(false,[.p (.sl (ls (fR fZ) (bu n n (Ns f c))))]),(false,[.p (.raw (.bool true))])]
structure Ri (n:Nat) (f:FF) where
 i:Nat
 hi:i<=n
 h:scanF f n=scanI f (n-i) i
structure Rj (i:Nat) (f:FF) where
 k:Nat
 hk:k<=i
 h:scanJ f i i=scanJ f i k
theorem O0 (n:Nat) (f:FF) (hn1:1<=n) (hn:n<=8) (hp: ∀k,k<n->0<dk f (k+1)) (hf: ∀i j,i<n->j<n->Sz (f i j) 1024):
  CallC Tryz.prog 64 [bE (bu n n f)] ⟨[],Pp n f (scanF f n)⟩:=by
 have hL:=qt n f hn1 (by omega) hf;have hI:=sK n hn1 (by omega);have hml:=aV n n f;refine aJ Tryz.func64 rfl (by kernel_rfl) ?_;rw[Tryz.ntmps64];refine aD fun _ K=>?_;simp only[kd,bE,ae];apply K
 refine aG [⟨1,_,_,_,hL⟩] [] fun _ K=>?_;simp only[kd,bE,PU,aa];apply K
 refine aG [⟨2,_,_,_,hI⟩] [] fun _ K=>?_;simp only[kd,aa,hml];apply K
 refine aE (aD fun _ K=>?_);simp only[kd,aa,hml];apply K;refine aT (G:=Ri n f) (fun g=>⟨(bE (bu n n f)::jk::jk::jk::kP (yL n f)::jk::.one (.sl 18 0 0 n)::j4 (j4 (j4 (jk::jk::jk::rN n::rN g.i::j16 (j16 (j16 (j4 (j4 (jk::jk::jk::[]))))))))),Hm [(18,gI 18 n n idF)]⟩) (fun g=>n-g.i) ⟨0,by omega,rfl⟩ ?_ ?_
 ·refine aF ⟨?_,trivial⟩ ?_
  ·exact gy 0 18 n n _
  simp[wk]
 rintro⟨i,hi,hsc⟩;simp only;by_cases hm:i<n
 ·have hsc2:scanI f (n-i) i=match scanJ f i i with
   |some j=>some (.add i j)
   |none=>if 0<i/\ ¬LovF f i then some (.swp (i-1))else scanI f (n-(i+1)) (i+1):=by
   rw[show n-i=n-(i+1)+1 by omega];rfl
  refine aD fun _ K=>?_;simp(disch:=omega) only[kd,bE,kP];apply K
  refine bC rfl ?_;refine aE (aK ?_);refine aD fun _ K=>?_;simp only[kd];apply K
  refine aE (aD fun _ K=>?_);simp(disch:=omega) only[kd,aa,aP];apply K;refine aT (G:=Rj i f) (fun g=>⟨(bE (bu n n f)::jk::jk::jk::kP (yL n f)::jk::.one (.sl 18 0 0 n)::jk::rN i::.raw (.int .i64 ((g.k:Int)-1))::j4 (j4 (j4 (.raw (.int .i64 (n:Int))::rN i::j16 (j16 (j16 (j4 (j4 (jk::jk::jk::[]))))))))),Hm [(18,gI 18 n n idF)]⟩) (fun g=>g.k) ⟨i,by omega,rfl⟩ ?_ ?_
  ·refine aF ⟨rfl,trivial⟩ ?_;simp[wk]
  rintro⟨k,hk,hsj⟩;simp only;cases k with
  |zero=>
   refine aE (aD fun _ K=>?_);simp(disch:=omega) only[kd,bE,kP];apply K;refine aO rfl (bK ?_);show bs _ _ _ _;have hsj0:scanJ f i i=none:=hsj;rw[hsj0]at hsc2;by_cases h0:0<i
   ·have c1:=yU n f i (by omega) hm h0 hf;by_cases hs:LovF f i
    ·rw[decide_eq_true (show 3*(dd f i*dd f i)<=4*(dd f (i-1)*dd f (i+1)+lam f i (i-1)*lam f i (i-1))from hs)]at c1;have hnx:scanF f n=scanI f (n-(i+1)) (i+1):=by rw[hsc,hsc2];exact if_neg (by simp[hs])
     refine aG [⟨6,_,_,_,c1⟩] [] fun _ K=>?_;simp(disch:=omega) only[kd,bE,kP,aa];apply K
     refine aO rfl (aL ?_);show bs _ _ _ _;refine aM fun _ K=>?_;simp(disch:=omega) only[kd,aP];apply K
     refine⟨⟨i+1,by omega,hnx⟩,by simp only;omega,aF ⟨rfl,trivial⟩ ?_⟩;simp[wk]
    rw[decide_eq_false (show ¬3*(dd f i*dd f i)<=4*(dd f (i-1)*dd f (i+1)+lam f i (i-1)*lam f i (i-1))from hs)]at c1;have hnx:scanF f n=some (.swp (i-1)):=by rw[hsc,hsc2];exact if_pos ⟨h0,hs⟩
    rw[hnx];have x0:((i:Int)-1).toNat=i-1:=by omega
    have g1:=bO (n:=n) (i:=i) 18 n hm;have g2:=bO (n:=n) (i:=i-1) 18 n (by omega);have g4:((gm 18 (ae n n)).set i [.sl 18 (i-1+1) 0 n])[i-1]?=some [.sl 18 (i-1+1) 0 n]:=by
     rw[List.getElem?_set_ne (by omega),g2]
    refine aG [⟨6,_,_,_,c1⟩] [] fun _ K=>?_;simp(disch:=omega) only[kd,bE,kP,aa];apply K
    refine aS rfl ?_;refine cK aZ (by kernel_rfl) fun _ K=>?_;simp(disch:=omega) only[kd,aa,aP,x0,g2,g1,g4,Nat.reduceLeDiff,reduceCtorEq];apply K
    refine bs.weak ((pi 18 (i+1) (i-1+1) (gI 18 n n (swp i (i-1) idF)) (xX idF hm (by omega) (by omega))).trans (aF (tm:=(j4 (jk::jk::.one (.sl 18 0 0 n)::j16 (j16 (j16 (j16 (j4 (j4 (j4 ([])))))))))) (l:=[(18,gI 18 n n (swp i (i-1) idF))]) ⟨rfl,trivial⟩ (by simp[wk,CR,jA,oq,sw]))) ?_;rw[show swp i (i-1) idF=GP (i-1) by rw[<- MP,show i-1+1=i by omega]];refine bs.weak ((bW 18 (jO rfl)).trans (aF (tm:=(j4 (jk::jk::bE (bu n n (GP (i-1)))::j16 (j16 (j16 (j16 (j4 (j4 (j4 ([])))))))))) (l:=[]) trivial (by simp[wk];exact(Nv (H:=Hm [(18,gI 18 n n (GP (i-1)))]) (d:=18) (n:=n) (c:=n) (f:=GP (i-1)) rfl).symm))) ?_;refine aD fun _ K=>?_;simp only[kd,aa,bE];apply K
    (refine aI ⟨.inr rfl,aH rfl ?_ rfl⟩;simp(disch:=omega) only[kd,Tryz.results64,Pp,Ns])
   have hi0:i=0:=by omega
   subst hi0;have hnx:scanF f n=scanI f (n-(0+1)) (0+1):=by rw[hsc,hsc2];exact if_neg (by simp)
   refine aD fun _ K=>?_;simp(disch:=omega) only[kd,aa];apply K
   refine aO rfl (aL ?_);show bs _ _ _ _;refine aM fun _ K=>?_;simp(disch:=omega) only[kd,aP];apply K
   refine⟨⟨1,by omega,hnx⟩,by simp only;omega,aF ⟨rfl,trivial⟩ ?_⟩;simp[wk]
  |succ j=>
   have x1:((j+1:Nat):Int)-1=(j:Int):=by omega
   rw[x1];have c1:=Dc n f i j (by omega) hm (by omega) hf;by_cases hs:SizF f i j
   ·rw[decide_eq_true (show 2*((lam f i j).natAbs:Int)<=dd f (j+1)from hs)]at c1;have hnx:scanJ f i i=scanJ f i j:=by rw[hsj];exact if_pos hs
    refine aE (aD fun _ K=>?_);simp(disch:=omega) only[kd,bE,kP];apply K;refine aS rfl (aL ?_);refine aE (aK ?_);refine aG [⟨4,_,_,_,c1⟩] [] fun _ K=>?_;simp only[kd,bE,kP,aa];apply K
    refine aO rfl (aL ?_);show bs _ _ _ _;refine aM fun _ K=>?_;simp(disch:=omega) only[kd,aa,aP];apply K
    refine⟨⟨j,by omega,hnx⟩,by simp only;omega,aF ⟨rfl,trivial⟩ ?_⟩;simp[wk]
   rw[decide_eq_false (show ¬2*((lam f i j).natAbs:Int)<=dd f (j+1)from hs)]at c1;have hnx:scanJ f i i=some j:=by rw[hsj];exact if_neg hs
   have hnx2:scanF f n=some (.add i j):=by rw[hsc,hsc2,hnx]
   rw[hnx2,show Pp n f (some (.add i j))= .tup [(false,[.p (.sl (ls (fR fZ) (bu n n (upd idF j i (cF f i j)))))]),(false,[.p (.raw (.bool true))])]from rfl];have hdp:0<dd f (j+1):=by rw[jN hp (by omega)];exact hp j (by omega)
   have sl:=B9 (n:=n) (i:=i) (j:=j) (by omega) hm (by omega) hf;have sd:=zt (n:=n) (k:=j+1) (by omega) (by omega) hf;have d1:=sM n f i j (by omega) hm (by omega) hf;have d2:=pF n f (j+1) (by omega) (by omega);rw[show((j+1:Nat):Int)=(j:Int)+1 by omega]at d2;have d3:=Bf (lam f i j) (dd f (j+1)) hdp (sl.mono (by omega)) (sd.mono (by omega));have hnd:=oR (n:=lam f i j) hdp;have d4:=EI (nN (lam f i j) (dd f (j+1))) (nD (lam f i j) (dd f (j+1))) hnd ((wB sl).mono (by omega)) ((wA sd).mono (by omega));rw[QJ hdp]at d4;have sq:Sz (qF (lam f i j) (dd f (j+1))) 67174401:=by
    have h1:=Cy (l:=lam f i j) hdp;have h2:Sz ((lam f i j).natAbs+1:Int) (67174400+1):=Sz.add (sl.le (by omega)) (lZ (by omega));exact h2.le (by omega)
   have d5:=IX (qF (lam f i j) (dd f (j+1))) (sq.mono (by omega));rw[show -(qF (lam f i j) (dd f (j+1)))=cF f i j from rfl]at d5;have g1:=bO (n:=n) (i:=j) 18 n (by omega);have g2:=ee n idF (show j<n by omega);have g3:=aU (idF j) hm;generalize cF f i j=cc at*
   generalize qF (lam f i j) (dd f (j+1))=qq at*
   generalize nN (lam f i j) (dd f (j+1))=n1 at*
   generalize nD (lam f i j) (dd f (j+1))=n2 at*
   refine aE (aD fun _ K=>?_);simp(disch:=omega) only[kd,bE,kP];apply K;refine aS rfl (aL ?_);refine aE (aK ?_);refine aG [⟨4,_,_,_,c1⟩] [] fun _ K=>?_;simp only[kd,bE,kP,aa];apply K
   refine aS rfl ?_;refine bv aZ [⟨8,_,_,_,d1⟩,⟨12,_,_,_,d2⟩,⟨13,_,_,_,d3⟩,⟨14,_,_,_,d4⟩,⟨15,_,_,_,d5⟩] [] (by kernel_rfl) fun _ K=>?_;simp(disch:=omega) only[kd,bE,tZ,kP,tR,aa,g1,aP,af,g2,fZ,g3,jS];apply K
   refine bs.weak ((aF (tm:=(j4 (jk::jk::.one (.sl 18 0 0 n)::j16 (j16 (j16 (j16 (j4 (j4 (j4 ([])))))))))) (l:=[(18,gI 18 n n (upd idF j i cc))]) ⟨rfl,trivial⟩ (by simp[wk])).trans ((bW 18 (jO rfl)).trans (aF (tm:=(j4 (jk::jk::bE (bu n n (upd idF j i cc))::j16 (j16 (j16 (j16 (j4 (j4 (j4 ([])))))))))) (l:=[]) trivial (by
    simp[wk];exact(Nv (H:=Hm [(18,gI 18 n n (upd idF j i cc))]) (d:=18) (n:=n) (c:=n) (f:=upd idF j i cc) rfl).symm)))) ?_
   refine aD fun _ K=>?_;simp only[kd,aa,bE];apply K
   (refine aI ⟨.inr rfl,aH rfl ?_ rfl⟩;simp(disch:=omega) only[kd,Tryz.results64])
 have hin:i=n:=by omega
 subst hin;have hnx:scanF f i=none:=by rw[hsc,Nat.sub_self];rfl
 rw[hnx];refine aD fun _ K=>?_;simp(disch:=omega) only[kd,bE,kP];apply K
 refine bJ rfl ?_;show bs _ _ _ _;refine aD fun _ K=>?_;simp only[kd];apply K
 (refine aI ⟨.inr rfl,aH rfl ?_ rfl⟩;simp(disch:=omega) only[kd,Tryz.results64,Pp])
def QL (L:List Int) (i k:Nat) (s:(Nat->Nat->Int)×Nat):(Nat->Nat->Int)×Nat:=(upd (upd s.1 i k (Int.tmod (L.getD s.2 0) 3)) k i (Int.tmod (L.getD s.2 0) 3),gE L s.2)
def KR (L:List Int) (i:Nat) (s:(Nat->Nat->Int)×Nat):Nat->(Nat->Nat->Int)×Nat
 |0=>s
 |k+1=>QL L i k (KR L i s k)
def pa (L:List Int) (s:(Nat->Nat->Int)×Nat):Nat->(Nat->Nat->Int)×Nat
 |0=>s
 |i+1=>KR L i (pa L s i) i
theorem B8 {L:List Int} {i:Nat} {s:(Nat->Nat->Int)×Nat} (h:s.2<=L.length): ∀k,(KR L i s k).2<=L.length
 |0=>h
 |k+1=>nJ (B8 h k)
theorem B7 {L:List Int} {s:(Nat->Nat->Int)×Nat} (h:s.2<=L.length): ∀i,(pa L s i).2<=L.length
 |0=>h
 |i+1=>B8 (B7 h i) i
theorem yE (f:FF) (i j:Nat) (v:Int):upd f i j v i j=v:=by simp[upd]
theorem Fp (b:Nat) (L:List Int) (a n:Nat) (hL:I8 L) (ha:a<=L.length) (hn:n<=8):
  CallT Tryz.prog b 95 83 [dF b,.raw (.int .i64 (n:Int))] (Gp L a) ⟨de 0 n n (pa L (gC L a 6,ko L a n) n).1,.one (.sl 0 0 0 n)⟩ (Gp L (pa L (gC L a 6,ko L a n) n).2):=by
 have c0:=lB b L a n 6 hL ha hn (by omega) (by omega);rw[show((6:Nat):Int)=6 from rfl]at c0;have hp0:(gC L a 6,ko L a n).2<=L.length:=qy ha n;refine my Tryz.func83 rfl (by kernel_rfl) ?_;rw[Tryz.ntmps83];refine be fun _ K=>?_;simp only[kd,dF,aa,ae];apply K
 refine qx 2 c0 [] [] (by kernel_rfl) (by rfl) (by rfl) fun _ K=>?_;simp only[kd,dF,aa];apply K
 refine da (be fun _ K=>?_);simp only[kd,aa];apply K;refine mr (G:=jD n) (fun g=>⟨(dF b::j4 (.one (.sl 10 0 0 n)::j4 (jk::jk::rN n::rN g.i::j16 (j4 (j4 (j4 (jk::jk::jk::[]))))))),Hm [(10,de 10 n n (pa L (gC L a 6,ko L a n) g.i).1)]⟩) (fun g=>Gp L (pa L (gC L a 6,ko L a n) g.i).2) (fun g=>n-g.i) ⟨0,by omega⟩ ?_ rfl ?_
 ·refine aF ⟨?_,trivial⟩ ?_
  ·exact cx 0 10 n n _
  simp[wk]
 rintro⟨i,hi⟩;simp only;have hpi:=B7 hp0 i;by_cases hm:i<n
 ·refine be fun _ K=>?_;simp(disch:=omega) only[kd,dF];apply K
  refine xg rfl ?_;refine da (dO ?_);refine be fun _ K=>?_;simp only[kd];apply K
  refine be fun _ K=>?_;simp only[kd];apply K
  refine mr (G:=jD i) (fun g=>⟨(dF b::j4 (.one (.sl 10 0 0 n)::rN i::rN g.i::j4 (.raw (.int .i64 (n:Int))::rN i::j16 (j4 (j4 (j4 (jk::jk::jk::[]))))))),Hm [(10,de 10 n n (KR L i (pa L (gC L a 6,ko L a n) i) g.i).1)]⟩) (fun g=>Gp L (KR L i (pa L (gC L a 6,ko L a n) i) g.i).2) (fun g=>i-g.i) ⟨0,by omega⟩ ?_ rfl ?_
  ·refine aF ⟨rfl,trivial⟩ ?_;simp[wk]
  rintro⟨k,hk⟩;simp only;have hpk:=B8 (i:=i) hpi k;by_cases hm2:k<i
  ·have hst:KR L i (pa L (gC L a 6,ko L a n) i) (k+1)=QL L i k (KR L i (pa L (gC L a 6,ko L a n) i) k):=rfl;generalize KR L i (pa L (gC L a 6,ko L a n) i) k=s at*
   obtain⟨f,p⟩:=s;simp only at hpk⊢;have c1:=GX b L p hL hpk;have hb:=hL.getD p;have a1:=bO (n:=n) (i:=i) 10 n hm;have a2:=bO (n:=n) (i:=k) 10 n (by omega);have a3:=cL n f hm;have a5:=aU (f i) (show k<n by omega);have hst2:QL L i k (f,p)=(upd (upd f i k (Int.tmod (L.getD p 0) 3)) k i (Int.tmod (L.getD p 0) 3),gE L p):=rfl;obtain⟨v,hv⟩: ∃v,Int.tmod (L.getD p 0) 3=v:=⟨_,rfl⟩;rw[hv]at hst2;have a6:=cL n (upd f i k v) hm;have a7:=cL n (upd f i k v) (show k<n by omega);have a8:(bG n (upd f i k v i))[k]?=some v:=by rw[aU _ (by omega),yE]
   have a9:=aU (upd f i k v k) hm;refine da (be fun _ K=>?_);simp(disch:=omega) only[kd,aa,dF];apply K;refine ib rfl (kq ?_);refine da (dO ?_);refine Bp aZ 6 c1 [] [] (by kernel_rfl) (by kernel_rfl) (by rfl) (by rfl) fun _ K=>?_;simp(disch:=omega) only[kd,dF,aa,a1,hv,a3,a5,fj];apply K
   refine Bm aZ (by kernel_rfl) fun _ K=>?_;simp(disch:=omega) only[kd,aa,a2,a1,a6,a8,a7,a9,fj];apply K
   show eZ _ _ _ _ _ _ _;refine fo fun _ K=>?_;simp(disch:=omega) only[kd,aa,aP];apply K
   refine⟨⟨k+1,by omega⟩,by simp only;omega,aF ⟨?_,trivial⟩ ?_,?_⟩
   ·rw[hst,hst2];rfl
   ·simp[wk]
   simp only;rw[hst,hst2]
  have hki:k=i:=by omega
  subst hki;refine da (be fun _ K=>?_);simp(disch:=omega) only[kd,aa,dF];apply K;refine df rfl (y9 ?_);show eZ _ _ _ _ _ _ _;refine fo fun _ K=>?_;simp(disch:=omega) only[kd,aP];apply K
  refine⟨⟨k+1,by omega⟩,by simp only;omega,aF ⟨rfl,trivial⟩ ?_,rfl⟩;simp[wk]
 have hin:i=n:=by omega
 subst hin;refine be fun _ K=>?_;simp(disch:=omega) only[kd,dF];apply K
 refine xf rfl ?_;show eZ _ _ _ _ _ _ _;refine be fun _ K=>?_;simp only[kd];apply K
 refine np ⟨.inr rfl,rfl,_,ca.refl _,?_⟩;refine⟨.one (.sl 10 0 0 i),10,?_,rfl,?_,rfl⟩
 ·simp(disch:=omega) only[kd,Tryz.results83]
 exact(cx 10 0 _ _ _).symm
def Lg (fork:Bool) (n i:Nat):Nat:=if fork=true/\i+1=n/\3<n then i-2 else i-1
def i9 (fork:Bool) (n:Nat):Nat->Nat->Nat->Int
 |0=>fun _ _=>0
 |i+1=>if i=0 then upd (i9 fork n i) i i 2 else upd (upd (upd (i9 fork n i) i i 2) i (Lg fork n i) (-1)) (Lg fork n i) i (-1)
theorem Hu {fork:Bool} {n i:Nat} (h:0<i):Lg fork n i<i:=by unfold Lg;split<;>omega
theorem o8 {f:FF} {i j a b:Nat} {v:Int} (h:a≠i\/b≠j):upd f i j v a b=f a b:=by
 unfold upd;by_cases h1:a=i
 ·subst h1;have h2:b≠j:=by rcases h with h|h;exact absurd rfl h;exact h
  simp[h2]
 simp[h1]
theorem zp (fork:Bool) (n:Nat): ∀i a b,i<=a\/i<=b->i9 fork n i a b=0
 |0,_,_,_=>rfl
 |i+1,a,b,h=>by
  have ih:=zp fork n i a b (by omega);unfold i9;split
  ·rw[o8 (by omega),ih]
  rename_i h0;have:=Hu (fork:=fork) (n:=n) (show 0<i by omega);rw[o8 (by omega),o8 (by omega),o8 (by omega),ih]
theorem Dq (n:Nat) (fork:Bool) (hn:n<=8):
  CallC Tryz.prog 84 [.raw (.int .i64 (n:Int)),.raw (.bool fork)] ⟨de 0 n n (i9 fork n n),.one (.sl 0 0 0 n)⟩:=by
 refine aJ Tryz.func84 rfl (by kernel_rfl) ?_;rw[Tryz.ntmps84];refine aD fun _ K=>?_;simp only[kd,aa,ae];apply K
 refine aD fun _ K=>?_;simp(disch:=omega) only[kd,aa];apply K
 refine aE (aD fun _ K=>?_);simp only[kd,aa];apply K;refine aT (G:=jD n) (fun g=>⟨(.raw (.int .i64 (n:Int))::.raw (.bool fork)::jk::jk::jk::.one (.sl 9 0 0 n)::j4 (jk::rN n::rN g.i::j16 (j16 (j4 (j4 (j4 ([]))))))),Hm [(9,kI 9 n n g.i (i9 fork n g.i))]⟩) (fun g=>n-g.i) ⟨0,by omega⟩ ?_ ?_
 ·refine aF ⟨?_,trivial⟩ ?_
  ·show[_]=_;simp[gm,bu]
  simp[wk]
 rintro⟨i,hi⟩;simp only;by_cases hm:i<n
 ·have k1:=qL (i:=i) (n:=n) 9 n hm;have k2:=jt (i:=i) (n:=n) 9 n hi;have k3:=aV i n (i9 fork n i);have k4:=nB (i:=i) (n:=n) (c:=n) 9 (i9 fork n i) hm (fun j hj=>zp fork n i i j (by omega));have k5:=qK (i:=i+1) (k:=i) (n:=n) 9 n (by omega);have k6:=jt (i:=i+1) (n:=n) 9 n (by omega);have k7:=cL (n:=i+1) n (i9 fork n i) (i:=i) (by omega);have k8:=aU (i9 fork n i i) hm;have hstep:i9 fork n (i+1)=if i=0 then upd (i9 fork n i) i i 2 else upd (upd (upd (i9 fork n i) i i 2) i (Lg fork n i) (-1)) (Lg fork n i) i (-1):=rfl
  generalize i9 fork n i=f at*
  refine aD fun _ K=>?_;simp(disch:=omega) only[kd];apply K
  refine bC rfl ?_;refine aE (aK ?_);refine aD fun _ K=>?_;simp only[kd];apply K
  refine aD fun _ K=>?_;simp(disch:=omega) only[kd,aa,Nat.reduceEqDiff,k1,Nat.reduceLeDiff,ax,List.all_replicate,k3,af];apply K
  refine bs.weak (aF (tm:=(.raw (.int .i64 (n:Int))::.raw (.bool fork)::jk::jk::jk::.one (.sl 9 0 0 n)::rN i::j4 (.raw (.int .i64 (n:Int))::rN i::j16 (j16 (j4 (j4 (j4 ([])))))))) (l:=[(9,kI 9 n n (i+1) f)]) ⟨?_,trivial⟩ (by simp[wk])) ?_
  ·first|exact k4|rfl
  refine aD fun _ K=>?_;simp(disch:=omega) only[kd,aa,k5,k7,k8,fj];apply K
  refine aD fun _ K=>?_;simp(disch:=omega) only[kd,aa,aP];apply K
  obtain⟨kz,hkz⟩: ∃kz:Int,kz=if fork=true/\i+1=n/\3<n then(i:Int)-2 else(i:Int)-1:=⟨_,rfl⟩
  refine aE (jI (S:=⟨(.raw (.int .i64 (n:Int))::.raw (.bool fork)::jk::jk::jk::.one (.sl 9 0 0 n)::rN i::.raw (.int .i64 kz)::jk::jk::jk::rN n::rN i::j16 (j16 (j4 (j4 (j4 ([])))))),Hm [(9,kI 9 n n (i+1) (upd f i i 2))]⟩) ?_ ?_)
  ·cases fork with
   |false=>
    rw[if_neg (by simp)]at hkz;refine aD fun _ K=>?_;simp(disch:=omega) only[kd,aa];apply K
    refine aO rfl (aL ?_);show ca _ _;refine aF ⟨rfl,trivial⟩ ?_;simp[wk,hkz]
   |true=>
    by_cases h1:i+1=n
    ·by_cases h2:3<n
     ·rw[if_pos ⟨rfl,h1,h2⟩]at hkz;refine aD fun _ K=>?_;simp(disch:=omega) only[kd,aa,aP];apply K
      refine aS rfl ?_;refine aM fun _ K=>?_;simp(disch:=omega) only[kd,aa,aP];apply K
      refine aF ⟨rfl,trivial⟩ ?_;simp[wk,hkz]
     rw[if_neg (by omega)]at hkz;refine aD fun _ K=>?_;simp(disch:=omega) only[kd,aa,aP];apply K
     refine aO rfl (aL ?_);show ca _ _;refine aF ⟨rfl,trivial⟩ ?_;simp[wk,hkz]
    rw[if_neg (by omega)]at hkz;refine aD fun _ K=>?_;simp(disch:=omega) only[kd,aa,aP];apply K
    refine aO rfl (aL ?_);show ca _ _;refine aF ⟨rfl,trivial⟩ ?_;simp[wk,hkz]
  by_cases h0:i=0
  ·subst h0;rw[if_neg (by omega)]at hkz;rw[if_pos rfl]at hstep;refine aD fun _ K=>?_;simp(disch:=omega) only[kd];apply K
   refine aO rfl (aL ?_);show bs _ _ _ _;refine aM fun _ K=>?_;simp(disch:=omega) only[kd,aP];apply K
   refine⟨⟨1,by omega⟩,by simp only;omega,aF ⟨?_,trivial⟩ ?_⟩
   ·simp only[hstep];rfl
   simp[wk]
  have hkk:kz=((Lg fork n i:Nat):Int):=by
   rw[hkz];unfold Lg;split<;>omega
  have hlt:=Hu (fork:=fork) (n:=n) (show 0<i by omega);rw[if_neg h0]at hstep;subst hkk;generalize Lg fork n i=k at*
  generalize upd f i i 2=f2 at*
  have b1:=qK (i:=i+1) (k:=k) (n:=n) 9 n (by omega);have b2:=cL (n:=i+1) n f2 (i:=i) (by omega);have b3:=aU (f2 i) (show k<n by omega);have b4:=cL (n:=i+1) n (upd f2 i k (-1)) (i:=k) (by omega);have b5:=aU (upd f2 i k (-1) k) hm;refine aD fun _ K=>?_;simp(disch:=omega) only[kd];apply K
  refine aS rfl ?_;refine gz aZ (by kernel_rfl) fun _ K=>?_;simp(disch:=omega) only[kd,aa,k5,b1,b2,b3,fj,b4,b5];apply K
  show bs _ _ _ _;refine aM fun _ K=>?_;simp(disch:=omega) only[kd,aP];apply K
  refine⟨⟨i+1,by omega⟩,by simp only;omega,aF ⟨?_,trivial⟩ ?_⟩
  ·simp only[hstep];rfl
  simp[wk]
 have hin:i=n:=by omega
 subst hin;refine aD fun _ K=>?_;simp(disch:=omega) only[kd];apply K
 refine bJ rfl ?_;show bs _ _ _ _;rw[mG];refine aD fun _ K=>?_;simp only[kd];apply K
 refine aI ⟨.inr rfl,_,ca.refl _,?_⟩;refine⟨.one (.sl 9 0 0 i),9,?_,rfl,?_,rfl⟩
 ·simp(disch:=omega) only[kd,Tryz.results84]
 exact(cx 9 0 _ _ _).symm
def GoodP (n:Nat) (f:FF):Prop:=SymF f n/\xd f n/\detF n f<=10000
theorem It (n:Nat) (f:FF) (hn1:1<=n) (hn:n<=8) (hf: ∀i j:Nat,GG (f i j)) (r:Bool) (hr:r=true↔GoodP n f):CallC Tryz.prog 86 [bi (bu n n f)] ⟨[],.raw (.bool r)⟩:=by
 have c1:=EJ n n f hn1 (by omega) hn1 (by omega) (fun i j _ _=>hf i j);obtain⟨e,he,c2⟩:=kX n n f hn1 (by omega) hn1 (by omega) (fun i j _ _=>(hf i j).sz (by omega));by_cases h1:e=0
 ·obtain⟨_,_,hs,hp⟩:=he.1 h1;subst h1;have c3:=f6 n f hn1 (by omega) (fun i j _ _=>(hf i j).sz (by omega));have c4:=fQ 10000 (by omega) (by omega);have c5:=sI (detF n f) 10000 ((lA (n:=n) (by omega) (fun i j _ _=>(hf i j).sz (by omega))).mono (by omega)) (m8 (by decide) (by omega));have hle:=xz (detF n f) 10000;have hrr:r=decide (detF n f<=10000):=by
   cases r with
   |true=>have:=(hr.1 rfl).2.2;simp[this]
   |false=>
    have: ¬detF n f<=10000:=fun h=>by have:=hr.2 ⟨hs,hp,h⟩;cases this
    simp[this]
  rw[hrr];generalize detF n f=d at*
  refine aJ Tryz.func86 rfl (by kernel_rfl) ?_;rw[Tryz.ntmps86];refine aD fun _ K=>?_;simp only[kd,bi,ae];apply K
  refine aG [⟨1,_,_,_,c1⟩] [] fun _ K=>?_;simp only[kd,bi,bE,aa];apply K
  refine aG [⟨1,_,_,_,c2⟩,⟨5,_,_,_,c3⟩,⟨6,_,_,_,c4⟩,⟨7,_,_,_,c5⟩] [] fun _ K=>?_;simp(disch:=omega) only[kd,bE,tZ,aa,af,hle];apply K
  (refine aI ⟨.inr rfl,aH rfl ?_ rfl⟩;simp(disch:=omega) only[kd,Tryz.results86])
 have hr0:r=false:=by
  cases r with
  |false=>rfl
  |true=>have:=hr.1 rfl;exact absurd (he.2 ⟨rfl,hn,this.1,this.2.1⟩) h1
 subst hr0;refine aJ Tryz.func86 rfl (by kernel_rfl) ?_;rw[Tryz.ntmps86];refine aD fun _ K=>?_;simp only[kd,bi,ae];apply K
 refine aG [⟨1,_,_,_,c1⟩] [] fun _ K=>?_;simp only[kd,bi,bE,aa];apply K
 refine aG [⟨1,_,_,_,c2⟩] [] fun _ K=>?_;simp(disch:=omega) only[kd,bE,aa,af];apply K
 (refine aI ⟨.inr rfl,aH rfl ?_ rfl⟩;simp(disch:=omega) only[kd,Tryz.results86])
end Go.Proofs.YtfgeomlagfomgaaGreatDoor
