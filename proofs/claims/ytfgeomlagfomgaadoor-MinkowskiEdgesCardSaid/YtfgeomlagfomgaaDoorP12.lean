/-
  Part 13 of a proof (walks and plain facts).
-/
import Derived.Test.YtfgeomlagfomgaaDoorP11
set_option linter.all false
set_option maxRecDepth 100000
set_option maxHeartbeats 64000000
open Nat renaming reduceAdd → aa
open Nat renaming le_refl → ac
open List renaming replicate → ae
open List renaming getElem?_eq_none → aq
open List renaming getElem?_map → ax
open Nat renaming le_trans → ay
namespace Go.Proofs.YtfgeomlagfomgaaDoor
open Go.RowKit
section
theorem bO (c:Int) (F:Nat->Int): ∀k,bu (fun p=>c*F p) k=c*bu F k
 |0=>by simp[bu]
 |k+1=>by rw[bu,bu,bO c F k];grind
theorem jT (c:Int) (F:Nat->Int) (k:Nat):bu (fun p=>F p*c) k=bu F k*c:=by
 rw[Int.mul_comm,<- bO];exact aF k fun p _=>Int.mul_comm _ _
theorem iK (F:FF) (m:Nat): ∀n,bu (fun i=>bu (F i) m) n=bu (fun j=>bu (fun i=>F i j) n) m
 |0=>by simp only[bu];exact(cO m).symm
 |n+1=>by rw[bu,iK F m n,<- gW];rfl
theorem sZ {F:Nat->Int} {B:Int}: ∀k,(∀p,p<k-> -B<=F p/\F p<=B)-> -((k:Int)*B)<=bu F k/\bu F k<=(k:Int)*B
 |0,_=>by simp[bu]
 |k+1,h=>by
  have ih:=sZ k fun p hp=>h p (by omega)
  have h1:=h k (by omega);have e:(((k+1:Nat):Int))*B=(k:Int)*B+B:=by rw[Int.natCast_add,Int.add_mul];simp
  rw[bu,e];omega
def BF (n:Nat) (f:FF) (x y:Nat->Int):Int:=bu (fun i=>x i*bu (fun j=>f i j*y j) n) n
variable {n:Nat}
theorem dK {f f':FF} {x x' y y':Nat->Int} (hf: ∀i j,i<n->j<n->f i j=f' i j) (hx: ∀i,i<n->x i=x' i) (hy: ∀i,i<n->y i=y' i):BF n f x y=BF n f' x' y':=
 aF n fun i hi=>by rw[hx i hi,aF n fun j hj=>by rw[hf i j hi hj,hy j hj]]
theorem fh (f:FF) (x x' y:Nat->Int) (c:Int):BF n f (fun i=>x i+c*x' i) y=BF n f x y+c*BF n f x' y:=by
 unfold BF;rw[<- bO,<- gW];exact aF n fun i _=>by grind
theorem ea (f:FF) (x y y':Nat->Int) (c:Int):BF n f x (fun i=>y i+c*y' i)=BF n f x y+c*BF n f x y':=by
 unfold BF;rw[<- bO,<- gW];refine aF n fun i _=>?_
 rw[aF n (G:=fun j=>f i j*y j+c*(f i j*y' j)) (fun j _=>by grind),gW,bO];grind
theorem xv (f g:FF) (x y:Nat->Int) (a b:Int):BF n (fun i j=>a*f i j+b*g i j) x y=a*BF n f x y+b*BF n g x y:=by
 unfold BF;rw[<- bO,<- bO,<- gW];refine aF n fun i _=>?_
 rw[aF n (G:=fun j=>a*(f i j*y j)+b*(g i j*y j)) (fun j _=>by grind),gW,bO,bO];grind
theorem DT (u v x y:Nat->Int):BF n (fun i j=>u i*v j) x y=bu (fun i=>x i*u i) n*bu (fun j=>v j*y j) n:=by
 unfold BF;rw[<- jT];refine aF n fun i _=>?_
 rw[aF n (G:=fun j=>u i*(v j*y j)) (fun j _=>by grind),bO];grind
theorem ky {f:FF} (hs:SymF f n) (x y:Nat->Int):BF n f x y=BF n f y x:=by
 unfold BF;rw[aF n (G:=fun i=>bu (fun j=>x i*f i j*y j) n) (fun i _=>by rw[<- bO];exact aF n fun j _=>by grind),
  aF n (F:=fun i=>y i*_) (G:=fun i=>bu (fun j=>x j*f j i*y i) n) (fun i hi=>by rw[<- bO];exact aF n fun j hj=>by rw[hs i hi j hj];grind)]
 exact iK _ _ _
theorem m4 {f:FF} (hs:SymF f n) (hp: ∀k,k<n->0<dk f (k+1)) (x:Nat->Int): ∀m k,m+k=n->0<=BF n (bk f k) x x/\(BF n (bk f k) x x=0-> ∀i,k<=i->i<n->x i=0)
 |0,k,h=>by
  obtain rfl:k=n:=by omega
  refine⟨?_,fun _ i h1 h2=>by omega⟩;have:BF k (bk f k) x x=0:=by
   unfold BF;rw[aF k (G:=fun _=>0) (fun i hi=>by rw[aF k (G:=fun _=>0) (fun j _=>by rw[iZ f hi,Int.zero_mul]),cO,Int.mul_zero]),cO]
  omega
 |m+1,k,h=>by
  obtain⟨h1,h2⟩:=m4 hs hp x m (k+1) (by omega);have hne: ∀t,t<n->dk f (t+1)≠0:=fun t ht=>by have:=hp t ht;omega
  have hd:0<dk f k:=jA fun t ht=>hp t (by omega)
  have hd1:=hp k (by omega);have key:dk f k*BF n (bk f (k+1)) x x=dk f (k+1)*BF n (bk f k) x x-bu (fun j=>bk f k k j*x j) n*bu (fun j=>bk f k k j*x j) n:=by
   have e0:dk f k*BF n (bk f (k+1)) x x=BF n (fun i j=>dk f k*bk f (k+1) i j+0*bk f k i j) x x:=by rw[xv];omega
   rw[e0,dK (f':=fun i j=>dk f (k+1)*bk f k i j+(-1)*(bk f k k i*bk f k k j)) (fun i j hi hj=>by
    have:=sylv f k (fun t ht=>hne t (by omega)) i j;have e:=jz hs k (by omega) (fun t ht=>hne t (by omega)) i k hi (by omega);rw[e]at this;omega) (fun _ _=>rfl) (fun _ _=>rfl),xv,DT,aF n (F:=fun i=>x i*bk f k k i) (G:=fun j=>bk f k k j*x j) (fun i _=>Int.mul_comm _ _)]
   omega
  have hsq:0<=bu (fun j=>bk f k k j*x j) n*bu (fun j=>bk f k k j*x j) n:=by
   rcases Int.le_total 0 (bu (fun j=>bk f k k j*x j) n)with h|h
   ·exact Int.mul_nonneg h h
   exact Int.mul_nonneg_of_nonpos_of_nonpos h h
  have hpr:=Int.mul_nonneg (Int.le_of_lt hd) h1;have hge:0<=dk f (k+1)*BF n (bk f k) x x:=by omega
  refine⟨?_,fun hz=>?_⟩
  ·rcases Int.lt_or_le (BF n (bk f k) x x) 0 with hl|hl
   ·have:=Int.mul_neg_of_pos_of_neg hd1 hl;omega
   exact hl
  rw[hz,Int.mul_zero]at key;have z1:dk f k*BF n (bk f (k+1)) x x=0:=by omega
  have z2:bu (fun j=>bk f k k j*x j) n*bu (fun j=>bk f k k j*x j) n=0:=by omega
  have z3:BF n (bk f (k+1)) x x=0:=by
   rcases Int.mul_eq_zero.1 z1 with h|h
   ·omega
   exact h
  have z4:bu (fun j=>bk f k k j*x j) n=0:=by
   rcases Int.mul_eq_zero.1 z2 with h|h<;>exact h
  have hx:=h2 z3;rw[fm (a:=k) (by omega) (fun p hpn hpk=>by
   by_cases hlt:p<k
   ·rw[vS hs hne (by omega) hlt (by omega),Int.zero_mul]
   rw[hx p (by omega) hpn,Int.mul_zero])]at z4
  rw[bK]at hd1;intro i hi hin;by_cases e:i=k
  ·subst e;rcases Int.mul_eq_zero.1 z4 with h|h
   ·omega
   exact h
  exact hx i (by omega) hin
theorem AL {f:FF} (hr:dZ f n) (x:Nat->Int):0<=BF n f x x/\(BF n f x x=0↔ ∀i,i<n->x i=0):=by
 have h:=m4 hr.1 hr.2.1 x n 0 rfl;have e:BF n (bk f 0) x x=BF n f x x:=dK (fun i j _ _=>cP f i j) (fun _ _=>rfl) (fun _ _=>rfl);rw[e]at h;refine⟨h.1,fun hz i hi=>h.2 hz i (by omega) hi,fun h0=>?_⟩;unfold BF;rw[aF n (G:=fun _=>0) (fun i hi=>by rw[h0 i hi,Int.zero_mul]),cO]
theorem schwarz {f:FF} (hr:dZ f n) (x y:Nat->Int):BF n f x y*BF n f x y<=BF n f x x*BF n f y y:=by
 have hs:=ky hr.1 x y;obtain⟨h1,h2⟩:=AL hr y;obtain⟨q,hq⟩: ∃q,q=BF n f x y:=⟨_,rfl⟩;obtain⟨o,ho⟩: ∃o,o=BF n f y y:=⟨_,rfl⟩;obtain⟨N,hN⟩: ∃N,N=BF n f x x:=⟨_,rfl⟩;have hpos:=(AL hr (fun i=>(0+o*x i)+(-q)*y i)).1;have e:BF n f (fun i=>(0+o*x i)+(-q)*y i) (fun i=>(0+o*x i)+(-q)*y i)=o*(o*N-q*q):=by
  have ez: ∀u,BF n f (fun _=>0) u=0:=fun u=>by
   unfold BF;rw[aF n (G:=fun _=>0) (fun i _=>Int.zero_mul _),cO]
  have ez': ∀u,BF n f u (fun _=>0)=0:=fun u=>by rw[ky hr.1,ez]
  rw[fh f (fun i=>0+o*x i) y,ea f (fun i=>0+o*x i) (fun i=>0+o*x i) y,ea f y (fun i=>0+o*x i) y,
   fh f (fun _=>0) x,fh f (fun _=>0) x,ea f x (fun _=>0) x,ea f y (fun _=>0) x,ez,ez,ez',ez',<- hs,<- hq,<- ho,<- hN]
  grind
 rw[e]at hpos;rw[<- hq,<- ho,<- hN];rcases Int.lt_or_le 0 o with h|h
 ·have:0<=o*N-q*q:=by
   rcases Int.lt_or_le (o*N-q*q) 0 with hl|hl
   ·have:=Int.mul_neg_of_pos_of_neg h hl;omega
   exact hl
  have:o*N=N*o:=Int.mul_comm _ _;omega
 have o0:o=0:=by omega
 have hy:=h2.1 (ho▸o0);have q0:q=0:=by
  rw[hq,hs];unfold BF;rw[aF n (G:=fun _=>0) (fun i hi=>by rw[hy i hi,Int.zero_mul]),cO]
 rw[o0,q0];omega
end
theorem lT (M:List (List Int)):CallC Tryd.prog 13 [bT M] ⟨[],.raw (.bool (bD M))⟩:=by
 refine fc (by kernel_rfl) fun X w vs hX hvs ha=>?_
 obtain⟨v0,e0,r0⟩:=jx ha (j:=0) rfl;obtain⟨A,c,rfl,hc,hl,hR⟩:=kn r0;obtain rfl:vs= #[.slice A M.length c]:=by
  apply Array.ext_getElem?;intro j
  match j with
  |0=>exact e0
  |j+1=>rw[Array.getElem?_eq_none (by simp at hvs;omega)];rfl
 refine(ij A c M w hR hl hc).mono fun e w' ⟨h1,h2⟩=>?_
 exact⟨_,h1,fun _ _ _=>pG _,h2⟩
theorem E8 (n:Int) (x:List Int):CallC Tryd.prog 34 [.raw (.int .i64 n),mq x] ⟨[],.raw (.bool (FitB n x))⟩:=by
 refine fc (by kernel_rfl) fun X w vs hX hvs ha=>?_
 obtain⟨v0,e0,r0⟩:=jx ha (j:=0) rfl;obtain⟨v1,e1,r1⟩:=jx ha (j:=1) rfl;obtain rfl:=n4 r0;obtain⟨B,d,rfl,hd,hlx,hx⟩:=gT r1;obtain rfl:vs= #[.int .i64 n,.slice B x.length d]:=by
  apply Array.ext_getElem?;intro j
  match j with
  |0=>exact e0
  |1=>exact e1
  |j+2=>rw[Array.getElem?_eq_none (by simp at hvs;omega)];rfl
 refine(lF n B d x w hx hlx).mono fun e w' ⟨h1,h2⟩=>?_
 subst h2;exact⟨_,h1,fun _ _ _=>pG _,Ext.refl _⟩
theorem HZ (a b:List (List Int)):CallC Tryd.prog 9 [bT a,bT b] ⟨[],.raw (.bool (decide (a=b)))⟩:=by
 refine fc (by kernel_rfl) fun X w vs hX hvs ha=>?_
 obtain⟨v0,e0,r0⟩:=jx ha (j:=0) rfl;obtain⟨v1,e1,r1⟩:=jx ha (j:=1) rfl;obtain⟨A,c,rfl,hc,hl,hA⟩:=kn r0;obtain⟨B,d,rfl,hd,hlb,hB⟩:=kn r1;obtain rfl:vs= #[.slice A a.length c,.slice B b.length d]:=by
  apply Array.ext_getElem?;intro j
  match j with
  |0=>exact e0
  |1=>exact e1
  |j+2=>rw[Array.getElem?_eq_none (by simp at hvs;omega)];rfl
 refine(CS A B c d a b w hA hB hl hlb).mono fun e w' ⟨h1,h2⟩=>?_
 exact⟨_,h1,fun _ _ _=>pG _,h2⟩
theorem CF {X:Nat->Prop} {w:World} {l:List Int} {b off c:Nat} (hX: ¬X b) (hb:b<w.heap.size) (hl:l.length<=c) (hm:l.length<=9223372036854775807) (h:RdI .i64 w (some ⟨b,off,none⟩) l):bS X w (.sl (ls fI l)) (.slice (some ⟨b,off,none⟩) l.length c):=by
 have hc: ∀(i:Nat) (z:Int),l[i]?=some z->w.cell? ⟨b,off+i,none⟩=some (.int .i64 z):=fun i z hz=>by
  cases l with
  |nil=>simp at hz
  |cons z0 l0=>
   obtain⟨b',off',h1,hc⟩:=h (by simp);injection h1 with h1
   injection h1 with h1 h2
   subst h1 h2;exact hc i _ (by rw[ax,hz];rfl)
 have:=bS.sl (X:=X) (w:=w) b off 1 c (ls fI l) (fun i _=> .int .i64 (l.getD i 0)) hX hb (fun e he=>by
  obtain⟨z,_,rfl⟩:=List.mem_map.1 he;rfl) (by rw[fd];exact hl) (by rw[fd];exact hm) (fun i e j x he hx=>by
  rw[gp]at he;obtain⟨z,hz,rfl⟩:=Option.map_eq_some_iff.1 he;cases j with
  |succ j=>simp[fI]at hx
  |zero=>
   simp only[Nat.mul_one,Nat.add_zero,List.getD_eq_getElem?_getD,hz,Option.getD_some];exact hc i z hz) (fun i e j x he hx=>by
  rw[gp]at he;obtain⟨z,hz,rfl⟩:=Option.map_eq_some_iff.1 he;cases j with
  |succ j=>simp[fI]at hx
  |zero=>
   simp[fI]at hx;subst hx;simp only[List.getD_eq_getElem?_getD,hz,Option.getD_some];exact bS.raw _ rfl)
 rw[fd]at this;exact this
theorem Cu (M:List (List Int)) (x:List Int) (hM:bD M=true) (hx:FitB M.length x=true):CallC Tryd.prog 36 [bT M,mq x] ⟨[],mq (cg M x)⟩:=by
 refine oD (by kernel_rfl) fun X w vs hX hvs ha=>?_
 obtain⟨v0,e0,r0⟩:=jx ha (j:=0) rfl;obtain⟨v1,e1,r1⟩:=jx ha (j:=1) rfl;obtain⟨A,c,rfl,hc,hl,hR⟩:=kn r0;obtain⟨B,d,rfl,hd,hlx,hrx⟩:=gT r1;obtain rfl:vs= #[.slice A M.length c,.slice B x.length d]:=by
  apply Array.ext_getElem?;intro j
  match j with
  |0=>exact e0
  |1=>exact e1
  |j+2=>rw[Array.getElem?_eq_none (by simp at hvs;omega)];rfl
 have hs:=dS hM;obtain⟨hxl,hxb⟩:=fo.1 hx;have h8:M.length<=8:=hs.2.1;have h1:1<=M.length:=hs.1;refine(qI A B c d M x w hR hrx (by omega) (fun i hi=>by rw[hs.2.2.1 i hi];omega) hlx).mono fun e w' ⟨h1,h2,h3⟩=>?_
 refine⟨_,h1,fun ρ H Y hY=>?_,h3⟩;have hlen:=ig M x;have hb:w.heap.size<w'.heap.size:=by
  obtain⟨b,off,h4,h5⟩:=h2 (by intro h;rw[List.map_eq_nil_iff]at h;rw[h]at hlen;simp at hlen;omega);injection h4 with h4
  injection h4 with h4 h6
  subst h4 h6;cases hz:(cg M x)[0]? with
  |none=>rw[List.getElem?_eq_none_iff]at hz;omega
  |some z=>exact lD (h5 0 _ (by rw[ax,hz];rfl))
 have:=CF (X:=Y) (c:=M.length) (fun h=>absurd (hY _ h) (by omega)) hb (by omega) (by omega) h2;rw[hlen]at this;exact this
theorem Hw (M:List (List Int)) (x y:List Int) (hM:bD M=true) (hx:FitB M.length x=true) (hy:FitB M.length y=true):CallC Tryd.prog 35 [mq x,mq (cg M y)] ⟨[],It (eg x (cg M y) x.length)⟩:=by
 refine fc (by kernel_rfl) fun X w vs hX hvs ha=>?_
 obtain⟨v0,e0,r0⟩:=jx ha (j:=0) rfl;obtain⟨v1,e1,r1⟩:=jx ha (j:=1) rfl;obtain⟨A,c,rfl,hc,hl,hrx⟩:=gT r0;obtain⟨B,d,rfl,hd,hly,hry⟩:=gT r1;obtain rfl:vs= #[.slice A x.length c,.slice B (cg M y).length d]:=by
  apply Array.ext_getElem?;intro j
  match j with
  |0=>exact e0
  |1=>exact e1
  |j+2=>rw[Array.getElem?_eq_none (by simp at hvs;omega)];rfl
 have hs:=dS hM;obtain⟨hxl,hxb⟩:=fo.1 hx;obtain⟨hyl,hyb⟩:=fo.1 hy;have h8:M.length<=8:=hs.2.1;have hlen:=ig M y;refine(xT A B c d x (cg M y) w hrx hry (by omega) (by omega) hly (fun i z hz=>iP hxb hz) (qH hs hyb)).mono fun e w' ⟨h1,h2⟩=>?_
 refine⟨_,h1,fun ρ H Y=>?_,h2⟩;unfold It oN;split
 ·exact nY _ _
 exact nY _ _
/-! The plain side of Gram. -/
def vG (M l:List (List Int)) (i j:Nat):Int:=eg (l.getD i []) (cg M (l.getD j [])) (l.getD i []).length
structure PG (M l:List (List Int)) (i j:Nat):Prop where
 x:FitB M.length (l.getD i [])=true
 y:FitB M.length (l.getD j [])=true
 lo: -4611686018427387904<=vG M l i j
 hi:vG M l i j<=4611686018427387904
def I4 (M l:List (List Int)):Prop:=bD M=true/\ ∀i,i<l.length-> ∀j,j<l.length->PG M l i j
theorem wA {M:List (List Int)} {x y:List Int} (hM:bD M=true) (hx:FitB M.length x=true) (hy:FitB M.length y=true):
  eg x (cg M y) x.length=BF M.length (ent M) (fun i=>x.getD i 0) (fun i=>y.getD i 0):=by
 obtain⟨h1,h8,hsq,hr⟩:=(eK M).1 hM;obtain⟨hxl,hxb⟩:=fo.1 hx;obtain⟨hyl,hyb⟩:=fo.1 hy;generalize hn:M.length=n at*
 have eM:M=bL n n (ent M):=by
  apply List.ext_getElem?;intro i;by_cases hi:i<n
  ·rw[bq _ _ hi];obtain⟨r,hr'⟩:=getElem?_of_lt (show i<M.length by omega);rw[hr'];have hrl:r.length=n:=by
    have:=hsq i (by omega);rw[List.getD_eq_getElem?_getD,hr']at this;simpa[hn] using this
   refine congrArg some ?_;apply List.ext_getElem?;intro j;by_cases hj:j<n
   ·rw[aX _ hj];obtain⟨z,hz⟩:=getElem?_of_lt (show j<r.length by omega);rw[hz];simp[ent,List.getD_eq_getElem?_getD,hr',hz]
   rw[aq (by omega),aq (by rw[bA];omega)]
  rw[aq (by omega),aq (by rw[aU];omega)]
 have er: ∀(x:List Int),x.length=n->x=bz n (fun i=>x.getD i 0):=fun x hxl=>by
  apply List.ext_getElem?;intro j;by_cases hj:j<n
  ·rw[aX _ hj];obtain⟨z,hz⟩:=getElem?_of_lt (show j<x.length by omega);simp[List.getD_eq_getElem?_getD,hz]
  rw[aq (by omega),aq (by rw[bA];omega)]
 have hM2:bD (bL n n (ent M))=true:=by rw[<- eM];exact hM
 have ex:=er x hxl;have ey:=er y hyl;rw[show cg M y=Jt n n (ent M) y by rw[<- vR hM2 hyb,<- eM],hxl,Jt];generalize(fun i=>x.getD i 0)=fx at*
 generalize(fun i=>y.getD i 0)=fy at*
 rw[ex,ey,lj _ _ n (ac _)];exact aF n fun i _=>by rw[lj _ _ n (ac _)]
theorem DF {M l:List (List Int)} {i j:Nat} (hM:bD M=true) (hi:FitB M.length (l.getD i [])=true) (hj:FitB M.length (l.getD j [])=true):vG M l i j=vG M l j i:=by
 unfold vG;rw[wA hM hi hj,wA hM hj hi];obtain⟨h1,h8,hsq,hr⟩:=(eK M).1 hM;exact ky hr.1 _ _
theorem HU {P:Program} {fn:Func} {s:AS} {r:TV} (k:Nat) (hk:s.tmps[k]?=some (.raw (.slice none 0 0))) (hd:s.H 1000=[]) (h:nK P ⟨s.tmps.set k (.one (.p (.sl []))),s.H⟩ fn.results.toList=some r) (hp:noRefTV r=true): ∃s',bX s s'/\kq P fn ⟨[],r⟩ s':=
 ⟨_,D4 k hk,l8 hd h hp⟩
theorem Hb {s:AS} {w0 w:World} {O X:Nat->Prop} {ρ:Rho} {act:Act} (a:Nat) (hok:qk s.H a) (hinv:Inv w0 O X s.H ρ w) (htm:bC X ρ s act w):Inv w0 O X (aO s.H a []) ρ w/\bC X ρ ⟨s.tmps.map (fV s.H a),aO s.H a []⟩ act w:=by
 have hna: ∀(x y:Nat) o,(aO s.H a [] x)[y]?=some o->x≠a/\(s.H x)[y]?=some o:=fun x y o ho=>by
  by_cases hx:x=a
  ·subst hx;rw[aY]at ho;simp at ho
  rw[aL hx]at ho;exact⟨hx,ho⟩
 have hXo: ∀b,Xo X ρ (aO s.H a []) b->Xo X ρ s.H b:=fun b hb=>by
  rcases hb with hb|⟨x,y,o,n,g1,g2⟩
  ·exact .inl hb
  exact .inr ⟨x,y,o,n,(hna x y o g1).2,g2⟩
 have hZb: ∀(r:Nat) o,(s.H a)[r]?=some o-> ∀b c,ρ a r=some (b,c)-> ¬Xo X ρ (aO s.H a []) b:=fun r o ho b c hr hX=>by
  rcases hX with hX|⟨x,y,o',n,g1,g2⟩
  ·exact(hinv.old a r o b c ho hr).2 hX
  obtain⟨hx,g1'⟩:=hna x y o' g1;exact hx (hinv.inj x y a r o' o b n c g1' ho g2 hr).1
 have hpure: ∀x u,isPure x=true->AV.rel ρ s.H (Xo X ρ s.H) w x u->bS (Xo X ρ (aO s.H a [])) w (s9 x) u:=fun x u hp h=>by
  cases x<;>first|exact bS.weaken (fun b _ hb=>hXo b hb) h|cases hp
 have hcell: ∀(r:Nat) o,(s.H a)[r]?=some o-> ∀e∈o.elems,∀x∈e,∀u,AV.rel ρ s.H (Xo X ρ s.H) w x u->bS (Xo X ρ (aO s.H a [])) w (gO s.H a x) u:=fun r o ho e he x hx u hu=>by
  rcases hok r o ho e he x hx with hp|⟨r',off,len,o',rfl,ho',hpr⟩
  ·have:=hpure x u hp hu;cases x<;>first|exact this|cases hp
  simp only[gO,ho'];exact ki (hinv.objs a r' o' ho') ho' (fun e he y hy u hu=>hpure y u (hpr e he y hy) hu) (hZb r' o' ho') hu
 have hmap: ∀x v,AV.rel ρ s.H (Xo X ρ s.H) w x v->AV.rel ρ (aO s.H a []) (Xo X ρ (aO s.H a [])) w (eo s.H a x) v:=fun x v h=>by
  cases x with
  |p x=>exact bS.weaken (fun b _ hb=>hXo b hb) h
  |sl b r off len=>
   simp only[eo];by_cases hb:b=a
   ·subst hb;rw[if_pos rfl];have h':=h;obtain⟨o,g1,g2,g3⟩:=h;rw[g1];exact ki (hinv.objs b r o g1) g1 (hcell r o g1) (hZb r o g1) h'
   rw[if_neg hb];obtain⟨o,g1,g2⟩:=h;exact⟨o,by rw[aL hb];exact g1,g2⟩
  |ptr b r i j=>
   simp only[eo];by_cases hb:b=a
   ·subst hb;rw[if_pos rfl];trivial
   rw[if_neg hb];obtain⟨o,b',c,g1,g2⟩:=h;exact⟨o,b',c,by rw[aL hb];exact g1,g2⟩
  |junk=>trivial
 have hagg: ∀cs v,bv ρ s.H (Xo X ρ s.H) w cs v->bv ρ (aO s.H a []) (Xo X ρ (aO s.H a [])) w (cs.map (eo s.H a)) v:=fun cs v h=>by
  obtain⟨vs,g1,g2,g3⟩:=h;refine⟨vs,g1,by simpa using g2,fun j x hx=>?_⟩;rw[ax]at hx;obtain⟨y,hy,rfl⟩:=Option.map_eq_some_iff.1 hx;obtain⟨u,u1,u2,u3⟩:=g3 j y hy;exact⟨u,u1,u2,hmap y u u3⟩
 refine⟨⟨hinv.keep,fun x y o ho=>?_,fun x y x' y' o o' b c c' ho ho'=>hinv.inj x y x' y' o o' b c c' (hna x y o ho).2 (hna x' y' o' ho').2,fun x y o b c ho=>hinv.old x y o b c (hna x y o ho).2,hinv.bar,fun x y o ho=>hinv.self x y o (hna x y o ho).2⟩,fun t x hx=>?_⟩
 ·obtain⟨hx,ho'⟩:=hna x y o ho;obtain⟨q1,q2,q3⟩:=hinv.objs x y o ho';refine⟨q1,q2,?_⟩;cases hr:ρ x y with
  |none=>rw[hr]at q3;exact q3
  |some bc=>
   obtain⟨b,c⟩:=bc;rw[hr]at q3;obtain⟨cells,p1,p2,p3,p4,p5⟩:=q3;refine⟨cells,p1,p2,p3,p4,fun i e j z he hz=>?_⟩;obtain⟨u,u1,u2,u3⟩:=p5 i e j z he hz;have hs:=hinv.self x y o ho' e (List.mem_of_getElem? he) z (List.mem_of_getElem? hz);have:=hmap z u u3;refine⟨u,u1,u2,?_⟩;cases z with
   |sl z _ _ _=>have hs:z=x:=hs;subst hs;simpa[eo,hx] using this
   |ptr z _ _ _=>have hs:z=x:=hs;subst hs;simpa[eo,hx] using this
   |p z=>exact this
   |junk=>trivial
 simp only[ax]at hx;obtain⟨y,hy,rfl⟩:=Option.map_eq_some_iff.1 hx;obtain⟨v,v1,v2⟩:=htm t y hy;refine⟨v,v1,?_⟩;cases y with
 |one x=>exact hmap x v v2
 |agg cs=>exact hagg cs v v2
 |fn f cs=>obtain⟨u,h1,h2⟩:=v2;exact⟨u,hagg cs u h1,h2⟩
 |tup ts=>
  obtain⟨vs,g1,g2,g3⟩:=v2;refine⟨vs,g1,by simpa using g2,fun j b cs hj=>?_⟩;rw[ax]at hj;obtain⟨z,hz,hzz⟩:=Option.map_eq_some_iff.1 hj;obtain⟨b',cs'⟩:=z;simp at hzz;obtain⟨rfl,rfl⟩:=hzz;obtain⟨u,u1,u2⟩:=g3 j b' cs' hz;refine⟨u,u1,?_⟩;rcases u2 with⟨u2,u3⟩|⟨u2,q,rfl,u4⟩
  ·exact .inl ⟨u2,hagg _ _ u3⟩
  exact .inr ⟨u2,_,rfl,hmap q u u4⟩
theorem lg {s:AS} (a k:Nat) {ty:TypeId} {es:Nat} {cs:List PV} (hH:s.H a=[⟨ty,es,[cs.map AV.p]⟩]) (hk:s.tmps[k]?=some (.one (.ptr a 0 0 0))):bX s ⟨(s.tmps.map (fV s.H a)).set k (.one (.p (.ptr cs))),aO s.H a []⟩:=by
 rintro w0 O X act w ⟨h1,hsz,ρ,hinv,htm⟩;have htm:bC X ρ s act w:=htm;have hrow:(s.H a)[0]?=some ⟨ty,es,[cs.map AV.p]⟩:=by rw[hH];rfl
 have hok:qk s.H a:=fun r o ho e he x hx=>by
  rw[hH]at ho;cases r with
  |succ r=>simp at ho
  |zero=>
   simp at ho;subst ho;simp at he;subst he;obtain⟨y,_,rfl⟩:=List.mem_map.1 hx;exact .inl rfl
 obtain⟨hinv',htm'⟩:=Hb a hok hinv htm;refine⟨h1,by simpa using hsz,ρ,hinv',fun t x hx=>?_⟩;by_cases e:t=k
 ·subst e;simp only at hx;have hlt:=(List.getElem?_eq_some_iff.1 hk).1;rw[List.getElem?_set_self (by simpa using hlt)]at hx;injection hx with hx
  subst hx;obtain⟨v,v1,o,b,c,g1,g2,g3,rfl⟩:=htm t _ hk;rw[hrow]at g1;injection g1 with g1
  subst g1;refine⟨_,v1,?_⟩;obtain⟨q1,q2,q3⟩:=hinv.objs a 0 _ hrow;rw[g2]at q3;obtain⟨cells,p1,p2,p3,p4,p5⟩:=q3;have hXo: ∀b,Xo X ρ (aO s.H a []) b->Xo X ρ s.H b:=fun b hb=>by
   rcases hb with hb|⟨x,y,o,n,g1,g2⟩
   ·exact .inl hb
   by_cases hx:x=a
   ·subst hx;rw[aY]at g1;simp at g1
   rw[aL hx]at g1;exact .inr ⟨x,y,o,n,g1,g2⟩
  have hnb: ¬Xo X ρ (aO s.H a []) b:=fun hX=>by
   rcases hX with hX|⟨x,y,o',n,g1,g3⟩
   ·exact(hinv.old a 0 _ b c hrow g2).2 hX
   by_cases hx:x=a
   ·subst hx;rw[aY]at g1;simp at g1
   rw[aL hx]at g1;exact hx (hinv.inj x y a 0 o' _ b n c g1 hrow g3 g2).1
  show bS _ w (.ptr cs) _;rw[show(0:Nat)*(⟨ty,es,[cs.map AV.p]⟩:OObj).es+0=0 by simp];have hkey: ∀(j:Nat) x,cs[j]?=some x-> ∃u:Value,cells[j]?=some u/\bS (Xo X ρ (aO s.H a [])) w x u:=fun j x hx=>by
   obtain⟨u,u1,u2,u3⟩:=p5 0 (cs.map AV.p) j (.p x) rfl (by rw[ax,hx];rfl);refine⟨u,by simpa using u1,bS.weaken (fun b _ hb=>hXo b hb) u3⟩
  refine bS.ptr b 0 cs (fun j=>(cells[j]?).getD undef) hnb (Array.getElem?_eq_some_iff.1 p1).1 (fun j x hx=>?_) (fun j x hx=>?_)
  ·obtain⟨u,u1,u2⟩:=hkey j x hx;rw[cell_of_row _ b _ cells _ _ p1,Nat.zero_add,u1];rfl
  obtain⟨u,u1,u2⟩:=hkey j x hx;simp only[u1,Option.getD_some];exact u2
 simp only at hx;rw[List.getElem?_set_ne (Ne.symm e)]at hx;exact htm' t x hx
section
def Io (k:Nat) (f:List Nat->Int):Prop:= ∀xs c d ys,xs.length+ys.length+2=k->f (xs++c::d::ys)= - f (xs++d::c::ys)
theorem Io.cons {k:Nat} {f:List Nat->Int} (h:Io (k+1) f) (c:Nat):Io k (fun l=>f (c::l)):=fun xs a b ys hl=>h (c::xs) a b ys (by simp;omega)
theorem x8 {r:Nat->Int}: ∀(cs:List Nat) {f g:List Nat->Int},(∀l,l.length+1=cs.length->f l= - g l)->ce r f cs= - ce r g cs
 |[],_,_,_=>rfl
 |c::cs,f,g,h=>by
  rw[ce,ce,h cs rfl,x8 cs (f:=fun l=>f (c::l)) (g:=fun l=>g (c::l)) (fun l hl=>h (c::l) (by simp;omega))];grind
theorem xE {r:Nat->Int}: ∀(xs:List Nat) (k:Nat) (f:List Nat->Int),Io k f-> ∀c d ys,xs.length+ys.length+2=k+1->ce r f (xs++c::d::ys)= - ce r f (xs++d::c::ys)
 |[],k,f,h,c,d,ys,hl=>by
  have e:=x8 (r:=r) ys (f:=fun l=>f (c::d::l)) (g:=fun l=>f (d::c::l)) (fun l hl'=>h [] c d l (by simp at hl⊢;omega));simp only[List.nil_append,ce];rw[e];grind
 |x::xs,k,f,h,c,d,ys,hl=>by
  obtain⟨k,rfl⟩: ∃k',k=k'+1:=⟨k-1,by simp at hl;omega⟩;simp only[List.cons_append,ce];rw[xE xs k _ (h.cons x) c d ys (by simp at hl;omega),h xs c d ys (by simp at hl;omega)];grind
theorem wN (R:FF): ∀k,Io k (om R k)
 |0=>fun xs c d ys h=>by omega
 |k+1=>fun xs c d ys h=>xE xs k _ (wN R k) c d ys h
theorem rO {k:Nat} {f:List Nat->Int} (h:Io k f) (c:Nat) (ys:List Nat): ∀(xs zs:List Nat),zs.length+xs.length+ys.length+2=k->f (zs++c::(xs++c::ys))=0
 |[],zs,hl=>by
  have:=h zs c c ys (by simp at hl;omega);simp only[List.nil_append];omega
 |x::xs,zs,hl=>by
  have h1:=h zs c x (xs++c::ys) (by simp at hl⊢;omega);have h2:=rO h c ys xs (zs++[x]) (by simp at hl⊢;omega);rw[List.append_assoc]at h2;simp only[List.cons_append,List.nil_append]at h1 h2⊢;rw[h1,h2];rfl
/-! Columns. -/
theorem jb {r s:Nat->Int}: ∀(cs:List Nat) {f g:List Nat->Int},cs.Nodup->(∀c∈cs,r c=s c)->(∀l,l.length+1=cs.length->(∀c∈l,c∈cs)->l.Nodup->f l=g l)->ce r f cs=ce s g cs
 |[],_,_,_,_,_=>rfl
 |c::cs,f,g,hn,h,hf=>by
  obtain⟨hc,hn'⟩:=List.nodup_cons.1 hn;rw[ce,ce,h c List.mem_cons_self,hf cs rfl (fun d hd=>List.mem_cons_of_mem _ hd) hn',jb cs hn' (fun d hd=>h d (List.mem_cons_of_mem _ hd)) (fun l hl hs hl2=>hf (c::l) (by simp;omega) (fun d hd=>by
   rcases List.mem_cons.1 hd with rfl|hd
   ·exact List.mem_cons_self
   exact List.mem_cons_of_mem _ (hs d hd)) (List.nodup_cons.2 ⟨fun h=>hc (hs c h),hl2⟩))]
def cb (R:FF) (a:Nat) (S:Nat->Int):Nat->Nat->Int:=fun i c=>if c=a then S i else R i c
theorem j2 (R:FF) (a:Nat):cb R a (fun i=>R i a)=R:=by
 funext i c;unfold cb;split
 ·rename_i h;rw[h]
 rfl
theorem x7 {a:Nat} {u t s s':Int} {r:Nat->Int}: ∀(cs:List Nat) (f fS fT:List Nat->Int),cs.Nodup->a∈cs->
  (∀l,l.length+1=cs.length->(∀c∈l,c∈cs)->l.Nodup->(a∈l->f l=u*fS l+t*fT l)/\(a∉l->fS l=f l/\fT l=f l))->
  ce (fun c=>if c=a then u*s+t*s' else r c) f cs=u*ce (fun c=>if c=a then s else r c) fS cs+t*ce (fun c=>if c=a then s' else r c) fT cs
 |[],_,_,_,_,h,_=>by simp at h
 |c::cs,f,fS,fT,hn,ha,h=>by
  obtain⟨hc,hn'⟩:=List.nodup_cons.1 hn;have hsub: ∀l:List Nat,(∀c∈l,c∈cs)-> ∀d∈c::l,d∈c::cs:=fun l hs d hd=>by
   rcases List.mem_cons.1 hd with rfl|hd
   ·exact List.mem_cons_self
   exact List.mem_cons_of_mem _ (hs d hd)
  obtain⟨h1,h2⟩:=h cs rfl (fun d hd=>List.mem_cons_of_mem _ hd) hn';rw[ce,ce,ce];by_cases e:c=a
  ·subst e;obtain⟨h3,h4⟩:=h2 hc;have e0: ∀d∈cs,d≠c:=fun d hd e=>hc (e▸hd)
   have e1:ce (fun d=>if d=c then u*s+t*s' else r d) (fun l=>f (c::l)) cs=ce r (fun l=>u*fS (c::l)+t*fT (c::l)) cs:=
    jb cs hn' (fun d hd=>by simp[e0 d hd]) (fun l hl hs hl2=>(h (c::l) (by simp;omega) (hsub l hs) (List.nodup_cons.2 ⟨fun h=>hc (hs c h),hl2⟩)).1 List.mem_cons_self)
   have e2:ce (fun d=>if d=c then s else r d) (fun l=>fS (c::l)) cs=ce r (fun l=>fS (c::l)) cs:=jb cs hn' (fun d hd=>by simp[e0 d hd]) (fun _ _ _ _=>rfl);have e3:ce (fun d=>if d=c then s' else r d) (fun l=>fT (c::l)) cs=ce r (fun l=>fT (c::l)) cs:=jb cs hn' (fun d hd=>by simp[e0 d hd]) (fun _ _ _ _=>rfl);rw[e1,e2,e3,o7,h3,h4];simp only[if_pos];grind
  have ha':a∈cs:=by
   rcases List.mem_cons.1 ha with h|h
   ·exact absurd h.symm e
   exact h
  have ih:=x7 (u:=u) (t:=t) (s:=s) (s':=s') (r:=r) cs (fun l=>f (c::l)) (fun l=>fS (c::l)) (fun l=>fT (c::l)) hn' ha' (fun l hl hs hl2=>by
   obtain⟨q1,q2⟩:=h (c::l) (by simp;omega) (hsub l hs) (List.nodup_cons.2 ⟨fun h=>hc (hs c h),hl2⟩);exact⟨fun hal=>q1 (List.mem_cons_of_mem _ hal),fun hal=>q2 (fun h=>by
    rcases List.mem_cons.1 h with h|h
    ·exact e h.symm
    exact hal h)⟩)
  rw[ih,h1 ha'];simp only[if_neg e];grind
theorem Cl {R:FF} {a:Nat} {u t:Int} {S T:Nat->Int}: ∀(k:Nat) (cs:List Nat),cs.Nodup->cs.length=k->a∈cs->
  om (cb R a (fun i=>u*S i+t*T i)) k cs=u*om (cb R a S) k cs+t*om (cb R a T) k cs
 |0,cs,_,hl,ha=>by rw[List.length_eq_zero_iff.1 hl]at ha;simp at ha
 |k+1,cs,hn,hl,ha=>by
  refine x7 (r:=R k) (s:=S k) (s':=T k) cs _ _ _ hn ha (fun l hl' hs hl2=>⟨fun hal=>Cl k l hl2 (by omega) hal,fun hal=>?_⟩);have hne: ∀c∈l,c≠a:=fun c hc e=>hal (e▸hc)
  exact⟨kh fun i _ c hc=>by simp[cb,hne c hc],kh fun i _ c hc=>by simp[cb,hne c hc]⟩
theorem x9 {r:Nat->Int} (p:Nat->Nat): ∀(cs:List Nat) (f:List Nat->Int),ce (fun c=>r (p c)) (fun l=>f (l.map p)) cs=ce r f (cs.map p)
 |[],_=>rfl
 |c::cs,f=>by
  rw[ce,List.map_cons,ce];have:=x9 (r:=r) p cs (fun l=>f (p c::l));rw[<- this];rfl
theorem Cm {R:FF} (p:Nat->Nat): ∀(k:Nat) (cs:List Nat),om (fun i c=>R i (p c)) k cs=om R k (cs.map p)
 |0,_=>rfl
 |k+1,cs=>by
  have e:om (fun i c=>R i (p c)) k=fun l=>om R k (l.map p):=funext (Cm p k)
  show ce (fun c=>R k (p c)) (om (fun i c=>R i (p c)) k) cs=_;rw[e,x9 p cs (om R k)];rfl
theorem Cn {R:FF} {a b k:Nat} {cs:List Nat} (hn:cs.Nodup) (hl:cs.length=k) (ha:a∈cs) (hb:b∈cs) (hab:a≠b):om (cb R a (fun i=>R i b)) k cs=0:=by
 have e:cb R a (fun i=>R i b)=fun i c=>R i (if c=a then b else c):=by
  funext i c;unfold cb;split<;>rfl
 rw[e,Cm (R:=R) (fun c=>if c=a then b else c)];obtain⟨s,t,rfl⟩:=List.append_of_mem ha;have hb':b∈s\/b∈t:=by
  rcases List.mem_append.1 hb with h|h
  ·exact .inl h
  rcases List.mem_cons.1 h with h|h
  ·exact absurd h.symm hab
  exact .inr h
 rcases hb' with h|h
 ·obtain⟨x,y,rfl⟩:=List.append_of_mem h;simp only[List.map_append,List.map_cons,if_pos,if_neg (Ne.symm hab),List.append_assoc,List.cons_append];exact rO (wN R k) b _ _ _ (by simp at hl⊢;omega)
 obtain⟨x,y,rfl⟩:=List.append_of_mem h;simp only[List.map_append,List.map_cons,if_pos,if_neg (Ne.symm hab)];exact rO (wN R k) b _ _ _ (by simp at hl⊢;omega)
theorem oJ: ∀n,(i7 n).length=n
 |0=>rfl
 |n+1=>by rw[i7,List.length_cons,oJ n]
theorem mA: ∀n,(i7 n).Nodup
 |0=>List.nodup_nil
 |n+1=>List.nodup_cons.2 ⟨fun h=>by have:=ii h;omega,mA n⟩
theorem r8 {n c:Nat} (h:c<n):c∈i7 n:=by
 induction n with
 |zero=>omega
 |succ n ih=>
  by_cases e:c=n
  ·rw[e];exact List.mem_cons_self
  exact List.mem_cons_of_mem _ (ih (by omega))
section
variable {R:FF} {n a b:Nat} (ha:a<n)
include ha
theorem mC (u t:Int) (S T:Nat->Int):dk (cb R a (fun i=>u*S i+t*T i)) n=u*dk (cb R a S) n+t*dk (cb R a T) n:=Cl n _ (mA n) (oJ n) (r8 ha)
theorem oM (hb:b<n) (hab:a≠b):dk (cb R a (fun i=>R i b)) n=0:=Cn (mA n) (oJ n) (r8 ha) (r8 hb) hab
theorem xS {S:Nat->Int} (h: ∀i,i<n->S i=0):dk (cb R a S) n=0:=by
 have h1:=mC (R:=R) (n:=n) ha 0 0 S S;have h2:dk (cb R a S) n=dk (cb R a (fun i=>0*S i+0*S i)) n:=gh fun i j hi _=>by
  unfold cb;split
  ·show S i=0*S i+0*S i;rw[h i hi];rfl
  rfl
 rw[h2,h1];omega
theorem j3 (hb:b<n) (hab:a≠b) (t:Int):dk (cb R a (fun i=>R i a+t*R i b)) n=dk R n:=by
 have h1:=mC (R:=R) (n:=n) ha 1 t (fun i=>R i a) (fun i=>R i b);rw[j2,oM ha hb hab]at h1;simp only[Int.one_mul,Int.mul_zero,Int.add_zero]at h1;exact h1
theorem qN:dk (cb R a (fun i=> - R i a)) n= - dk R n:=by
 have h1:=mC (R:=R) (n:=n) ha (-1) 0 (fun i=>R i a) (fun i=>R i a);rw[j2]at h1;have e:(fun i=> -1*R i a+0*R i a)=fun i=> - R i a:=by funext i;omega
 rw[e]at h1;rw[h1];omega
end
theorem oL {R:FF} {n a b:Nat} (ha:a<n) (hb:b<n) (hab:a≠b):dk (fun i c=>if c=a then R i b else if c=b then R i a else R i c) n= - dk R n:=by
 have h1:=j3 (R:=R) ha hb hab 1;generalize hR1:cb R a (fun i=>R i a+1*R i b)=R1 at h1;have h2:=j3 (R:=R1) hb ha (Ne.symm hab) (-1);generalize hR2:cb R1 b (fun i=>R1 i b+ -1*R1 i a)=R2 at h2;have h3:=j3 (R:=R2) ha hb hab 1;generalize hR3:cb R2 a (fun i=>R2 i a+1*R2 i b)=R3 at h3;have h4:=qN (R:=R3) hb;rw[h3,h2,h1]at h4;rw[<- h4]
 congr 1
 funext i c;subst hR3 hR2 hR1;unfold cb;by_cases e1:c=a
 ·subst e1;simp[hab];omega
 by_cases e2:c=b
 ·subst e2;simp[Ne.symm hab];omega
 simp[e1,e2]
/-! Rows exchanged. -/
theorem G4 (n:Nat):dk (fun i j=>if i=j then 1 else 0) n=1:=by
 induction n with
 |zero=>rfl
 |succ n ih=>
  rw[bK,bk,ce,j5 (i7 n) _ (fun c hc=>by have:=ii hc;simp;omega)];unfold dk at ih;rw[ih];simp
end
section
def PD (f:FF) (n:Nat):Prop:=SymF f n/\ ∀k,k<n->0<dk f (k+1)
theorem dZ.pd {f:FF} {n:Nat} (h:dZ f n):PD f n:=⟨h.1,h.2.1⟩
theorem PD.det {f:FF} {n:Nat} (h:PD f n):0<dk f n:=by
 cases n with
 |zero=>rw[cY];omega
 |succ n=>exact h.2 n (by omega)
variable {n:Nat}
theorem iO {f:FF} {x y:Nat->Int} (h0: ∀i,i<n->x i=0):BF n f x y=0:=by
 unfold BF;rw[aF n (G:=fun _=>0) (fun i hi=>by rw[h0 i hi,Int.zero_mul]),cO]
theorem PD.pos {f:FF} (hr:PD f n) (x:Nat->Int):0<=BF n f x x/\(BF n f x x=0↔ ∀i,i<n->x i=0):=by
 have h:=m4 hr.1 hr.2 x n 0 rfl;have e:BF n (bk f 0) x x=BF n f x x:=dK (fun i j _ _=>cP f i j) (fun _ _=>rfl) (fun _ _=>rfl);rw[e]at h;exact⟨h.1,fun hz i hi=>h.2 hz i (by omega) hi,fun h0=>iO h0⟩
theorem PD.schwarz {f:FF} (hr:PD f n) (x y:Nat->Int):BF n f x y*BF n f x y<=BF n f x x*BF n f y y:=by
 have hs:=ky hr.1 x y;obtain⟨h1,h2⟩:=hr.pos y;obtain⟨q,hq⟩: ∃q,q=BF n f x y:=⟨_,rfl⟩;obtain⟨o,ho⟩: ∃o,o=BF n f y y:=⟨_,rfl⟩;obtain⟨N,hN⟩: ∃N,N=BF n f x x:=⟨_,rfl⟩;have hpos:=(hr.pos (fun i=>(0+o*x i)+(-q)*y i)).1;have e:BF n f (fun i=>(0+o*x i)+(-q)*y i) (fun i=>(0+o*x i)+(-q)*y i)=o*(o*N-q*q):=by
  have ez: ∀u,BF n f (fun _=>0) u=0:=fun u=>iO fun _ _=>rfl
  have ez': ∀u,BF n f u (fun _=>0)=0:=fun u=>by rw[ky hr.1,ez]
  rw[fh f (fun i=>0+o*x i) y,ea f (fun i=>0+o*x i) (fun i=>0+o*x i) y,ea f y (fun i=>0+o*x i) y,
   fh f (fun _=>0) x,fh f (fun _=>0) x,ea f x (fun _=>0) x,ea f y (fun _=>0) x,ez,ez,ez',ez',<- hs,<- hq,<- ho,<- hN]
  grind
 rw[e]at hpos;rw[<- hq,<- ho,<- hN];rw[<- ho]at h1 h2;rcases Int.lt_or_le 0 o with h|h
 ·rcases Int.lt_or_le (o*N-q*q) 0 with hl|hl
  ·have:=Int.mul_neg_of_pos_of_neg h hl;omega
  have e2:N*o=o*N:=Int.mul_comm _ _;omega
 have ho0:o=0:=by omega
 have hy:=h2.1 ho0;have hq0:q=0:=by rw[hq,hs];exact iO hy
 rw[hq0,ho0];simp
/-! The column of cofactors. -/
def eC (i:Nat):Nat->Int:=fun r=>if r=i then 1 else 0
def fp (f:FF) (n j:Nat):Nat->Int:=fun i=>dk (cb f j (eC i)) n
theorem Ib (S:Nat->Int) (m r:Nat):bu (fun i=>S i*eC i r) m=if r<m then S r else 0:=by
 induction m with
 |zero=>simp[bu]
 |succ m ih=>
  rw[bu,ih];unfold eC;by_cases h:r=m
  ·subst h;simp
  have:r<m+1↔r<m:=by omega
  simp[h,this]
theorem nq {f:FF} {j:Nat} (hj:j<n) (S:Nat->Int): ∀m,dk (cb f j (fun r=>bu (fun i=>S i*eC i r) m)) n=bu (fun i=>S i*fp f n j i) m
 |0=>xS hj fun i _=>rfl
 |m+1=>by
  have h:=mC (R:=f) hj 1 (S m) (fun r=>bu (fun i=>S i*eC i r) m) (eC m);rw[nq hj S m]at h;have e:(fun r=>bu (fun i=>S i*eC i r) (m+1))=fun r=>1*bu (fun i=>S i*eC i r) m+S m*eC m r:=by
   funext r;rw[bu,Int.one_mul]
  rw[e,h,bu,Int.one_mul];rfl
theorem Er {f:FF} {j:Nat} (hj:j<n) (S:Nat->Int):dk (cb f j S) n=bu (fun i=>S i*fp f n j i) n:=by
 rw[<- nq hj S n];refine gh fun r c hr _=>?_
 unfold cb;split
 ·show S r=bu (fun i=>S i*eC i r) n;rw[Ib,if_pos hr]
 rfl
theorem xD {f:FF} {j k:Nat} (hj:j<n) (hk:k<n):bu (fun i=>f i k*fp f n j i) n=if k=j then dk f n else 0:=by
 rw[<- Er hj fun i=>f i k];split
 ·rename_i h;subst h;rw[j2]
 rename_i h;exact oM hj hk (Ne.symm h)
theorem rB {f:FF} (hs:SymF f n) {j:Nat} (hj:j<n) (x:Nat->Int):BF n f x (fp f n j)=x j*dk f n:=by
 unfold BF;rw[aF n (G:=fun i=>x i*(if i=j then dk f n else 0)) (fun i hi=>by
  rw[<- xD hj hi]
  congr 1
  exact aF n fun l hl=>by rw[hs i hi l hl])]
 rw[fm hj (fun p _ hne=>by rw[if_neg hne,Int.mul_zero]),if_pos rfl]
def r7 (f:FF) (j m:Nat):Nat->Nat->Int:=fun i l=>if l=j then eC j i else if i=j/\l<m then 0 else f i l
theorem v6 {f:FF} {j:Nat} (hj:j<n): ∀m,m<=n->dk (r7 f j m) n=fp f n j j
 |0,_=>by
  unfold fp
  congr 1
  funext i l;unfold r7 cb;split
  ·rfl
  rw[if_neg (by omega)]
 |m+1,hm=>by
  rw[<- v6 hj m (by omega)];by_cases h:m=j
  ·congr 1
   funext i l;unfold r7;by_cases hl:l=j
   ·rw[if_pos hl,if_pos hl]
   rw[if_neg hl,if_neg hl];have:(i=j/\l<m+1)↔(i=j/\l<m):=by omega
   simp only[this]
  have h1:=j3 (R:=r7 f j m) (n:=n) (a:=m) (b:=j) (by omega) hj h (-(r7 f j m j m));rw[<- h1]
  congr 1
  funext i l;unfold cb;by_cases hl:l=m
  ·subst hl;rw[if_pos rfl];unfold r7 eC;by_cases hi:i=j
   ·subst hi;simp[h]<;>omega
   simp[h,hi]
  rw[if_neg hl];unfold r7;split
  ·rfl
  have:(i=j/\l<m+1)↔(i=j/\l<m):=by omega
  simp only[this]
theorem tH (f:FF) (k:Nat):fp f (k+1) k k=dk f k:=by
 rw[<- v6 (by omega) (k+1) (ac _),bK,bk,ce,j5 (i7 k) _ (fun c hc=>by
  have:=ii hc;unfold r7;rw[if_neg (by omega),if_pos ⟨rfl,by omega⟩])]
 have e:om (r7 f k (k+1)) k (i7 k)=dk f k:=kh fun i hi c hc=>by
  have:=ii hc;unfold r7;rw[if_neg (by omega),if_neg (by omega)]
 rw[e];unfold r7 eC
 simp
theorem Ab {f:FF} (hs:SymF f n) (hp: ∀x:Nat->Int,(∃i,i<n/\x i≠0)->0<BF n f x x):PD f n:=by
 refine⟨hs,fun k hk=>?_⟩;have go: ∀k,k<=n->0<dk f k:=fun k=>by
  induction k with
  |zero=>intro _;rw[cY];omega
  |succ k ih=>
   intro hk;have h0:=ih (by omega);have hsk:SymF f (k+1):=fun i hi j hj=>hs i (by omega) j (by omega)
   have h1:=rB (n:=k+1) hsk (j:=k) (by omega) (fp f (k+1) k);rw[tH]at h1;have h2:=hp (fun i=>if i<k+1 then fp f (k+1) k i else 0) ⟨k,by omega,by simp[tH];omega⟩;have e:BF n f (fun i=>if i<k+1 then fp f (k+1) k i else 0) (fun i=>if i<k+1 then fp f (k+1) k i else 0)=BF (k+1) f (fp f (k+1) k) (fp f (k+1) k):=by
    have ext: ∀(F:Nat->Int) (m:Nat),bu (fun i=>if i<k+1 then F i else 0) (k+1+m)=bu F (k+1):=fun F m=>by
     induction m with
     |zero=>exact aF _ fun p hp=>if_pos hp
     |succ m ihm=>rw[<- Nat.add_assoc,bu,ihm,if_neg (by omega)];omega
    obtain⟨m,rfl⟩: ∃m,n=k+1+m:=⟨n-(k+1),by omega⟩;unfold BF;rw[<- ext (fun i=>fp f (k+1) k i*bu (fun j=>f i j*fp f (k+1) k j) (k+1)) m];refine aF _ fun i _=>?_
    show(if i<k+1 then fp f (k+1) k i else 0)*bu (fun j=>f i j*(if j<k+1 then fp f (k+1) k j else 0)) _=_;by_cases hi:i<k+1
    ·rw[if_pos hi,if_pos hi,<- ext (fun j=>f i j*fp f (k+1) k j) m]
     congr 1
     exact aF _ fun j _=>by
      by_cases hj:j<k+1
      ·rw[if_pos hj,if_pos hj]
      rw[if_neg hj,if_neg hj,Int.mul_zero]
    rw[if_neg hi,if_neg hi,Int.zero_mul]
   rw[e,h1]at h2;rcases Int.lt_or_le 0 (dk f (k+1))with h|h
   ·exact h
   have:=Int.mul_nonpos_of_nonneg_of_nonpos (Int.le_of_lt h0) h;omega
 exact go (k+1) (by omega)
theorem wz {t:FF} (hd:dk t n≠0) {x:Nat->Int} (h: ∀i,i<n->bu (fun j=>t i j*x j) n=0): ∀j,j<n->x j=0:=fun j hj=>by
 have h1:bu (fun i=>bu (fun l=>t i l*x l) n*fp t n j i) n=0:=by
  rw[aF n (G:=fun _=>0) (fun i hi=>by rw[h i hi,Int.zero_mul]),cO]
 have h2:bu (fun i=>bu (fun l=>t i l*x l) n*fp t n j i) n=bu (fun l=>bu (fun i=>t i l*x l*fp t n j i) n) n:=by
  rw[<- iK];exact aF n fun i _=>by rw[<- jT]
 have h3:bu (fun l=>bu (fun i=>t i l*x l*fp t n j i) n) n=bu (fun l=>x l*(if l=j then dk t n else 0)) n:=
  aF n fun l hl=>by
   rw[<- xD hj hl,<- bO];exact aF n fun i _=>by grind
 rw[h2,h3,fm hj (fun p _ hne=>by rw[if_neg hne,Int.mul_zero]),if_pos rfl]at h1;rcases Int.mul_eq_zero.1 h1 with h|h
 ·exact h
 exact absurd h hd
/-! Bounds. -/
def ta (r:Nat->Int):List Nat->Nat
 |[]=>0
 |c::cs=>(r c).natAbs+ta r cs
theorem um {r:Nat->Int} {B:Nat}: ∀(cs:List Nat) (F:List Nat->Int),(∀l,l.Sublist cs->(F l).natAbs<=B)->(ce r F cs).natAbs<=ta r cs*B
 |[],_,_=>by simp[ce]
 |c::cs,F,h=>by
  rw[ce,ta,Nat.add_mul];have h1:=Int.natAbs_sub_le (r c*F cs) (ce r (fun l=>F (c::l)) cs);have h2:=um (r:=r) cs (fun l=>F (c::l)) (fun l hl=>h (c::l) (List.Sublist.cons_cons c hl));rw[Int.natAbs_mul]at h1;have h3:=Nat.mul_le_mul_left (r c).natAbs (h cs (List.sublist_cons_self c cs));omega
theorem Fo {r:Nat->Int} {l m:List Nat} (h:l.Sublist m):ta r l<=ta r m:=by
 induction h with
 |slnil=>exact ac _
 |cons a _ ih=>rw[ta];omega
 |cons_cons a _ ih=>rw[ta,ta];omega
def Gp (R:FF) (cs:List Nat):Nat->Nat
 |0=>1
 |k+1=>ta (R k) cs*Gp R cs k
theorem yk (R:FF) (cs:List Nat): ∀k (l:List Nat),l.Sublist cs->(om R k l).natAbs<=Gp R cs k
 |0,l,_=>by simp[om,Gp]
 |k+1,l,hl=>by
  rw[om,Gp];have h:=um (r:=R k) (B:=Gp R cs k) l (om R k) (fun m hm=>yk R cs k m (hm.trans hl));exact ay h (Nat.mul_le_mul_right _ (Fo hl))
theorem Cx {R:FF} {cs:List Nat} {j A:Nat} (hr: ∀i,i<n->i≠j->ta (R i) cs<=A) (h1:ta (R j) cs<=1): ∀k,k<=n->Gp R cs k<=if j<k then A^(k-1)else A^k
 |0,_=>by simp[Gp]
 |k+1,hkn=>by
  have ih:=Cx hr h1 k (by omega);rw[Gp];by_cases h:k=j
  ·subst h;rw[if_neg (by omega)]at ih;rw[if_pos (by omega),Nat.add_sub_cancel];exact ay (Nat.mul_le_mul h1 ih) (by omega)
  have h2:=hr k (by omega) h;by_cases hk:j<k
  ·rw[if_pos hk]at ih;rw[if_pos (by omega),Nat.add_sub_cancel];obtain⟨m,rfl⟩: ∃m,k=m+1:=⟨k-1,by omega⟩;rw[Nat.add_sub_cancel]at ih;rw[Nat.pow_succ,Nat.mul_comm (A^m)];exact Nat.mul_le_mul h2 ih
  rw[if_neg hk]at ih;rw[if_neg (by omega),Nat.pow_succ,Nat.mul_comm (A^k)];exact Nat.mul_le_mul h2 ih
theorem CL {r:Nat->Int} {B j:Nat} (h0:r j=0): ∀m,(∀c,c<m->(r c).natAbs<=B)->ta r (i7 m)<=if j<m then(m-1)*B else m*B
 |0,_=>by simp[i7,ta]
 |m+1,h=>by
  have ih:=CL h0 m (fun c hc=>h c (by omega));rw[i7,ta];by_cases e:m=j
  ·subst e;rw[if_neg (by omega)]at ih;rw[if_pos (by omega),h0,Nat.add_sub_cancel];simpa using ih
  have h2:=h m (by omega);by_cases hk:j<m
  ·rw[if_pos hk]at ih;rw[if_pos (by omega),Nat.add_sub_cancel];have:m*B=(m-1)*B+B:=by
    obtain⟨q,rfl⟩: ∃q,m=q+1:=⟨m-1,by omega⟩;rw[Nat.add_sub_cancel,Nat.add_mul,Nat.one_mul]
   omega
  rw[if_neg hk]at ih;rw[if_neg (by omega),Nat.add_mul,Nat.one_mul];omega
theorem u5 {r:Nat->Int} {j:Nat} (h1:r j=1): ∀m,(∀c,c<m->c≠j->r c=0)->ta r (i7 m)<=if j<m then 1 else 0
 |0,_=>by simp[i7,ta]
 |m+1,h0=>by
  have ih:=u5 h1 m (fun c hc=>h0 c (by omega));rw[i7,ta];by_cases e:m=j
  ·subst e;rw[if_neg (by omega)]at ih;rw[if_pos (by omega),h1];have:(1:Int).natAbs=1:=rfl;omega
  rw[h0 m (by omega) e];by_cases hk:j<m
  ·rw[if_pos hk]at ih;rw[if_pos (by omega)];simpa using ih
  rw[if_neg hk]at ih;rw[if_neg (by omega)];simpa using ih
theorem GJ {f:FF} {j B:Nat} (hj:j<n) (hf: ∀a b,a<n->b<n->(f a b).natAbs<=B):(fp f n j j).natAbs<=(n*B)^(n-1):=by
 rw[<- v6 hj n (ac _)];have h1:=yk (r7 f j n) (i7 n) n (i7 n) (List.Sublist.refl _);have hrow: ∀i,i<n->i≠j->ta (r7 f j n i) (i7 n)<=n*B:=fun i hi hij=>by
  have:=CL (r:=r7 f j n i) (B:=B) (j:=j) (by unfold r7 eC;simp[hij]) n (fun c hc=>by
   unfold r7 eC;split
   ·simp[hij]
   rw[if_neg (fun h=>hij h.1)];exact hf i c hi hc)
  rw[if_pos hj]at this;exact ay this (Nat.mul_le_mul_right _ (by omega))
 have hu:=u5 (r:=r7 f j n j) (j:=j) (by unfold r7 eC;simp) n (fun c hc hne=>by
  unfold r7;rw[if_neg hne,if_pos ⟨rfl,hc⟩])
 rw[if_pos hj]at hu;have h2:=Cx (n:=n) hrow hu n (ac _);rw[if_pos hj]at h2;exact ay h1 h2
theorem Bw {f:FF} {j B:Nat} (hr:PD f n) (hj:j<n) (hf: ∀a b,a<n->b<n->(f a b).natAbs<=B) (x:Nat->Int) {N:Int} (hN:BF n f x x<=N):x j*x j<=N*((n*B)^(n-1):Nat):=by
 have h1:=hr.schwarz x (fp f n j);rw[rB hr.1 hj,rB hr.1 hj]at h1;have hd:=hr.det;have h2:=GJ hj hf;have hx0:=(hr.pos x).1;have hy0:=(hr.pos (fp f n j)).1;rw[rB hr.1 hj]at hy0;generalize fp f n j j=a at*
 generalize dk f n=d at*
 generalize BF n f x x=M at*
 generalize(n*B)^(n-1)=A at*
 have ha:0<=a:=by
  rcases Int.lt_or_le a 0 with h|h
  ·have:=Int.mul_neg_of_neg_of_pos h hd;omega
  exact h
 have e1:x j*d*(x j*d)=(x j*x j*d)*d:=by grind
 have e2:M*(a*d)=(M*a)*d:=by grind
 rw[e1,e2]at h1;have h3:=Int.le_of_mul_le_mul_right h1 hd;have hsq:0<=x j*x j:=by
  rcases Int.le_total 0 (x j)with h|h
  ·exact Int.mul_nonneg h h
  exact Int.mul_nonneg_of_nonpos_of_nonpos h h
 have h4:x j*x j*1<=x j*x j*d:=Int.mul_le_mul_of_nonneg_left hd hsq;have h5:M*a<=N*a:=Int.mul_le_mul_of_nonneg_right hN ha;have h6:N*a<=N*(A:Int):=Int.mul_le_mul_of_nonneg_left (by omega) (by omega);omega
end
def dg (code j:Nat):Int:=((code/3^j%3:Nat):Int)-1
theorem By (code j:Nat): -1<=dg code j/\dg code j<=1:=by
 have:=Nat.mod_lt (code/3^j) (show 0<3 by omega);unfold dg;omega
def iA (i code:Nat):Nat->Int:=fun j=>if j<i then dg code j else if j=i then 1 else 0
def nrm (n:Nat) (f:FF) (x:Nat->Int):Int:=BF n f x x
theorem ew {n:Nat} {f:FF} {x y:Nat->Int} (h: ∀i,i<n->x i=y i):nrm n f x=nrm n f y:=dK (fun _ _ _ _=>rfl) h h
theorem gu {n:Nat} {f:FF} {i:Nat} (hi:i<n):nrm n f (eC i)=f i i:=by
 have e: ∀F:Nat->Int,bu (fun j=>F j*eC i j) n=F i:=fun F=>by
  rw[fm hi (fun p _ hne=>by unfold eC;rw[if_neg hne,Int.mul_zero])];unfold eC;rw[if_pos rfl,Int.mul_one]
 unfold nrm BF;rw[aF n (G:=fun k=>f k i*eC i k) (fun k _=>by rw[e (f k)];exact Int.mul_comm _ _),e fun k=>f k i]
def ip (n:Nat) (f:FF) (i:Nat):Nat->Nat->Int
 |0=>eC i
 |k+1=>if nrm n f (iA i k)<nrm n f (ip n f i k)then iA i k else ip n f i k
theorem C3 {n:Nat} {f:FF} {i:Nat} (hi:i<n): ∀k,nrm n f (ip n f i k)<=f i i/\ ∀c,c<k->nrm n f (ip n f i k)<=nrm n f (iA i c)
 |0=>⟨by rw[ip,gu hi];omega,fun c hc=>by omega⟩
 |k+1=>by
  obtain⟨h1,h2⟩:=C3 (f:=f) hi k;by_cases h:nrm n f (iA i k)<nrm n f (ip n f i k)
  ·rw[show ip n f i (k+1)=iA i k from if_pos h];refine⟨by omega,fun c hc=>?_⟩;by_cases e:c=k
   ·subst e;omega
   have:=h2 c (by omega);omega
  rw[show ip n f i (k+1)=ip n f i k from if_neg h];refine⟨h1,fun c hc=>?_⟩;by_cases e:c=k
  ·subst e;omega
  exact h2 c (by omega)
def VioP (n:Nat) (f:FF) (i:Nat):Prop:= ∃c,c<3^i/\nrm n f (iA i c)<f i i
theorem vn {n:Nat} {f:FF} {i:Nat} (hi:i<n): ∀k,(∀c,c<k->f i i<=nrm n f (iA i c))->ip n f i k=eC i
 |0,_=>rfl
 |k+1,h=>by
  have ih:=vn hi k fun c hc=>h c (by omega)
  have:=h k (by omega);rw[ip,ih,gu hi,if_neg (by omega)]
theorem w8 {n:Nat} {f:FF} {i:Nat} (hi:i<n) (h:VioP n f i):nrm n f (ip n f i (3^i))<f i i:=by
 obtain⟨c,h1,h2⟩:=h;have:=(C3 (f:=f) hi (3^i)).2 c h1;omega
theorem FE {n:Nat} {f:FF} {i:Nat} (hi:i<n):(∀j,j<n->ip n f i (3^i) j=eC i j)↔ ¬VioP n f i:=by
 constructor
 ·intro h hv;have h1:=w8 hi hv;rw[ew h,gu hi]at h1;omega
 intro h j _;rw[vn hi (3^i) fun c hc=>by
  rcases Int.lt_or_le (nrm n f (iA i c)) (f i i)with hl|hl
  ·exact absurd ⟨c,hc,hl⟩ h
  exact hl]
theorem yv (n:Nat) (f:FF) (i:Nat): ∀k,ip n f i k=eC i\/ ∃c,c<k/\ip n f i k=iA i c
 |0=> .inl rfl
 |k+1=>by
  rw[ip];split
  ·exact .inr ⟨k,by omega,rfl⟩
  rcases yv n f i k with h|⟨c,hc,h⟩
  ·exact .inl h
  exact .inr ⟨c,by omega,h⟩
theorem pV (n:Nat) (f:FF) (i k:Nat):ip n f i k i=1/\(∀j,i<j->ip n f i k j=0)/\ ∀j,-1<=ip n f i k j/\ip n f i k j<=1:=by
 rcases yv n f i k with h|⟨c,_,h⟩<;>rw[h]
 ·refine⟨by simp[eC],fun j hj=>by unfold eC;rw[if_neg (by omega)],fun j=>by unfold eC;split<;>omega⟩
 refine⟨by simp[iA],fun j hj=>by unfold iA;rw[if_neg (by omega),if_neg (by omega)],fun j=>?_⟩;unfold iA;split
 ·exact By c j
 split<;>omega
def dw (f:FF) (n:Nat):Prop:=(∀i,i+1<n->f i i<=f (i+1) (i+1)/\0<=f i (i+1))/\ ∀i,i<n-> ¬VioP n f i
theorem xL {d:Nat->Int} (h: ∀j,-1<=d j/\d j<=1): ∀i,∃c,c<3^i/\ ∀j,j<i->dg c j=d j
 |0=>⟨0,by simp,fun j hj=>by omega⟩
 |i+1=>by
  obtain⟨c,h1,h2⟩:=xL h i;have hd:=h i;refine⟨c+3^i*(d i+1).toNat,?_,fun j hj=>?_⟩
  ·have:(d i+1).toNat<=2:=by omega
   have:=Nat.mul_le_mul_left (3^i) this;rw[Nat.pow_succ];omega
  by_cases e:j=i
  ·subst e;unfold dg;rw[Nat.add_mul_div_left _ _ (Nat.pow_pos (by omega)),Nat.div_eq_of_lt h1,Nat.zero_add,Nat.mod_eq_of_lt (by omega)];omega
  rw[<- h2 j (by omega)];unfold dg
  congr 2
  obtain⟨m,hm⟩: ∃m,i=j+1+m:=⟨i-(j+1),by omega⟩;have e1:3^i*(d i+1).toNat=3^j*(3*(3^m*(d i+1).toNat)):=by
   rw[hm,Nat.pow_add,Nat.pow_succ];simp[Nat.mul_assoc]
  rw[e1,Nat.add_mul_div_left _ _ (Nat.pow_pos (by omega)),Nat.add_mul_mod_self_left]
theorem DG {n:Nat} {f:FF} {i:Nat} (hi:i<n) {x:Nat->Int} (hb: ∀j,j<i-> -1<=x j/\x j<=1) (h1:x i=1) (h0: ∀j,i<j->j<n->x j=0) (hl:nrm n f x<f i i):VioP n f i:=by
 obtain⟨c,hc,hd⟩:=xL (d:=fun j=>if j<i then x j else 0) (fun j=>by
  split
  ·rename_i h;exact hb j h
  omega) i
 refine⟨c,hc,?_⟩;rw[ew (y:=x)]
 ·exact hl
 intro j hj;unfold iA;split
 ·rename_i h;rw[hd j h,if_pos h]
 split
 ·rename_i h;rw[h,h1]
 rw[h0 j (by omega) hj]
def DQ (s:Nat->Int) (f:FF):Nat->Nat->Int:=fun i j=>s i*s j*f i j
theorem EX {n:Nat} {s:Nat->Int} {f:FF} (x:Nat->Int):nrm n (DQ s f) x=nrm n f (fun i=>s i*x i):=by
 unfold nrm BF DQ;refine aF n fun i _=>?_
 rw[<- bO,<- bO];exact aF n fun j _=>by grind
theorem F7 {n:Nat} {s:Nat->Int} {f:FF} (hs: ∀i,s i=1\/s i= -1) {i:Nat} (hi:i<n) (h:VioP n (DQ s f) i):VioP n f i:=by
 obtain⟨c,hc,hl⟩:=h;rw[EX]at hl;have hii:DQ s f i i=f i i:=by unfold DQ;rcases hs i with e|e<;>rw[e]<;>omega
 rw[hii]at hl;have hneg: ∀y:Nat->Int,nrm n f (fun j=>s i*y j)=nrm n f y:=fun y=>by
  rcases hs i with e|e
  ·exact ew fun j _=>by simp only[e];omega
  unfold nrm BF;refine aF n fun k _=>?_
  simp only[e];rw[<- bO,<- bO];exact aF n fun j _=>by grind
 rw[<- hneg]at hl;refine DG hi (x:=fun j=>s i*(s j*iA i c j)) (fun j hj=>?_) ?_ (fun j hj _=>?_) hl
 ·have:=By c j;simp only[iA,if_pos hj];rcases hs i with e|e<;>rcases hs j with e'|e'<;>rw[e,e']<;>omega
 ·simp only[iA,Nat.lt_irrefl,if_false,if_true];rcases hs i with e|e<;>rw[e]<;>omega
 simp only[iA];rw[if_neg (by omega),if_neg (by omega)];simp
theorem CO (k:Nat->Nat->Bool) (R:List (List Int)):(R.map gK).map (fB k)=R.map gK:=by
 rw[List.map_map];exact List.map_congr_left fun r _=>by simp[fB,gK,yc]
def Ir (d n c:Nat) (f:FF) (i j:Nat):List OObj:=⟨23,1,gL d (ae i c)++[.sl d (i+1) 0 (j+1)]::ae (n-i-1) pf⟩::((bL i c f).map gK++[gK (bz (j+1) (f i))])
def Ja (d n c:Nat) (f:FF) (i:Nat):Nat->List OObj
 |0=>kI d n c i f
 |j+1=>Ir d n c f i j
theorem Hc {d n c i:Nat} (f:FF) (hc:1<=c) (hi:i<n):Ja d n c f i c=kI d n c (i+1) f:=by
 obtain⟨j,rfl⟩: ∃j,c=j+1:=⟨c-1,by omega⟩;show Ir d n (j+1) f i j=_;unfold Ir kI;rw[uz,List.replicate_succ' (n:=i),pY,List.length_replicate];simp[Nat.sub_sub]
theorem EB {d n c i:Nat} (f:FF) (hi:i<n):kI d n c i f=⟨23,1,gL d (ae i c)++pf::ae (n-i-1) pf⟩::(bL i c f).map gK:=by
 unfold kI;rw[show n-i=n-i-1+1 by omega,List.replicate_succ];rfl
structure Jj (n:Nat) (p:Nat->Prop) where
 i:Nat
 hi:i<=n
 h: ∀a,a<i->p a
theorem sd {l:List (List Int)} {i:Nat} (h:i<l.length):l[i]?=some (l.getD i []):=by
 obtain⟨x,hx⟩:=getElem?_of_lt h;rw[List.getD_eq_getElem?_getD,hx];rfl
abbrev jk:TV:= .one .junk
def j4 (l:List TV):List TV:=jk::jk::jk::jk::l
def j16 (l:List TV):List TV:=j4 (j4 (j4 (j4 l)))
def rN (n:Nat):TV:= .raw (.int .i64 (n:Int))
def wk:=And.intro @Iu.eq_1<|And.intro @Iu.eq_2<|And.intro @Iu.eq_3<|And.intro @E3.eq_def<|And.intro @uM.eq_def<|And.intro @j4.eq_1<|And.intro @j16.eq_1<|And.intro @rN.eq_1<|True.intro
def kd:=And.intro @AS.ev.eq_def<|And.intro @AS.put.eq_def<|And.intro @Bool.and_false<|And.intro @Bool.and_self<|And.intro @Bool.and_true<|And.intro @Bool.false_and<|And.intro @Bool.false_eq_true<|And.intro @Bool.not_false<|And.intro @Bool.not_true<|And.intro @Bool.or_false<|And.intro @Bool.or_true<|And.intro @Bool.true_and<|And.intro @aJ.a.eq_1<|And.intro @CallRes.plain.eq_1<|And.intro @Hm.eq_1<|And.intro @Hm.eq_2<|And.intro @Int.natCast_nonneg<|And.intro @Int.toNat_natCast<|And.intro @List.all_cons.{0}<|And.intro @List.all_nil.{0}<|And.intro @List.append_nil.{0}<|And.intro @List.cons_append.{0}<|And.intro @List.contains_nil.{0}<|And.intro @List.drop_succ_cons.{0}<|And.intro @List.drop_zero.{0}<|And.intro @List.find?_cons.{0}<|And.intro @List.find?_nil.{0}<|And.intro @List.getElem?_cons_succ.{0}<|And.intro @List.getElem?_cons_zero.{0}<|And.intro @List.getElem?_toArray.{0}<|And.intro @List.isEmpty_cons.{0}<|And.intro @List.isEmpty_nil.{0}<|And.intro @List.isEmpty_toArray.{0}<|And.intro @List.length_cons.{0}<|And.intro @List.length_map.{0,0}<|And.intro @List.length_nil.{0}<|And.intro @List.map_cons.{0,0}<|And.intro @List.map_nil.{0,0}<|And.intro @List.nil_append.{0}<|And.intro @List.set_cons_succ.{0}<|And.intro @List.set_cons_zero.{0}<|And.intro @List.take_succ_cons.{0}<|And.intro @List.take_zero.{0}<|And.intro @Nat.add_zero<|And.intro @ac<|And.intro @Nat.zero_add<|And.intro @Option.bind_some.{0,0}<|And.intro @Option.map_none.{0,0}<|And.intro @Option.map_some.{0,0}<|And.intro @Tryd.underlying2<|And.intro @Tryd.underlying22<|And.intro @Tryd.underlying74<|And.intro @Tryd.underlying86<|And.intro @Value.oneCell'.eq_def<|And.intro @D7<|And.intro @GK<|And.intro @and_false<|And.intro @and_self<|And.intro @and_true<|And.intro @IE.eq_def<|And.intro @beq_self_eq_true.{0}<|And.intro @cX.eq_def<|And.intro @y4.eq_def<|And.intro @gN.eq_1<|And.intro @gN.eq_2<|And.intro @gN.eq_3<|And.intro @gN.eq_4<|And.intro @cellsOf.eq_def<|And.intro @Jv<|And.intro @Jw<|And.intro @decide_false<|And.intro @b6.eq_def<|And.intro @d8.eq_def<|And.intro @gk.eq_def<|And.intro @bG.eq_def<|And.intro @qO.eq_def<|And.intro @d9.eq_1<|And.intro @d9.eq_2<|And.intro @qP.eq_def<|And.intro @zl.eq_def<|And.intro @fI.eq_1<|And.intro @fU.eq_1<|And.intro @false_and<|And.intro @fw.eq_1<|And.intro @fw.eq_2<|And.intro @eo.eq_def<|And.intro @fV.eq_def<|And.intro @JZ<|And.intro @J0<|And.intro @if_false.{1}<|And.intro @if_true.{1}<|And.intro @wB.eq_def<|And.intro @isPure.eq_def<|And.intro @aV.eq_def<|And.intro @fB.eq_1<|And.intro @aW.eq_def<|And.intro @EK<|And.intro @gm<|And.intro @wF<|And.intro @yc<|And.intro @wG<|And.intro @nR<|And.intro @sq<|And.intro @fi<|And.intro @kQ.eq_1<|And.intro @kQ.eq_2<|And.intro @gp<|And.intro @fd<|And.intro @Hj<|And.intro @EN<|And.intro @zP<|And.intro @qn.eq_def<|And.intro @eu.eq_def<|And.intro @rc.eq_def<|And.intro @pg.eq_def<|And.intro @dI.eq_def<|And.intro @noRefTV.eq_def<|And.intro @eB.eq_def<|And.intro @dq.eq_def<|And.intro @kf.eq_def<|And.intro @zW<|And.intro @wO<|And.intro @wP<|And.intro @E4<|And.intro @E5<|And.intro @zX<|And.intro @pq<|And.intro @Co<|And.intro @zY<|And.intro @Cp<|And.intro @uN<|And.intro @qo<|And.intro @qp<|And.intro @E6<|And.intro @Cq<|And.intro @sH<|And.intro @qr<|And.intro @Cr<|And.intro @Cs<|And.intro @zZ<|And.intro @z6<|And.intro @Hv<|And.intro @packT.eq_def<|And.intro @uS.eq_1<|And.intro @bo.eq_1<|And.intro @bo.eq_2<|And.intro @bZ.eq_1<|And.intro @lZ.eq_def<|And.intro @jQ.eq_def<|And.intro @cU.eq_def<|And.intro @renO.eq_1<|And.intro @dX.eq_def<|And.intro @nK.eq_def<|And.intro @pI.eq_1<|And.intro @pI.eq_2<|And.intro @mT.eq_def<|And.intro @rp<|And.intro @CN<|And.intro @Ap<|And.intro @true_and<|And.intro @s8.eq_def<|And.intro @Dm<|And.intro @FQ<|And.intro @Dn<|And.intro @Do<|And.intro @Dp<|And.intro @Dq<|And.intro @FR<|And.intro @Dr<|And.intro @Ds<|And.intro @Dt<|And.intro @Du<|And.intro @Dv<|And.intro @Dw<|And.intro @Dx<|And.intro @Ij<|And.intro @FS<|And.intro @FT<|And.intro @FU<|And.intro @FV<|And.intro @FW<|And.intro @xg<|And.intro @xh<|And.intro @FX<|And.intro @Dy<|And.intro @Dz<|And.intro @DA<|And.intro @DB<|And.intro @DC<|And.intro @DD<|And.intro @xj<|And.intro @xk<|And.intro @xl<|And.intro @xm<|And.intro @xn<|And.intro @xo<|And.intro @Ik<|And.intro @FY<|And.intro @FZ<|And.intro @F0<|And.intro @Il<|And.intro @F1<|And.intro @Im<|And.intro @F3<|And.intro @F4<|And.intro @F5<|And.intro @F6<|And.intro @DE<|And.intro @Aw<|And.intro @Ax<|And.intro @Ay<|And.intro @Az<|And.intro @AA<|And.intro @AB<|And.intro @s9.eq_def<|And.intro @aO.eq_1<|And.intro @Jd.eq_def<|And.intro @j4.eq_1<|And.intro @j16.eq_1<|And.intro @rN.eq_1<|True.intro
theorem FO (fu:FuncId) (cs1:List PV) (n c:Nat) (g:FF) (hn1:1<=n) (hn:n<=16) (hc1:1<=c) (hc:c<=16)
  (hf: ∀i j,i<n->j<c->CallC Tryd.prog fu [.raw (.int .i64 (i:Int)),.raw (.int .i64 (j:Int)),.one (.p (.ptr cs1))] ⟨[],tZ (g i j)⟩):
  CallC Tryd.prog 42 [.raw (.int .i64 (n:Int)),.raw (.int .i64 (c:Int)),.fn fu [.p (.ptr cs1)]] ⟨[],gF (bL n c g)⟩:=by
 have hN:n*c<=256:=ay (Nat.mul_le_mul hn hc) (by omega);have e0:IntKind.i64.wrap ((n:Int)*(c:Int))=((n*c:Nat):Int):=by rw[<- Int.natCast_mul];exact aS (by omega) (by omega)
 refine aN Tryd.func42 rfl (by kernel_rfl) ?_;rw[Tryd.ntmps42];refine aB fun _ K=>?_;simp only[kd,aa,ae];apply K
 refine aB fun _ K=>?_;simp(disch:=omega) only[kd,aa,e0];apply K
 refine aB fun _ K=>?_;simp(disch:=omega) only[kd,aa,Nat.reduceEqDiff];apply K
 refine bH.weak ((iU 14).trans ((iU 16).trans ((qx 16 14 5016 (oa:=⟨58,1,xe 5016 n c 0⟩) (oe:=⟨52,2,lc fZ (bz (n*c) (fl c (part g 0 0)))⟩) ?_ ?_ rfl (vr _ _ _ _) (df _ _ _) (by omega) (by omega) (by omega)).trans (aC (tm:=(jk::rN c::.fn fu [.p (.ptr cs1)]::j4 (.one (.sl 5016 1 0 (n*c))::.one (.sl 5016 0 0 n)::j16 (j16 (j16 (jk::jk::[])))))) (l:=[(5016,s7 5016 n c 0 (part g 0 0))]) ⟨rfl,trivial⟩ ?_)))) ?_
 ·exact vt 5016 n c
 ·exact yE n c g
 ·simp[wk,EF,mI]
 simp only[s7];refine aD (aB fun _ K=>?_);simp only[kd,aa];apply K;refine bx (G:=rE n) (fun q=>⟨(jk::rN c::.fn fu [.p (.ptr cs1)]::j4 (.one (.sl 5016 1 0 (n*c))::.one (.sl 5016 0 0 n)::j4 (j4 (.one (.sl 5016 0 0 n)::rN n::rN q.i::j16 (j16 (j4 (jk::jk::jk::[]))))))),Hm [(5016,s7 5016 n c q.i (part g q.i 0))]⟩) (fun q=>n-q.i) ⟨0,by omega⟩ ?_ ?_
 ·refine aC ⟨rfl,trivial⟩ ?_;simp[wk]
 rintro⟨i,hi⟩;simp only;by_cases hm:i<n
 ·have k1:i*c<(i+1)*c:=by rw[Nat.add_mul];omega
  have k2:(i+1)*c<=n*c:=Nat.mul_le_mul_right _ hm;have k3:(i+1)*c-i*c=c:=by rw[Nat.add_mul];omega
  have e1:IntKind.i64.wrap ((i:Int)*(c:Int))=((i*c:Nat):Int):=by rw[<- Int.natCast_mul];exact aS (by omega) (by omega)
  have e2:IntKind.i64.wrap (((i:Int)+1)*(c:Int))=(((i+1)*c:Nat):Int):=by
   have:((i:Int)+1)*(c:Int)=(((i+1)*c:Nat):Int):=by rw[Int.natCast_mul];rfl
   rw[this];exact aS (by omega) (by omega)
  have t1:=gX (d:=5016) (n:=n) (c:=c) (i:=i) hm;rw[if_neg (Nat.lt_irrefl i)]at t1;have t2:=yC (d:=5016) (n:=n) (c:=c) (i:=i);have t3:=gX (d:=5016) (n:=n) (c:=c) (i:=i+1) (k:=i) hm;rw[if_pos (Nat.lt_succ_self i)]at t3;refine aB fun _ K=>?_;simp(disch:=omega) only[kd];apply K
  refine b8 rfl ?_;refine aD (aH ?_);refine aB fun _ K=>?_;simp only[kd];apply K
  simp only[s7];refine aB fun _ K=>?_;simp(disch:=omega) only[kd,aa,e1,aS,e2,k1,k2,Nat.reduceLeDiff,k3,t1,t2];apply K
  refine aB fun _ K=>?_;simp(disch:=omega) only[kd,aa,t3];apply K
  refine bx (G:=rE c) (fun q=>⟨(jk::rN c::.fn fu [.p (.ptr cs1)]::j4 (.one (.sl 5016 1 0 (n*c))::.one (.sl 5016 0 0 n)::rN i::j4 (jk::jk::jk::.one (.sl 5016 0 0 n)::rN n::rN i::j16 (j4 (jk::jk::rN c::rN q.i::j4 (j4 (j4 (jk::jk::jk::[])))))))),Hm [(5016,s7 5016 n c (i+1) (part g i q.i))]⟩) (fun q=>c-q.i) ⟨0,by omega⟩ ?_ ?_
  ·refine aC ⟨rfl,trivial⟩ ?_;simp[wk]
  rintro⟨j,hj⟩;simp only;by_cases hm2:j<c
  ·have hS:=hf i j hm hm2;have hk:i*c+j<n*c:=by omega
   have g1:=aX (fl c (part g i j)) hk;have g2:=BK (n:=n) (c:=c) (part g i j) (v:=g i j) hm hm2;refine aB fun _ K=>?_;simp(disch:=omega) only[kd];apply K
   refine b8 rfl ?_;refine aD (aH ?_);refine aB fun _ K=>?_;simp only[kd];apply K
   simp only[s7];refine ms bE [⟨8,_,_,_,hS⟩] [] (by kernel_rfl) fun _ K=>?_;simp(disch:=omega) only[kd,tZ,aa,t3,fZ,g1,yb,g2];apply K
   show bH _ _ _ _;refine aR fun _ K=>?_;simp(disch:=omega) only[kd,aS];apply K
   refine⟨⟨j+1,by omega⟩,by simp only;omega,aC ⟨?_,trivial⟩ ?_⟩
   ·show[_,_]=[_,_];rw[lG fun a b _ _=>mQ g i j a b]
   simp[wk]
  have hjc:j=c:=by omega
  subst hjc;refine aB fun _ K=>?_;simp(disch:=omega) only[kd];apply K
  refine cn rfl ?_;show bH _ _ _ _;refine aR fun _ K=>?_;simp(disch:=omega) only[kd,aS];apply K
  refine⟨⟨i+1,by omega⟩,by simp only;omega,aC ⟨?_,trivial⟩ ?_⟩
  ·show[_,_]=[_,_];rw[lG fun a b _ hb=>pw g i a b hb]
  simp[wk]
 have hin:i=n:=by omega
 subst hin;refine aB fun _ K=>?_;simp(disch:=omega) only[kd];apply K
 refine cn rfl ?_;show bH _ _ _ _;refine aB fun _ K=>?_;simp only[kd];apply K
 refine bH.weak ((dH 5016 (yD rfl)).trans (aC (tm:=(j4 (jk::jk::gF (bL i c g)::j16 (j16 (j16 (j4 ([]))))))) (l:=[]) trivial ?_)) ?_
 ·have e:=Df (c:=c) (H:=Hm [(5016,s7 5016 i c i (part g i 0))]) hc1 rfl;rw[ff fun a b ha _=>pv g a b ha]at e;simp[wk];exact e.symm
 (refine aM ⟨.inr rfl,aI rfl ?_ rfl⟩;simp(disch:=omega) only[kd,Tryd.results42,gF])
theorem FP (fu:FuncId) (cs1:List PV) (b:Nat) (ty:TypeId) (cs:List PV) (n c:Nat) (g:FF) (hn1:1<=n) (hn:n<=16) (hc1:1<=c) (hc:c<=16)
  (hf: ∀i j,i<n->j<c->CallT Tryd.prog b ty fu [.raw (.int .i64 (i:Int)),.raw (.int .i64 (j:Int)),.one (.p (.ptr cs1)),.raw (.pointer (some ⟨b,0,none⟩))] cs ⟨[],tZ (g i j)⟩ cs):
  CallT Tryd.prog b ty 42 [.raw (.int .i64 (n:Int)),.raw (.int .i64 (c:Int)),.fn fu [.p (.ptr cs1),.p (.raw (.pointer (some ⟨b,0,none⟩)))]] cs ⟨[],gF (bL n c g)⟩ cs:=by
 have hN:n*c<=256:=ay (Nat.mul_le_mul hn hc) (by omega);have e0:IntKind.i64.wrap ((n:Int)*(c:Int))=((n*c:Nat):Int):=by rw[<- Int.natCast_mul];exact aS (by omega) (by omega)
 refine tO Tryd.func42 rfl (by kernel_rfl) ?_;rw[Tryd.ntmps42];refine cC fun _ K=>?_;simp only[kd,aa,ae];apply K
 refine cC fun _ K=>?_;simp(disch:=omega) only[kd,aa,e0];apply K
 refine cC fun _ K=>?_;simp(disch:=omega) only[kd,aa,Nat.reduceEqDiff];apply K
 refine f4.weak ((iU 14).trans ((iU 16).trans ((qx 16 14 5016 (oa:=⟨58,1,xe 5016 n c 0⟩) (oe:=⟨52,2,lc fZ (bz (n*c) (fl c (part g 0 0)))⟩) ?_ ?_ rfl (vr _ _ _ _) (df _ _ _) (by omega) (by omega) (by omega)).trans (aC (tm:=(jk::rN c::.fn fu [.p (.ptr cs1),.p (.raw (.pointer (some ⟨b,0,none⟩)))]::j4 (.one (.sl 5016 1 0 (n*c))::.one (.sl 5016 0 0 n)::j16 (j16 (j16 (jk::jk::[])))))) (l:=[(5016,s7 5016 n c 0 (part g 0 0))]) ⟨rfl,trivial⟩ ?_)))) ?_
 ·exact vt 5016 n c
 ·exact yE n c g
 ·simp[wk,EF,mI]
 simp only[s7];refine j1 (cC fun _ K=>?_);simp only[kd,aa];apply K;refine tD (G:=rE n) (fun q=>⟨(jk::rN c::.fn fu [.p (.ptr cs1),.p (.raw (.pointer (some ⟨b,0,none⟩)))]::j4 (.one (.sl 5016 1 0 (n*c))::.one (.sl 5016 0 0 n)::j4 (j4 (.one (.sl 5016 0 0 n)::rN n::rN q.i::j16 (j16 (j4 (jk::jk::jk::[]))))))),Hm [(5016,s7 5016 n c q.i (part g q.i 0))]⟩) (fun _=>cs) (fun q=>n-q.i) ⟨0,by omega⟩ ?_ rfl ?_
 ·refine aC ⟨rfl,trivial⟩ ?_;simp[wk]
 rintro⟨i,hi⟩;simp only;by_cases hm:i<n
 ·have k1:i*c<(i+1)*c:=by rw[Nat.add_mul];omega
  have k2:(i+1)*c<=n*c:=Nat.mul_le_mul_right _ hm;have k3:(i+1)*c-i*c=c:=by rw[Nat.add_mul];omega
  have e1:IntKind.i64.wrap ((i:Int)*(c:Int))=((i*c:Nat):Int):=by rw[<- Int.natCast_mul];exact aS (by omega) (by omega)
  have e2:IntKind.i64.wrap (((i:Int)+1)*(c:Int))=(((i+1)*c:Nat):Int):=by
   have:((i:Int)+1)*(c:Int)=(((i+1)*c:Nat):Int):=by rw[Int.natCast_mul];rfl
   rw[this];exact aS (by omega) (by omega)
  have t1:=gX (d:=5016) (n:=n) (c:=c) (i:=i) hm;rw[if_neg (Nat.lt_irrefl i)]at t1;have t2:=yC (d:=5016) (n:=n) (c:=c) (i:=i);have t3:=gX (d:=5016) (n:=n) (c:=c) (i:=i+1) (k:=i) hm;rw[if_pos (Nat.lt_succ_self i)]at t3;refine cC fun _ K=>?_;simp(disch:=omega) only[kd];apply K
  refine A7 rfl ?_;refine j1 (mt ?_);refine cC fun _ K=>?_;simp only[kd];apply K
  simp only[s7];refine cC fun _ K=>?_;simp(disch:=omega) only[kd,aa,e1,aS,e2,k1,k2,Nat.reduceLeDiff,k3,t1,t2];apply K
  refine cC fun _ K=>?_;simp(disch:=omega) only[kd,aa,t3];apply K
  refine tD (G:=rE c) (fun q=>⟨(jk::rN c::.fn fu [.p (.ptr cs1),.p (.raw (.pointer (some ⟨b,0,none⟩)))]::j4 (.one (.sl 5016 1 0 (n*c))::.one (.sl 5016 0 0 n)::rN i::j4 (jk::jk::jk::.one (.sl 5016 0 0 n)::rN n::rN i::j16 (j4 (jk::jk::rN c::rN q.i::j4 (j4 (j4 (jk::jk::jk::[])))))))),Hm [(5016,s7 5016 n c (i+1) (part g i q.i))]⟩) (fun _=>cs) (fun q=>c-q.i) ⟨0,by omega⟩ ?_ rfl ?_
  ·refine aC ⟨rfl,trivial⟩ ?_;simp[wk]
  rintro⟨j,hj⟩;simp only;by_cases hm2:j<c
  ·have hS:=hf i j hm hm2;have hk:i*c+j<n*c:=by omega
   have g1:=aX (fl c (part g i j)) hk;have g2:=BK (n:=n) (c:=c) (part g i j) (v:=g i j) hm hm2;refine cC fun _ K=>?_;simp(disch:=omega) only[kd];apply K
   refine A7 rfl ?_;refine j1 (mt ?_);refine cC fun _ K=>?_;simp only[kd];apply K
   simp only[s7];refine vN bE 8 hS [] [] (by kernel_rfl) (by kernel_rfl) (by rfl) (by rfl) fun _ K=>?_;simp(disch:=omega) only[kd,tZ,aa,t3,fZ,g1,yb,g2];apply K
   show f4 _ _ _ _ _ _ _;refine qA fun _ K=>?_;simp(disch:=omega) only[kd,aS];apply K
   refine⟨⟨j+1,by omega⟩,by simp only;omega,aC ⟨?_,trivial⟩ ?_,rfl⟩
   ·show[_,_]=[_,_];rw[lG fun a b _ _=>mQ g i j a b]
   simp[wk]
  have hjc:j=c:=by omega
  subst hjc;refine cC fun _ K=>?_;simp(disch:=omega) only[kd];apply K
  refine A2 rfl ?_;show f4 _ _ _ _ _ _ _;refine qA fun _ K=>?_;simp(disch:=omega) only[kd,aS];apply K
  refine⟨⟨i+1,by omega⟩,by simp only;omega,aC ⟨?_,trivial⟩ ?_,rfl⟩
  ·show[_,_]=[_,_];rw[lG fun a b _ hb=>pw g i a b hb]
  simp[wk]
 have hin:i=n:=by omega
 subst hin;refine cC fun _ K=>?_;simp(disch:=omega) only[kd];apply K
 refine A2 rfl ?_;show f4 _ _ _ _ _ _ _;refine cC fun _ K=>?_;simp only[kd];apply K
 refine f4.weak ((dH 5016 (yD rfl)).trans (aC (tm:=(j4 (jk::jk::gF (bL i c g)::j16 (j16 (j16 (j4 ([]))))))) (l:=[]) trivial ?_)) ?_
 ·have e:=Df (c:=c) (H:=Hm [(5016,s7 5016 i c i (part g i 0))]) hc1 rfl;rw[ff fun a b ha _=>pv g a b ha]at e;simp[wk];exact e.symm
 (refine D5 ⟨.inr rfl,rfl,aI rfl ?_ rfl⟩;simp(disch:=omega) only[kd,Tryd.results42,gF])
theorem da (l:List Nat) (hb:l.length<=1073741824):CallC Tryd.prog 41 [bN l] ⟨[],bN (dJ l)⟩:=by
 refine aN Tryd.func41 rfl (by kernel_rfl) ?_;rw[Tryd.ntmps41];refine aB fun _ K=>?_;simp only[kd,bN,ae];apply K
 refine aD (bx (G:={n:Nat//n<=l.length/\dJ l=dJ (l.take n)}) (fun n=>⟨(bN (l.take n.1)::j16 (j4 ([]))),Hm []⟩) (fun n=>n.1) ⟨l.length,ac _,by simp⟩ ?_ ?_)
 ·refine aC trivial ?_;simp[wk]
 rintro⟨n,hn,hT⟩;simp only;have hlen:(l.take n).length=n:=by simp;omega
 by_cases h0:0<n
 ·obtain⟨a,ha⟩:=getElem?_of_lt (l:=l) (k:=n-1) (by omega);have e1:((n:Int)-1).toNat=n-1:=by omega
  have ha2:(l.take n)[n-1]?=some a:=by rw[List.getElem?_take,if_pos (by omega),ha]
  have htk:l.take n=l.take (n-1)++[a]:=by
   have:=List.take_succ_eq_append_getElem (i:=n-1) (l:=l) (by omega);rw[show n-1+1=n by omega]at this;rw[this,(List.getElem?_eq_some_iff.1 ha).2]
  refine aD (aB fun _ K=>?_);simp(disch:=omega) only[kd,aa,bN,hlen,aS,e1,ha2];apply K;refine d4 rfl (fun hz=>aT ?_) (fun hz=>dx ?_)
  ·have hz':a=0:=by simpa using hz
   refine aH ?_;refine aR fun _ K=>?_;simp(disch:=omega) only[kd,aa,hlen,aS,e1,Hi G9];apply K
   refine⟨⟨n-1,by omega,?_⟩,by simp only;omega,aC trivial ?_⟩
   ·rw[hT,htk,hz',qc]
   simp[wk,List.take_take,Nat.min_eq_left (show n-1<=n by omega)]
  have hz':a≠0:=by intro e;simp[e]at hz
  have hfin:dJ l=l.take n:=by rw[hT,htk,At hz']
  show bH _ _ _ _;refine aB fun _ K=>?_;simp(disch:=omega) only[kd];apply K
  (refine aM ⟨.inr rfl,aI rfl ?_ rfl⟩;simp(disch:=omega) only[kd,Tryd.results41,bN,hfin])
 have hn0:n=0:=by omega
 subst hn0;have hfin:dJ l=l.take 0:=by rw[hT];simp[dJ]
 refine aD (aB fun _ K=>?_);simp(disch:=omega) only[kd,aa,bN];apply K;refine d4 rfl (fun hz=>by cases hz) (fun hz=>dx ?_);show bH _ _ _ _;refine aB fun _ K=>?_;simp only[kd];apply K
 (refine aM ⟨.inr rfl,aI rfl ?_ rfl⟩;simp(disch:=omega) only[kd,Tryd.results41,bN,hfin])
theorem dp (neg:Bool) (n:Nat):CallC Tryd.prog 37 [.raw (.bool neg),bN (aP n)] ⟨[],tZ (fN neg n)⟩:=by
 by_cases h0:n=0
 ·subst h0;rw[cq,show tZ (fN neg 0)= .agg [.p (.raw (.bool false)),.p (.sl (ls fU []))] by
   have:fN neg 0=0:=by cases neg<;>rfl
   simp[this,tZ,cq]]
  refine aN Tryd.func37 rfl (by kernel_rfl) ?_;rw[Tryd.ntmps37];refine aB fun _ K=>?_;simp(disch:=omega) only[kd,bN,aa,ae];apply K
  refine aD (aB fun _ K=>?_);simp(disch:=omega) only[kd,aa];apply K;refine bs rfl ?_;refine aB fun _ K=>?_;simp(disch:=omega) only[kd,aa];apply K
  refine aM ⟨.inr rfl,?_⟩;refine⟨_,iU 4,l8 (d:=1000) rfl ?_ rfl⟩;simp(disch:=omega) only[kd,Tryd.results37,zH,zO,DK,DR,aa]
 have hl:=gn (n:=n);have hl':(aP n).length≠0:=by omega
 rw[show tZ (fN neg n)= .agg [.p (.raw (.bool neg)),.p (.sl (ls fU (aP n)))] by
  have:decide (0<n)=true:=by simp;omega
  simp[tZ,vm,FD,this]]
 refine aN Tryd.func37 rfl (by kernel_rfl) ?_;rw[Tryd.ntmps37];refine aB fun _ K=>?_;simp(disch:=omega) only[kd,bN,aa,ae];apply K
 refine aD (aB fun _ K=>?_);simp(disch:=omega) only[kd,aa];apply K;refine a6 rfl (aT ?_);show bH _ _ _ _;refine aB fun _ K=>?_;simp(disch:=omega) only[kd,aa,Nat.reduceLeDiff];apply K
 (refine aM ⟨.inr rfl,aI rfl ?_ rfl⟩;simp(disch:=omega) only[kd,Tryd.results37,aa])
end Go.Proofs.YtfgeomlagfomgaaDoor
