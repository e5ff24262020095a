/-
  Part 15 of a proof (walks and plain facts).
-/
import Derived.Test.YtfgeomlagfomgaaGreatDoorR13
set_option linter.all false
set_option maxRecDepth 100000
set_option maxHeartbeats 64000000
open Nat renaming reduceAdd → aa
open Nat renaming reduceEqDiff → ab
open Nat renaming le_refl → ac
open List renaming replicate → ae
open Nat renaming reduceBEq → af
open Nat renaming reduceLeDiff → ah
open Nat renaming le_trans → ay
open Nat renaming mul_le_mul_left → az
open Nat renaming pow_le_pow_right → aB
namespace Go.Proofs.YtfgeomlagfomgaaGreatDoor
open Go.RowKit
theorem PZ (a b:Int) (hb0:b≠0) (ha:Bh a) (hb:Bh b):CallC Tryz.prog 176 [tZ a,tZ b] ⟨[],tZ (a%b)⟩:=by
 have h1:=zc a b hb0 ha hb;refine aI Tryz.func176 rfl (by kernel_rfl) ?_;rw[Tryz.ntmps176];refine aC fun _ K=>?_;simp(disch:=omega) only[kd,aa,tZ,ae,ab];apply K
 refine aF [⟨2,_,_,_,h1⟩] [] fun _ K=>?_;simp(disch:=omega) only[kd,tZ,cZ,aa,ab];apply K
 refine aC fun _ K=>?_;simp(disch:=omega) only[kd,ab,aa];apply K
 (refine aH ⟨.inr rfl,aG rfl ?_ rfl⟩;simp(disch:=omega) only[kd,Tryz.results176,ab,aa,tZ])
structure RD (a b:Int) where
 x:Int
 y:Int
 hx:0<=x
 hy:0<=y
 hg:Int.gcd x y=Int.gcd a b
 sx:Bh x
 sy:Bh y
theorem IA {x y:Int} (hx:0<=x) (hy:0<=y):Int.gcd y (x%y)=Int.gcd x y:=by
 obtain⟨m,rfl⟩:=Int.eq_ofNat_of_zero_le hx;obtain⟨n,rfl⟩:=Int.eq_ofNat_of_zero_le hy;show Nat.gcd n (m%n)=Nat.gcd m n;rw[Nat.gcd_comm n,<- Nat.gcd_rec,Nat.gcd_comm]
theorem PT (a b:Int) (ha:Bh a) (hb:Bh b):CallC Tryz.prog 167 [tZ a,tZ b] ⟨[],tZ (Int.gcd a b:Nat)⟩:=by
 have c1:=Dr a ha.bg;have c2:=Dr b hb.bg;refine aI Tryz.func167 rfl (by kernel_rfl) ?_;rw[Tryz.ntmps167];refine aC fun _ K=>?_;simp(disch:=omega) only[kd,aa,tZ,ae,ab];apply K
 refine bo aW [⟨1,_,_,_,c1⟩,⟨3,_,_,_,c2⟩] [] (by kernel_rfl) fun _ K=>?_;simp(disch:=omega) only[kd,tZ,aa,ab,af];apply K
 refine aD (aT (G:=RD a b) (fun g=>⟨(j4 (.one (.ptr 4 0 0 0)::.one (.ptr 5 0 0 0)::.one (.ptr 6 0 0 0)::j4 (j4 (j4 ([]))))),Hm [(4,qL),(5,qy g.x),(6,qy g.y)]⟩) (fun g=>g.y.natAbs) ⟨a.natAbs,b.natAbs,by omega,by omega,by simp;rfl,ha.le (by omega),hb.le (by omega)⟩ ?_ ?_)
 ·refine aE ⟨rfl,rfl,rfl,trivial⟩ ?_;simp[wk]
 rintro⟨x,y,hx,hy,hg,sx,sy⟩;simp only;have cs:=ng y sy.bg;by_cases h0:y=0
 ·subst h0;refine aD (aF [⟨1,_,_,_,cs⟩] [] fun _ K=>?_);simp(disch:=omega) only[kd,tZ,sN,aa,ab];apply K;refine aN rfl (bE ?_);show bf _ _ _ _;have e:((Int.gcd a b:Nat):Int)=x:=by rw[<- hg,Int.gcd_zero_right];omega
  rw[e];refine aC fun _ K=>?_;simp(disch:=omega) only[kd,ab,aa];apply K
  (refine aH ⟨.inr rfl,aG rfl ?_ rfl⟩;simp(disch:=omega) only[kd,Tryz.results167,ab,aa,tZ])
 have hs:=EA h0;have cr:=PZ x y h0 sx sy;have hlt:=Int.emod_lt_of_pos x (show 0<y by omega);have hnn:=Int.emod_nonneg x h0;refine aD (aF [⟨1,_,_,_,cs⟩] [] fun _ K=>?_);simp(disch:=omega) only[kd,tZ,aa,ab];apply K;refine aS rfl (aK ?_);refine aJ ?_;refine d8 aW [⟨3,_,_,_,cr⟩] [] (by kernel_rfl) fun _ K=>?_;simp(disch:=omega) only[kd,tZ,aa,ab];apply K
 refine⟨⟨y,x%y,hy,hnn,by rw[IA hx hy,hg],sy,sy.le (by omega)⟩,by simp only;omega,aE ⟨rfl,by simp[bi,Hm,Int.not_lt.2 hy],by simp[bi,Hm,Int.not_lt.2 hnn],trivial⟩ ?_⟩;simp[wk]
abbrev tR (n d:Int):TV:= .agg [.p (.raw (.bool (decide (n<0)))),.p (.sl (ls fU (aQ n.natAbs))),.p (.raw (.bool (decide (d<0)))),.p (.sl (ls fU (aQ d.natAbs)))]
def cR (n d:Int):List AV:=[.p (.raw (.bool (decide (n<0)))),.p (.sl (ls fU (aQ n.natAbs))),.p (.raw (.bool (decide (d<0)))),.p (.sl (ls fU (aQ d.natAbs)))]
def nN (n d:Int):Int:=n/(Int.gcd n d:Nat)
def nD (n d:Int):Int:=d/(Int.gcd n d:Nat)
theorem mL {n d:Int} (hd:0<d):0<Int.gcd n d:=Int.gcd_pos_of_ne_zero_right n (by omega)
theorem Cs {n d:Int}:nN n d*(Int.gcd n d:Nat)=n:=Int.ediv_mul_cancel (Int.gcd_dvd_left n d)
theorem ym {n d:Int}:nD n d*(Int.gcd n d:Nat)=d:=Int.ediv_mul_cancel (Int.gcd_dvd_right n d)
theorem o6 {n d:Int} (hd:0<d):0<nD n d:=by
 have h:=ym (n:=n) (d:=d);have hg:=mL (n:=n) hd;rcases Int.lt_or_le 0 (nD n d)with h'|h'
 ·exact h'
 have:=Int.mul_nonpos_of_nonpos_of_nonneg h' (show(0:Int)<=(Int.gcd n d:Nat) by omega);omega
theorem Ek {n d:Int} (hd:0<d):nN n d/nD n d=n/d:=by
 have hg:=mL (n:=n) hd;have:nN n d*(Int.gcd n d:Nat)/(nD n d*(Int.gcd n d:Nat))=nN n d/nD n d:=Int.mul_ediv_mul_of_pos_left _ _ (by omega);rw[Cs,ym]at this;exact this.symm
theorem wR {n d:Int} {k:Nat} (h:Sz n k):Sz (nN n d) k:=h.ediv _
theorem wQ {n d:Int} {k:Nat} (h:Sz d k):Sz (nD n d) k:=h.ediv _
theorem NF (n d:Int) (hd0:0<d) (hn:Bh n) (hd:Bh d):CallC Tryz.prog 157 [tZ n,tZ d] ⟨[],.tup [(true,cR (nN n d) (nD n d)),(false,[.p (.raw (.bool true))])]⟩:=by
 have c1:=ng d hd.bg;rw[CU hd0]at c1;have c2:=PT n d hn hd;have hg:=mL (n:=n) hd0;have sg:Bh (Int.gcd n d:Nat):=hd.le (by
  have:=Nat.le_of_dvd (by omega) (Int.gcd_dvd_natAbs_right n d);omega)
 have c3:=Dj n (Int.gcd n d:Nat) (by omega) hn sg;have c4:=Dj d (Int.gcd n d:Nat) (by omega) hd sg;rw[show n/(Int.gcd n d:Nat)=nN n d from rfl]at c3;rw[show d/(Int.gcd n d:Nat)=nD n d from rfl]at c4;generalize((Int.gcd n d:Nat):Int)=g at*
 generalize nN n d=n' at*
 generalize nD n d=d' at*
 refine aI Tryz.func157 rfl (by kernel_rfl) ?_;rw[Tryz.ntmps157];refine aC fun _ K=>?_;simp(disch:=omega) only[kd,aa,tZ,ae,ab];apply K
 refine aD (aF [⟨1,_,_,_,c1⟩] [] fun _ K=>?_);simp(disch:=omega) only[kd,tZ,aa,ab];apply K;refine aN rfl (aK ?_);show bf _ _ _ _;refine aD (aF [⟨1,_,_,_,c1⟩] [] fun _ K=>?_);simp(disch:=omega) only[kd,tZ,aa,ab];apply K;refine aN rfl (aK ?_);show bf _ _ _ _;refine aF [⟨2,_,_,_,c2⟩] [] fun _ K=>?_;simp(disch:=omega) only[kd,tZ,aa,ab];apply K
 refine bo aW [⟨2,_,_,_,c3⟩,⟨5,_,_,_,c4⟩] [] (by kernel_rfl) fun _ K=>?_;simp(disch:=omega) only[kd,tZ,aa,ab,af,ah];apply K
 (refine aH ⟨.inr rfl,aG rfl ?_ rfl⟩;simp(disch:=omega) only[kd,Tryz.results157,ab,aa,cR])
theorem jb (n d:Int) (hd0:0<d) (hn:Bh n) (hd:Bh d):CallC Tryz.prog 137 [tR n d] ⟨[],tR (nN n d) (nD n d)⟩:=by
 have c1:=NF n d hd0 hn hd;generalize nN n d=n' at*
 generalize nD n d=d' at*
 refine aI Tryz.func137 rfl (by kernel_rfl) ?_;rw[Tryz.ntmps137];refine aC fun _ K=>?_;simp(disch:=omega) only[kd,tR,ae,aa,ab];apply K
 refine aF [⟨4,_,_,_,c1⟩] [] fun _ K=>?_;simp(disch:=omega) only[kd,tZ,cR,aa,ab,ah];apply K
 refine aD (aC fun _ K=>?_);simp only[kd];apply K;refine aN rfl (aK ?_);show bf _ _ _ _;refine aC fun _ K=>?_;simp(disch:=omega) only[kd,ab,aa];apply K
 (refine aH ⟨.inr rfl,aG rfl ?_ rfl⟩;simp(disch:=omega) only[kd,Tryz.results137,ab,aa,tR])
theorem N9:CallC Tryz.prog 136 [] ⟨[],tR 1 2⟩:=by
 have c1:=fX 1 (by omega) (by omega);have c2:=fX 2 (by omega) (by omega);refine aI Tryz.func136 rfl (by kernel_rfl) ?_;rw[Tryz.ntmps136];refine aC fun _ K=>?_;simp(disch:=omega) only[kd,ae,aa];apply K
 refine aF [⟨0,_,_,_,c1⟩,⟨1,_,_,_,c2⟩] [] fun _ K=>?_;simp(disch:=omega) only[kd,tZ,aa,af,ah];apply K
 (refine aH ⟨.inr rfl,aG rfl ?_ rfl⟩;simp(disch:=omega) only[kd,Tryz.results136,aa,tR])
theorem Lb (n d:Int) (hd0:0<d) (hn:Bh n) (hd:Bh d):CallC Tryz.prog 134 [tR n d] ⟨[],tZ (n/d)⟩:=by
 have c1:=jb n d hd0 hn hd;have c2:=Dj (nN n d) (nD n d) (by have:=o6 (n:=n) hd0;omega) (wR hn) (wQ hd);rw[Ek hd0]at c2;generalize nN n d=n' at*
 generalize nD n d=d' at*
 refine aI Tryz.func134 rfl (by kernel_rfl) ?_;rw[Tryz.ntmps134];refine aC fun _ K=>?_;simp(disch:=omega) only[kd,tR,ae,aa,ab];apply K
 refine aF [⟨1,_,_,_,c1⟩] [] fun _ K=>?_;simp(disch:=omega) only[kd,tR,aa,ab];apply K
 refine aF [⟨4,_,_,_,c2⟩] [] fun _ K=>?_;simp(disch:=omega) only[kd,tZ,aa,ab,ah];apply K
 (refine aH ⟨.inr rfl,aG rfl ?_ rfl⟩;simp(disch:=omega) only[kd,Tryz.results134,ab,aa,tZ])
abbrev Q2:List OObj:=[⟨126,4,[[.raw (.bool false),.raw (.slice none 0 0),.raw (.bool false),.raw (.slice none 0 0)]]⟩]
abbrev Rq (n d:Int):List OObj:=[⟨126,4,[[.p (.raw (.bool (decide (n<0)))),.p (.sl (ls fU (aQ n.natAbs))),.p (.raw (.bool false)),.p (.sl (ls fU (aQ d.natAbs)))]]⟩]
theorem N3 (a b c d:Int) (hb0:0<b) (hd0:0<d) (ha:Sz a 100000000) (hb:Sz b 100000000) (hc:Sz c 100000000) (hd:Sz d 100000000):
  CallC Tryz.prog 135 [tR a b,tR c d] ⟨[],tR (nN (nN a b*nD c d+nN c d*nD a b) (nD a b*nD c d)) (nD (nN a b*nD c d+nN c d*nD a b) (nD a b*nD c d))⟩:=by
 have c1:=jb a b hb0 (ha.mono (by omega)) (hb.mono (by omega));have c2:=jb c d hd0 (hc.mono (by omega)) (hd.mono (by omega));have sx:Sz (nN a b) 100000000:=wR ha;have sy:Sz (nD a b) 100000000:=wQ hb;have su:Sz (nN c d) 100000000:=wR hc;have sv:Sz (nD c d) 100000000:=wQ hd;have py:=o6 (n:=a) hb0;have pv:=o6 (n:=c) hd0;generalize nN a b=x at*
 generalize nD a b=y at*
 generalize nN c d=u at*
 generalize nD c d=v at*
 have z1:Sz (x*v) 200000000:=(sx.mul sv).mono (by omega);have z2:Sz (u*y) 200000000:=(su.mul sy).mono (by omega);have z3:Sz (x*v+u*y) 200000001:=z1.add z2;have z4:Sz (y*v) 200000000:=(sy.mul sv).mono (by omega);have m1:=ma x v (sx.mono (by omega)) (sv.mono (by omega));have m2:=ma u y (su.mono (by omega)) (sy.mono (by omega));have m3:=v6 (x*v) (u*y) (z1.mono (by omega)) (z2.mono (by omega));have m4:=ma y v (sy.mono (by omega)) (sv.mono (by omega));have m5:=NF (x*v+u*y) (y*v) (Int.mul_pos py pv) (z3.mono (by omega)) (z4.mono (by omega));generalize nN (x*v+u*y) (y*v)=rn at*
 generalize nD (x*v+u*y) (y*v)=rd at*
 refine aI Tryz.func135 rfl (by kernel_rfl) ?_;rw[Tryz.ntmps135];refine aC fun _ K=>?_;simp(disch:=omega) only[kd,aa,tR,ae,ab];apply K
 refine bo aW [⟨1,_,_,_,c1⟩,⟨3,_,_,_,c2⟩] [] (by kernel_rfl) fun _ K=>?_;simp(disch:=omega) only[kd,tR,aa,ab,af];apply K
 refine bf.weak (aE (tm:=(j4 (.one (.ptr 4 0 0 0)::.one (.ptr 5 0 0 0)::.one (.ptr 6 0 0 0)::j16 (j4 (j4 (jk::jk::jk::[])))))) (l:=[(4,Q2),(5,Rq x y),(6,Rq u v)]) ⟨rfl,rfl,rfl,trivial⟩ (by simp[wk])) ?_;refine bo aW [⟨4,_,_,_,m1⟩,⟨9,_,_,_,m2⟩,⟨10,_,_,_,m3⟩,⟨15,_,_,_,m4⟩,⟨16,_,_,_,m5⟩] [] (by kernel_rfl) fun _ K=>?_;simp(disch:=omega) only[kd,tZ,cR,aa,ab,ah,af];apply K
 refine aC fun _ K=>?_;simp(disch:=omega) only[kd,ab,aa];apply K
 (refine aH ⟨.inr rfl,aG rfl ?_ rfl⟩;simp(disch:=omega) only[kd,Tryz.results135,ab,aa,tR])
theorem Me {p q:Int} (hq:0<q):nN (nN p q*nD 1 2+nN 1 2*nD p q) (nD p q*nD 1 2)/nD (nN p q*nD 1 2+nN 1 2*nD p q) (nD p q*nD 1 2)=(2*p+q)/(2*q):=by
 have e1:nN 1 2=1:=by decide
 have e2:nD 1 2=2:=by decide
 have hp:=o6 (n:=p) hq;rw[e1,e2,Ek (by omega)];have hg:=mL (n:=p) hq;have a1:=Cs (n:=p) (d:=q);have a2:=ym (n:=p) (d:=q);have:(nN p q*2+1*nD p q)*(Int.gcd p q:Nat)/((nD p q*2)*(Int.gcd p q:Nat))=(nN p q*2+1*nD p q)/(nD p q*2):=Int.mul_ediv_mul_of_pos_left _ _ (by omega);rw[<- this]
 congr 1
 ·rw[Int.add_mul,Int.one_mul,Int.mul_right_comm,a1,a2];omega
 rw[Int.mul_right_comm,a2];omega
theorem EU (p q:Int) (hq0:0<q) (hp:Sz p 100000000) (hq:Sz q 100000000):CallC Tryz.prog 105 [tR p q] ⟨[],tZ ((2*p+q)/(2*q))⟩:=by
 have c2:=N3 p q 1 2 hq0 (by omega) hp hq (l4 (by omega)) (ns (by decide) (by omega));have hx:Sz (nN p q) 100000000:=wR hp;have hy:Sz (nD p q) 100000000:=wQ hq;have hyp:=o6 (n:=p) hq0;have e1:nN 1 2=1:=by decide
 have e2:nD 1 2=2:=by decide
 have z2:Sz (2:Int) 1:=ns (by decide) (by omega);have zn:Sz (nN p q*nD 1 2+nN 1 2*nD p q) 100000002:=by
  rw[e1,e2];refine Sz.add (k:=100000001) ((hx.mul z2).mono (by omega)) ?_;rw[Int.one_mul];exact hy.mono (by omega)
 have zd:Sz (nD p q*nD 1 2) 100000001:=by rw[e2];exact(hy.mul z2).mono (by omega)
 have c3:=Lb (nN (nN p q*nD 1 2+nN 1 2*nD p q) (nD p q*nD 1 2)) (nD (nN p q*nD 1 2+nN 1 2*nD p q) (nD p q*nD 1 2)) (o6 (by rw[e2];omega)) ((wR zn).mono (by omega)) ((wQ zd).mono (by omega));rw[Me hq0]at c3;generalize nN (nN p q*nD 1 2+nN 1 2*nD p q) (nD p q*nD 1 2)=rn at*
 generalize nD (nN p q*nD 1 2+nN 1 2*nD p q) (nD p q*nD 1 2)=rd at*
 have c1:=N9;refine aI Tryz.func105 rfl (by kernel_rfl) ?_;rw[Tryz.ntmps105];refine aC fun _ K=>?_;simp(disch:=omega) only[kd,tR,ae,aa,ab];apply K
 refine bo aW [⟨1,_,_,_,c1⟩,⟨2,_,_,_,c2⟩,⟨3,_,_,_,c3⟩] [] (by kernel_rfl) fun _ K=>?_;simp(disch:=omega) only[kd,tR,tZ,aa,ab,af];apply K
 (refine aH ⟨.inr rfl,aG rfl ?_ rfl⟩;simp(disch:=omega) only[kd,Tryz.results105,ab,aa,tZ])
theorem Bq (p q:Int) (hq0:0<q) (hp:Bh p) (hq:Bh q):CallC Tryz.prog 106 [tZ p,tZ q] ⟨[],tR (nN p q) (nD p q)⟩:=by
 have c1:=jb p q hq0 hp hq;generalize nN p q=n' at*
 generalize nD p q=d' at*
 refine aI Tryz.func106 rfl (by kernel_rfl) ?_;rw[Tryz.ntmps106];refine aC fun _ K=>?_;simp(disch:=omega) only[kd,aa,tZ,ae,ab];apply K
 refine aF [⟨3,_,_,_,c1⟩] [] fun _ K=>?_;simp(disch:=omega) only[kd,tR,aa,ab,ah];apply K
 (refine aH ⟨.inr rfl,aG rfl ?_ rfl⟩;simp(disch:=omega) only[kd,Tryz.results106,ab,aa,tR])
def qF (l d:Int):Int:=(2*l+d)/(2*d)
theorem Ra {l d:Int} (hd:0<d):(2*nN l d+nD l d)/(2*nD l d)=qF l d:=by
 have hg:=mL (n:=l) hd;have a1:=Cs (n:=l) (d:=d);have a2:=ym (n:=l) (d:=d);have:(2*nN l d+nD l d)*(Int.gcd l d:Nat)/((2*nD l d)*(Int.gcd l d:Nat))=(2*nN l d+nD l d)/(2*nD l d):=Int.mul_ediv_mul_of_pos_left _ _ (by omega);rw[<- this,qF]
 congr 1
 ·rw[Int.add_mul,Int.mul_assoc,a1,a2]
 rw[Int.mul_assoc,a2]
def trF (f:FF):Nat->Nat->Int:=fun a b=>f b a
def CD (f:FF) (i j:Nat):Nat->Nat->Int:=fun a b=>if b<i\/(b=i/\a<j)then f b a else 0
theorem JG (f:FF) (i j a b:Nat):upd (CD f i j) j i (f i j) a b=CD f i (j+1) a b:=by
 unfold upd CD;by_cases h1:a=j
 ·subst h1;by_cases h2:b=i
  ·subst h2;simp
  simp[h2]
 have:a<j+1↔a<j:=by omega
 simp[h1,this]
theorem Ms {c:Nat} (f:FF) (i a b:Nat) (ha:a<c):CD f i c a b=CD f (i+1) 0 a b:=by
 unfold CD;have:(b<i\/b=i/\a<c)↔(b<i+1\/b=i+1/\a<0):=by omega
 simp only[this]
theorem Mr {n:Nat} (f:FF) (a b:Nat) (hb:b<n):CD f n 0 a b=trF f a b:=by
 unfold CD trF;rw[if_pos (.inl hb)]
theorem JH (f:FF):CD f 0 0=fun _ _=>0:=by
 funext a b;unfold CD;rw[if_neg (by omega)]
theorem rD (n c:Nat) (f:FF) (hn1:1<=n) (hn:n<=16) (hc1:1<=c) (hc:c<=16) (hf: ∀i j:Nat,i<n->j<c->Bg (f i j)):
  CallC Tryz.prog 66 [slM (mat n c f)] ⟨[],.tup [(false,[.p (.sl (ls (fR fZ) (mat c n (trF f))))]),(false,[.p (.raw (.bool true))])]⟩:=by
 have hS:=ny (mat n c f);rw[fW (iy f hn1 hn hc1 hc),aU,fb f hn1]at hS;have hml:=aU n c f;have hZ:=xC c n hc hn;rw[sB,qZ]at hZ;refine aI Tryz.func66 rfl (by kernel_rfl) ?_;rw[Tryz.ntmps66];refine aC fun _ K=>?_;simp only[kd,slM,ae];apply K
 refine aF [⟨1,_,_,_,hS⟩] [] fun _ K=>?_;simp only[kd,slM,aa];apply K
 refine aD (aC fun _ K=>?_);simp only[kd];apply K;refine aN rfl (aK ?_);show bf _ _ _ _;refine aF [⟨2,_,_,_,hZ⟩] [] fun _ K=>?_;simp only[kd,aa];apply K
 refine aD (aC fun _ K=>?_);simp only[kd,aa,hml];apply K;refine aT (G:=jP n) (fun g=>⟨(slM (mat n c f)::j4 (jk::jk::.one (.sl 20 0 0 c)::j4 (j4 (j4 (jk::jk::rN n::rN g.i::j16 (j4 (j4 (jk::jk::jk::[])))))))),Hm [(20,gK 20 c n (CD f g.i 0))]⟩) (fun g=>n-g.i) ⟨0,by omega⟩ ?_ ?_
 ·refine aE ⟨?_,trivial⟩ ?_
  ·rw[JH];exact gu 0 20 c n _
  simp[wk]
 rintro⟨i,hi⟩;simp only;by_cases hm:i<n
 ·have hr:=bs c f hm;refine aC fun _ K=>?_;simp(disch:=omega) only[kd,slM];apply K
  refine bu rfl ?_;refine aD (aJ ?_);refine aC fun _ K=>?_;simp only[kd];apply K
  refine aC fun _ K=>?_;simp(disch:=omega) only[kd,aa,hr,fR,bv];apply K
  refine aT (G:=jP c) (fun g=>⟨(slM (mat n c f)::j4 (jk::jk::.one (.sl 20 0 0 c)::rN i::j4 (j4 (j4 (jk::rN n::rN i::j4 (jk::jk::rN c::rN g.i::j16 (jk::jk::jk::[]))))))),Hm [(20,gK 20 c n (CD f i g.i))]⟩) (fun g=>c-g.i) ⟨0,by omega⟩ ?_ ?_
  ·refine aE ⟨rfl,trivial⟩ ?_;simp[wk]
  rintro⟨j,hj⟩;simp only;by_cases hm3:j<c
  ·have hjr:=aR (f i) hm3;have hS:=Ja (f i j) (hf i j hm hm3);have g1:=bK (n:=c) (i:=j) 20 n hm3;have g2:=em n (CD f i j) hm3;have g3:=aR (CD f i j j) hm;refine aC fun _ K=>?_;simp(disch:=omega) only[kd,slM];apply K
   refine bu rfl ?_;refine aD (aJ ?_);refine aC fun _ K=>?_;simp only[kd];apply K
   refine d8 aW [⟨12,_,_,_,hS⟩] [] (by kernel_rfl) fun _ K=>?_;simp(disch:=omega) only[kd,tZ,aa,g1,hr,fR,hjr,fZ,g2,g3,j7];apply K
   show bf _ _ _ _;refine aL fun _ K=>?_;simp(disch:=omega) only[kd,aO];apply K
   refine⟨⟨j+1,by omega⟩,by simp only;omega,aE ⟨?_,trivial⟩ ?_⟩
   ·show _::_=_::_;rw[cx fun a b _ _=>JG f i j a b]
   simp[wk]
  have hjc:j=c:=by omega
  subst hjc;refine aC fun _ K=>?_;simp(disch:=omega) only[kd,slM];apply K
  refine bD rfl ?_;show bf _ _ _ _;refine aL fun _ K=>?_;simp(disch:=omega) only[kd,aO];apply K
  refine⟨⟨i+1,by omega⟩,by simp only;omega,aE ⟨?_,trivial⟩ ?_⟩
  ·show _::_=_::_;rw[cx fun a b ha _=>Ms f i a b ha]
  simp[wk]
 have hin:i=n:=by omega
 subst hin;refine aC fun _ K=>?_;simp(disch:=omega) only[kd,slM];apply K
 refine bD rfl ?_;show bf _ _ _ _;have e:gK 20 c i (CD f i 0)=gK 20 c i (trF f):=by
  show _::_=_::_;rw[cx fun a b _ hb=>Mr f a b hb]
 rw[e];refine bf.weak ((bC 20 (jY rfl)).trans (aE (tm:=(j4 (jk::jk::jk::slM (mat c i (trF f))::j16 (j16 (j4 (j4 (jk::jk::jk::[]))))))) (l:=[]) trivial (by simp[wk];exact(NO (H:=Hm [(20,gK 20 c i (trF f))]) (d:=20) (n:=c) (c:=i) (f:=trF f) rfl).symm))) ?_;refine aC fun _ K=>?_;simp only[kd,aa,slM];apply K
 (refine aH ⟨.inr rfl,aG rfl ?_ rfl⟩;simp(disch:=omega) only[kd,Tryz.results66])
def idF:Nat->Nat->Int:=fun a b=>if a=b then 1 else 0
def qz (i:Nat):Nat->Nat->Int:=fun a b=>if a<i/\a=b then 1 else 0
theorem uJ (i a b:Nat):upd (qz i) i i 1 a b=qz (i+1) a b:=by
 unfold upd qz;by_cases h1:a=i
 ·subst h1;by_cases h2:b=a
  ·subst h2;simp
  simp[h2,Ne.symm h2]
 have:a<i+1↔a<i:=by omega
 simp[h1,this]
theorem yx {n:Nat} (a b:Nat) (ha:a<n):qz n a b=idF a b:=by unfold qz idF;simp[ha]
theorem JF:qz 0=fun _ _=>0:=by funext a b;unfold qz;rw[if_neg (by omega)]
theorem sV (n:Nat) (hn1:1<=n) (hn:n<=16):
  CallC Tryz.prog 63 [.raw (.int .i64 (n:Int))] ⟨gK 0 n n idF,.tup [(false,[.sl 0 0 0 n]),(false,[.p (.raw (.bool true))])]⟩:=by
 have hZ:=xC n n hn hn;rw[sB,qZ]at hZ;have hS:=fX 1 (by omega) (by omega);refine aI Tryz.func63 rfl (by kernel_rfl) ?_;rw[Tryz.ntmps63];refine aC fun _ K=>?_;simp only[kd,ae];apply K
 refine aD (aC fun _ K=>?_);simp(disch:=omega) only[kd,aa];apply K;refine aN rfl (aK ?_);show bf _ _ _ _;refine aF [⟨2,_,_,_,hZ⟩] [] fun _ K=>?_;simp only[kd,aa];apply K
 refine aD (aC fun _ K=>?_);simp only[kd,aa];apply K;refine aT (G:=jP n) (fun g=>⟨(j4 (.one (.sl 14 0 0 n)::j4 (j4 (jk::jk::jk::rN n::rN g.i::j4 (j4 (jk::jk::jk::[])))))),Hm [(14,gK 14 n n (qz g.i))]⟩) (fun g=>n-g.i) ⟨0,by omega⟩ ?_ ?_
 ·refine aE ⟨?_,trivial⟩ ?_
  ·rw[JF];exact gu 0 14 n n _
  simp[wk]
 rintro⟨i,hi⟩;simp only;by_cases hm:i<n
 ·have g1:=bK (n:=n) (i:=i) 14 n hm;have g2:=em n (qz i) hm;have g3:=aR (qz i i) hm;have e1:=j7 (n:=n) (i:=i) (j:=i) n (qz i) 1;refine aC fun _ K=>?_;simp(disch:=omega) only[kd];apply K
  refine bu rfl ?_;refine aD (aJ ?_);refine aC fun _ K=>?_;simp only[kd];apply K
  refine d8 aW [⟨5,_,_,_,hS⟩] [] (by kernel_rfl) fun _ K=>?_;simp(disch:=omega) only[kd,tZ,aa,g1,g2,fZ,g3];apply K
  show bf _ _ _ _;refine aL fun _ K=>?_;simp(disch:=omega) only[kd,aO];apply K
  refine⟨⟨i+1,by omega⟩,by simp only;omega,aE ⟨?_,trivial⟩ ?_⟩
  ·show _::_=_::_;rw[<- cx fun a b _ _=>uJ i a b]
   congr 1
  simp[wk]
 have hin:i=n:=by omega
 subst hin;refine aC fun _ K=>?_;simp(disch:=omega) only[kd];apply K
 refine bD rfl ?_;show bf _ _ _ _;have e:gK 14 i i (qz i)=gK 14 i i idF:=by
  show _::_=_::_;rw[cx fun a b ha _=>yx a b ha]
 rw[e];refine aC fun _ K=>?_;simp only[kd,aa];apply K
 refine aH ⟨.inr rfl,_,b8.refl _,?_⟩;refine⟨.tup [(false,[.sl 14 0 0 i]),(false,[.p (.raw (.bool true))])],14,?_,?_,?_,rfl⟩
 ·simp(disch:=omega) only[kd,Tryz.results63]
 ·intro t ht x hx;simp at ht;rcases ht with rfl|rfl<;>(simp at hx;subst hx)<;>first|rfl|trivial
 exact(gu 14 0 _ _ _).symm
def gm (k:Nat) (f g:FF):Nat->Nat->Int:=fun i j=>fh (bz k (f i)) (bz k (trF g j)) k
theorem PX (n k m:Nat) (f g:FF) (hn1:1<=n) (hn:n<=16) (hk1:1<=k) (hk:k<=16) (hm1:1<=m) (hmm:m<=16) (hf: ∀i j:Nat,i<n->j<k->Sz (f i j) 16777216) (hg: ∀i j:Nat,i<k->j<m->Sz (g i j) 16777216):
  CallC Tryz.prog 110 [slM (mat n k f),slM (mat k m g)] ⟨[],.tup [(false,[.p (.sl (ls (fR fZ) (mat n m (gm k f g))))]),(false,[.p (.raw (.bool true))])]⟩:=by
 have hS:=ny (mat n k f);rw[fW (iy f hn1 hn hk1 hk),aU,fb f hn1]at hS;have hT:=rD k m g hk1 hk hm1 hmm (fun i j hi hj=>(hg i j hi hj).mono (by omega));have hml:=aU n k f;have hml2:=aU k m g;have hml3:=aU m k (trF g);have hZ:=xC n m hn hmm;rw[sB,qZ]at hZ;refine aI Tryz.func110 rfl (by kernel_rfl) ?_;rw[Tryz.ntmps110];refine aC fun _ K=>?_;simp only[kd,slM,aa,ae];apply K
 refine aF [⟨1,_,_,_,hS⟩] [] fun _ K=>?_;simp only[kd,slM,aa];apply K
 refine aF [⟨1,_,_,_,hT⟩] [] fun _ K=>?_;simp only[kd,slM,aa];apply K
 refine aD (aC fun _ K=>?_);simp(disch:=omega) only[kd,aa,hml2];apply K;refine aN rfl (aK ?_);show bf _ _ _ _;refine aF [⟨4,_,_,_,hZ⟩] [] fun _ K=>?_;simp only[kd,aa,hml,hml3];apply K
 refine aD (aC fun _ K=>?_);simp only[kd,aa,hml];apply K;refine aT (G:=jP n) (fun q=>⟨(slM (mat n k f)::j4 (j4 (slM (mat m k (trF g))::jk::.one (.sl 41 0 0 n)::j16 (j4 (j4 (j4 (jk::jk::jk::rN n::rN q.i::j16 (j4 (j4 (jk::[])))))))))),Hm [(41,gK 41 n m (part (gm k f g) q.i 0))]⟩) (fun q=>n-q.i) ⟨0,by omega⟩ ?_ ?_
 ·refine aE ⟨?_,trivial⟩ ?_
  ·rw[w8];exact gu 0 41 n m _
  simp[wk]
 rintro⟨i,hi⟩;simp only;by_cases him:i<n
 ·have hr:=bs k f him;refine aC fun _ K=>?_;simp(disch:=omega) only[kd,slM];apply K
  refine bu rfl ?_;refine aD (aJ ?_);refine aC fun _ K=>?_;simp only[kd];apply K
  refine aC fun _ K=>?_;simp only[kd,aa,hml3];apply K
  refine aT (G:=jP m) (fun q=>⟨(slM (mat n k f)::j4 (j4 (slM (mat m k (trF g))::jk::.one (.sl 41 0 0 n)::rN i::j16 (j4 (j4 (j4 (jk::jk::rN n::rN i::jk::jk::jk::rN m::rN q.i::j16 (j4 ([]))))))))),Hm [(41,gK 41 n m (part (gm k f g) i q.i))]⟩) (fun q=>m-q.i) ⟨0,by omega⟩ ?_ ?_
  ·refine aE ⟨rfl,trivial⟩ ?_;simp[wk]
  rintro⟨j,hj⟩;simp only;by_cases hm3:j<m
  ·have hr2:=bs k (trF g) hm3;have hD:=PS (bz k (f i)) (bz k (trF g j)) (by rw[bv];omega) (by rw[bv,bv];omega) (fun z hz=>by
    obtain⟨p,hp,rfl⟩:=List.mem_map.1 hz;exact hf i p him (List.mem_range.1 hp)) (fun z hz=>by
    obtain⟨p,hp,rfl⟩:=List.mem_map.1 hz;exact(hg p j (List.mem_range.1 hp) hm3).mono (by omega))
   rw[bv,show fh (bz k (f i)) (bz k (trF g j)) k=gm k f g i j from rfl]at hD;have g1:=bK (n:=n) (i:=i) 41 m him;have g2:=em m (part (gm k f g) i j) him;have g3:=aR (part (gm k f g) i j i) hm3;refine aC fun _ K=>?_;simp(disch:=omega) only[kd,slM];apply K
   refine bu rfl ?_;refine aD (aJ ?_);refine aC fun _ K=>?_;simp only[kd];apply K
   refine d8 aW [⟨13,_,_,_,hD⟩] [] (by kernel_rfl) fun _ K=>?_;simp(disch:=omega) only[kd,kZ,tZ,aa,g1,hr,fR,hr2,g2,fZ,g3,j7];apply K
   show bf _ _ _ _;refine aL fun _ K=>?_;simp(disch:=omega) only[kd,aO];apply K
   refine⟨⟨j+1,by omega⟩,by simp only;omega,aE ⟨?_,trivial⟩ ?_⟩
   ·show _::_=_::_;rw[cx fun a b _ _=>jt (gm k f g) i j a b]
   simp[wk]
  have hjc:j=m:=by omega
  subst hjc;refine aC fun _ K=>?_;simp(disch:=omega) only[kd,slM];apply K
  refine bD rfl ?_;show bf _ _ _ _;refine aL fun _ K=>?_;simp(disch:=omega) only[kd,aO];apply K
  refine⟨⟨i+1,by omega⟩,by simp only;omega,aE ⟨?_,trivial⟩ ?_⟩
  ·show _::_=_::_;rw[cx fun a b _ hb=>kU (gm k f g) i a b hb]
  simp[wk]
 have hin:i=n:=by omega
 subst hin;refine aC fun _ K=>?_;simp(disch:=omega) only[kd,slM];apply K
 refine bD rfl ?_;show bf _ _ _ _;have e:gK 41 i m (part (gm k f g) i 0)=gK 41 i m (gm k f g):=by
  show _::_=_::_;rw[cx fun a b ha _=>jG (gm k f g) a b ha]
 rw[e];refine bf.weak ((bC 41 (jY rfl)).trans (aE (tm:=(j4 (j4 (jk::jk::jk::slM (mat i m (gm k f g))::j16 (j16 (j16 (j4 (j4 (jk::jk::[]))))))))) (l:=[]) trivial (by simp[wk];exact(NO (H:=Hm [(41,gK 41 i m (gm k f g))]) (d:=41) (n:=i) (c:=m) (f:=gm k f g) rfl).symm))) ?_;refine aC fun _ K=>?_;simp only[kd,aa,slM];apply K
 (refine aH ⟨.inr rfl,aG rfl ?_ rfl⟩;simp(disch:=omega) only[kd,Tryz.results110])
theorem nw (n k m:Nat) (f g:FF) (hn1:1<=n) (hn:n<=16) (hk1:1<=k) (hk:k<=16) (hm1:1<=m) (hmm:m<=16) (hf: ∀i j:Nat,i<n->j<k->Sz (f i j) 16777216) (hg: ∀i j:Nat,i<k->j<m->Sz (g i j) 16777216):
  CallC Tryz.prog 65 [slM (mat n k f),slM (mat k m g)] ⟨[],slM (mat n m (gm k f g))⟩:=by
 have hM:=PX n k m f g hn1 hn hk1 hk hm1 hmm hf hg;refine aI Tryz.func65 rfl (by kernel_rfl) ?_;rw[Tryz.ntmps65];refine aC fun _ K=>?_;simp only[kd,slM,aa,ae];apply K
 refine aF [⟨2,_,_,_,hM⟩] [] fun _ K=>?_;simp only[kd,slM,aa];apply K
 refine aC fun _ K=>?_;simp only[kd];apply K
 (refine aH ⟨.inr rfl,aG rfl ?_ rfl⟩;simp(disch:=omega) only[kd,Tryz.results65,slM])
theorem yi {k:Nat} {f g:FF} {b c i j:Nat} (hf: ∀p,p<k->Sz (f i p) b) (hg: ∀p,p<k->Sz (g p j) c):Sz (gm k f g i j) (b+c+k):=by
 refine xG (ss fun z hz=>?_) (ss fun z hz=>?_) k
 ·obtain⟨p,hp,rfl⟩:=List.mem_map.1 hz;exact hf p (List.mem_range.1 hp)
 obtain⟨p,hp,rfl⟩:=List.mem_map.1 hz;exact hg p (List.mem_range.1 hp)
def cngF (n:Nat) (h t:FF):Nat->Nat->Int:=gm n (gm n (trF t) h) t
theorem mo (n:Nat) (h t:FF) (hn1:1<=n) (hn:n<=16) (hh: ∀i j:Nat,i<n->j<n->Sz (h i j) 500) (ht: ∀i j:Nat,i<n->j<n->Sz (t i j) 500):
  CallC Tryz.prog 26 [slM (mat n n h),slM (mat n n t)] ⟨[],slM (mat n n (cngF n h t))⟩:=by
 have c1:=rD n n t hn1 hn hn1 hn (fun i j hi hj=>(ht i j hi hj).mono (by omega));have c2:=nw n n n (trF t) h hn1 hn hn1 hn hn1 hn (fun i j hi hj=>(ht j i hj hi).mono (by omega)) (fun i j hi hj=>(hh i j hi hj).mono (by omega));have c3:=nw n n n (gm n (trF t) h) t hn1 hn hn1 hn hn1 hn (fun i j hi hj=>(yi (b:=500) (c:=500) (fun p hp=>ht p i hp hi) (fun p hp=>hh p j hp hj)).mono (by omega)) (fun i j hi hj=>(ht i j hi hj).mono (by omega));refine aI Tryz.func26 rfl (by kernel_rfl) ?_;rw[Tryz.ntmps26];refine aC fun _ K=>?_;simp only[kd,slM,aa,ae];apply K
 refine aF [⟨1,_,_,_,c1⟩] [] fun _ K=>?_;simp only[kd,slM,aa];apply K
 refine aF [⟨2,_,_,_,c2⟩,⟨4,_,_,_,c3⟩] [] fun _ K=>?_;simp only[kd,slM,aa,af];apply K
 (refine aH ⟨.inr rfl,aG rfl ?_ rfl⟩;simp(disch:=omega) only[kd,Tryz.results26,slM,cngF])
def cK (F:Nat->Int):Nat->Int
 |0=>0
 |k+1=>cK F k+F k
theorem aY {F G:Nat->Int}: ∀k,(∀p,p<k->F p=G p)->cK F k=cK G k
 |0,_=>rfl
 |k+1,h=>by rw[cK,cK,aY k (fun p hp=>h p (by omega)),h k (by omega)]
theorem ki (F G:Nat->Int): ∀k,cK (fun p=>F p+G p) k=cK F k+cK G k
 |0=>rfl
 |k+1=>by rw[cK,cK,cK,ki F G k];omega
theorem fg: ∀k,cK (fun _=>0) k=0
 |0=>rfl
 |k+1=>by rw[cK,fg k];rfl
theorem iD {F:Nat->Int} {a:Nat}: ∀{k},a<k->(∀p,p<k->p≠a->F p=0)->cK F k=F a
 |k+1,h,h0=>by
  by_cases e:a=k
  ·subst e;rw[cK,aY a (G:=fun _=>0) (fun p hp=>h0 p (by omega) (by omega)),fg];omega
  rw[cK,iD (show a<k by omega) (fun p hp hn=>h0 p (by omega) hn),h0 k (by omega) (by omega)];omega
theorem pB {k:Nat} (x y:Nat->Int): ∀l,l<=k->fh (bz k x) (bz k y) l=cK (fun p=>x p*y p) l
 |0,_=>rfl
 |l+1,h=>by
  show fh (bz k x) (bz k y) l+(bz k x).getD l 0*(bz k y).getD l 0=_;rw[pB x y l (by omega),List.getD_eq_getElem?_getD,List.getD_eq_getElem?_getD,aR _ (by omega),aR _ (by omega)];rfl
theorem gU (k:Nat) (f g:FF) (i j:Nat):gm k f g i j=cK (fun p=>f i p*g p j) k:=pB _ _ k (ac _)
def Hr (i j:Nat) (c:Int):Nat->Nat->Int:=upd idF j i c
def G0 (m:Nat):Nat->Nat->Int:=fun a=>idF (oq m a)
theorem EC (m a:Nat):oq m (oq m a)=a:=by
 unfold oq;by_cases h1:a=m
 ·subst h1;simp
 by_cases h2:a=m+1
 ·subst h2;simp
 simp[h1,h2]
theorem Oh {i j:Nat} {c:Int} (hji:j≠i) (p b:Nat):Hr i j c p b=idF p b+(if p=j then(if b=i then c else 0)else 0):=by
 unfold Hr upd idF;by_cases h1:p=j
 ·subst h1;by_cases h2:b=i
  ·subst h2;simp[hji]
  simp[h2]
 simp[h1]
theorem vw {n:Nat} {y:Nat->Int} {b:Nat} (hb:b<n):cK (fun p=>y p*idF p b) n=y b:=by
 rw[iD hb (fun p hp hn=>by simp[idF,hn])];simp[idF]
theorem Cp {n i j:Nat} {c:Int} (hji:j≠i) (hj:j<n) (x:FF) (a b:Nat) (hb:b<n):gm n x (Hr i j c) a b=x a b+(if b=i then c*x a j else 0):=by
 rw[gU,aY n (G:=fun p=>x a p*idF p b+x a p*(if p=j then(if b=i then c else 0)else 0)) (fun p _=>by rw[Oh hji,Int.mul_add]),ki,vw hb]
 congr 1
 rw[iD hj (fun p _ hn=>by simp[hn])];by_cases h:b=i
 ·simp[h,Int.mul_comm]
 simp[h]
theorem Hs {n i j:Nat} {c:Int} (hji:j≠i) (hj:j<n) (x:FF) (a b:Nat) (ha:a<n):gm n (trF (Hr i j c)) x a b=x a b+(if a=i then c*x j b else 0):=by
 have:=Cp (c:=c) hji hj (trF x) b a ha;rw[gU]at this⊢;rw[aY n (G:=fun p=>trF x b p*Hr i j c p a) (fun p _=>by rw[Int.mul_comm];rfl),this];rfl
theorem LB {n i j:Nat} {c:Int} (hji:j≠i) (hj:j<n) (f:FF) (a b:Nat) (ha:a<n) (hb:b<n):cngF n f (Hr i j c) a b=fk f i j c a b:=by
 unfold cngF;rw[Cp hji hj _ a b hb,Hs hji hj f a b ha,Hs hji hj f a j ha];unfold fk;by_cases h1:a=i
 ·by_cases h2:b=i
  ·simp only[h1,h2,if_true];grind
  simp only[h1,h2,if_true,if_false];grind
 by_cases h2:b=i
 ·simp only[h1,h2,if_true,if_false];grind
 simp only[h1,h2,if_false];omega
theorem LX (m p b:Nat):idF (oq m p) b=idF p (oq m b):=by
 unfold idF;have:oq m p=b↔p=oq m b:=⟨fun h=>by rw[<- h,EC],fun h=>by rw[h,EC]⟩;simp only[this]
theorem Cr {n m:Nat} (hm:m+1<n) (x:FF) (a b:Nat) (hb:b<n):gm n x (G0 m) a b=x a (oq m b):=by
 rw[gU,aY n (G:=fun p=>x a p*idF p (oq m b)) (fun p _=>by rw[<- LX];rfl),vw (pj hm hb)]
theorem Ps {n m:Nat} (hm:m+1<n) (x:FF) (a b:Nat) (ha:a<n):gm n (trF (G0 m)) x a b=x (oq m a) b:=by
 have:=Cr hm (trF x) b a ha;rw[gU]at this⊢;rw[aY n (G:=fun p=>trF x b p*G0 m p a) (fun p _=>by rw[Int.mul_comm];rfl),this];rfl
theorem OB {n m:Nat} (hm:m+1<n) (f:FF) (a b:Nat) (ha:a<n) (hb:b<n):cngF n f (G0 m) a b=ju f m a b:=by
 unfold cngF;rw[Cr hm _ a b hb,Ps hm f a _ ha];rfl
/-! Which change is made. -/
inductive Ch where
 |add (i j:Nat)
 |swp (m:Nat)
instance (f:FF) (i j:Nat):Decidable (SizF f i j):=by unfold SizF;exact inferInstance
instance (f:FF) (i:Nat):Decidable (LovF f i):=by unfold LovF;exact inferInstance
def scanJ (f:FF) (i:Nat):Nat->Option Nat
 |0=>none
 |j+1=>if SizF f i j then scanJ f i j else some j
def scanI (f:FF):Nat->Nat->Option Ch
 |0,_=>none
 |m+1,i=>match scanJ f i i with
  |some j=>some (.add i j)
  |none=>if 0<i/\ ¬LovF f i then some (.swp (i-1))else scanI f m (i+1)
def scanF (f:FF) (n:Nat):Option Ch:=scanI f n 0
theorem lY {f:FF} {i:Nat}: ∀{k},scanJ f i k=none-> ∀j,j<k->SizF f i j
 |k+1,h,j,hj=>by
  unfold scanJ at h;split at h
  ·rename_i hs;by_cases e:j=k
   ·subst e;exact hs
   exact lY h j (by omega)
  cases h
theorem vg {f:FF} {i j:Nat}: ∀{k},scanJ f i k=some j->j<k/\ ¬SizF f i j/\ ∀j',j<j'->j'<k->SizF f i j'
 |k+1,h=>by
  unfold scanJ at h;split at h
  ·rename_i hs;obtain⟨h1,h2,h3⟩:=vg h;refine⟨by omega,h2,fun j' g1 g2=>?_⟩;by_cases e:j'=k
   ·subst e;exact hs
   exact h3 j' g1 (by omega)
  rename_i hs;injection h with h
  subst h;exact⟨by omega,hs,fun j' g1 g2=>by omega⟩
def rC (f:FF) (i:Nat):Prop:=(∀j,j<i->SizF f i j)/\(0<i->LovF f i)
theorem ve {f:FF}: ∀{m i},scanI f m i=none-> ∀i',i<=i'->i'<i+m->rC f i'
 |0,i,_,i',h1,h2=>by omega
 |m+1,i,h,i',h1,h2=>by
  unfold scanI at h;split at h
  ·cases h
  rename_i hj;split at h
  ·cases h
  rename_i hl;by_cases e:i'=i
  ·subst e;exact⟨lY hj,fun h0=>by
    by_cases hL:LovF f i'
    ·exact hL
    exact absurd ⟨h0,hL⟩ hl⟩
  exact ve h i' (by omega) (by omega)
def QA (f:FF):Ch->Prop
 | .add i j=>j<i/\ ¬SizF f i j/\(∀j',j<j'->j'<i->SizF f i j')/\ ∀i',i'<i->rC f i'
 | .swp m=> ¬LovF f (m+1)/\(∀j,j<m+1->SizF f (m+1) j)/\ ∀i',i'<m+1->rC f i'
def DB:Ch->Nat
 | .add i _=>i
 | .swp m=>m+1
theorem vf {f:FF} {c:Ch}: ∀{m i},(∀i',i'<i->rC f i')->scanI f m i=some c->QA f c/\DB c<i+m
 |m+1,i,hi,h=>by
  unfold scanI at h;split at h
  ·rename_i j hj;injection h with h
   subst h;obtain⟨h1,h2,h3⟩:=vg hj;exact⟨⟨h1,h2,h3,hi⟩,by simp[DB]⟩
  rename_i hj;split at h
  ·rename_i hl;injection h with h
   subst h;have e:i-1+1=i:=by omega
   refine⟨⟨by rw[e];exact hl.2,by rw[e];exact lY hj,by rw[e];exact hi⟩,by simp[DB];omega⟩
  rename_i hl;have:=vf (m:=m) (i:=i+1) (fun i' h'=>by
   by_cases e:i'=i
   ·subst e;exact⟨lY hj,fun h0=>by
     by_cases hL:LovF f i'
     ·exact hL
     exact absurd ⟨h0,hL⟩ hl⟩
   exact hi i' (by omega)) h
  exact⟨this.1,by omega⟩
theorem iu {f:FF} {n:Nat} {c:Ch} (h:scanF f n=some c):QA f c/\DB c<n:=by
 have:=vf (f:=f) (m:=n) (i:=0) (fun i' h=>by omega) h;exact⟨this.1,by omega⟩
theorem CQ {f:FF} {n:Nat} (h:scanF f n=none):Oe f n:=fun i hi=>ve (m:=n) (i:=0) h i (by omega) (by omega)
def vC (i:Nat):Nat:=i*(i-1)/2
def AD:Ch->Nat
 | .add i j=>vC i+(i-1-j)
 | .swp m=>vC (m+2)
theorem ld (i:Nat):vC (i+1)=vC i+i:=by
 unfold vC;cases i with
 |zero=>rfl
 |succ i=>
  rw[Nat.add_sub_cancel,Nat.add_sub_cancel];have:(i+1+1)*(i+1)=(i+1)*i+2*(i+1):=by rw[Nat.add_mul,Nat.one_mul,Nat.mul_add,Nat.mul_add,Nat.add_mul];omega
  rw[this,Nat.add_mul_div_left _ _ (by omega)]
theorem jv {i j:Nat} (h:i<=j):vC i<=vC j:=by
 induction j with
 |zero=>have:i=0:=(by omega);subst this;exact ac _
 |succ j ih=>
  by_cases e:i=j+1
  ·subst e;exact ac _
  have:=ih (by omega);rw[ld];omega
def rankF (f:FF) (n:Nat):Nat:=match scanF f n with
 |some c=>AD c
 |none=>vC n
theorem p7 (f:FF) (n:Nat):rankF f n<=vC n:=by
 unfold rankF;split
 ·rename_i c hc;obtain⟨h1,h2⟩:=iu hc;cases c with
  |add i j=>
   have h2:i<n:=h2;have:=jv (show i+1<=n by omega);rw[ld]at this;obtain⟨h1,_⟩:=h1;simp only[AD];omega
  |swp m=>
   have h2:m+1<n:=h2;exact jv (show m+2<=n by omega)
 exact ac _
theorem MA {f:FF} {n i j:Nat} (hj:j<i) (hi:i<n) (h1: ∀i',i'<i->rC f i') (h2: ∀j',j<=j'->j'<i->SizF f i j'):vC i+(i-1-j)<rankF f n:=by
 have hni:=jv (show i+1<=n by omega);rw[ld]at hni;unfold rankF;split
 ·rename_i c hc;obtain⟨g1,g2⟩:=iu hc;cases c with
  |add i' j'=>
   obtain⟨a1,a2,a3,a4⟩:=g1;simp only[AD];rcases Nat.lt_trichotomy i' i with h|h|h
   ·exact absurd ((h1 i' h).1 j' a1) a2
   ·subst h;by_cases e:j<=j'
    ·exact absurd (h2 j' e a1) a2
    omega
   have:=jv (show i+1<=i' by omega);rw[ld]at this;omega
  |swp m=>
   obtain⟨a1,a2,a3⟩:=g1;simp only[AD];by_cases h:m+1<i
   ·exact absurd ((h1 (m+1) h).2 (by omega)) a1
   have:=jv (show i+1<=m+2 by omega);rw[ld]at this;omega
 omega
section
theorem zx {B:Nat} {d1 d0 x y u v:Int} (h1:0<d1) (h0:d0.natAbs<=B) (h:d1*x=d0*y+u*v):x.natAbs<=B*y.natAbs+u.natAbs*v.natAbs:=by
 have e1:d1.natAbs*x.natAbs=(d0*y+u*v).natAbs:=by rw[<- Int.natAbs_mul,h]
 have e2:=Int.natAbs_add_le (d0*y) (u*v);rw[Int.natAbs_mul,Int.natAbs_mul]at e2;have e3:d0.natAbs*y.natAbs<=B*y.natAbs:=Nat.mul_le_mul_right _ h0;have e4:x.natAbs<=d1.natAbs*x.natAbs:=Nat.le_mul_of_pos_left _ (by omega);omega
theorem I6 {d1 d0 x y l:Int} (h1:0<d1) (h0:0<d0) (hx:0<x) (hy:0<y) (h:d1*x=d0*y+l*l):d1.natAbs*x.natAbs=d0.natAbs*y.natAbs+l.natAbs*l.natAbs:=by
 apply Int.ofNat_inj.1;rw[Int.natCast_add,Int.natCast_mul,Int.natCast_mul,Int.natCast_mul,Int.natAbs_of_nonneg (by omega),Int.natAbs_of_nonneg (by omega),Int.natAbs_of_nonneg (by omega),Int.natAbs_of_nonneg (by omega),Int.natAbs_mul_self',h]
structure Def (f:FF) (n B:Nat):Prop where
 sym:SymF f n
 pos: ∀t,t<n->0<dk f (t+1)
 le: ∀k,k<=n->(dk f k).natAbs<=B
section
variable {f:FF} {n B:Nat}
theorem Def.ne (h:Def f n B): ∀t,t<n->dk f (t+1)≠0:=fun t ht=>by have:=h.pos t ht;omega
theorem Def.pos0 (h:Def f n B) {k:Nat} (hk:k<=n):0<dk f k:=by
 cases k with
 |zero=>rw[dx];omega
 |succ k=>exact h.pos k (by omega)
theorem Def.sylv (h:Def f n B) {k a b:Nat} (hk:k<n) (ha:a<n) (hb:b<n):dk f (k+1)*bk f k a b=dk f k*bk f (k+1) a b+bk f k a k*bk f k b k:=by
 have s:=Go.Proofs.YtfgeomlagfomgaaGreatDoor.sylv f k (fun t ht=>h.ne t (by omega)) a b;rw[kp h.sym k (by omega) (fun t ht=>h.ne t (by omega)) k b hk hb]at s;omega
theorem Def.diag (h:Def f n B) {a:Nat} (ha:a<n): ∀m k,a-k=m->k<=a->0<bk f k a a
 |0,k,hm,hk=>by
  have:k=a:=by omega
  subst this;rw[<- bY];exact h.pos k ha
 |m+1,k,hm,hk=>by
  have ih:=h.diag ha m (k+1) (by omega) (by omega);have s:=h.sylv (k:=k) (by omega) ha ha;have p1:=h.pos k (by omega);have p0:=h.pos0 (k:=k) (by omega);have q1:=Int.mul_pos p0 ih;have q2:0<=bk f k a k*bk f k a k:=by
   rcases Int.le_total 0 (bk f k a k)with h|h
   ·exact Int.mul_nonneg h h
   exact Int.mul_nonneg_of_nonpos_of_nonpos h h
  rcases Int.lt_or_le 0 (bk f k a a)with h|h
  ·exact h
  have:=Int.mul_nonpos_of_nonneg_of_nonpos (Int.le_of_lt p1) h;omega
theorem Def.down (h:Def f n B) {a k:Nat} (ha:a<n) (hk:k<a):(bk f k a k).natAbs*(bk f k a k).natAbs<=B*(bk f k a a).natAbs/\(bk f (k+1) a a).natAbs<=B*(bk f k a a).natAbs:=by
 have s:=I6 (h.pos k (by omega)) (h.pos0 (k:=k) (by omega)) (h.diag ha _ k rfl (by omega)) (h.diag ha _ (k+1) rfl (by omega)) (h.sylv (k:=k) (by omega) ha ha);have hB:=Nat.mul_le_mul_right (bk f k a a).natAbs (h.le (k+1) (by omega));have p0:=h.pos0 (k:=k) (by omega);have:=Nat.le_mul_of_pos_left (bk f (k+1) a a).natAbs (show 0<(dk f k).natAbs by omega);omega
theorem Def.nm (h:Def f n B) {a:Nat} (ha:a<n): ∀k,k<=a->(bk f k a a).natAbs<=B^k*(f a a).natAbs
 |0,_=>by rw[dF];simp
 |k+1,hk=>by
  have h1:=(h.down ha (show k<a by omega)).2;have h2:=az B (h.nm ha k (by omega));rw[Nat.pow_succ,Nat.mul_comm (B^k) B,Nat.mul_assoc];omega
theorem Def.lam_le (h:Def f n B) {a k C:Nat} (ha:a<n) (hk:k<a) (hB:1<=B) (hC:(f a a).natAbs<=C):(bk f k a k).natAbs<=B^n*C:=by
 have h1:=(h.down ha hk).1;have h2:=az B (h.nm ha k (by omega));have h3:(bk f k a k).natAbs<=(bk f k a k).natAbs*(bk f k a k).natAbs:=Nat.le_mul_self _;have h4:B*(B^k*(f a a).natAbs)=B^(k+1)*(f a a).natAbs:=by rw[Nat.pow_succ,Nat.mul_comm (B^k) B,Nat.mul_assoc]
 have h5:B^(k+1)<=B^n:=aB hB (by omega);have h6:B^(k+1)*(f a a).natAbs<=B^n*C:=Nat.mul_le_mul h5 hC;omega
theorem Def.up (h:Def f n B) {a L:Nat} (ha:a<n) (hL: ∀k,k<a->(bk f k a k).natAbs<=L): ∀m k,a-k=m->k<=a->(bk f k a a).natAbs<=(B+L*L)*(B+1)^m
 |0,k,hm,hk=>by
  have:k=a:=by omega
  subst this;rw[<- bY];have:=h.le (k+1) (by omega)
  simp;omega
 |m+1,k,hm,hk=>by
  have ih:=h.up ha hL m (k+1) (by omega) (by omega);have s:=zx (h.pos k (by omega)) (h.le k (by omega)) (h.sylv (k:=k) (by omega) ha ha);have hl:=hL k (by omega);have h2:=Nat.mul_le_mul hl hl;have h3:=az B ih;have h4:L*L<=(B+L*L)*(B+1)^m:=ay (by omega) (Nat.le_mul_of_pos_right _ (Nat.pow_pos (by omega)));rw[Nat.pow_succ,<- Nat.mul_assoc,Nat.mul_add,Nat.mul_one,Nat.mul_comm _ B];omega
theorem Def.norm_le (h:Def f n B) {a L:Nat} (ha:a<n) (hL: ∀k,k<a->(bk f k a k).natAbs<=L):(f a a).natAbs<=(B+L*L)*(B+1)^n:=by
 have h1:=h.up ha hL a 0 rfl (by omega);rw[dF]at h1;exact ay h1 (az _ (aB (by omega) (by omega)))
theorem Def.ent_up (h:Def f n B) {a b L:Nat} (ha:a<n) (hb:b<a) (hL: ∀a k,a<n->k<a->(bk f k a k).natAbs<=L): ∀m k,b-k=m->k<=b->(bk f k a b).natAbs<=(L+L*L)*(B+1)^m
 |0,k,hm,hk=>by
  have:k=b:=by omega
  subst this;have:=hL a k ha hb
  simp;omega
 |m+1,k,hm,hk=>by
  have ih:=h.ent_up ha hb hL m (k+1) (by omega) (by omega);have s:=zx (h.pos k (by omega)) (h.le k (by omega)) (h.sylv (k:=k) (a:=a) (b:=b) (by omega) ha (by omega));have h2:=Nat.mul_le_mul (hL a k ha (by omega)) (hL b k (by omega) (by omega));have h3:=az B ih;have h4:L*L<=(L+L*L)*(B+1)^m:=ay (by omega) (Nat.le_mul_of_pos_right _ (Nat.pow_pos (by omega)));rw[Nat.pow_succ,<- Nat.mul_assoc,Nat.mul_add,Nat.mul_one,Nat.mul_comm _ B];omega
theorem Def.ent_le (h:Def f n B) {L:Nat} (hL: ∀a k,a<n->k<a->(bk f k a k).natAbs<=L) {a b:Nat} (ha:a<n) (hb:b<n):(f a b).natAbs<=(B+L+L*L)*(B+1)^n:=by
 have key: ∀a b,a<n->b<a->(f a b).natAbs<=(B+L+L*L)*(B+1)^n:=fun a b ha hb=>by
  have h1:=h.ent_up ha hb hL b 0 rfl (by omega);rw[dF]at h1;refine ay h1 (Nat.mul_le_mul (by omega) (aB (by omega) (by omega)))
 rcases Nat.lt_trichotomy a b with h'|h'|h'
 ·rw[h.sym a ha b hb];exact key b a hb h'
 ·subst h';have h1:=h.norm_le ha (fun k hk=>hL a k ha hk);exact ay h1 (Nat.mul_le_mul_right _ (by omega))
 exact key a b ha h'
end
/-! The numbers of the reduction. -/
section
variable {f:FF} {n B:Nat}
def cN (n B:Nat):Nat:=(B+B*B)*(B+1)^n
def l0 (n B:Nat):Nat:=B^n*cN n B
theorem vn (h:Def f n B) {i j:Nat} (hi:i<n) (hj:j<i):SizF f i j↔2*((bk f j i j).natAbs:Int)<=dk f (j+1):=by
 rw[SizF,oW h.pos (by omega),jX h.pos (by omega)]
theorem Ck (h:Def f n B) {i:Nat} (hi:i<n) (h0:0<i):LovF f i↔3*(dk f i*dk f i)<=4*(dk f (i-1)*dk f (i+1)+bk f (i-1) i (i-1)*bk f (i-1) i (i-1)):=by
 rw[LovF,oW h.pos (by omega),jX h.pos (by omega),jX h.pos (by omega),jX h.pos (by omega)]
theorem CY (h:Def f n B) {i j:Nat} (hi:i<n) (hj:j<i) (hs:SizF f i j):(bk f j i j).natAbs<=B:=by
 have h1:=(vn h hi hj).1 hs;have h2:=h.le (j+1) (by omega);omega
theorem ri (h:Def f n B) {i:Nat} (hi:i<n) (hs: ∀j,j<i->SizF f i j):(f i i).natAbs<=cN n B:=h.norm_le hi fun k hk=>CY h hi hk (hs k hk)
def Jn (f:FF) (n B:Nat):Prop:=(∀a,a<n->(f a a).natAbs<=cN n B)\/
 ∃i,i<n/\(∀a,a<n->a≠i->(f a a).natAbs<=cN n B)/\(∀i',i'<i->rC f i')/\ ∃s,s<=i/\(∀j',s<=j'->j'<i->SizF f i j')/\ ∀k,k<i->(bk f k i k).natAbs+2<=(l0 n B+2)*(B+2)^(i-s)
def lM (n B:Nat):Nat:=(l0 n B+2)*(B+2)^n
theorem Jn.lam (h:Def f n B) (hB:1<=B) (hj:Jn f n B): ∀a k,a<n->k<a->(bk f k a k).natAbs<=lM n B:=by
 have h1:l0 n B<=lM n B:=ay (by omega) (Nat.le_mul_of_pos_right _ (Nat.pow_pos (by omega)));have h2: ∀e,e<=n->(l0 n B+2)*(B+2)^e<=lM n B:=fun e he=>az _ (aB (by omega) he)
 rcases hj with hj|⟨i,hi,hj,_,s,hs,_,hl⟩
 ·exact fun a k ha hk=>ay (h.lam_le ha hk hB (hj a ha)) h1
 intro a k ha hk;by_cases e:a=i
 ·subst e;have:=hl k hk;have:=h2 (a-s) (by omega);omega
 exact ay (h.lam_le ha hk hB (hj a ha e)) h1
def eN (n B:Nat):Nat:=(B+lM n B+lM n B*lM n B)*(B+1)^n
theorem Jn.ent (h:Def f n B) (hB:1<=B) (hj:Jn f n B) {a b:Nat} (ha:a<n) (hb:b<n):(f a b).natAbs<=eN n B:=h.ent_le (hj.lam h hB) ha hb
end
end
section
theorem Mt {l d:Int} (hd:0<d):2*((l+ -(qF l d)*d).natAbs:Int)<=d:=by
 unfold qF;have h1:=Int.emod_add_mul_ediv (2*l+d) (2*d);have h2:=Int.emod_nonneg (2*l+d) (show 2*d≠0 by omega);have h3:=Int.emod_lt_of_pos (2*l+d) (show 0<2*d by omega);generalize(2*l+d)/(2*d)=q at*
 have e:2*d*q=2*(q*d):=by rw[Int.mul_assoc,Int.mul_comm d q]
 rw[e]at h1;have e2: -q*d= -(q*d):=Int.neg_mul q d;rw[e2];omega
theorem CE {l d:Int} (hd:0<d):(qF l d).natAbs<=l.natAbs+1:=by
 unfold qF;have h1:=Int.emod_add_mul_ediv (2*l+d) (2*d);have h2:=Int.emod_nonneg (2*l+d) (show 2*d≠0 by omega);have h3:=Int.emod_lt_of_pos (2*l+d) (show 0<2*d by omega);generalize(2*l+d)/(2*d)=q at*
 have e:2*d*q=2*(d*q):=Int.mul_assoc 2 d q;rw[e]at h1;have e2:(d*q).natAbs=d.natAbs*q.natAbs:=Int.natAbs_mul d q;have e3:l.natAbs<=d.natAbs*l.natAbs:=Nat.le_mul_of_pos_left _ (by omega);rcases Nat.lt_or_ge (l.natAbs+1) q.natAbs with h|h
 ·exfalso;have h4:=az d.natAbs (show l.natAbs+2<=q.natAbs by omega);rw[Nat.mul_add]at h4;omega
 exact h
section
variable {f:FF} {n B:Nat}
theorem Ht (hs:SymF f n) {i j:Nat} (c:Int) (hj:j<n):SymF (fk f i j c) n:=fun a ha b hb=>by
 by_cases hab:a=b
 ·subst hab;rfl
 unfold fk;rw[hs a ha b hb];by_cases h1:a=i
 ·by_cases h2:b=i
  ·omega
  simp only[h1,h2,if_true,if_false];rw[hs j hj b hb];omega
 by_cases h2:b=i
 ·simp only[h1,h2,if_true,if_false];rw[hs a ha j hj];omega
 simp only[h1,h2,if_false]
theorem Def.add (h:Def f n B) {i j:Nat} (c:Int) (hji:j<i) (hi:i<n):Def (fk f i j c) n B:=by
 obtain⟨h1,_⟩:=jz h.sym h.ne c hji hi;exact⟨Ht h.sym c (by omega),fun t ht=>by rw[h1 (t+1) (by omega)];exact h.pos t ht,fun k hk=>by rw[h1 k hk];exact h.le k hk⟩
theorem xa (h:Def f n B) {i j:Nat} (c:Int) (hji:j<i) (hi:i<n) {i':Nat} (hi':i'<i) (hr:rC f i'):rC (fk f i j c) i':=by
 have h':=h.add c hji hi;obtain⟨h1,h2,h3⟩:=jz h.sym h.ne c hji hi;have hb: ∀k,k<i'->bk (fk f i j c) k i' k=bk f k i' k:=fun k hk=>by
  by_cases e:k<=j
  ·rw[h2 k i' k e,th (by omega) (by omega)]
  exact h3 k i' k (by omega) (by omega) (by omega) (by omega)
 refine⟨fun k hk=>?_,fun h0=>?_⟩
 ·rw[vn h' (by omega) hk,hb k hk,h1 _ (by omega)];exact(vn h (by omega) hk).1 (hr.1 k hk)
 rw[Ck h' (by omega) h0,hb _ (by omega),h1 _ (by omega),h1 _ (by omega),h1 _ (by omega)];exact(Ck h (by omega) h0).1 (hr.2 h0)
def cF (f:FF) (i j:Nat):Int:= -(qF (lam f i j) (dd f (j+1)))
theorem HU (h:Def f n B) {i j:Nat} (hj:j<n):cF f i j= -(qF (bk f j i j) (dk f (j+1))):=by rw[cF,oW h.pos hj,jX h.pos (by omega)]
theorem yK (h:Def f n B) {i j:Nat} (hji:j<i) (hi:i<n) {j':Nat} (h1:j<=j') (h2:j'<i) (hs:j<j'->SizF f i j'):SizF (fk f i j (cF f i j)) i j':=by
 have h':=h.add (cF f i j) hji hi;obtain⟨g1,g2,g3⟩:=jz h.sym h.ne (cF f i j) hji hi;rw[vn h' hi h2,g1 _ (by omega)];by_cases e:j'=j
 ·subst e;rw[g2 j' i j' (by omega)];have:fk (bk f j') i j' (cF f i j') i j'=bk f j' i j'+cF f i j'*dk f (j'+1):=by
   unfold fk;have hn: ¬j'=i:=by omega
   simp only[if_true,hn,if_false];rw[bY];omega
  rw[this,HU h (by omega)];exact Mt (h.pos j' (by omega))
 rw[g3 j' i j' (by omega) (by omega) hi (by omega)];exact(vn h hi h2).1 (hs (by omega))
theorem Ob (h:Def f n B) (hB:1<=B) (hJ:Jn f n B) {i j:Nat} (hF:QA f (.add i j)) (hi:i<n):Jn (fk f i j (cF f i j)) n B:=by
 obtain⟨hji,hns,hs,hr⟩:=hF;obtain⟨g1,g2,g3⟩:=jz h.sym h.ne (cF f i j) hji hi;have hoff: ∀a,a≠i->fk f i j (cF f i j) a a=f a a:=fun a ha=>th ha ha
 -- the new lambdas of row i
 have hnew: ∀M:Nat,(∀k,k<i->(bk f k i k).natAbs+2<=M)-> ∀k,k<i->(bk (fk f i j (cF f i j)) k i k).natAbs+2<=M*(B+2):=fun M hM k hk=>by
  have hMk:=hM k hk;have hMj:=hM j hji;have e0:M*(B+2)=M*B+2*M:=by rw[Nat.mul_add,Nat.mul_comm M 2]
  rcases Nat.lt_trichotomy k j with e|e|e
  ·rw[g2 k i k (by omega)];have e1:fk (bk f k) i j (cF f i j) i k=bk f k i k+cF f i j*bk f k j k:=by
    unfold fk;have hn: ¬k=i:=by omega
    simp only[if_true,hn,if_false];omega
   rw[e1];have a1:=Int.natAbs_add_le (bk f k i k) (cF f i j*bk f k j k);rw[Int.natAbs_mul]at a1;have a2:(cF f i j).natAbs<=(bk f j i j).natAbs+1:=by rw[HU h (by omega),Int.natAbs_neg];exact CE (h.pos j (by omega))
   have a3:(bk f k j k).natAbs<=B:=CY h (by omega) e ((hr j hji).1 k e);have a4:=Nat.mul_le_mul (show(cF f i j).natAbs<=M by omega) a3;omega
  ·subst e;have hz:=yK h hji hi (ac k) hk (fun h=>by omega);have:=CY (h.add (cF f i k) hji hi) hi hk hz;have:B<=M*B:=Nat.le_mul_of_pos_left _ (by omega);omega
  rw[g3 k i k (by omega) (by omega) hi (by omega)];have:0<=M*B:=Nat.zero_le _;omega
 have hfin: ∀M e:Nat,1<=e->e<=i-j->M*(B+2)<=(l0 n B+2)*(B+2)^e->(∀a,a<n->a≠i->(f a a).natAbs<=cN n B)->(∀k,k<i->(bk f k i k).natAbs+2<=M)->Jn (fk f i j (cF f i j)) n B:=fun M e he1 he2 hMe hA hM=>by
  refine .inr ⟨i,hi,fun a ha hne=>by rw[hoff a hne];exact hA a ha hne,fun i' hi'=>xa h _ hji hi hi' (hr i' hi'),j,by omega,fun j' h1 h2=>yK h hji hi h1 h2 (fun h3=>hs j' h3 h2),fun k hk=>?_⟩;refine ay (hnew M hM k hk) (ay hMe (az _ (aB (by omega) he2)))
 rcases hJ with hA|⟨i1,hi1,hA,hr1,s,hs1,hs2,hl⟩
 ·refine hfin (l0 n B+2) 1 (by omega) (by omega) (by rw[Nat.pow_one];exact ac _) (fun a ha _=>hA a ha) (fun k hk=>?_);have:(bk f k i k).natAbs<=l0 n B:=h.lam_le hi hk hB (hA i hi);omega
 by_cases e:i1=i
 ·subst e;have hjs:j<s:=by
   rcases Nat.lt_or_ge j s with h'|h'
   ·exact h'
   exact absurd (hs2 j h' hji) hns
  refine hfin ((l0 n B+2)*(B+2)^(i1-s)) (i1-s+1) (by omega) (by omega) (by rw[Nat.pow_succ,Nat.mul_assoc];exact ac _) hA hl
 have hall:(f i1 i1).natAbs<=cN n B:=by
  rcases Nat.lt_or_ge i1 i with h'|h'
  ·exact ri h hi1 (hr i1 h').1
  exact absurd ((hr1 i (by omega)).1 j hji) hns
 have hA': ∀a,a<n->(f a a).natAbs<=cN n B:=fun a ha=>by
  by_cases e':a=i1
  ·subst e';exact hall
  exact hA a ha e'
 refine hfin (l0 n B+2) 1 (by omega) (by omega) (by rw[Nat.pow_one];exact ac _) (fun a ha _=>hA' a ha) (fun k hk=>?_);have:(bk f k i k).natAbs<=l0 n B:=h.lam_le hi hk hB (hA' i hi);omega
theorem xl (h:Def f n B) {m:Nat} (hm:m+1<n) (hl: ¬LovF f (m+1)):4*dk (ju f m) (m+1)<3*dk f (m+1)/\0<dk (ju f m) (m+1):=by
 obtain⟨h1,h2⟩:=vy h.sym h.pos hm;refine⟨?_,h2⟩;have h3: ¬3*(dk f (m+1)*dk f (m+1))<=4*(dk f m*dk f (m+2)+bk f m (m+1) m*bk f m (m+1) m):=fun hh=>hl ((Ck h hm (by omega)).2 hh)
 rw[<- h1]at h3;have p:=h.pos m (by omega);rcases Int.lt_or_le (4*dk (ju f m) (m+1)) (3*dk f (m+1))with h4|h4
 ·exact h4
 exfalso;have h5:=Int.mul_le_mul_of_nonneg_left h4 (Int.le_of_lt p);have e1:dk f (m+1)*(3*dk f (m+1))=3*(dk f (m+1)*dk f (m+1)):=Int.mul_left_comm _ _ _;have e2:dk f (m+1)*(4*dk (ju f m) (m+1))=4*(dk f (m+1)*dk (ju f m) (m+1)):=Int.mul_left_comm _ _ _;omega
theorem Def.swap (h:Def f n B) {m:Nat} (hm:m+1<n) (hl: ¬LovF f (m+1)):Def (ju f m) n B:=by
 obtain⟨h1,_⟩:=nk h.sym h.pos hm;obtain⟨g1,g2⟩:=xl h hm hl;have p:=h.pos m (by omega);refine⟨fun a ha b hb=>h.sym _ (pj hm ha) _ (pj hm hb),fun t ht=>?_,fun k hk=>?_⟩
 ·by_cases e:t=m
  ·subst e;exact g2
  rw[h1 (t+1) (by omega) (by omega)];exact h.pos t ht
 by_cases e:k=m+1
 ·subst e;have:=h.le (m+1) hk;omega
 rw[h1 k hk e];exact h.le k hk
theorem Le (h:Def f n B) (hJ:Jn f n B) {m:Nat} (hF:QA f (.swp m)) (hm:m+1<n):Jn (ju f m) n B:=by
 obtain⟨hnl,hs,hr⟩:=hF;have hA: ∀a,a<n->(f a a).natAbs<=cN n B:=by
  rcases hJ with hA|⟨i,hi,hA,hr1,_⟩
  ·exact hA
  intro a ha;by_cases e:a=i
  ·subst e;rcases Nat.lt_trichotomy a (m+1)with h'|h'|h'
   ·exact ri h ha (hr a h').1
   ·subst h';exact ri h ha hs
   exact absurd ((hr1 (m+1) h').2 (by omega)) hnl
  exact hA a ha e
 exact .inl fun a ha=>hA _ (pj hm ha)
def prD (f:FF):Nat->Nat
 |0=>1
 |k+1=>prD f k*(dk f (k+1)).natAbs
theorem re {g:FF}: ∀k,(∀t,t<k->dk g (t+1)=dk f (t+1))->prD g k=prD f k
 |0,_=>rfl
 |k+1,h=>by rw[prD,prD,re k (fun t ht=>h t (by omega)),h k (by omega)]
theorem Eu (h:Def f n B): ∀k,k<=n->0<prD f k
 |0,_=>by simp[prD]
 |k+1,hk=>by
  have:=h.pos k (by omega);exact Nat.mul_pos (Eu h k (by omega)) (by omega)
theorem JE (h:Def f n B): ∀k,k<=n->prD f k<=B^k
 |0,_=>by simp[prD]
 |k+1,hk=>by rw[prD,Nat.pow_succ];exact Nat.mul_le_mul (JE h k (by omega)) (h.le (k+1) hk)
theorem AA (h:Def f n B) {m:Nat} (hm:m+1<n) (hl: ¬LovF f (m+1)): ∀k,m<k->k<=n->4*prD (ju f m) k<=3*prD f k
 |k+1,hk,hkn=>by
  obtain⟨h1,_⟩:=nk h.sym h.pos hm;obtain⟨g1,g2⟩:=xl h hm hl;have p:=h.pos m (by omega);rw[prD,prD];by_cases e:k=m
  ·subst e;rw[re k (fun t ht=>h1 (t+1) (by omega) (by omega)),Nat.mul_left_comm,Nat.mul_left_comm 3];exact az _ (by omega)
  have ih:=AA h hm hl k (by omega) (by omega);rw[h1 (k+1) hkn (by omega),<- Nat.mul_assoc,<- Nat.mul_assoc];exact Nat.mul_le_mul_right _ ih
end
/-! Bounds of the minors of a matrix of small entries. -/
theorem IN {E:Nat} {r:Nat->Int} (hr: ∀c,(r c).natAbs<=E) {M:Nat}: ∀(cs:List Nat) (N:Nat) (F:List Nat->Int),cs.length<=N->(∀l,l.length<=N->(F l).natAbs<=M)->(dw r F cs).natAbs<=cs.length*(E*M)
 |[],_,_,_,_=>by simp[dw]
 |c::cs,N,F,hN,hF=>by
  rw[dw];have h1:=Int.natAbs_sub_le (r c*F cs) (dw r (fun l=>F (c::l)) cs);have h2:=IN hr cs (N-1) (fun l=>F (c::l)) (by simp at hN;omega) (fun l hl=>hF (c::l) (by simp at hN⊢;omega));rw[Int.natAbs_mul]at h1;have h3:=Nat.mul_le_mul (hr c) (hF cs (by simp at hN;omega));rw[List.length_cons,Nat.add_mul,Nat.one_mul];omega
theorem NT {E L:Nat} {f:FF} (hf: ∀a b,(f a b).natAbs<=E): ∀k l,l.length<=L->(om f k l).natAbs<=(L*E)^k
 |0,l,_=>by simp[om]
 |k+1,l,hl=>by
  rw[om];have:=IN (hf k) l L (om f k) hl (fun l hl=>NT hf k l hl);have h2:l.length*(E*(L*E)^k)<=L*(E*(L*E)^k):=Nat.mul_le_mul_right _ hl;rw[Nat.pow_succ,Nat.mul_comm ((L*E)^k),Nat.mul_assoc];exact ay this h2
theorem DK: ∀k,(jO k).length=k
 |0=>rfl
 |k+1=>by rw[jO,List.length_cons,DK k]
abbrev bB:Nat:=722204136308736
theorem OE {E L:Nat} (h1:1<=L*E) {f:FF} (hf: ∀a b,(f a b).natAbs<=E) {k:Nat} (hk:k<=L):(dk f k).natAbs<=(L*E)^L:=
 ay (NT hf k (jO k) (by rw[DK];exact hk)) (aB h1 hk)
theorem P9 {f:FF} (hf: ∀a b,(f a b).natAbs<=9) {k:Nat} (hk:k<=8):(dk f k).natAbs<=bB:=by
 have h1:=OE (L:=8) (by decide) hf hk;have h3:((8*9:Nat))^8=bB:=by decide
 rwa[h3]at h1
end
section
def Q3 (f:FF):Ch->Nat->Nat->Int
 | .add i j=>fk f i j (cF f i j)
 | .swp m=>ju f m
def NM (f:FF):Ch->Nat->Nat->Int
 | .add i j=>Hr i j (cF f i j)
 | .swp m=>G0 m
inductive Rch (n:Nat):(Nat->Nat->Int)->(Nat->Nat->Int)->(Nat->Nat->Int)->(Nat->Nat->Int)->Prop
 |done (f t:FF) (h:scanF f n=none):Rch n f t f t
 |step (f t h T:FF) (c:Ch) (hc:scanF f n=some c) (hr:Rch n (Q3 f c) (gm n t (NM f c)) h T):Rch n f t h T
structure Bi (N B S Z:Nat):Prop where
 n8:N<=8
 b1:9<=B
 lMs: ∀n,n<N+1->lM n B+1<4294967296^Z
 eNs: ∀n,n<N+1->eN n B<4294967296^400
 pt: ¬4^S<=3^S*B^N
 sz:(Z+4)*(28*S+28)+1<=16000000
 z4:Z<=400
structure RedI (N B Z n:Nat) (f0 f t:FF) (s adds:Nat):Prop where
 dfn:Def f n B
 jn:Jn f n B
 det:dk f n=dk f0 n
 pot:4^s*prD f n<=3^s*B^N
 cnt:adds<=28*s+rankF f n
 szt: ∀a b,a<n->b<n->Sz (t a b) (1+(Z+4)*adds)
theorem QZ:Bi 8 bB 970 41:=⟨by decide,by decide,by decide+kernel,by decide+kernel,by decide+kernel,by decide,by decide⟩
theorem yP {n:Nat} (h:n<=8):vC n<=28:=ay (jv h) (by decide)
theorem Mq {C:Nat} (K:Nat) (hK: ¬4^K<=3^K*C) (s:Nat) (hs:K<=s) (h1:4^s<=3^s*C):False:=by
 obtain⟨r,rfl⟩: ∃r,s=K+r:=⟨s-K,by omega⟩;rw[Nat.pow_add,Nat.pow_add]at h1;have h2:3^K*3^r*C<=3^K*C*4^r:=by
  rw[Nat.mul_assoc,Nat.mul_comm (3^r),<- Nat.mul_assoc];exact az _ (Nat.pow_le_pow_left (by omega) r)
 exact hK (Nat.le_of_mul_le_mul_right (ay h1 h2) (Nat.pow_pos (by omega)))
section
variable {N B S Z:Nat} {n:Nat} {f0 f t:FF} {s adds:Nat}
theorem RedI.s_le (k:Bi N B S Z) (h:RedI N B Z n f0 f t s adds):s<S:=by
 rcases Nat.lt_or_ge s S with hs|hs
 ·exact hs
 exfalso;have p1:=Eu h.dfn n (ac _);have h1:4^s<=3^s*B^N:=ay (Nat.le_mul_of_pos_right _ p1) h.pot;exact Mq S k.pt s hs h1
theorem RedI.adds_le (k:Bi N B S Z) (h:RedI N B Z n f0 f t s adds) (hn:n<=N):adds<=28*S+28:=by
 have h1:=h.s_le k;have h2:=h.cnt;have h3:=p7 f n;have h4:=yP (ay hn k.n8);omega
theorem RedI.szf (k:Bi N B S Z) (h:RedI N B Z n f0 f t s adds) (hn:n<=N) {a b:Nat} (ha:a<n) (hb:b<n):Sz (f a b) 400:=by
 have h1:=h.jn.ent h.dfn (ay (by decide) k.b1) ha hb;exact Nat.lt_of_le_of_lt h1 (k.eNs n (by omega))
theorem RedI.szc (k:Bi N B S Z) (h:RedI N B Z n f0 f t s adds) (hn:n<=N) {i j:Nat} (hi:i<n) (hj:j<i):Sz (cF f i j) Z:=by
 rw[HU h.dfn (by omega)];have h1:=CE (l:=bk f j i j) (h.dfn.pos j (by omega));have h2:=h.jn.lam h.dfn (ay (by decide) k.b1) i j hi hj;have h3:=k.lMs n (by omega);unfold Sz;rw[Int.natAbs_neg];generalize 4294967296^Z=p at*
 omega
theorem Gs {c:Ch} (h:scanF f n=some c):rankF f n=AD c:=by unfold rankF;rw[h]
theorem RedI.add (k:Bi N B S Z) (h:RedI N B Z n f0 f t s adds) (hn:n<=N) {i j:Nat} (hc:scanF f n=some (.add i j)):RedI N B Z n f0 (fk f i j (cF f i j)) (gm n t (Hr i j (cF f i j))) s (adds+1)/\rankF f n<rankF (fk f i j (cF f i j)) n:=by
 obtain⟨hF,hi⟩:=iu hc;have hi:i<n:=hi;obtain⟨hji,hns,hs,hr⟩:=id hF;have hrk:rankF f n<rankF (fk f i j (cF f i j)) n:=by
  rw[Gs hc];exact MA hji hi (fun i' hi'=>xa h.dfn _ hji hi hi' (hr i' hi')) (fun j' h1 h2=>yK h.dfn hji hi h1 h2 (fun h3=>hs j' h3 h2))
 obtain⟨g1,_⟩:=jz h.dfn.sym h.dfn.ne (cF f i j) hji hi;have hcn:=h.cnt;refine⟨⟨h.dfn.add _ hji hi,Ob h.dfn (ay (by decide) k.b1) h.jn hF hi,by rw[g1 n (ac _)];exact h.det,by rw[re n (fun t ht=>g1 (t+1) (by omega))];exact h.pot,by omega,fun a b ha hb=>?_⟩,hrk⟩;rw[Cp (by omega) (by omega) t a b hb];have z1:=h.szt a b ha hb;split
 ·have z2:=(h.szc k hn hi hji).mul (h.szt a j ha (by omega));exact(Sz.add (z1.mono (l:=Z+(1+(Z+4)*adds)) (by omega)) z2).mono (by rw[Nat.mul_add];omega)
 rw[Int.add_zero];exact z1.mono (by rw[Nat.mul_add];omega)
theorem RedI.swap (k:Bi N B S Z) (h:RedI N B Z n f0 f t s adds) (hn:n<=N) {m:Nat} (hc:scanF f n=some (.swp m)):RedI N B Z n f0 (ju f m) (gm n t (G0 m)) (s+1) adds:=by
 obtain⟨hF,hm⟩:=iu hc;have hm:m+1<n:=hm;obtain⟨hnl,_,_⟩:=id hF;obtain⟨g1,_⟩:=nk h.dfn.sym h.dfn.pos hm;have hcn:=h.cnt;have h3:=p7 f n;have h4:=yP (ay hn k.n8);refine⟨h.dfn.swap hm hnl,Le h.dfn h.jn hF hm,by rw[g1 n (ac _) (by omega)];exact h.det,?_,by omega,fun a b ha hb=>?_⟩
 ·have p:=AA h.dfn hm hnl n (by omega) (ac _);have q:=az (4^s) p;have e1:4^(s+1)*prD (ju f m) n=4^s*(4*prD (ju f m) n):=by rw[Nat.pow_succ,Nat.mul_assoc]
  have e2:4^s*(3*prD f n)=3*(4^s*prD f n):=Nat.mul_left_comm _ _ _;have e3:3^(s+1)*B^N=3*(3^s*B^N):=by rw[Nat.pow_succ,Nat.mul_comm (3^s) 3,Nat.mul_assoc]
  rw[e1,e3];rw[e2]at q;exact ay q (az 3 h.pot)
 rw[Cr hm t a b hb];exact h.szt a _ ha (pj hm hb)
def NQ (S n:Nat) (f:FF) (s:Nat):Nat:=(S-s)*30+(29-rankF f n)
theorem RedI.mu_add (k:Bi N B S Z) (h:RedI N B Z n f0 f t s adds) (hn:n<=N) {i j:Nat} (hc:scanF f n=some (.add i j)):NQ S n (fk f i j (cF f i j)) s<NQ S n f s:=by
 have h1:=(h.add k hn hc).2;have h2:=p7 (fk f i j (cF f i j)) n;have h3:=yP (ay hn k.n8);unfold NQ;omega
theorem RedI.mu_swap (k:Bi N B S Z) (h:RedI N B Z n f0 f t s adds) (hn:n<=N) {m:Nat} (hc:scanF f n=some (.swp m)):NQ S n (ju f m) (s+1)<NQ S n f s:=by
 have h1:=(h.swap k hn hc).s_le k;have h2:=p7 f n;have h3:=yP (ay hn k.n8);unfold NQ;omega
theorem pc (k:Bi N B S Z) (hn:n<=N): ∀m f t s adds,NQ S n f s<=m->RedI N B Z n f0 f t s adds-> ∃h T,Rch n f t h T
 |0,f,t,s,adds,hk,h=>by
  cases hc:scanF f n with
  |none=>exact⟨f,t,.done f t hc⟩
  |some c=>
   cases c with
   |add i j=>have:=h.mu_add k hn hc;omega
   |swp m=>have:=h.mu_swap k hn hc;omega
 |m+1,f,t,s,adds,hk,h=>by
  cases hc:scanF f n with
  |none=>exact⟨f,t,.done f t hc⟩
  |some c=>
   cases c with
   |add i j=>
    have:=h.mu_add k hn hc;obtain⟨g,T,hr⟩:=pc k hn m _ _ _ _ (by omega) (h.add k hn hc).1;exact⟨g,T,.step f t g T _ hc hr⟩
   |swp q=>
    have:=h.mu_swap k hn hc;obtain⟨g,T,hr⟩:=pc k hn m _ _ _ _ (by omega) (h.swap k hn hc);exact⟨g,T,.step f t g T _ hc hr⟩
theorem RedI.red (h:RedI N B Z n f0 f t s adds) (hn1:1<=n) (hd:dk f0 n<=10000) (hc:scanF f n=none):RedR f n:=by
 refine(sE hn1).1 ⟨h.dfn.sym,fun k hk=>?_,?_,CQ hc⟩
 ·rw[nH h.dfn.pos k hk];exact h.dfn.pos k hk
 have:=nH h.dfn.pos (n-1) (by omega);rw[show n-1+1=n by omega]at this;rw[this,h.det];exact hd
theorem RedI.start_ (k:Bi N B S Z) (hn:n<=N) (hs:SymF f n) (hp:xy f n) (hdb: ∀k,k<=n->(dk f k).natAbs<=B) (hb: ∀a,a<n->(f a a).natAbs<=B) (ht: ∀a b,a<n->b<n->Sz (t a b) 1):RedI N B Z n f f t 0 0:=by
 have hpos: ∀k,k<n->0<dk f (k+1):=fun k hk=>(uH hp k hk).1
 have hdef:Def f n B:=⟨hs,hpos,hdb⟩;have b1:=k.b1;refine⟨hdef,.inl fun a ha=>ay (hb a ha) ?_,rfl,?_,by omega,fun a b ha hb=>(ht a b ha hb).mono (by omega)⟩
 ·unfold cN;exact ay (Nat.le_add_right B (B*B)) (Nat.le_mul_of_pos_right _ (Nat.pow_pos (by omega)))
 simp only[Nat.pow_zero,Nat.one_mul];exact ay (JE hdef n (ac _)) (aB (by omega) hn)
theorem RedI.start (hn1:1<=n) (hn:n<=8) (hs:SymF f n) (hp:xy f n) (hb: ∀a b,(f a b).natAbs<=9) (ht: ∀a b,a<n->b<n->Sz (t a b) 1):RedI 8 bB 41 n f f t 0 0:=
 RedI.start_ QZ hn hs hp (fun k hk=>P9 hb (by omega)) (fun a _=>ay (hb a a) (by decide)) ht
end
end
end Go.Proofs.YtfgeomlagfomgaaGreatDoor
