/-
  Part 15 of a proof (walks and plain facts).
-/
import Derived.Test.YtfgeomlagfomgaaGreatDoorS13
set_option linter.all false
set_option maxRecDepth 100000
set_option maxHeartbeats 64000000
open Nat renaming reduceAdd → aa
open Nat renaming reduceEqDiff → ab
open Nat renaming le_refl → ac
open List renaming replicate → ae
open Nat renaming reduceBEq → af
open Nat renaming reduceLeDiff → ah
open List renaming mem_of_getElem? → au
open Nat renaming le_trans → az
open Nat renaming mul_le_mul_left → aA
open Nat renaming pow_le_pow_right → aC
namespace Go.Proofs.YtfgeomlagfomgaaGreatDoor
open Go.RowKit
def GG (z:Int):Prop:= -9223372036854775808<=z/\z<=9223372036854775807
theorem GG.sz {z:Int} (h:GG z) {k:Nat} (hk:2<=k):Sz z k:=by
 have:Sz z 2:=by
  unfold Sz;have:=h.1;have:=h.2;rw[show(4294967296:Nat)^2=18446744073709551616 by decide];omega
 exact this.mono hk
def MI (M:List (List Int)):Prop:= ∀r∈M,∀z∈r,GG z
theorem MI.ent {M:List (List Int)} (h:MI M) (i j:Nat):GG (ent M i j):=by
 simp only[Go.Proofs.YtfgeomlagfomgaaGreatDoor.ent,List.getD_eq_getElem?_getD];cases hr:M[i]? with
 |none=>simp[GG]
 |some r=>
  simp only[Option.getD_some];cases hz:r[j]? with
  |none=>simp[GG]
  |some z=>exact h r (au hr) z (au hz)
theorem OZ {n c:Nat} {f:FF} (hn:1<=n):Sq (bu n c f)↔n=c:=by
 unfold Sq;rw[aV];have e: ∀i,i<n->((bu n c f).getD i []).length=c:=fun i hi=>by
  rw[List.getD_eq_getElem?_getD,bD _ _ hi,Option.getD_some,bz]
 exact⟨fun h=>by rw[<- e 0 (by omega),h 0 (by omega)],fun h i hi=>by rw[e i hi,h]⟩
theorem sP {f g:FF} {n:Nat} (h: ∀i j,i<n->j<n->f i j=g i j) (hf:RedR f n):RedR g n:=by
 obtain⟨h1,h2,h3,h4⟩:=hf;have ed: ∀k,k<=n->dk g k=dk f k:=fun k hk=>gN fun i j hi hj=>(h i j (by omega) (by omega)).symm
 have eb: ∀t i,t<n->i<n->bk g t i t=bk f t i t:=fun t i ht hi=>by
  have e1:dk (mm g i t) (t+1)=bk g t i t:=BC (fun r c hr hc=>by unfold mm;rw[if_pos hr]) (fun c hc=>by unfold mm;rw[if_neg (by omega)]);have e2:dk (mm f i t) (t+1)=bk f t i t:=BC (fun r c hr hc=>by unfold mm;rw[if_pos hr]) (fun c hc=>by unfold mm;rw[if_neg (by omega)]);rw[<- e1,<- e2];refine gN fun r c hr hc=>?_
  unfold mm;split
  ·exact(h r c (by omega) (by omega)).symm
  exact(h i c hi (by omega)).symm
 refine⟨fun i hi j hj=>by rw[<- h i j hi hj,<- h j i hj hi];exact h1 i hi j hj,fun k hk=>by rw[ed (k+1) (by omega)];exact h2 k hk,by rw[ed n (by omega)];exact h3,fun t ht=>⟨fun i hi hti=>?_,?_⟩⟩
 ·have:=(h4 t ht).1 i hi hti;rw[ed (t+1) (by omega),eb t i (by omega) hi];exact this
 have:=(h4 t ht).2;unfold KN at*
 rw[ed (t+1) (by omega),ed t (by omega),ed (t+1+1) (by omega),eb t (t+1) (by omega) (by omega)];exact this
theorem sO {n c:Nat} {f:FF} (hn1:1<=n):NV (bu n c f)↔n=c/\n<=8/\RedR f n:=by
 unfold NV;rw[aV,OZ hn1];constructor
 ·rintro⟨_,h8,rfl,hr⟩;exact⟨rfl,h8,sP (fun i j hi hj=>lD f hi hj) hr⟩
 rintro⟨rfl,h8,hr⟩;exact⟨hn1,h8,rfl,sP (fun i j hi hj=>(lD f hi hj).symm) hr⟩
theorem rt (M:List (List Int)) (hM:MI M):CallC Tryz.prog 34 [bi M] ⟨[],.raw (.bool (bA M))⟩:=by
 have hr:=dw M;generalize bA M=r at*
 by_cases hS:xe M
 ·obtain⟨n,c,f,rfl,hn1,hn,hc1,hc,hf⟩: ∃n c f,M=bu n c f/\1<=n/\n<=16/\1<=c/\c<=16/\ ∀i j:Nat,GG (f i j):=by
   have h0:=gk (M:=M) hS.1;have hh:=hS.2.2 _ (au h0);exact⟨M.length,(M.headD []).length,ent M,rZ hS,hS.1,hS.2.1,hh.1,hh.2.1,fun i j=>hM.ent i j⟩
  rw[sO hn1]at hr;have hF:=ox n c f hn1 hn hc1 hc (fun i j _ _=>hf i j);obtain⟨e,he,hV⟩:=kX n c f hn1 hn hc1 hc (fun i j _ _=>(hf i j).sz (by omega));by_cases h1:e=0
  ·obtain⟨rfl,h8,hs,hp⟩:=he.1 h1;subst h1;have hD:=AK n f hn1 hn (fun i j _ _=>(hf i j).sz (by omega));by_cases h2:detF n f<=10000
   ·rw[decide_eq_true h2]at hD;have hR:=F9 n f hn1 hn (fun i j _ _=>(hf i j).sz (by omega)) r (by
     rw[hr,<- sj hn1];exact⟨fun h=>h.2.2.2.2.2,fun h=>⟨rfl,h8,hs,hp,h2,h⟩⟩)
    refine aJ Tryz.func34 rfl (by kernel_rfl) ?_;rw[Tryz.ntmps34];refine aD fun _ K=>?_;simp only[kd,bi,ae];apply K
    refine aG [⟨1,_,_,_,hF⟩] [] fun _ K=>?_;simp only[kd,bi,yK,aa];apply K
    refine aG [⟨3,_,_,_,hV⟩,⟨8,_,_,_,hD⟩,⟨12,_,_,_,hR⟩] [] fun _ K=>?_;simp(disch:=omega) only[kd,bE,aa,af];apply K
    (refine aI ⟨.inr rfl,aH rfl ?_ rfl⟩;simp(disch:=omega) only[kd,Tryz.results34])
   have hr0:r=false:=by
    cases r with
    |false=>rfl
    |true=>exact absurd ((sj hn1).2 (hr.1 rfl).2.2).2.2.1 h2
   subst hr0;rw[decide_eq_false h2]at hD;refine aJ Tryz.func34 rfl (by kernel_rfl) ?_;rw[Tryz.ntmps34];refine aD fun _ K=>?_;simp only[kd,bi,ae];apply K
   refine aG [⟨1,_,_,_,hF⟩] [] fun _ K=>?_;simp only[kd,bi,yK,aa];apply K
   refine aG [⟨3,_,_,_,hV⟩,⟨8,_,_,_,hD⟩] [] fun _ K=>?_;simp(disch:=omega) only[kd,bE,aa,af];apply K
   (refine aI ⟨.inr rfl,aH rfl ?_ rfl⟩;simp(disch:=omega) only[kd,Tryz.results34])
  have hr0:r=false:=by
   cases r with
   |false=>rfl
   |true=>
    obtain⟨g1,g2,g3⟩:=hr.1 rfl;subst g1;obtain⟨g4,g5,_⟩:=(sj hn1).2 g3;exact absurd (he.2 ⟨rfl,g2,g4,g5⟩) h1
  subst hr0;refine aJ Tryz.func34 rfl (by kernel_rfl) ?_;rw[Tryz.ntmps34];refine aD fun _ K=>?_;simp only[kd,bi,ae];apply K
  refine aG [⟨1,_,_,_,hF⟩] [] fun _ K=>?_;simp only[kd,bi,yK,aa];apply K
  refine aG [⟨3,_,_,_,hV⟩] [] fun _ K=>?_;simp(disch:=omega) only[kd,bE,aa,af];apply K
  (refine aI ⟨.inr rfl,aH rfl ?_ rfl⟩;simp(disch:=omega) only[kd,Tryz.results34])
 have hF:=rr M hS;have hr0:r=false:=by
  cases r with
  |false=>rfl
  |true=>
   obtain⟨g1,g2,g3,_⟩:=hr.1 rfl;refine absurd ⟨g1,by omega,fun x hx=>?_⟩ hS;obtain⟨i,hi⟩:=List.mem_iff_getElem?.1 hx;have hl: ∀(i:Nat) x,M[i]?=some x->x.length=M.length:=fun i x hi=>by
    have:=g3 i (List.getElem?_eq_some_iff.1 hi).1;rwa[List.getD_eq_getElem?_getD,hi]at this
   rw[rOk,hl i x hi,hl 0 _ (gk g1)];omega
 subst hr0;refine aJ Tryz.func34 rfl (by kernel_rfl) ?_;rw[Tryz.ntmps34];refine aD fun _ K=>?_;simp only[kd,bi,ae];apply K
 refine aG [⟨1,_,_,_,hF⟩] [] fun _ K=>?_;simp only[kd,bi,Im,aa];apply K
 refine aD fun _ K=>?_;simp(disch:=omega) only[kd,aa];apply K
 (refine aI ⟨.inr rfl,aH rfl ?_ rfl⟩;simp(disch:=omega) only[kd,Tryz.results34])
abbrev iU (l:List Int):TV:= .one (.p (.sl (ls fI l)))
theorem xm {x y:List Int} {b c:Nat} (hx: ∀i,Sz (x.getD i 0) b) (hy: ∀i,Sz (y.getD i 0) c): ∀l,Sz (eW x y l) (b+c+l)
 |0=>sD _
 |l+1=>by
  show Sz (eW x y l+x.getD l 0*y.getD l 0) _;exact(xm hx hy l).add (((hx l).mul (hy l)).mono (by omega))
theorem sc {x:List Int} {b:Nat} (h: ∀z∈x,Sz z b) (i:Nat):Sz (x.getD i 0) b:=by
 rw[List.getD_eq_getElem?_getD];cases hx:x[i]? with
 |none=>exact sD _
 |some z=>exact h z (au hx)
theorem Pw (x y:List Int) (hx:x.length<=16) (hxy:x.length<=y.length) (sx: ∀z∈x,Sz z 16777216) (sy: ∀z∈y,Sz z 67108864):CallC Tryz.prog 138 [kP x,kP y] ⟨[],tZ (eW x y x.length)⟩:=by
 refine aJ Tryz.func138 rfl (by kernel_rfl) ?_;rw[Tryz.ntmps138];refine aD fun _ K=>?_;simp(disch:=omega) only[kd,kP,aa,ae];apply K
 refine aD fun _ K=>?_;simp(disch:=omega) only[kd,aa,ab];apply K
 refine aE (aD fun _ K=>?_);simp only[kd,aa];apply K;refine aT (G:=Qt x.length) (fun g=>⟨(kP x::kP y::jk::jk::.one (.ptr 4 0 0 0)::.one (.ptr 5 0 0 0)::jk::jk::jk::rN x.length::rN g.i::j4 (j4 (j4 (jk::jk::jk::[])))),Hm [(4,qB),(5,qo (eW x y g.i))]⟩) (fun g=>x.length-g.i) ⟨0,by omega⟩ ?_ ?_
 ·refine(eE 5).trans (aF ⟨rfl,?_,trivial⟩ ?_)
  ·show _=qo 0;simp[zH,bj,zO,yH,yQ,qo,yJ,cj,ls]
  simp[wk]
 rintro⟨i,hi⟩;simp only;have hs:=xm (sc sx) (sc sy) i;by_cases hm:i<x.length
 ·obtain⟨a,ha⟩:=getElem?_of_lt hm;obtain⟨b,hb⟩:=getElem?_of_lt (l:=y) (k:=i) (by omega);have za:=sx a (au ha);have zb:=sy b (au hb);have c1:=l9 a b (za.mono (by omega)) (zb.mono (by omega));have c2:=vL (eW x y i) (a*b) (hs.mono (by omega)) ((za.mul zb).mono (by omega));have e1:eW x y i+a*b=eW x y (i+1):=by
   show _=eW x y i+x.getD i 0*y.getD i 0;rw[List.getD_eq_getElem?_getD,List.getD_eq_getElem?_getD,ha,hb];rfl
  rw[e1]at c2;refine aD fun _ K=>?_;simp(disch:=omega) only[kd,kP];apply K
  refine bC rfl ?_;refine aE (aK ?_);refine aD fun _ K=>?_;simp only[kd];apply K
  refine d7 aZ [⟨9,_,_,_,c1⟩,⟨10,_,_,_,c2⟩] [] (by kernel_rfl) fun _ K=>?_;simp(disch:=omega) only[kd,tZ,aa,ab,ha,fZ,hb,af];apply K
  show bs _ _ _ _;refine aM fun _ K=>?_;simp(disch:=omega) only[kd,aP];apply K
  refine⟨⟨i+1,by omega⟩,by simp only;omega,aF ⟨rfl,rfl,trivial⟩ ?_⟩;simp[wk]
 have hin:i=x.length:=by omega
 subst hin;refine aD fun _ K=>?_;simp(disch:=omega) only[kd,kP];apply K
 refine bJ rfl ?_;show bs _ _ _ _;refine aD fun _ K=>?_;simp(disch:=omega) only[kd,ab,aa];apply K
 (refine aI ⟨.inr rfl,aH rfl ?_ rfl⟩;simp(disch:=omega) only[kd,Tryz.results138,ab,aa,tZ])
abbrev Qz (n c:Nat) (f:FF) (y:List Int):List Int:=bG n fun i=>eW (bG c (f i)) y c
abbrev Gs (v:Int) (b:Bool):TV:= .tup [(false,[.p (.raw (.int .i64 v))]),(false,[.p (.raw (.bool b))])]
def Pq (z:Int):TV:=if -4611686018427387904<=z/\z<=4611686018427387904 then Gs z true else Gs 0 false
def Fu (M:List (List Int)) (x y:List Int):TV:=if kn M x=true/\FitB M.length y=true then Pq (eW x (dK M y) x.length)else Gs 0 false
theorem Bt {n:Nat} {f:FF} {y:List Int} (hr:bA (bu n n f)=true) (hy:GH y=true):dK (bu n n f) y=Qz n n f y:=by
 have hs:=eH hr;have h8:=hs.2.1;rw[aV]at h8;apply List.ext_getElem?;intro i;rw[dK,List.getElem?_map];by_cases hi:i<n
 ·rw[bD _ _ hi,aU _ hi];simp only[Option.map_some,bz];exact congrArg some (oC (hs.row_bd (bD _ _ hi)) (fun i z hz=>kS hy hz) n h8).1
 rw[List.getElem?_eq_none (by rw[aV];omega),List.getElem?_eq_none (by rw[bz];omega)];rfl
theorem tS (M:List (List Int)) (x y:List Int): ∃v b,Fu M x y=Gs v b/\iO M x y= .tuple #[.int .i64 v,.bool b]:=by
 unfold Fu iO;split
 ·unfold Pq tu;split
  ·exact⟨_,_,rfl,rfl⟩
  exact⟨_,_,rfl,rfl⟩
 exact⟨_,_,rfl,rfl⟩
theorem PC (a b:Int) (hb0:b≠0) (ha:Bh a) (hb:Bh b):CallC Tryz.prog 176 [tZ a,tZ b] ⟨[],tZ (a%b)⟩:=by
 have h1:=yR a b hb0 ha hb;refine aJ Tryz.func176 rfl (by kernel_rfl) ?_;rw[Tryz.ntmps176];refine aD fun _ K=>?_;simp(disch:=omega) only[kd,aa,tZ,ae,ab];apply K
 refine aG [⟨2,_,_,_,h1⟩] [] fun _ K=>?_;simp(disch:=omega) only[kd,tZ,cZ,aa,ab];apply K
 refine aD fun _ K=>?_;simp(disch:=omega) only[kd,ab,aa];apply K
 (refine aI ⟨.inr rfl,aH rfl ?_ rfl⟩;simp(disch:=omega) only[kd,Tryz.results176,ab,aa,tZ])
structure Q6 (a b:Int) where
 x:Int
 y:Int
 hx:0<=x
 hy:0<=y
 hg:Int.gcd x y=Int.gcd a b
 sx:Bh x
 sy:Bh y
theorem Ip {x y:Int} (hx:0<=x) (hy:0<=y):Int.gcd y (x%y)=Int.gcd x y:=by
 obtain⟨m,rfl⟩:=Int.eq_ofNat_of_zero_le hx;obtain⟨n,rfl⟩:=Int.eq_ofNat_of_zero_le hy;show Nat.gcd n (m%n)=Nat.gcd m n;rw[Nat.gcd_comm n,<- Nat.gcd_rec,Nat.gcd_comm]
theorem Px (a b:Int) (ha:Bh a) (hb:Bh b):CallC Tryz.prog 167 [tZ a,tZ b] ⟨[],tZ (Int.gcd a b:Nat)⟩:=by
 have c1:=Df a ha.bg;have c2:=Df b hb.bg;refine aJ Tryz.func167 rfl (by kernel_rfl) ?_;rw[Tryz.ntmps167];refine aD fun _ K=>?_;simp(disch:=omega) only[kd,aa,tZ,ae,ab];apply K
 refine bv aZ [⟨1,_,_,_,c1⟩,⟨3,_,_,_,c2⟩] [] (by kernel_rfl) fun _ K=>?_;simp(disch:=omega) only[kd,tZ,aa,ab,af];apply K
 refine aE (aT (G:=Q6 a b) (fun g=>⟨(j4 (.one (.ptr 4 0 0 0)::.one (.ptr 5 0 0 0)::.one (.ptr 6 0 0 0)::j4 (j4 (j4 ([]))))),Hm [(4,qB),(5,qo g.x),(6,qo g.y)]⟩) (fun g=>g.y.natAbs) ⟨a.natAbs,b.natAbs,by omega,by omega,by simp;rfl,ha.le (by omega),hb.le (by omega)⟩ ?_ ?_)
 ·refine aF ⟨rfl,rfl,rfl,trivial⟩ ?_;simp[wk]
 rintro⟨x,y,hx,hy,hg,sx,sy⟩;simp only;have cs:=mW y sy.bg;by_cases h0:y=0
 ·subst h0;refine aE (aG [⟨1,_,_,_,cs⟩] [] fun _ K=>?_);simp(disch:=omega) only[kd,tZ,sC,aa,ab];apply K;refine aO rfl (bK ?_);show bs _ _ _ _;have e:((Int.gcd a b:Nat):Int)=x:=by rw[<- hg,Int.gcd_zero_right];omega
  rw[e];refine aD fun _ K=>?_;simp(disch:=omega) only[kd,ab,aa];apply K
  (refine aI ⟨.inr rfl,aH rfl ?_ rfl⟩;simp(disch:=omega) only[kd,Tryz.results167,ab,aa,tZ])
 have hs:=El h0;have cr:=PC x y h0 sx sy;have hlt:=Int.emod_lt_of_pos x (show 0<y by omega);have hnn:=Int.emod_nonneg x h0;refine aE (aG [⟨1,_,_,_,cs⟩] [] fun _ K=>?_);simp(disch:=omega) only[kd,tZ,aa,ab];apply K;refine aS rfl (aL ?_);refine aK ?_;refine d7 aZ [⟨3,_,_,_,cr⟩] [] (by kernel_rfl) fun _ K=>?_;simp(disch:=omega) only[kd,tZ,aa,ab];apply K
 refine⟨⟨y,x%y,hy,hnn,by rw[Ip hx hy,hg],sy,sy.le (by omega)⟩,by simp only;omega,aF ⟨rfl,by simp[bj,Hm,Int.not_lt.2 hy],by simp[bj,Hm,Int.not_lt.2 hnn],trivial⟩ ?_⟩;simp[wk]
abbrev tR (n d:Int):TV:= .agg [.p (.raw (.bool (decide (n<0)))),.p (.sl (ls fU (aR n.natAbs))),.p (.raw (.bool (decide (d<0)))),.p (.sl (ls fU (aR d.natAbs)))]
def cR (n d:Int):List AV:=[.p (.raw (.bool (decide (n<0)))),.p (.sl (ls fU (aR n.natAbs))),.p (.raw (.bool (decide (d<0)))),.p (.sl (ls fU (aR d.natAbs)))]
def nN (n d:Int):Int:=n/(Int.gcd n d:Nat)
def nD (n d:Int):Int:=d/(Int.gcd n d:Nat)
theorem mE {n d:Int} (hd:0<d):0<Int.gcd n d:=Int.gcd_pos_of_ne_zero_right n (by omega)
theorem Cl {n d:Int}:nN n d*(Int.gcd n d:Nat)=n:=Int.ediv_mul_cancel (Int.gcd_dvd_left n d)
theorem xY {n d:Int}:nD n d*(Int.gcd n d:Nat)=d:=Int.ediv_mul_cancel (Int.gcd_dvd_right n d)
theorem oR {n d:Int} (hd:0<d):0<nD n d:=by
 have h:=xY (n:=n) (d:=d);have hg:=mE (n:=n) hd;rcases Int.lt_or_le 0 (nD n d)with h'|h'
 ·exact h'
 have:=Int.mul_nonpos_of_nonpos_of_nonneg h' (show(0:Int)<=(Int.gcd n d:Nat) by omega);omega
theorem D8 {n d:Int} (hd:0<d):nN n d/nD n d=n/d:=by
 have hg:=mE (n:=n) hd;have:nN n d*(Int.gcd n d:Nat)/(nD n d*(Int.gcd n d:Nat))=nN n d/nD n d:=Int.mul_ediv_mul_of_pos_left _ _ (by omega);rw[Cl,xY]at this;exact this.symm
theorem wB {n d:Int} {k:Nat} (h:Sz n k):Sz (nN n d) k:=h.ediv _
theorem wA {n d:Int} {k:Nat} (h:Sz d k):Sz (nD n d) k:=h.ediv _
theorem Nk (n d:Int) (hd0:0<d) (hn:Bh n) (hd:Bh d):CallC Tryz.prog 157 [tZ n,tZ d] ⟨[],.tup [(true,cR (nN n d) (nD n d)),(false,[.p (.raw (.bool true))])]⟩:=by
 have c1:=mW d hd.bg;rw[CK hd0]at c1;have c2:=Px n d hn hd;have hg:=mE (n:=n) hd0;have sg:Bh (Int.gcd n d:Nat):=hd.le (by
  have:=Nat.le_of_dvd (by omega) (Int.gcd_dvd_natAbs_right n d);omega)
 have c3:=Da n (Int.gcd n d:Nat) (by omega) hn sg;have c4:=Da d (Int.gcd n d:Nat) (by omega) hd sg;rw[show n/(Int.gcd n d:Nat)=nN n d from rfl]at c3;rw[show d/(Int.gcd n d:Nat)=nD n d from rfl]at c4;generalize((Int.gcd n d:Nat):Int)=g at*
 generalize nN n d=n' at*
 generalize nD n d=d' at*
 refine aJ Tryz.func157 rfl (by kernel_rfl) ?_;rw[Tryz.ntmps157];refine aD fun _ K=>?_;simp(disch:=omega) only[kd,aa,tZ,ae,ab];apply K
 refine aE (aG [⟨1,_,_,_,c1⟩] [] fun _ K=>?_);simp(disch:=omega) only[kd,tZ,aa,ab];apply K;refine aO rfl (aL ?_);show bs _ _ _ _;refine aE (aG [⟨1,_,_,_,c1⟩] [] fun _ K=>?_);simp(disch:=omega) only[kd,tZ,aa,ab];apply K;refine aO rfl (aL ?_);show bs _ _ _ _;refine aG [⟨2,_,_,_,c2⟩] [] fun _ K=>?_;simp(disch:=omega) only[kd,tZ,aa,ab];apply K
 refine bv aZ [⟨2,_,_,_,c3⟩,⟨5,_,_,_,c4⟩] [] (by kernel_rfl) fun _ K=>?_;simp(disch:=omega) only[kd,tZ,aa,ab,af,ah];apply K
 (refine aI ⟨.inr rfl,aH rfl ?_ rfl⟩;simp(disch:=omega) only[kd,Tryz.results157,ab,aa,cR])
theorem iW (n d:Int) (hd0:0<d) (hn:Bh n) (hd:Bh d):CallC Tryz.prog 137 [tR n d] ⟨[],tR (nN n d) (nD n d)⟩:=by
 have c1:=Nk n d hd0 hn hd;generalize nN n d=n' at*
 generalize nD n d=d' at*
 refine aJ Tryz.func137 rfl (by kernel_rfl) ?_;rw[Tryz.ntmps137];refine aD fun _ K=>?_;simp(disch:=omega) only[kd,tR,ae,aa,ab];apply K
 refine aG [⟨4,_,_,_,c1⟩] [] fun _ K=>?_;simp(disch:=omega) only[kd,tZ,cR,aa,ab,ah];apply K
 refine aE (aD fun _ K=>?_);simp only[kd];apply K;refine aO rfl (aL ?_);show bs _ _ _ _;refine aD fun _ K=>?_;simp(disch:=omega) only[kd,ab,aa];apply K
 (refine aI ⟨.inr rfl,aH rfl ?_ rfl⟩;simp(disch:=omega) only[kd,Tryz.results137,ab,aa,tR])
theorem NR:CallC Tryz.prog 136 [] ⟨[],tR 1 2⟩:=by
 have c1:=fQ 1 (by omega) (by omega);have c2:=fQ 2 (by omega) (by omega);refine aJ Tryz.func136 rfl (by kernel_rfl) ?_;rw[Tryz.ntmps136];refine aD fun _ K=>?_;simp(disch:=omega) only[kd,ae,aa];apply K
 refine aG [⟨0,_,_,_,c1⟩,⟨1,_,_,_,c2⟩] [] fun _ K=>?_;simp(disch:=omega) only[kd,tZ,aa,af,ah];apply K
 (refine aI ⟨.inr rfl,aH rfl ?_ rfl⟩;simp(disch:=omega) only[kd,Tryz.results136,aa,tR])
theorem KW (n d:Int) (hd0:0<d) (hn:Bh n) (hd:Bh d):CallC Tryz.prog 134 [tR n d] ⟨[],tZ (n/d)⟩:=by
 have c1:=iW n d hd0 hn hd;have c2:=Da (nN n d) (nD n d) (by have:=oR (n:=n) hd0;omega) (wB hn) (wA hd);rw[D8 hd0]at c2;generalize nN n d=n' at*
 generalize nD n d=d' at*
 refine aJ Tryz.func134 rfl (by kernel_rfl) ?_;rw[Tryz.ntmps134];refine aD fun _ K=>?_;simp(disch:=omega) only[kd,tR,ae,aa,ab];apply K
 refine aG [⟨1,_,_,_,c1⟩] [] fun _ K=>?_;simp(disch:=omega) only[kd,tR,aa,ab];apply K
 refine aG [⟨4,_,_,_,c2⟩] [] fun _ K=>?_;simp(disch:=omega) only[kd,tZ,aa,ab,ah];apply K
 (refine aI ⟨.inr rfl,aH rfl ?_ rfl⟩;simp(disch:=omega) only[kd,Tryz.results134,ab,aa,tZ])
abbrev QD:List OObj:=[⟨126,4,[[.raw (.bool false),.raw (.slice none 0 0),.raw (.bool false),.raw (.slice none 0 0)]]⟩]
abbrev QV (n d:Int):List OObj:=[⟨126,4,[[.p (.raw (.bool (decide (n<0)))),.p (.sl (ls fU (aR n.natAbs))),.p (.raw (.bool false)),.p (.sl (ls fU (aR d.natAbs)))]]⟩]
theorem NK (a b c d:Int) (hb0:0<b) (hd0:0<d) (ha:Sz a 100000000) (hb:Sz b 100000000) (hc:Sz c 100000000) (hd:Sz d 100000000):
  CallC Tryz.prog 135 [tR a b,tR c d] ⟨[],tR (nN (nN a b*nD c d+nN c d*nD a b) (nD a b*nD c d)) (nD (nN a b*nD c d+nN c d*nD a b) (nD a b*nD c d))⟩:=by
 have c1:=iW a b hb0 (ha.mono (by omega)) (hb.mono (by omega));have c2:=iW c d hd0 (hc.mono (by omega)) (hd.mono (by omega));have sx:Sz (nN a b) 100000000:=wB ha;have sy:Sz (nD a b) 100000000:=wA hb;have su:Sz (nN c d) 100000000:=wB hc;have sv:Sz (nD c d) 100000000:=wA hd;have py:=oR (n:=a) hb0;have pv:=oR (n:=c) hd0;generalize nN a b=x at*
 generalize nD a b=y at*
 generalize nN c d=u at*
 generalize nD c d=v at*
 have z1:Sz (x*v) 200000000:=(sx.mul sv).mono (by omega);have z2:Sz (u*y) 200000000:=(su.mul sy).mono (by omega);have z3:Sz (x*v+u*y) 200000001:=z1.add z2;have z4:Sz (y*v) 200000000:=(sy.mul sv).mono (by omega);have m1:=l9 x v (sx.mono (by omega)) (sv.mono (by omega));have m2:=l9 u y (su.mono (by omega)) (sy.mono (by omega));have m3:=vL (x*v) (u*y) (z1.mono (by omega)) (z2.mono (by omega));have m4:=l9 y v (sy.mono (by omega)) (sv.mono (by omega));have m5:=Nk (x*v+u*y) (y*v) (Int.mul_pos py pv) (z3.mono (by omega)) (z4.mono (by omega));generalize nN (x*v+u*y) (y*v)=rn at*
 generalize nD (x*v+u*y) (y*v)=rd at*
 refine aJ Tryz.func135 rfl (by kernel_rfl) ?_;rw[Tryz.ntmps135];refine aD fun _ K=>?_;simp(disch:=omega) only[kd,aa,tR,ae,ab];apply K
 refine bv aZ [⟨1,_,_,_,c1⟩,⟨3,_,_,_,c2⟩] [] (by kernel_rfl) fun _ K=>?_;simp(disch:=omega) only[kd,tR,aa,ab,af];apply K
 refine bs.weak (aF (tm:=(j4 (.one (.ptr 4 0 0 0)::.one (.ptr 5 0 0 0)::.one (.ptr 6 0 0 0)::j16 (j4 (j4 (jk::jk::jk::[])))))) (l:=[(4,QD),(5,QV x y),(6,QV u v)]) ⟨rfl,rfl,rfl,trivial⟩ (by simp[wk])) ?_;refine bv aZ [⟨4,_,_,_,m1⟩,⟨9,_,_,_,m2⟩,⟨10,_,_,_,m3⟩,⟨15,_,_,_,m4⟩,⟨16,_,_,_,m5⟩] [] (by kernel_rfl) fun _ K=>?_;simp(disch:=omega) only[kd,tZ,cR,aa,ab,ah,af];apply K
 refine aD fun _ K=>?_;simp(disch:=omega) only[kd,ab,aa];apply K
 (refine aI ⟨.inr rfl,aH rfl ?_ rfl⟩;simp(disch:=omega) only[kd,Tryz.results135,ab,aa,tR])
theorem LV {p q:Int} (hq:0<q):nN (nN p q*nD 1 2+nN 1 2*nD p q) (nD p q*nD 1 2)/nD (nN p q*nD 1 2+nN 1 2*nD p q) (nD p q*nD 1 2)=(2*p+q)/(2*q):=by
 have e1:nN 1 2=1:=by decide
 have e2:nD 1 2=2:=by decide
 have hp:=oR (n:=p) hq;rw[e1,e2,D8 (by omega)];have hg:=mE (n:=p) hq;have a1:=Cl (n:=p) (d:=q);have a2:=xY (n:=p) (d:=q);have:(nN p q*2+1*nD p q)*(Int.gcd p q:Nat)/((nD p q*2)*(Int.gcd p q:Nat))=(nN p q*2+1*nD p q)/(nD p q*2):=Int.mul_ediv_mul_of_pos_left _ _ (by omega);rw[<- this]
 congr 1
 ·rw[Int.add_mul,Int.one_mul,Int.mul_right_comm,a1,a2];omega
 rw[Int.mul_right_comm,a2];omega
theorem EI (p q:Int) (hq0:0<q) (hp:Sz p 100000000) (hq:Sz q 100000000):CallC Tryz.prog 105 [tR p q] ⟨[],tZ ((2*p+q)/(2*q))⟩:=by
 have c2:=NK p q 1 2 hq0 (by omega) hp hq (lZ (by omega)) (m8 (by decide) (by omega));have hx:Sz (nN p q) 100000000:=wB hp;have hy:Sz (nD p q) 100000000:=wA hq;have hyp:=oR (n:=p) hq0;have e1:nN 1 2=1:=by decide
 have e2:nD 1 2=2:=by decide
 have z2:Sz (2:Int) 1:=m8 (by decide) (by omega);have zn:Sz (nN p q*nD 1 2+nN 1 2*nD p q) 100000002:=by
  rw[e1,e2];refine Sz.add (k:=100000001) ((hx.mul z2).mono (by omega)) ?_;rw[Int.one_mul];exact hy.mono (by omega)
 have zd:Sz (nD p q*nD 1 2) 100000001:=by rw[e2];exact(hy.mul z2).mono (by omega)
 have c3:=KW (nN (nN p q*nD 1 2+nN 1 2*nD p q) (nD p q*nD 1 2)) (nD (nN p q*nD 1 2+nN 1 2*nD p q) (nD p q*nD 1 2)) (oR (by rw[e2];omega)) ((wB zn).mono (by omega)) ((wA zd).mono (by omega));rw[LV hq0]at c3;generalize nN (nN p q*nD 1 2+nN 1 2*nD p q) (nD p q*nD 1 2)=rn at*
 generalize nD (nN p q*nD 1 2+nN 1 2*nD p q) (nD p q*nD 1 2)=rd at*
 have c1:=NR;refine aJ Tryz.func105 rfl (by kernel_rfl) ?_;rw[Tryz.ntmps105];refine aD fun _ K=>?_;simp(disch:=omega) only[kd,tR,ae,aa,ab];apply K
 refine bv aZ [⟨1,_,_,_,c1⟩,⟨2,_,_,_,c2⟩,⟨3,_,_,_,c3⟩] [] (by kernel_rfl) fun _ K=>?_;simp(disch:=omega) only[kd,tR,tZ,aa,ab,af];apply K
 (refine aI ⟨.inr rfl,aH rfl ?_ rfl⟩;simp(disch:=omega) only[kd,Tryz.results105,ab,aa,tZ])
theorem Bf (p q:Int) (hq0:0<q) (hp:Bh p) (hq:Bh q):CallC Tryz.prog 106 [tZ p,tZ q] ⟨[],tR (nN p q) (nD p q)⟩:=by
 have c1:=iW p q hq0 hp hq;generalize nN p q=n' at*
 generalize nD p q=d' at*
 refine aJ Tryz.func106 rfl (by kernel_rfl) ?_;rw[Tryz.ntmps106];refine aD fun _ K=>?_;simp(disch:=omega) only[kd,aa,tZ,ae,ab];apply K
 refine aG [⟨3,_,_,_,c1⟩] [] fun _ K=>?_;simp(disch:=omega) only[kd,tR,aa,ab,ah];apply K
 (refine aI ⟨.inr rfl,aH rfl ?_ rfl⟩;simp(disch:=omega) only[kd,Tryz.results106,ab,aa,tR])
def qF (l d:Int):Int:=(2*l+d)/(2*d)
theorem QJ {l d:Int} (hd:0<d):(2*nN l d+nD l d)/(2*nD l d)=qF l d:=by
 have hg:=mE (n:=l) hd;have a1:=Cl (n:=l) (d:=d);have a2:=xY (n:=l) (d:=d);have:(2*nN l d+nD l d)*(Int.gcd l d:Nat)/((2*nD l d)*(Int.gcd l d:Nat))=(2*nN l d+nD l d)/(2*nD l d):=Int.mul_ediv_mul_of_pos_left _ _ (by omega);rw[<- this,qF]
 congr 1
 ·rw[Int.add_mul,Int.mul_assoc,a1,a2]
 rw[Int.mul_assoc,a2]
def trF (f:FF):Nat->Nat->Int:=fun a b=>f b a
def Cv (f:FF) (i j:Nat):Nat->Nat->Int:=fun a b=>if b<i\/(b=i/\a<j)then f b a else 0
theorem Js (f:FF) (i j a b:Nat):upd (Cv f i j) j i (f i j) a b=Cv f i (j+1) a b:=by
 unfold upd Cv;by_cases h1:a=j
 ·subst h1;by_cases h2:b=i
  ·subst h2;simp
  simp[h2]
 have:a<j+1↔a<j:=by omega
 simp[h1,this]
theorem Mb {c:Nat} (f:FF) (i a b:Nat) (ha:a<c):Cv f i c a b=Cv f (i+1) 0 a b:=by
 unfold Cv;have:(b<i\/b=i/\a<c)↔(b<i+1\/b=i+1/\a<0):=by omega
 simp only[this]
theorem Ma {n:Nat} (f:FF) (a b:Nat) (hb:b<n):Cv f n 0 a b=trF f a b:=by
 unfold Cv trF;rw[if_pos (.inl hb)]
theorem Jt (f:FF):Cv f 0 0=fun _ _=>0:=by
 funext a b;unfold Cv;rw[if_neg (by omega)]
theorem rx (n c:Nat) (f:FF) (hn1:1<=n) (hn:n<=16) (hc1:1<=c) (hc:c<=16) (hf: ∀i j:Nat,i<n->j<c->Bg (f i j)):
  CallC Tryz.prog 66 [bE (bu n c f)] ⟨[],.tup [(false,[.p (.sl (ls (fR fZ) (bu c n (trF f))))]),(false,[.p (.raw (.bool true))])]⟩:=by
 have hS:=nd (bu n c f);rw[fP (iu f hn1 hn hc1 hc),aV,eI f hn1]at hS;have hml:=aV n c f;have hZ:=xh c n hc hn;rw[sf,qO]at hZ;refine aJ Tryz.func66 rfl (by kernel_rfl) ?_;rw[Tryz.ntmps66];refine aD fun _ K=>?_;simp only[kd,bE,ae];apply K
 refine aG [⟨1,_,_,_,hS⟩] [] fun _ K=>?_;simp only[kd,bE,aa];apply K
 refine aE (aD fun _ K=>?_);simp only[kd];apply K;refine aO rfl (aL ?_);show bs _ _ _ _;refine aG [⟨2,_,_,_,hZ⟩] [] fun _ K=>?_;simp only[kd,aa];apply K
 refine aE (aD fun _ K=>?_);simp only[kd,aa,hml];apply K;refine aT (G:=jD n) (fun g=>⟨(bE (bu n c f)::j4 (jk::jk::.one (.sl 20 0 0 c)::j4 (j4 (j4 (jk::jk::rN n::rN g.i::j16 (j4 (j4 (jk::jk::jk::[])))))))),Hm [(20,gI 20 c n (Cv f g.i 0))]⟩) (fun g=>n-g.i) ⟨0,by omega⟩ ?_ ?_
 ·refine aF ⟨?_,trivial⟩ ?_
  ·rw[Jt];exact gy 0 20 c n _
  simp[wk]
 rintro⟨i,hi⟩;simp only;by_cases hm:i<n
 ·have hr:=bD c f hm;refine aD fun _ K=>?_;simp(disch:=omega) only[kd,bE];apply K
  refine bC rfl ?_;refine aE (aK ?_);refine aD fun _ K=>?_;simp only[kd];apply K
  refine aD fun _ K=>?_;simp(disch:=omega) only[kd,aa,hr,fR,bz];apply K
  refine aT (G:=jD c) (fun g=>⟨(bE (bu n c f)::j4 (jk::jk::.one (.sl 20 0 0 c)::rN i::j4 (j4 (j4 (jk::rN n::rN i::j4 (jk::jk::rN c::rN g.i::j16 (jk::jk::jk::[]))))))),Hm [(20,gI 20 c n (Cv f i g.i))]⟩) (fun g=>c-g.i) ⟨0,by omega⟩ ?_ ?_
  ·refine aF ⟨rfl,trivial⟩ ?_;simp[wk]
  rintro⟨j,hj⟩;simp only;by_cases hm3:j<c
  ·have hjr:=aU (f i) hm3;have hS:=IY (f i j) (hf i j hm hm3);have g1:=bO (n:=c) (i:=j) 20 n hm3;have g2:=ee n (Cv f i j) hm3;have g3:=aU (Cv f i j j) hm;refine aD fun _ K=>?_;simp(disch:=omega) only[kd,bE];apply K
   refine bC rfl ?_;refine aE (aK ?_);refine aD fun _ K=>?_;simp only[kd];apply K
   refine d7 aZ [⟨12,_,_,_,hS⟩] [] (by kernel_rfl) fun _ K=>?_;simp(disch:=omega) only[kd,tZ,aa,g1,hr,fR,hjr,fZ,g2,g3,jS];apply K
   show bs _ _ _ _;refine aM fun _ K=>?_;simp(disch:=omega) only[kd,aP];apply K
   refine⟨⟨j+1,by omega⟩,by simp only;omega,aF ⟨?_,trivial⟩ ?_⟩
   ·show _::_=_::_;rw[cq fun a b _ _=>Js f i j a b]
   simp[wk]
  have hjc:j=c:=by omega
  subst hjc;refine aD fun _ K=>?_;simp(disch:=omega) only[kd,bE];apply K
  refine bJ rfl ?_;show bs _ _ _ _;refine aM fun _ K=>?_;simp(disch:=omega) only[kd,aP];apply K
  refine⟨⟨i+1,by omega⟩,by simp only;omega,aF ⟨?_,trivial⟩ ?_⟩
  ·show _::_=_::_;rw[cq fun a b ha _=>Mb f i a b ha]
  simp[wk]
 have hin:i=n:=by omega
 subst hin;refine aD fun _ K=>?_;simp(disch:=omega) only[kd,bE];apply K
 refine bJ rfl ?_;show bs _ _ _ _;have e:gI 20 c i (Cv f i 0)=gI 20 c i (trF f):=by
  show _::_=_::_;rw[cq fun a b _ hb=>Ma f a b hb]
 rw[e];refine bs.weak ((bW 20 (jO rfl)).trans (aF (tm:=(j4 (jk::jk::jk::bE (bu c i (trF f))::j16 (j16 (j4 (j4 (jk::jk::jk::[]))))))) (l:=[]) trivial (by simp[wk];exact(Nv (H:=Hm [(20,gI 20 c i (trF f))]) (d:=20) (n:=c) (c:=i) (f:=trF f) rfl).symm))) ?_;refine aD fun _ K=>?_;simp only[kd,aa,bE];apply K
 (refine aI ⟨.inr rfl,aH rfl ?_ rfl⟩;simp(disch:=omega) only[kd,Tryz.results66])
def idF:Nat->Nat->Int:=fun a b=>if a=b then 1 else 0
def qp (i:Nat):Nat->Nat->Int:=fun a b=>if a<i/\a=b then 1 else 0
theorem uz (i a b:Nat):upd (qp i) i i 1 a b=qp (i+1) a b:=by
 unfold upd qp;by_cases h1:a=i
 ·subst h1;by_cases h2:b=a
  ·subst h2;simp
  simp[h2,Ne.symm h2]
 have:a<i+1↔a<i:=by omega
 simp[h1,this]
theorem ya {n:Nat} (a b:Nat) (ha:a<n):qp n a b=idF a b:=by unfold qp idF;simp[ha]
theorem Jr:qp 0=fun _ _=>0:=by funext a b;unfold qp;rw[if_neg (by omega)]
theorem sK (n:Nat) (hn1:1<=n) (hn:n<=16):
  CallC Tryz.prog 63 [.raw (.int .i64 (n:Int))] ⟨gI 0 n n idF,.tup [(false,[.sl 0 0 0 n]),(false,[.p (.raw (.bool true))])]⟩:=by
 have hZ:=xh n n hn hn;rw[sf,qO]at hZ;have hS:=fQ 1 (by omega) (by omega);refine aJ Tryz.func63 rfl (by kernel_rfl) ?_;rw[Tryz.ntmps63];refine aD fun _ K=>?_;simp only[kd,ae];apply K
 refine aE (aD fun _ K=>?_);simp(disch:=omega) only[kd,aa];apply K;refine aO rfl (aL ?_);show bs _ _ _ _;refine aG [⟨2,_,_,_,hZ⟩] [] fun _ K=>?_;simp only[kd,aa];apply K
 refine aE (aD fun _ K=>?_);simp only[kd,aa];apply K;refine aT (G:=jD n) (fun g=>⟨(j4 (.one (.sl 14 0 0 n)::j4 (j4 (jk::jk::jk::rN n::rN g.i::j4 (j4 (jk::jk::jk::[])))))),Hm [(14,gI 14 n n (qp g.i))]⟩) (fun g=>n-g.i) ⟨0,by omega⟩ ?_ ?_
 ·refine aF ⟨?_,trivial⟩ ?_
  ·rw[Jr];exact gy 0 14 n n _
  simp[wk]
 rintro⟨i,hi⟩;simp only;by_cases hm:i<n
 ·have g1:=bO (n:=n) (i:=i) 14 n hm;have g2:=ee n (qp i) hm;have g3:=aU (qp i i) hm;have e1:=jS (n:=n) (i:=i) (j:=i) n (qp i) 1;refine aD fun _ K=>?_;simp(disch:=omega) only[kd];apply K
  refine bC rfl ?_;refine aE (aK ?_);refine aD fun _ K=>?_;simp only[kd];apply K
  refine d7 aZ [⟨5,_,_,_,hS⟩] [] (by kernel_rfl) fun _ K=>?_;simp(disch:=omega) only[kd,tZ,aa,g1,g2,fZ,g3];apply K
  show bs _ _ _ _;refine aM fun _ K=>?_;simp(disch:=omega) only[kd,aP];apply K
  refine⟨⟨i+1,by omega⟩,by simp only;omega,aF ⟨?_,trivial⟩ ?_⟩
  ·show _::_=_::_;rw[<- cq fun a b _ _=>uz i a b]
   congr 1
  simp[wk]
 have hin:i=n:=by omega
 subst hin;refine aD fun _ K=>?_;simp(disch:=omega) only[kd];apply K
 refine bJ rfl ?_;show bs _ _ _ _;have e:gI 14 i i (qp i)=gI 14 i i idF:=by
  show _::_=_::_;rw[cq fun a b ha _=>ya a b ha]
 rw[e];refine aD fun _ K=>?_;simp only[kd,aa];apply K
 refine aI ⟨.inr rfl,_,ca.refl _,?_⟩;refine⟨.tup [(false,[.sl 14 0 0 i]),(false,[.p (.raw (.bool true))])],14,?_,?_,?_,rfl⟩
 ·simp(disch:=omega) only[kd,Tryz.results63]
 ·intro t ht x hx;simp at ht;rcases ht with rfl|rfl<;>(simp at hx;subst hx)<;>first|rfl|trivial
 exact(gy 14 0 _ _ _).symm
def gX (k:Nat) (f g:FF):Nat->Nat->Int:=fun i j=>eW (bG k (f i)) (bG k (trF g j)) k
theorem PA (n k m:Nat) (f g:FF) (hn1:1<=n) (hn:n<=16) (hk1:1<=k) (hk:k<=16) (hm1:1<=m) (hmm:m<=16) (hf: ∀i j:Nat,i<n->j<k->Sz (f i j) 16777216) (hg: ∀i j:Nat,i<k->j<m->Sz (g i j) 16777216):
  CallC Tryz.prog 110 [bE (bu n k f),bE (bu k m g)] ⟨[],.tup [(false,[.p (.sl (ls (fR fZ) (bu n m (gX k f g))))]),(false,[.p (.raw (.bool true))])]⟩:=by
 have hS:=nd (bu n k f);rw[fP (iu f hn1 hn hk1 hk),aV,eI f hn1]at hS;have hT:=rx k m g hk1 hk hm1 hmm (fun i j hi hj=>(hg i j hi hj).mono (by omega));have hml:=aV n k f;have hml2:=aV k m g;have hml3:=aV m k (trF g);have hZ:=xh n m hn hmm;rw[sf,qO]at hZ;refine aJ Tryz.func110 rfl (by kernel_rfl) ?_;rw[Tryz.ntmps110];refine aD fun _ K=>?_;simp only[kd,bE,aa,ae];apply K
 refine aG [⟨1,_,_,_,hS⟩] [] fun _ K=>?_;simp only[kd,bE,aa];apply K
 refine aG [⟨1,_,_,_,hT⟩] [] fun _ K=>?_;simp only[kd,bE,aa];apply K
 refine aE (aD fun _ K=>?_);simp(disch:=omega) only[kd,aa,hml2];apply K;refine aO rfl (aL ?_);show bs _ _ _ _;refine aG [⟨4,_,_,_,hZ⟩] [] fun _ K=>?_;simp only[kd,aa,hml,hml3];apply K
 refine aE (aD fun _ K=>?_);simp only[kd,aa,hml];apply K;refine aT (G:=jD n) (fun q=>⟨(bE (bu n k f)::j4 (j4 (bE (bu m k (trF g))::jk::.one (.sl 41 0 0 n)::j16 (j4 (j4 (j4 (jk::jk::jk::rN n::rN q.i::j16 (j4 (j4 (jk::[])))))))))),Hm [(41,gI 41 n m (part (gX k f g) q.i 0))]⟩) (fun q=>n-q.i) ⟨0,by omega⟩ ?_ ?_
 ·refine aF ⟨?_,trivial⟩ ?_
  ·rw[wN];exact gy 0 41 n m _
  simp[wk]
 rintro⟨i,hi⟩;simp only;by_cases him:i<n
 ·have hr:=bD k f him;refine aD fun _ K=>?_;simp(disch:=omega) only[kd,bE];apply K
  refine bC rfl ?_;refine aE (aK ?_);refine aD fun _ K=>?_;simp only[kd];apply K
  refine aD fun _ K=>?_;simp only[kd,aa,hml3];apply K
  refine aT (G:=jD m) (fun q=>⟨(bE (bu n k f)::j4 (j4 (bE (bu m k (trF g))::jk::.one (.sl 41 0 0 n)::rN i::j16 (j4 (j4 (j4 (jk::jk::rN n::rN i::jk::jk::jk::rN m::rN q.i::j16 (j4 ([]))))))))),Hm [(41,gI 41 n m (part (gX k f g) i q.i))]⟩) (fun q=>m-q.i) ⟨0,by omega⟩ ?_ ?_
  ·refine aF ⟨rfl,trivial⟩ ?_;simp[wk]
  rintro⟨j,hj⟩;simp only;by_cases hm3:j<m
  ·have hr2:=bD k (trF g) hm3;have hD:=Pw (bG k (f i)) (bG k (trF g j)) (by rw[bz];omega) (by rw[bz,bz];omega) (fun z hz=>by
    obtain⟨p,hp,rfl⟩:=List.mem_map.1 hz;exact hf i p him (List.mem_range.1 hp)) (fun z hz=>by
    obtain⟨p,hp,rfl⟩:=List.mem_map.1 hz;exact(hg p j (List.mem_range.1 hp) hm3).mono (by omega))
   rw[bz,show eW (bG k (f i)) (bG k (trF g j)) k=gX k f g i j from rfl]at hD;have g1:=bO (n:=n) (i:=i) 41 m him;have g2:=ee m (part (gX k f g) i j) him;have g3:=aU (part (gX k f g) i j i) hm3;refine aD fun _ K=>?_;simp(disch:=omega) only[kd,bE];apply K
   refine bC rfl ?_;refine aE (aK ?_);refine aD fun _ K=>?_;simp only[kd];apply K
   refine d7 aZ [⟨13,_,_,_,hD⟩] [] (by kernel_rfl) fun _ K=>?_;simp(disch:=omega) only[kd,kP,tZ,aa,g1,hr,fR,hr2,g2,fZ,g3,jS];apply K
   show bs _ _ _ _;refine aM fun _ K=>?_;simp(disch:=omega) only[kd,aP];apply K
   refine⟨⟨j+1,by omega⟩,by simp only;omega,aF ⟨?_,trivial⟩ ?_⟩
   ·show _::_=_::_;rw[cq fun a b _ _=>je (gX k f g) i j a b]
   simp[wk]
  have hjc:j=m:=by omega
  subst hjc;refine aD fun _ K=>?_;simp(disch:=omega) only[kd,bE];apply K
  refine bJ rfl ?_;show bs _ _ _ _;refine aM fun _ K=>?_;simp(disch:=omega) only[kd,aP];apply K
  refine⟨⟨i+1,by omega⟩,by simp only;omega,aF ⟨?_,trivial⟩ ?_⟩
  ·show _::_=_::_;rw[cq fun a b _ hb=>kH (gX k f g) i a b hb]
  simp[wk]
 have hin:i=n:=by omega
 subst hin;refine aD fun _ K=>?_;simp(disch:=omega) only[kd,bE];apply K
 refine bJ rfl ?_;show bs _ _ _ _;have e:gI 41 i m (part (gX k f g) i 0)=gI 41 i m (gX k f g):=by
  show _::_=_::_;rw[cq fun a b ha _=>jw (gX k f g) a b ha]
 rw[e];refine bs.weak ((bW 41 (jO rfl)).trans (aF (tm:=(j4 (j4 (jk::jk::jk::bE (bu i m (gX k f g))::j16 (j16 (j16 (j4 (j4 (jk::jk::[]))))))))) (l:=[]) trivial (by simp[wk];exact(Nv (H:=Hm [(41,gI 41 i m (gX k f g))]) (d:=41) (n:=i) (c:=m) (f:=gX k f g) rfl).symm))) ?_;refine aD fun _ K=>?_;simp only[kd,aa,bE];apply K
 (refine aI ⟨.inr rfl,aH rfl ?_ rfl⟩;simp(disch:=omega) only[kd,Tryz.results110])
theorem qu (n k m:Nat) (f g:FF) (hn1:1<=n) (hn:n<=16) (hk1:1<=k) (hk:k<=16) (hm1:1<=m) (hmm:m<=16) (hf: ∀i j:Nat,i<n->j<k->Sz (f i j) 16777216) (hg: ∀i j:Nat,i<k->j<m->Sz (g i j) 16777216):
  CallC Tryz.prog 65 [bE (bu n k f),bE (bu k m g)] ⟨[],bE (bu n m (gX k f g))⟩:=by
 have hM:=PA n k m f g hn1 hn hk1 hk hm1 hmm hf hg;refine aJ Tryz.func65 rfl (by kernel_rfl) ?_;rw[Tryz.ntmps65];refine aD fun _ K=>?_;simp only[kd,bE,aa,ae];apply K
 refine aG [⟨2,_,_,_,hM⟩] [] fun _ K=>?_;simp only[kd,bE,aa];apply K
 refine aD fun _ K=>?_;simp only[kd];apply K
 (refine aI ⟨.inr rfl,aH rfl ?_ rfl⟩;simp(disch:=omega) only[kd,Tryz.results65,bE])
theorem xW {k:Nat} {f g:FF} {b c i j:Nat} (hf: ∀p,p<k->Sz (f i p) b) (hg: ∀p,p<k->Sz (g p j) c):Sz (gX k f g i j) (b+c+k):=by
 refine xm (sc fun z hz=>?_) (sc fun z hz=>?_) k
 ·obtain⟨p,hp,rfl⟩:=List.mem_map.1 hz;exact hf p (List.mem_range.1 hp)
 obtain⟨p,hp,rfl⟩:=List.mem_map.1 hz;exact hg p (List.mem_range.1 hp)
def cngF (n:Nat) (h t:FF):Nat->Nat->Int:=gX n (gX n (trF t) h) t
theorem rq (n:Nat) (h t:FF) (hn1:1<=n) (hn:n<=16) (hh: ∀i j:Nat,i<n->j<n->Sz (h i j) 500) (ht: ∀i j:Nat,i<n->j<n->Sz (t i j) 500):
  CallC Tryz.prog 26 [bE (bu n n h),bE (bu n n t)] ⟨[],bE (bu n n (cngF n h t))⟩:=by
 have c1:=rx n n t hn1 hn hn1 hn (fun i j hi hj=>(ht i j hi hj).mono (by omega));have c2:=qu n n n (trF t) h hn1 hn hn1 hn hn1 hn (fun i j hi hj=>(ht j i hj hi).mono (by omega)) (fun i j hi hj=>(hh i j hi hj).mono (by omega));have c3:=qu n n n (gX n (trF t) h) t hn1 hn hn1 hn hn1 hn (fun i j hi hj=>(xW (b:=500) (c:=500) (fun p hp=>ht p i hp hi) (fun p hp=>hh p j hp hj)).mono (by omega)) (fun i j hi hj=>(ht i j hi hj).mono (by omega));refine aJ Tryz.func26 rfl (by kernel_rfl) ?_;rw[Tryz.ntmps26];refine aD fun _ K=>?_;simp only[kd,bE,aa,ae];apply K
 refine aG [⟨1,_,_,_,c1⟩] [] fun _ K=>?_;simp only[kd,bE,aa];apply K
 refine aG [⟨2,_,_,_,c2⟩,⟨4,_,_,_,c3⟩] [] fun _ K=>?_;simp only[kd,bE,aa,af];apply K
 (refine aI ⟨.inr rfl,aH rfl ?_ rfl⟩;simp(disch:=omega) only[kd,Tryz.results26,bE,cngF])
def cP (F:Nat->Int):Nat->Int
 |0=>0
 |k+1=>cP F k+F k
theorem bf {F G:Nat->Int}: ∀k,(∀p,p<k->F p=G p)->cP F k=cP G k
 |0,_=>rfl
 |k+1,h=>by rw[cP,cP,bf k (fun p hp=>h p (by omega)),h k (by omega)]
theorem jZ (F G:Nat->Int): ∀k,cP (fun p=>F p+G p) k=cP F k+cP G k
 |0=>rfl
 |k+1=>by rw[cP,cP,cP,jZ F G k];omega
theorem eQ: ∀k,cP (fun _=>0) k=0
 |0=>rfl
 |k+1=>by rw[cP,eQ k];rfl
theorem i6 {F:Nat->Int} {a:Nat}: ∀{k},a<k->(∀p,p<k->p≠a->F p=0)->cP F k=F a
 |k+1,h,h0=>by
  by_cases e:a=k
  ·subst e;rw[cP,bf a (G:=fun _=>0) (fun p hp=>h0 p (by omega) (by omega)),eQ];omega
  rw[cP,i6 (show a<k by omega) (fun p hp hn=>h0 p (by omega) hn),h0 k (by omega) (by omega)];omega
theorem pm {k:Nat} (x y:Nat->Int): ∀l,l<=k->eW (bG k x) (bG k y) l=cP (fun p=>x p*y p) l
 |0,_=>rfl
 |l+1,h=>by
  show eW (bG k x) (bG k y) l+(bG k x).getD l 0*(bG k y).getD l 0=_;rw[pm x y l (by omega),List.getD_eq_getElem?_getD,List.getD_eq_getElem?_getD,aU _ (by omega),aU _ (by omega)];rfl
theorem kD (k:Nat) (f g:FF) (i j:Nat):gX k f g i j=cP (fun p=>f i p*g p j) k:=pm _ _ k (ac _)
def Hf (i j:Nat) (c:Int):Nat->Nat->Int:=upd idF j i c
def GP (m:Nat):Nat->Nat->Int:=fun a=>idF (n7 m a)
theorem En (m a:Nat):n7 m (n7 m a)=a:=by
 unfold n7;by_cases h1:a=m
 ·subst h1;simp
 by_cases h2:a=m+1
 ·subst h2;simp
 simp[h1,h2]
theorem NY {i j:Nat} {c:Int} (hji:j≠i) (p b:Nat):Hf i j c p b=idF p b+(if p=j then(if b=i then c else 0)else 0):=by
 unfold Hf upd idF;by_cases h1:p=j
 ·subst h1;by_cases h2:b=i
  ·subst h2;simp[hji]
  simp[h2]
 simp[h1]
theorem Kb {n:Nat} {y:Nat->Int} {b:Nat} (hb:b<n):cP (fun p=>y p*idF p b) n=y b:=by
 rw[i6 hb (fun p hp hn=>by simp[idF,hn])];simp[idF]
theorem Cj {n i j:Nat} {c:Int} (hji:j≠i) (hj:j<n) (x:FF) (a b:Nat) (hb:b<n):gX n x (Hf i j c) a b=x a b+(if b=i then c*x a j else 0):=by
 rw[kD,bf n (G:=fun p=>x a p*idF p b+x a p*(if p=j then(if b=i then c else 0)else 0)) (fun p _=>by rw[NY hji,Int.mul_add]),jZ,Kb hb]
 congr 1
 rw[i6 hj (fun p _ hn=>by simp[hn])];by_cases h:b=i
 ·simp[h,Int.mul_comm]
 simp[h]
theorem Hg {n i j:Nat} {c:Int} (hji:j≠i) (hj:j<n) (x:FF) (a b:Nat) (ha:a<n):gX n (trF (Hf i j c)) x a b=x a b+(if a=i then c*x j b else 0):=by
 have:=Cj (c:=c) hji hj (trF x) b a ha;rw[kD]at this⊢;rw[bf n (G:=fun p=>trF x b p*Hf i j c p a) (fun p _=>by rw[Int.mul_comm];rfl),this];rfl
theorem Lk {n i j:Nat} {c:Int} (hji:j≠i) (hj:j<n) (f:FF) (a b:Nat) (ha:a<n) (hb:b<n):cngF n f (Hf i j c) a b=fd f i j c a b:=by
 unfold cngF;rw[Cj hji hj _ a b hb,Hg hji hj f a b ha,Hg hji hj f a j ha];unfold fd;by_cases h1:a=i
 ·by_cases h2:b=i
  ·simp only[h1,h2,if_true];grind
  simp only[h1,h2,if_true,if_false];grind
 by_cases h2:b=i
 ·simp only[h1,h2,if_true,if_false];grind
 simp only[h1,h2,if_false];omega
theorem LF (m p b:Nat):idF (n7 m p) b=idF p (n7 m b):=by
 unfold idF;have:n7 m p=b↔p=n7 m b:=⟨fun h=>by rw[<- h,En],fun h=>by rw[h,En]⟩;simp only[this]
theorem Ck {n m:Nat} (hm:m+1<n) (x:FF) (a b:Nat) (hb:b<n):gX n x (GP m) a b=x a (n7 m b):=by
 rw[kD,bf n (G:=fun p=>x a p*idF p (n7 m b)) (fun p _=>by rw[<- LF];rfl),Kb (o6 hm hb)]
theorem O5 {n m:Nat} (hm:m+1<n) (x:FF) (a b:Nat) (ha:a<n):gX n (trF (GP m)) x a b=x (n7 m a) b:=by
 have:=Ck hm (trF x) b a ha;rw[kD]at this⊢;rw[bf n (G:=fun p=>trF x b p*GP m p a) (fun p _=>by rw[Int.mul_comm];rfl),this];rfl
theorem Of {n m:Nat} (hm:m+1<n) (f:FF) (a b:Nat) (ha:a<n) (hb:b<n):cngF n f (GP m) a b=jg f m a b:=by
 unfold cngF;rw[Ck hm _ a b hb,O5 hm f a _ ha];rfl
/-! Which change is made. -/
inductive Ch where
 |add (i j:Nat)
 |swp (m:Nat)
instance (f:FF) (i j:Nat):Decidable (SizF f i j):=by unfold SizF;exact inferInstance
instance (f:FF) (i:Nat):Decidable (LovF f i):=by unfold LovF;exact inferInstance
def scanJ (f:FF) (i:Nat):Nat->Option Nat
 |0=>none
 |j+1=>if SizF f i j then scanJ f i j else some j
def scanI (f:FF):Nat->Nat->Option Ch
 |0,_=>none
 |m+1,i=>match scanJ f i i with
  |some j=>some (.add i j)
  |none=>if 0<i/\ ¬LovF f i then some (.swp (i-1))else scanI f m (i+1)
def scanF (f:FF) (n:Nat):Option Ch:=scanI f n 0
theorem lW {f:FF} {i:Nat}: ∀{k},scanJ f i k=none-> ∀j,j<k->SizF f i j
 |k+1,h,j,hj=>by
  unfold scanJ at h;split at h
  ·rename_i hs;by_cases e:j=k
   ·subst e;exact hs
   exact lW h j (by omega)
  cases h
theorem uR {f:FF} {i j:Nat}: ∀{k},scanJ f i k=some j->j<k/\ ¬SizF f i j/\ ∀j',j<j'->j'<k->SizF f i j'
 |k+1,h=>by
  unfold scanJ at h;split at h
  ·rename_i hs;obtain⟨h1,h2,h3⟩:=uR h;refine⟨by omega,h2,fun j' g1 g2=>?_⟩;by_cases e:j'=k
   ·subst e;exact hs
   exact h3 j' g1 (by omega)
  rename_i hs;injection h with h
  subst h;exact⟨by omega,hs,fun j' g1 g2=>by omega⟩
def ru (f:FF) (i:Nat):Prop:=(∀j,j<i->SizF f i j)/\(0<i->LovF f i)
theorem uP {f:FF}: ∀{m i},scanI f m i=none-> ∀i',i<=i'->i'<i+m->ru f i'
 |0,i,_,i',h1,h2=>by omega
 |m+1,i,h,i',h1,h2=>by
  unfold scanI at h;split at h
  ·cases h
  rename_i hj;split at h
  ·cases h
  rename_i hl;by_cases e:i'=i
  ·subst e;exact⟨lW hj,fun h0=>by
    by_cases hL:LovF f i'
    ·exact hL
    exact absurd ⟨h0,hL⟩ hl⟩
  exact uP h i' (by omega) (by omega)
def Qa (f:FF):Ch->Prop
 | .add i j=>j<i/\ ¬SizF f i j/\(∀j',j<j'->j'<i->SizF f i j')/\ ∀i',i'<i->ru f i'
 | .swp m=> ¬LovF f (m+1)/\(∀j,j<m+1->SizF f (m+1) j)/\ ∀i',i'<m+1->ru f i'
def Dp:Ch->Nat
 | .add i _=>i
 | .swp m=>m+1
theorem uQ {f:FF} {c:Ch}: ∀{m i},(∀i',i'<i->ru f i')->scanI f m i=some c->Qa f c/\Dp c<i+m
 |m+1,i,hi,h=>by
  unfold scanI at h;split at h
  ·rename_i j hj;injection h with h
   subst h;obtain⟨h1,h2,h3⟩:=uR hj;exact⟨⟨h1,h2,h3,hi⟩,by simp[Dp]⟩
  rename_i hj;split at h
  ·rename_i hl;injection h with h
   subst h;have e:i-1+1=i:=by omega
   refine⟨⟨by rw[e];exact hl.2,by rw[e];exact lW hj,by rw[e];exact hi⟩,by simp[Dp];omega⟩
  rename_i hl;have:=uQ (m:=m) (i:=i+1) (fun i' h'=>by
   by_cases e:i'=i
   ·subst e;exact⟨lW hj,fun h0=>by
     by_cases hL:LovF f i'
     ·exact hL
     exact absurd ⟨h0,hL⟩ hl⟩
   exact hi i' (by omega)) h
  exact⟨this.1,by omega⟩
theorem ip {f:FF} {n:Nat} {c:Ch} (h:scanF f n=some c):Qa f c/\Dp c<n:=by
 have:=uQ (f:=f) (m:=n) (i:=0) (fun i' h=>by omega) h;exact⟨this.1,by omega⟩
theorem CH {f:FF} {n:Nat} (h:scanF f n=none):NW f n:=fun i hi=>uP (m:=n) (i:=0) h i (by omega) (by omega)
def vi (i:Nat):Nat:=i*(i-1)/2
def Aq:Ch->Nat
 | .add i j=>vi i+(i-1-j)
 | .swp m=>vi (m+2)
theorem kQ (i:Nat):vi (i+1)=vi i+i:=by
 unfold vi;cases i with
 |zero=>rfl
 |succ i=>
  rw[Nat.add_sub_cancel,Nat.add_sub_cancel];have:(i+1+1)*(i+1)=(i+1)*i+2*(i+1):=by rw[Nat.add_mul,Nat.one_mul,Nat.mul_add,Nat.mul_add,Nat.add_mul];omega
  rw[this,Nat.add_mul_div_left _ _ (by omega)]
theorem jh {i j:Nat} (h:i<=j):vi i<=vi j:=by
 induction j with
 |zero=>have:i=0:=(by omega);subst this;exact ac _
 |succ j ih=>
  by_cases e:i=j+1
  ·subst e;exact ac _
  have:=ih (by omega);rw[kQ];omega
def rankF (f:FF) (n:Nat):Nat:=match scanF f n with
 |some c=>Aq c
 |none=>vi n
theorem pQ (f:FF) (n:Nat):rankF f n<=vi n:=by
 unfold rankF;split
 ·rename_i c hc;obtain⟨h1,h2⟩:=ip hc;cases c with
  |add i j=>
   have h2:i<n:=h2;have:=jh (show i+1<=n by omega);rw[kQ]at this;obtain⟨h1,_⟩:=h1;simp only[Aq];omega
  |swp m=>
   have h2:m+1<n:=h2;exact jh (show m+2<=n by omega)
 exact ac _
theorem Mi {f:FF} {n i j:Nat} (hj:j<i) (hi:i<n) (h1: ∀i',i'<i->ru f i') (h2: ∀j',j<=j'->j'<i->SizF f i j'):vi i+(i-1-j)<rankF f n:=by
 have hni:=jh (show i+1<=n by omega);rw[kQ]at hni;unfold rankF;split
 ·rename_i c hc;obtain⟨g1,g2⟩:=ip hc;cases c with
  |add i' j'=>
   obtain⟨a1,a2,a3,a4⟩:=g1;simp only[Aq];rcases Nat.lt_trichotomy i' i with h|h|h
   ·exact absurd ((h1 i' h).1 j' a1) a2
   ·subst h;by_cases e:j<=j'
    ·exact absurd (h2 j' e a1) a2
    omega
   have:=jh (show i+1<=i' by omega);rw[kQ]at this;omega
  |swp m=>
   obtain⟨a1,a2,a3⟩:=g1;simp only[Aq];by_cases h:m+1<i
   ·exact absurd ((h1 (m+1) h).2 (by omega)) a1
   have:=jh (show i+1<=m+2 by omega);rw[kQ]at this;omega
 omega
section
theorem ze {B:Nat} {d1 d0 x y u v:Int} (h1:0<d1) (h0:d0.natAbs<=B) (h:d1*x=d0*y+u*v):x.natAbs<=B*y.natAbs+u.natAbs*v.natAbs:=by
 have e1:d1.natAbs*x.natAbs=(d0*y+u*v).natAbs:=by rw[<- Int.natAbs_mul,h]
 have e2:=Int.natAbs_add_le (d0*y) (u*v);rw[Int.natAbs_mul,Int.natAbs_mul]at e2;have e3:d0.natAbs*y.natAbs<=B*y.natAbs:=Nat.mul_le_mul_right _ h0;have e4:x.natAbs<=d1.natAbs*x.natAbs:=Nat.le_mul_of_pos_left _ (by omega);omega
theorem IW {d1 d0 x y l:Int} (h1:0<d1) (h0:0<d0) (hx:0<x) (hy:0<y) (h:d1*x=d0*y+l*l):d1.natAbs*x.natAbs=d0.natAbs*y.natAbs+l.natAbs*l.natAbs:=by
 apply Int.ofNat_inj.1;rw[Int.natCast_add,Int.natCast_mul,Int.natCast_mul,Int.natCast_mul,Int.natAbs_of_nonneg (by omega),Int.natAbs_of_nonneg (by omega),Int.natAbs_of_nonneg (by omega),Int.natAbs_of_nonneg (by omega),Int.natAbs_mul_self',h]
structure Def (f:FF) (n B:Nat):Prop where
 sym:SymF f n
 pos: ∀t,t<n->0<dk f (t+1)
 le: ∀k,k<=n->(dk f k).natAbs<=B
section
variable {f:FF} {n B:Nat}
theorem Def.ne (h:Def f n B): ∀t,t<n->dk f (t+1)≠0:=fun t ht=>by have:=h.pos t ht;omega
theorem Def.pos0 (h:Def f n B) {k:Nat} (hk:k<=n):0<dk f k:=by
 cases k with
 |zero=>rw[dv];omega
 |succ k=>exact h.pos k (by omega)
theorem Def.sylv (h:Def f n B) {k a b:Nat} (hk:k<n) (ha:a<n) (hb:b<n):dk f (k+1)*bk f k a b=dk f k*bk f (k+1) a b+bk f k a k*bk f k b k:=by
 have s:=Go.Proofs.YtfgeomlagfomgaaGreatDoor.sylv f k (fun t ht=>h.ne t (by omega)) a b;rw[j8 h.sym k (by omega) (fun t ht=>h.ne t (by omega)) k b hk hb]at s;omega
theorem Def.diag (h:Def f n B) {a:Nat} (ha:a<n): ∀m k,a-k=m->k<=a->0<bk f k a a
 |0,k,hm,hk=>by
  have:k=a:=by omega
  subst this;rw[<- b8];exact h.pos k ha
 |m+1,k,hm,hk=>by
  have ih:=h.diag ha m (k+1) (by omega) (by omega);have s:=h.sylv (k:=k) (by omega) ha ha;have p1:=h.pos k (by omega);have p0:=h.pos0 (k:=k) (by omega);have q1:=Int.mul_pos p0 ih;have q2:0<=bk f k a k*bk f k a k:=by
   rcases Int.le_total 0 (bk f k a k)with h|h
   ·exact Int.mul_nonneg h h
   exact Int.mul_nonneg_of_nonpos_of_nonpos h h
  rcases Int.lt_or_le 0 (bk f k a a)with h|h
  ·exact h
  have:=Int.mul_nonpos_of_nonneg_of_nonpos (Int.le_of_lt p1) h;omega
theorem Def.down (h:Def f n B) {a k:Nat} (ha:a<n) (hk:k<a):(bk f k a k).natAbs*(bk f k a k).natAbs<=B*(bk f k a a).natAbs/\(bk f (k+1) a a).natAbs<=B*(bk f k a a).natAbs:=by
 have s:=IW (h.pos k (by omega)) (h.pos0 (k:=k) (by omega)) (h.diag ha _ k rfl (by omega)) (h.diag ha _ (k+1) rfl (by omega)) (h.sylv (k:=k) (by omega) ha ha);have hB:=Nat.mul_le_mul_right (bk f k a a).natAbs (h.le (k+1) (by omega));have p0:=h.pos0 (k:=k) (by omega);have:=Nat.le_mul_of_pos_left (bk f (k+1) a a).natAbs (show 0<(dk f k).natAbs by omega);omega
theorem Def.nm (h:Def f n B) {a:Nat} (ha:a<n): ∀k,k<=a->(bk f k a a).natAbs<=B^k*(f a a).natAbs
 |0,_=>by rw[dG];simp
 |k+1,hk=>by
  have h1:=(h.down ha (show k<a by omega)).2;have h2:=aA B (h.nm ha k (by omega));rw[Nat.pow_succ,Nat.mul_comm (B^k) B,Nat.mul_assoc];omega
theorem Def.lam_le (h:Def f n B) {a k C:Nat} (ha:a<n) (hk:k<a) (hB:1<=B) (hC:(f a a).natAbs<=C):(bk f k a k).natAbs<=B^n*C:=by
 have h1:=(h.down ha hk).1;have h2:=aA B (h.nm ha k (by omega));have h3:(bk f k a k).natAbs<=(bk f k a k).natAbs*(bk f k a k).natAbs:=Nat.le_mul_self _;have h4:B*(B^k*(f a a).natAbs)=B^(k+1)*(f a a).natAbs:=by rw[Nat.pow_succ,Nat.mul_comm (B^k) B,Nat.mul_assoc]
 have h5:B^(k+1)<=B^n:=aC hB (by omega);have h6:B^(k+1)*(f a a).natAbs<=B^n*C:=Nat.mul_le_mul h5 hC;omega
theorem Def.up (h:Def f n B) {a L:Nat} (ha:a<n) (hL: ∀k,k<a->(bk f k a k).natAbs<=L): ∀m k,a-k=m->k<=a->(bk f k a a).natAbs<=(B+L*L)*(B+1)^m
 |0,k,hm,hk=>by
  have:k=a:=by omega
  subst this;rw[<- b8];have:=h.le (k+1) (by omega)
  simp;omega
 |m+1,k,hm,hk=>by
  have ih:=h.up ha hL m (k+1) (by omega) (by omega);have s:=ze (h.pos k (by omega)) (h.le k (by omega)) (h.sylv (k:=k) (by omega) ha ha);have hl:=hL k (by omega);have h2:=Nat.mul_le_mul hl hl;have h3:=aA B ih;have h4:L*L<=(B+L*L)*(B+1)^m:=az (by omega) (Nat.le_mul_of_pos_right _ (Nat.pow_pos (by omega)));rw[Nat.pow_succ,<- Nat.mul_assoc,Nat.mul_add,Nat.mul_one,Nat.mul_comm _ B];omega
theorem Def.norm_le (h:Def f n B) {a L:Nat} (ha:a<n) (hL: ∀k,k<a->(bk f k a k).natAbs<=L):(f a a).natAbs<=(B+L*L)*(B+1)^n:=by
 have h1:=h.up ha hL a 0 rfl (by omega);rw[dG]at h1;exact az h1 (aA _ (aC (by omega) (by omega)))
theorem Def.ent_up (h:Def f n B) {a b L:Nat} (ha:a<n) (hb:b<a) (hL: ∀a k,a<n->k<a->(bk f k a k).natAbs<=L): ∀m k,b-k=m->k<=b->(bk f k a b).natAbs<=(L+L*L)*(B+1)^m
 |0,k,hm,hk=>by
  have:k=b:=by omega
  subst this;have:=hL a k ha hb
  simp;omega
 |m+1,k,hm,hk=>by
  have ih:=h.ent_up ha hb hL m (k+1) (by omega) (by omega);have s:=ze (h.pos k (by omega)) (h.le k (by omega)) (h.sylv (k:=k) (a:=a) (b:=b) (by omega) ha (by omega));have h2:=Nat.mul_le_mul (hL a k ha (by omega)) (hL b k (by omega) (by omega));have h3:=aA B ih;have h4:L*L<=(L+L*L)*(B+1)^m:=az (by omega) (Nat.le_mul_of_pos_right _ (Nat.pow_pos (by omega)));rw[Nat.pow_succ,<- Nat.mul_assoc,Nat.mul_add,Nat.mul_one,Nat.mul_comm _ B];omega
theorem Def.ent_le (h:Def f n B) {L:Nat} (hL: ∀a k,a<n->k<a->(bk f k a k).natAbs<=L) {a b:Nat} (ha:a<n) (hb:b<n):(f a b).natAbs<=(B+L+L*L)*(B+1)^n:=by
 have key: ∀a b,a<n->b<a->(f a b).natAbs<=(B+L+L*L)*(B+1)^n:=fun a b ha hb=>by
  have h1:=h.ent_up ha hb hL b 0 rfl (by omega);rw[dG]at h1;refine az h1 (Nat.mul_le_mul (by omega) (aC (by omega) (by omega)))
 rcases Nat.lt_trichotomy a b with h'|h'|h'
 ·rw[h.sym a ha b hb];exact key b a hb h'
 ·subst h';have h1:=h.norm_le ha (fun k hk=>hL a k ha hk);exact az h1 (Nat.mul_le_mul_right _ (by omega))
 exact key a b ha h'
end
/-! The numbers of the reduction. -/
section
variable {f:FF} {n B:Nat}
def cN (n B:Nat):Nat:=(B+B*B)*(B+1)^n
def l0 (n B:Nat):Nat:=B^n*cN n B
theorem uZ (h:Def f n B) {i j:Nat} (hi:i<n) (hj:j<i):SizF f i j↔2*((bk f j i j).natAbs:Int)<=dk f (j+1):=by
 rw[SizF,oN h.pos (by omega),jN h.pos (by omega)]
theorem Cb (h:Def f n B) {i:Nat} (hi:i<n) (h0:0<i):LovF f i↔3*(dk f i*dk f i)<=4*(dk f (i-1)*dk f (i+1)+bk f (i-1) i (i-1)*bk f (i-1) i (i-1)):=by
 rw[LovF,oN h.pos (by omega),jN h.pos (by omega),jN h.pos (by omega),jN h.pos (by omega)]
theorem CO (h:Def f n B) {i j:Nat} (hi:i<n) (hj:j<i) (hs:SizF f i j):(bk f j i j).natAbs<=B:=by
 have h1:=(uZ h hi hj).1 hs;have h2:=h.le (j+1) (by omega);omega
theorem qY (h:Def f n B) {i:Nat} (hi:i<n) (hs: ∀j,j<i->SizF f i j):(f i i).natAbs<=cN n B:=h.norm_le hi fun k hk=>CO h hi hk (hs k hk)
def Jn (f:FF) (n B:Nat):Prop:=(∀a,a<n->(f a a).natAbs<=cN n B)\/
 ∃i,i<n/\(∀a,a<n->a≠i->(f a a).natAbs<=cN n B)/\(∀i',i'<i->ru f i')/\ ∃s,s<=i/\(∀j',s<=j'->j'<i->SizF f i j')/\ ∀k,k<i->(bk f k i k).natAbs+2<=(l0 n B+2)*(B+2)^(i-s)
def lM (n B:Nat):Nat:=(l0 n B+2)*(B+2)^n
theorem Jn.lam (h:Def f n B) (hB:1<=B) (hj:Jn f n B): ∀a k,a<n->k<a->(bk f k a k).natAbs<=lM n B:=by
 have h1:l0 n B<=lM n B:=az (by omega) (Nat.le_mul_of_pos_right _ (Nat.pow_pos (by omega)));have h2: ∀e,e<=n->(l0 n B+2)*(B+2)^e<=lM n B:=fun e he=>aA _ (aC (by omega) he)
 rcases hj with hj|⟨i,hi,hj,_,s,hs,_,hl⟩
 ·exact fun a k ha hk=>az (h.lam_le ha hk hB (hj a ha)) h1
 intro a k ha hk;by_cases e:a=i
 ·subst e;have:=hl k hk;have:=h2 (a-s) (by omega);omega
 exact az (h.lam_le ha hk hB (hj a ha e)) h1
def eN (n B:Nat):Nat:=(B+lM n B+lM n B*lM n B)*(B+1)^n
theorem Jn.ent (h:Def f n B) (hB:1<=B) (hj:Jn f n B) {a b:Nat} (ha:a<n) (hb:b<n):(f a b).natAbs<=eN n B:=h.ent_le (hj.lam h hB) ha hb
end
end
section
theorem Mc {l d:Int} (hd:0<d):2*((l+ -(qF l d)*d).natAbs:Int)<=d:=by
 unfold qF;have h1:=Int.emod_add_mul_ediv (2*l+d) (2*d);have h2:=Int.emod_nonneg (2*l+d) (show 2*d≠0 by omega);have h3:=Int.emod_lt_of_pos (2*l+d) (show 0<2*d by omega);generalize(2*l+d)/(2*d)=q at*
 have e:2*d*q=2*(q*d):=by rw[Int.mul_assoc,Int.mul_comm d q]
 rw[e]at h1;have e2: -q*d= -(q*d):=Int.neg_mul q d;rw[e2];omega
theorem Cy {l d:Int} (hd:0<d):(qF l d).natAbs<=l.natAbs+1:=by
 unfold qF;have h1:=Int.emod_add_mul_ediv (2*l+d) (2*d);have h2:=Int.emod_nonneg (2*l+d) (show 2*d≠0 by omega);have h3:=Int.emod_lt_of_pos (2*l+d) (show 0<2*d by omega);generalize(2*l+d)/(2*d)=q at*
 have e:2*d*q=2*(d*q):=Int.mul_assoc 2 d q;rw[e]at h1;have e2:(d*q).natAbs=d.natAbs*q.natAbs:=Int.natAbs_mul d q;have e3:l.natAbs<=d.natAbs*l.natAbs:=Nat.le_mul_of_pos_left _ (by omega);rcases Nat.lt_or_ge (l.natAbs+1) q.natAbs with h|h
 ·exfalso;have h4:=aA d.natAbs (show l.natAbs+2<=q.natAbs by omega);rw[Nat.mul_add]at h4;omega
 exact h
section
variable {f:FF} {n B:Nat}
theorem Hh (hs:SymF f n) {i j:Nat} (c:Int) (hj:j<n):SymF (fd f i j c) n:=fun a ha b hb=>by
 by_cases hab:a=b
 ·subst hab;rfl
 unfold fd;rw[hs a ha b hb];by_cases h1:a=i
 ·by_cases h2:b=i
  ·omega
  simp only[h1,h2,if_true,if_false];rw[hs j hj b hb];omega
 by_cases h2:b=i
 ·simp only[h1,h2,if_true,if_false];rw[hs a ha j hj];omega
 simp only[h1,h2,if_false]
theorem Def.add (h:Def f n B) {i j:Nat} (c:Int) (hji:j<i) (hi:i<n):Def (fd f i j c) n B:=by
 obtain⟨h1,_⟩:=jm h.sym h.ne c hji hi;exact⟨Hh h.sym c (by omega),fun t ht=>by rw[h1 (t+1) (by omega)];exact h.pos t ht,fun k hk=>by rw[h1 k hk];exact h.le k hk⟩
theorem wQ (h:Def f n B) {i j:Nat} (c:Int) (hji:j<i) (hi:i<n) {i':Nat} (hi':i'<i) (hr:ru f i'):ru (fd f i j c) i':=by
 have h':=h.add c hji hi;obtain⟨h1,h2,h3⟩:=jm h.sym h.ne c hji hi;have hb: ∀k,k<i'->bk (fd f i j c) k i' k=bk f k i' k:=fun k hk=>by
  by_cases e:k<=j
  ·rw[h2 k i' k e,s6 (by omega) (by omega)]
  exact h3 k i' k (by omega) (by omega) (by omega) (by omega)
 refine⟨fun k hk=>?_,fun h0=>?_⟩
 ·rw[uZ h' (by omega) hk,hb k hk,h1 _ (by omega)];exact(uZ h (by omega) hk).1 (hr.1 k hk)
 rw[Cb h' (by omega) h0,hb _ (by omega),h1 _ (by omega),h1 _ (by omega),h1 _ (by omega)];exact(Cb h (by omega) h0).1 (hr.2 h0)
def cF (f:FF) (i j:Nat):Int:= -(qF (lam f i j) (dd f (j+1)))
theorem Hq (h:Def f n B) {i j:Nat} (hj:j<n):cF f i j= -(qF (bk f j i j) (dk f (j+1))):=by rw[cF,oN h.pos hj,jN h.pos (by omega)]
theorem yq (h:Def f n B) {i j:Nat} (hji:j<i) (hi:i<n) {j':Nat} (h1:j<=j') (h2:j'<i) (hs:j<j'->SizF f i j'):SizF (fd f i j (cF f i j)) i j':=by
 have h':=h.add (cF f i j) hji hi;obtain⟨g1,g2,g3⟩:=jm h.sym h.ne (cF f i j) hji hi;rw[uZ h' hi h2,g1 _ (by omega)];by_cases e:j'=j
 ·subst e;rw[g2 j' i j' (by omega)];have:fd (bk f j') i j' (cF f i j') i j'=bk f j' i j'+cF f i j'*dk f (j'+1):=by
   unfold fd;have hn: ¬j'=i:=by omega
   simp only[if_true,hn,if_false];rw[b8];omega
  rw[this,Hq h (by omega)];exact Mc (h.pos j' (by omega))
 rw[g3 j' i j' (by omega) (by omega) hi (by omega)];exact(uZ h hi h2).1 (hs (by omega))
theorem NU (h:Def f n B) (hB:1<=B) (hJ:Jn f n B) {i j:Nat} (hF:Qa f (.add i j)) (hi:i<n):Jn (fd f i j (cF f i j)) n B:=by
 obtain⟨hji,hns,hs,hr⟩:=hF;obtain⟨g1,g2,g3⟩:=jm h.sym h.ne (cF f i j) hji hi;have hoff: ∀a,a≠i->fd f i j (cF f i j) a a=f a a:=fun a ha=>s6 ha ha
 -- the new lambdas of row i
 have hnew: ∀M:Nat,(∀k,k<i->(bk f k i k).natAbs+2<=M)-> ∀k,k<i->(bk (fd f i j (cF f i j)) k i k).natAbs+2<=M*(B+2):=fun M hM k hk=>by
  have hMk:=hM k hk;have hMj:=hM j hji;have e0:M*(B+2)=M*B+2*M:=by rw[Nat.mul_add,Nat.mul_comm M 2]
  rcases Nat.lt_trichotomy k j with e|e|e
  ·rw[g2 k i k (by omega)];have e1:fd (bk f k) i j (cF f i j) i k=bk f k i k+cF f i j*bk f k j k:=by
    unfold fd;have hn: ¬k=i:=by omega
    simp only[if_true,hn,if_false];omega
   rw[e1];have a1:=Int.natAbs_add_le (bk f k i k) (cF f i j*bk f k j k);rw[Int.natAbs_mul]at a1;have a2:(cF f i j).natAbs<=(bk f j i j).natAbs+1:=by rw[Hq h (by omega),Int.natAbs_neg];exact Cy (h.pos j (by omega))
   have a3:(bk f k j k).natAbs<=B:=CO h (by omega) e ((hr j hji).1 k e);have a4:=Nat.mul_le_mul (show(cF f i j).natAbs<=M by omega) a3;omega
  ·subst e;have hz:=yq h hji hi (ac k) hk (fun h=>by omega);have:=CO (h.add (cF f i k) hji hi) hi hk hz;have:B<=M*B:=Nat.le_mul_of_pos_left _ (by omega);omega
  rw[g3 k i k (by omega) (by omega) hi (by omega)];have:0<=M*B:=Nat.zero_le _;omega
 have hfin: ∀M e:Nat,1<=e->e<=i-j->M*(B+2)<=(l0 n B+2)*(B+2)^e->(∀a,a<n->a≠i->(f a a).natAbs<=cN n B)->(∀k,k<i->(bk f k i k).natAbs+2<=M)->Jn (fd f i j (cF f i j)) n B:=fun M e he1 he2 hMe hA hM=>by
  refine .inr ⟨i,hi,fun a ha hne=>by rw[hoff a hne];exact hA a ha hne,fun i' hi'=>wQ h _ hji hi hi' (hr i' hi'),j,by omega,fun j' h1 h2=>yq h hji hi h1 h2 (fun h3=>hs j' h3 h2),fun k hk=>?_⟩;refine az (hnew M hM k hk) (az hMe (aA _ (aC (by omega) he2)))
 rcases hJ with hA|⟨i1,hi1,hA,hr1,s,hs1,hs2,hl⟩
 ·refine hfin (l0 n B+2) 1 (by omega) (by omega) (by rw[Nat.pow_one];exact ac _) (fun a ha _=>hA a ha) (fun k hk=>?_);have:(bk f k i k).natAbs<=l0 n B:=h.lam_le hi hk hB (hA i hi);omega
 by_cases e:i1=i
 ·subst e;have hjs:j<s:=by
   rcases Nat.lt_or_ge j s with h'|h'
   ·exact h'
   exact absurd (hs2 j h' hji) hns
  refine hfin ((l0 n B+2)*(B+2)^(i1-s)) (i1-s+1) (by omega) (by omega) (by rw[Nat.pow_succ,Nat.mul_assoc];exact ac _) hA hl
 have hall:(f i1 i1).natAbs<=cN n B:=by
  rcases Nat.lt_or_ge i1 i with h'|h'
  ·exact qY h hi1 (hr i1 h').1
  exact absurd ((hr1 i (by omega)).1 j hji) hns
 have hA': ∀a,a<n->(f a a).natAbs<=cN n B:=fun a ha=>by
  by_cases e':a=i1
  ·subst e';exact hall
  exact hA a ha e'
 refine hfin (l0 n B+2) 1 (by omega) (by omega) (by rw[Nat.pow_one];exact ac _) (fun a ha _=>hA' a ha) (fun k hk=>?_);have:(bk f k i k).natAbs<=l0 n B:=h.lam_le hi hk hB (hA' i hi);omega
theorem w5 (h:Def f n B) {m:Nat} (hm:m+1<n) (hl: ¬LovF f (m+1)):4*dk (jg f m) (m+1)<3*dk f (m+1)/\0<dk (jg f m) (m+1):=by
 obtain⟨h1,h2⟩:=vg h.sym h.pos hm;refine⟨?_,h2⟩;have h3: ¬3*(dk f (m+1)*dk f (m+1))<=4*(dk f m*dk f (m+2)+bk f m (m+1) m*bk f m (m+1) m):=fun hh=>hl ((Cb h hm (by omega)).2 hh)
 rw[<- h1]at h3;have p:=h.pos m (by omega);rcases Int.lt_or_le (4*dk (jg f m) (m+1)) (3*dk f (m+1))with h4|h4
 ·exact h4
 exfalso;have h5:=Int.mul_le_mul_of_nonneg_left h4 (Int.le_of_lt p);have e1:dk f (m+1)*(3*dk f (m+1))=3*(dk f (m+1)*dk f (m+1)):=Int.mul_left_comm _ _ _;have e2:dk f (m+1)*(4*dk (jg f m) (m+1))=4*(dk f (m+1)*dk (jg f m) (m+1)):=Int.mul_left_comm _ _ _;omega
theorem Def.swap (h:Def f n B) {m:Nat} (hm:m+1<n) (hl: ¬LovF f (m+1)):Def (jg f m) n B:=by
 obtain⟨h1,_⟩:=mZ h.sym h.pos hm;obtain⟨g1,g2⟩:=w5 h hm hl;have p:=h.pos m (by omega);refine⟨fun a ha b hb=>h.sym _ (o6 hm ha) _ (o6 hm hb),fun t ht=>?_,fun k hk=>?_⟩
 ·by_cases e:t=m
  ·subst e;exact g2
  rw[h1 (t+1) (by omega) (by omega)];exact h.pos t ht
 by_cases e:k=m+1
 ·subst e;have:=h.le (m+1) hk;omega
 rw[h1 k hk e];exact h.le k hk
theorem K0 (h:Def f n B) (hJ:Jn f n B) {m:Nat} (hF:Qa f (.swp m)) (hm:m+1<n):Jn (jg f m) n B:=by
 obtain⟨hnl,hs,hr⟩:=hF;have hA: ∀a,a<n->(f a a).natAbs<=cN n B:=by
  rcases hJ with hA|⟨i,hi,hA,hr1,_⟩
  ·exact hA
  intro a ha;by_cases e:a=i
  ·subst e;rcases Nat.lt_trichotomy a (m+1)with h'|h'|h'
   ·exact qY h ha (hr a h').1
   ·subst h';exact qY h ha hs
   exact absurd ((hr1 (m+1) h').2 (by omega)) hnl
  exact hA a ha e
 exact .inl fun a ha=>hA _ (o6 hm ha)
def prD (f:FF):Nat->Nat
 |0=>1
 |k+1=>prD f k*(dk f (k+1)).natAbs
theorem qU {g:FF}: ∀k,(∀t,t<k->dk g (t+1)=dk f (t+1))->prD g k=prD f k
 |0,_=>rfl
 |k+1,h=>by rw[prD,prD,qU k (fun t ht=>h t (by omega)),h k (by omega)]
theorem Eh (h:Def f n B): ∀k,k<=n->0<prD f k
 |0,_=>by simp[prD]
 |k+1,hk=>by
  have:=h.pos k (by omega);exact Nat.mul_pos (Eh h k (by omega)) (by omega)
theorem Jq (h:Def f n B): ∀k,k<=n->prD f k<=B^k
 |0,_=>by simp[prD]
 |k+1,hk=>by rw[prD,Nat.pow_succ];exact Nat.mul_le_mul (Jq h k (by omega)) (h.le (k+1) hk)
theorem An (h:Def f n B) {m:Nat} (hm:m+1<n) (hl: ¬LovF f (m+1)): ∀k,m<k->k<=n->4*prD (jg f m) k<=3*prD f k
 |k+1,hk,hkn=>by
  obtain⟨h1,_⟩:=mZ h.sym h.pos hm;obtain⟨g1,g2⟩:=w5 h hm hl;have p:=h.pos m (by omega);rw[prD,prD];by_cases e:k=m
  ·subst e;rw[qU k (fun t ht=>h1 (t+1) (by omega) (by omega)),Nat.mul_left_comm,Nat.mul_left_comm 3];exact aA _ (by omega)
  have ih:=An h hm hl k (by omega) (by omega);rw[h1 (k+1) hkn (by omega),<- Nat.mul_assoc,<- Nat.mul_assoc];exact Nat.mul_le_mul_right _ ih
end
/-! Bounds of the minors of a matrix of small entries. -/
theorem IC {E:Nat} {r:Nat->Int} (hr: ∀c,(r c).natAbs<=E) {M:Nat}: ∀(cs:List Nat) (N:Nat) (F:List Nat->Int),cs.length<=N->(∀l,l.length<=N->(F l).natAbs<=M)->(du r F cs).natAbs<=cs.length*(E*M)
 |[],_,_,_,_=>by simp[du]
 |c::cs,N,F,hN,hF=>by
  rw[du];have h1:=Int.natAbs_sub_le (r c*F cs) (du r (fun l=>F (c::l)) cs);have h2:=IC hr cs (N-1) (fun l=>F (c::l)) (by simp at hN;omega) (fun l hl=>hF (c::l) (by simp at hN⊢;omega));rw[Int.natAbs_mul]at h1;have h3:=Nat.mul_le_mul (hr c) (hF cs (by simp at hN;omega));rw[List.length_cons,Nat.add_mul,Nat.one_mul];omega
theorem Ny {E L:Nat} {f:FF} (hf: ∀a b,(f a b).natAbs<=E): ∀k l,l.length<=L->(om f k l).natAbs<=(L*E)^k
 |0,l,_=>by simp[om]
 |k+1,l,hl=>by
  rw[om];have:=IC (hf k) l L (om f k) hl (fun l hl=>Ny hf k l hl);have h2:l.length*(E*(L*E)^k)<=L*(E*(L*E)^k):=Nat.mul_le_mul_right _ hl;rw[Nat.pow_succ,Nat.mul_comm ((L*E)^k),Nat.mul_assoc];exact az this h2
theorem Dz: ∀k,(jE k).length=k
 |0=>rfl
 |k+1=>by rw[jE,List.length_cons,Dz k]
abbrev bB:Nat:=722204136308736
theorem Oj {E L:Nat} (h1:1<=L*E) {f:FF} (hf: ∀a b,(f a b).natAbs<=E) {k:Nat} (hk:k<=L):(dk f k).natAbs<=(L*E)^L:=
 az (Ny hf k (jE k) (by rw[Dz];exact hk)) (aC h1 hk)
theorem PL {f:FF} (hf: ∀a b,(f a b).natAbs<=9) {k:Nat} (hk:k<=8):(dk f k).natAbs<=bB:=by
 have h1:=Oj (L:=8) (by decide) hf hk;have h3:((8*9:Nat))^8=bB:=by decide
 rwa[h3]at h1
end
end Go.Proofs.YtfgeomlagfomgaaGreatDoor
