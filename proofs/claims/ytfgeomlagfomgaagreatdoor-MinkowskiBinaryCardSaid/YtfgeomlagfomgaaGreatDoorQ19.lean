/-
  Part 20 of a proof (walks and plain facts).
-/
import Derived.Test.YtfgeomlagfomgaaGreatDoorQ18
set_option linter.all false
set_option maxRecDepth 100000
set_option maxHeartbeats 64000000
open Nat renaming reduceAdd → aa
open Nat renaming reduceEqDiff → ab
open List renaming replicate → ae
open Nat renaming reduceBEq → af
open Nat renaming reduceLeDiff → ah
open Int renaming reduceToNat → am
open List renaming getElem?_eq_none → aq
open List renaming mem_of_getElem? → au
namespace Go.Proofs.YtfgeomlagfomgaaGreatDoor
open Go.RowKit
theorem mB (M:List (List Int)):CallC Tryz.prog 45 [bx M] ⟨[],.raw (.bool (b6 M))⟩:=by
 refine f6 (by kernel_rfl) fun X w vs hX hvs ha=>?_
 obtain⟨v0,e0,r0⟩:=kL ha (j:=0) rfl;obtain⟨A,c,rfl,hc,hl,hR⟩:=oT r0;obtain rfl:vs= #[.slice A M.length c]:=by
  apply Array.ext_getElem?;intro j
  match j with
  |0=>exact e0
  |j+1=>rw[Array.getElem?_eq_none (by simp at hvs;omega)];rfl
 refine(kO A c M w hR hl hc).mono fun e w' ⟨h1,h2⟩=>?_
 exact⟨_,h1,fun _ _ _=>vY _,h2⟩
theorem Nd (n:Int) (x:List Int):CallC Tryz.prog 95 [.raw (.int .i64 n),jW x] ⟨[],.raw (.bool (FitB n x))⟩:=by
 refine f6 (by kernel_rfl) fun X w vs hX hvs ha=>?_
 obtain⟨v0,e0,r0⟩:=kL ha (j:=0) rfl;obtain⟨v1,e1,r1⟩:=kL ha (j:=1) rfl;obtain rfl:=mC r0;obtain⟨B,d,rfl,hd,hlx,hx⟩:=gP r1;obtain rfl:vs= #[.int .i64 n,.slice B x.length d]:=by
  apply Array.ext_getElem?;intro j
  match j with
  |0=>exact e0
  |1=>exact e1
  |j+2=>rw[Array.getElem?_eq_none (by simp at hvs;omega)];rfl
 refine(qn n B d x w hx hlx).mono fun e w' ⟨h1,h2⟩=>?_
 subst h2;exact⟨_,h1,fun _ _ _=>vY _,Ext.refl _⟩
theorem zR (a b:List (List Int)):CallC Tryz.prog 28 [bx a,bx b] ⟨[],.raw (.bool (decide (a=b)))⟩:=by
 refine f6 (by kernel_rfl) fun X w vs hX hvs ha=>?_
 obtain⟨v0,e0,r0⟩:=kL ha (j:=0) rfl;obtain⟨v1,e1,r1⟩:=kL ha (j:=1) rfl;obtain⟨A,c,rfl,hc,hl,hA⟩:=oT r0;obtain⟨B,d,rfl,hd,hlb,hB⟩:=oT r1;obtain rfl:vs= #[.slice A a.length c,.slice B b.length d]:=by
  apply Array.ext_getElem?;intro j
  match j with
  |0=>exact e0
  |1=>exact e1
  |j+2=>rw[Array.getElem?_eq_none (by simp at hvs;omega)];rfl
 refine(KR A B c d a b w hA hB hl hlb).mono fun e w' ⟨h1,h2⟩=>?_
 exact⟨_,h1,fun _ _ _=>vY _,h2⟩
theorem KE {X:Nat->Prop} {w:World} {l:List Int} {b off c:Nat} (hX: ¬X b) (hb:b<w.heap.size) (hl:l.length<=c) (hm:l.length<=9223372036854775807) (h:RdI .i64 w (some ⟨b,off,none⟩) l):cW X w (.sl (ls fI l)) (.slice (some ⟨b,off,none⟩) l.length c):=by
 have hc: ∀(i:Nat) (z:Int),l[i]?=some z->w.cell? ⟨b,off+i,none⟩=some (.int .i64 z):=fun i z hz=>by
  cases l with
  |nil=>simp at hz
  |cons z0 l0=>
   obtain⟨b',off',h1,hc⟩:=h (by simp);injection h1 with h1
   injection h1 with h1 h2
   subst h1 h2;exact hc i _ (by rw[List.getElem?_map,hz];rfl)
 have:=cW.sl (X:=X) (w:=w) b off 1 c (ls fI l) (fun i _=> .int .i64 (l.getD i 0)) hX hb (fun e he=>by
  obtain⟨z,_,rfl⟩:=List.mem_map.1 he;rfl) (by rw[fJ];exact hl) (by rw[fJ];exact hm) (fun i e j x he hx=>by
  rw[io]at he;obtain⟨z,hz,rfl⟩:=Option.map_eq_some_iff.1 he;cases j with
  |succ j=>simp[fI]at hx
  |zero=>
   simp only[Nat.mul_one,Nat.add_zero,List.getD_eq_getElem?_getD,hz,Option.getD_some];exact hc i z hz) (fun i e j x he hx=>by
  rw[io]at he;obtain⟨z,hz,rfl⟩:=Option.map_eq_some_iff.1 he;cases j with
  |succ j=>simp[fI]at hx
  |zero=>
   simp[fI]at hx;subst hx;simp only[List.getD_eq_getElem?_getD,hz,Option.getD_some];exact cW.raw _ rfl)
 rw[fJ]at this;exact this
theorem Kr (M:List (List Int)) (x:List Int) (hM:b6 M=true) (hx:FitB M.length x=true):CallC Tryz.prog 97 [bx M,jW x] ⟨[],jW (dM M x)⟩:=by
 refine uG (by kernel_rfl) fun X w vs hX hvs ha=>?_
 obtain⟨v0,e0,r0⟩:=kL ha (j:=0) rfl;obtain⟨v1,e1,r1⟩:=kL ha (j:=1) rfl;obtain⟨A,c,rfl,hc,hl,hR⟩:=oT r0;obtain⟨B,d,rfl,hd,hlx,hrx⟩:=gP r1;obtain rfl:vs= #[.slice A M.length c,.slice B x.length d]:=by
  apply Array.ext_getElem?;intro j
  match j with
  |0=>exact e0
  |1=>exact e1
  |j+2=>rw[Array.getElem?_eq_none (by simp at hvs;omega)];rfl
 have hs:=gf hM;obtain⟨hxl,hxb⟩:=iZ.1 hx;have h8:M.length<=8:=hs.2.1;have h1:1<=M.length:=hs.1;refine(xA A B c d M x w hR hrx (by omega) (fun i hi=>by rw[hs.2.2.1 i hi];omega) hlx).mono fun e w' ⟨h1,h2,h3⟩=>?_
 refine⟨_,h1,fun ρ H Y hY=>?_,h3⟩;have hlen:=kK M x;have hb:w.heap.size<w'.heap.size:=by
  obtain⟨b,off,h4,h5⟩:=h2 (by intro h;rw[List.map_eq_nil_iff]at h;rw[h]at hlen;simp at hlen;omega);injection h4 with h4
  injection h4 with h4 h6
  subst h4 h6;cases hz:(dM M x)[0]? with
  |none=>rw[List.getElem?_eq_none_iff]at hz;omega
  |some z=>exact ou (h5 0 _ (by rw[List.getElem?_map,hz];rfl))
 have:=KE (X:=Y) (c:=M.length) (fun h=>absurd (hY _ h) (by omega)) hb (by omega) (by omega) h2;rw[hlen]at this;exact this
theorem PJ (M:List (List Int)) (x y:List Int) (hM:b6 M=true) (hx:FitB M.length x=true) (hy:FitB M.length y=true):CallC Tryz.prog 96 [jW x,jW (dM M y)] ⟨[],Qn (fk x (dM M y) x.length)⟩:=by
 refine f6 (by kernel_rfl) fun X w vs hX hvs ha=>?_
 obtain⟨v0,e0,r0⟩:=kL ha (j:=0) rfl;obtain⟨v1,e1,r1⟩:=kL ha (j:=1) rfl;obtain⟨A,c,rfl,hc,hl,hrx⟩:=gP r0;obtain⟨B,d,rfl,hd,hly,hry⟩:=gP r1;obtain rfl:vs= #[.slice A x.length c,.slice B (dM M y).length d]:=by
  apply Array.ext_getElem?;intro j
  match j with
  |0=>exact e0
  |1=>exact e1
  |j+2=>rw[Array.getElem?_eq_none (by simp at hvs;omega)];rfl
 have hs:=gf hM;obtain⟨hxl,hxb⟩:=iZ.1 hx;obtain⟨hyl,hyb⟩:=iZ.1 hy;have h8:M.length<=8:=hs.2.1;have hlen:=kK M y;refine(Fc A B c d x (dM M y) w hrx hry (by omega) (by omega) hly (fun i z hz=>lT hxb hz) (xz hs hyb)).mono fun e w' ⟨h1,h2⟩=>?_
 refine⟨_,h1,fun ρ H Y=>?_,h2⟩;unfold Qn uX;split
 ·exact tQ _ _
 exact tQ _ _
/-! The plain side of Gram. -/
def vG (M l:List (List Int)) (i j:Nat):Int:=fk (l.getD i []) (dM M (l.getD j [])) (l.getD i []).length
structure PG (M l:List (List Int)) (i j:Nat):Prop where
 x:FitB M.length (l.getD i [])=true
 y:FitB M.length (l.getD j [])=true
 lo: -4611686018427387904<=vG M l i j
 hi:vG M l i j<=4611686018427387904
def Qj (M l:List (List Int)):Prop:=b6 M=true/\ ∀i,i<l.length-> ∀j,j<l.length->PG M l i j
theorem DA {M:List (List Int)} {x y:List Int} (hM:b6 M=true) (hx:FitB M.length x=true) (hy:FitB M.length y=true):
  fk x (dM M y) x.length=BF M.length (ent M) (fun i=>x.getD i 0) (fun i=>y.getD i 0):=by
 obtain⟨h1,h8,hsq,hr⟩:=(ik M).1 hM;obtain⟨hxl,hxb⟩:=iZ.1 hx;obtain⟨hyl,hyb⟩:=iZ.1 hy;generalize hn:M.length=n at*
 have eM:M=bs n n (ent M):=by
  apply List.ext_getElem?;intro i;by_cases hi:i<n
  ·rw[bC _ _ hi];obtain⟨r,hr'⟩:=getElem?_of_lt (show i<M.length by omega);rw[hr'];have hrl:r.length=n:=by
    have:=hsq i (by omega);rw[List.getD_eq_getElem?_getD,hr']at this;simpa[hn] using this
   refine congrArg some ?_;apply List.ext_getElem?;intro j;by_cases hj:j<n
   ·rw[aU _ hj];obtain⟨z,hz⟩:=getElem?_of_lt (show j<r.length by omega);rw[hz];simp[ent,List.getD_eq_getElem?_getD,hr',hz]
   rw[aq (by omega),aq (by rw[bv];omega)]
  rw[aq (by omega),aq (by rw[aW];omega)]
 have er: ∀(x:List Int),x.length=n->x=bE n (fun i=>x.getD i 0):=fun x hxl=>by
  apply List.ext_getElem?;intro j;by_cases hj:j<n
  ·rw[aU _ hj];obtain⟨z,hz⟩:=getElem?_of_lt (show j<x.length by omega);simp[List.getD_eq_getElem?_getD,hz]
  rw[aq (by omega),aq (by rw[bv];omega)]
 have hM2:b6 (bs n n (ent M))=true:=by rw[<- eM];exact hM
 have ex:=er x hxl;have ey:=er y hyl;rw[show dM M y=RC n n (ent M) y by rw[<- C0 hM2 hyb,<- eM],hxl,RC];generalize(fun i=>x.getD i 0)=fx at*
 generalize(fun i=>y.getD i 0)=fy at*
 rw[ex,ey,qg _ _ n (Nat.le_refl _)];exact aO n fun i _=>by rw[qg _ _ n (Nat.le_refl _)]
theorem LH {M l:List (List Int)} {i j:Nat} (hM:b6 M=true) (hi:FitB M.length (l.getD i [])=true) (hj:FitB M.length (l.getD j [])=true):vG M l i j=vG M l j i:=by
 unfold vG;rw[DA hM hi hj,DA hM hj hi];obtain⟨h1,h8,hsq,hr⟩:=(ik M).1 hM;exact o9 hr.1 _ _
theorem PN {P:Program} {fn:Func} {s:AS} {r:TV} (k:Nat) (hk:s.tmps[k]?=some (.raw (.slice none 0 0))) (hd:s.H 1000=[]) (h:tp P ⟨s.tmps.set k (.one (.p (.sl []))),s.H⟩ fn.results.toList=some r) (hp:noRefTV r=true): ∃s',ce s s'/\oY P fn ⟨[],r⟩ s':=
 ⟨_,Ma k hk,qW hd h hp⟩
theorem GW (a b:Nat) (hb:0<b) (la:(aS a).length<=268435456) (lb:(aS b).length<=268435456):CallC Tryz.prog 170 [bA (aS a),bA (aS b)] ⟨[],A5 a b⟩:=by
 have hc:=pE (aS a) (aS b) (aV _) (aV _) (cn _) (cn _) (by omega) (by omega);rw[aQ,aQ]at hc;by_cases hlt:a<b
 ·rw[ox hlt]at hc;have hcl:=vi (aS a) (by omega);unfold A5;rw[Nat.div_eq_of_lt hlt,Nat.mod_eq_of_lt hlt,cH];refine aI Tryz.func170 rfl (by kernel_rfl) ?_;rw[Tryz.ntmps170];refine aD fun _ K=>?_;simp only[kd,bA,aa,ae];apply K
  refine aF (aK ?_);refine aG [⟨2,_,_,_,hc⟩] [] fun _ K=>?_;simp(disch:=omega) only[kd,km,bA,aa];apply K
  refine aX rfl ?_;refine aG [⟨1,_,_,_,hcl⟩] [] fun _ K=>?_;simp only[kd,bA,aa];apply K
  refine aH ⟨.inr rfl,PN 4 rfl rfl ?_ rfl⟩;simp(disch:=omega) only[kd,km,Tryz.results170]
 obtain⟨c,hcv,hc0⟩: ∃c,c=gy a b/\0<=c:=⟨_,rfl,ER (by omega)⟩;rw[<- hcv]at hc;clear hcv;by_cases hs:(aS a).length<=2
 ·have sb:(aS b).length<=2:=Nat.le_trans (pJ (show b<=a by omega)) hs;have ua:=gY hs;have ub:=gY sb;have h1:=qv (aS a) (aV _) hs;have h2:=qv (aS b) (aV _) sb;rw[aQ]at h1 h2;have hq:a/b<=a:=Nat.div_le_self _ _;have hr:a%b<b:=Nat.mod_lt _ hb;have h3:=ja (a/b) (by omega);have h4:=ja (a%b) (by omega);have hb0:(b:Int)≠0:=by omega
  have e1:IntKind.u64.wrap (Int.tdiv (a:Int) (b:Int))=((a/b:Nat):Int):=by
   rw[Int.tdiv_eq_ediv_of_nonneg (by omega),<- Int.natCast_ediv];generalize a/b=q at*;rw[IntKind.wrap_u64];omega
  have e2:Int.tmod (a:Int) (b:Int)=((a%b:Nat):Int):=by
   rw[Int.tmod_eq_emod_of_nonneg (by omega),<- Int.natCast_emod]
  unfold A5;generalize a/b=q at*
  generalize a%b=r at*
  refine aI Tryz.func170 rfl (by kernel_rfl) ?_;rw[Tryz.ntmps170];refine aD fun _ K=>?_;simp only[kd,bA,aa,ae];apply K
  refine aF (aK ?_);refine aG [⟨2,_,_,_,hc⟩] [] fun _ K=>?_;simp(disch:=omega) only[kd,km,bA,aa];apply K
  refine aR rfl ?_;refine aD fun _ K=>?_;simp(disch:=omega) only[kd,km,aa];apply K
  refine aX rfl ?_;refine aG [⟨1,_,_,_,h1⟩,⟨3,_,_,_,h2⟩] [] fun _ K=>?_;simp only[kd,bA,aa,af];apply K
  refine bu be [⟨3,_,_,_,h3⟩,⟨7,_,_,_,h4⟩] [] (by kernel_rfl) fun _ K=>?_;simp only[kd,bA,aa,ne_eq,hb0,not_false_eq_true,e1,e2,af];apply K
  (refine aH ⟨.inr rfl,aJ rfl ?_ rfl⟩;simp(disch:=omega) only[kd,km,Tryz.results170])
 by_cases h1:(aS b).length=1
 ·obtain⟨g0,b32⟩:=G4 h1;have hcl:=GV (aS a) (by omega) (by omega);have hw:=tn (aS a) b (aV _) hb b32 (by omega) (by omega);rw[aQ]at hw;have hq:a/b<4294967296^(aS a).length:=Nat.lt_of_le_of_lt (Nat.div_le_self _ _) (By a);have hr:a%b<b:=Nat.mod_lt _ hb;have ht:=d8 (bX (aS a).length (a/b)) (by rw[bU];omega);rw[sI hq]at ht;have hf:=ja (a%b) (by omega);have hpl:=bU (aS a).length (a/b);unfold A5;generalize a%b=r at*
  generalize bX (aS a).length (a/b)=R at*
  generalize a/b=q at*
  have e1:IntKind.u64.wrap (r:Int)=(r:Int):=by rw[IntKind.wrap_u64];omega
  refine aI Tryz.func170 rfl (by kernel_rfl) ?_;rw[Tryz.ntmps170];refine aD fun _ K=>?_;simp only[kd,bA,aa,ae];apply K
  refine aF (aK ?_);refine aG [⟨2,_,_,_,hc⟩] [] fun _ K=>?_;simp(disch:=omega) only[kd,km,bA,aa];apply K
  refine aR rfl ?_;refine aD fun _ K=>?_;simp(disch:=omega) only[kd,km,aa];apply K
  refine aR rfl ?_;refine aD fun _ K=>?_;simp(disch:=omega) only[kd,km,aa];apply K
  refine aX rfl ?_;refine aG [⟨1,_,_,_,hcl⟩] [] fun _ K=>?_;simp only[kd,bA,aa];apply K
  (refine ur 4 hw 41 0 [] [] (by simp[wk]) (by omega) (pR rfl) (eW _ _) (by simp[wk]) (by decide) fun K hK=>?_;simp(disch:=omega) only[kd,km,aa,am,g0];apply hK;refine⟨⟨rfl,rfl⟩,by simp,?_⟩;intro K hK;simp only[kd,aa,Jk,cwD];apply hK)
  refine bo.weak ((bZ 41 (dc rfl)).trans (aE (tm:=(j4 (bA R::jk::jk::jk::.raw (.int .u32 (r:Int))::j16 (j16 (j16 (j16 (j16 (j4 (j4 (j4 (jk::jk::jk::[]))))))))))) (l:=[]) trivial (by simp[wk,ij,fH,bi,Hm,gN,im,List.take_of_length_le,hpl]))) ?_;refine aG [⟨1,_,_,_,ht⟩,⟨4,_,_,_,hf⟩] [] fun _ K=>?_;simp only[kd,bA,aa,e1,af];apply K
  (refine aH ⟨.inr rfl,aJ rfl ?_ rfl⟩;simp(disch:=omega) only[kd,km,Tryz.results170])
 obtain⟨n,hn⟩: ∃n,(aS b).length=n+2:=⟨(aS b).length-2,by have:=fQ (n:=b);omega⟩;obtain⟨m,hm⟩: ∃m,(aS a).length=n+2+m:=⟨(aS a).length-(n+2),by have:=pJ (show b<=a by omega);omega⟩;obtain⟨x,hx,hx0,hx32,hbl⟩:=Cr (n:=n+1) hn;have hz:=QR x hx32;obtain⟨z1,z2,z3⟩:=MW hx0 hx32;obtain⟨s,hsz⟩: ∃s,s=lz x:=⟨_,rfl⟩;rw[<- hsz]at hz z1 z2 z3;clear hsz;obtain⟨V1,V2⟩:=NJ hn hx ⟨z2,z3⟩ z1;have hp2:=Nat.two_pow_pos s;have hV:0<b*2^s:=Nat.mul_pos hb hp2;have jW:=qt (aS b) s (aV _) z1 (by omega);have sl2:=qt (aS a) s (aV _) z1 (by omega);rw[aQ,hn]at jW;rw[aQ,hm]at sl2;have ha':=By a;rw[hm]at ha';obtain⟨st1,st2⟩:=HW (s:=s) ha' hbl;have hA:a*2^s<b*2^s*4294967296^(m+1):=by
  have h2:4294967296^(n+2+m)<=b*4294967296^(m+1):=by
   have e:4294967296^(n+2+m)=4294967296^(n+1)*4294967296^(m+1):=by rw[<- Nat.pow_add];congr 1;omega
   rw[e];exact Nat.mul_le_mul_right _ hbl
  rw[Nat.mul_right_comm];exact Nat.mul_lt_mul_of_pos_right (Nat.lt_of_lt_of_le ha' h2) hp2
 obtain⟨en1,en2⟩:=Nt (a:=a) (b:=b) (s:=s);have e1:((n+2:Nat):Int)-1=((n+1:Nat):Int):=by omega
 have e2:((n+2+m:Nat):Int)-((n+2:Nat):Int)=(m:Int):=by omega
 have e3:(m:Int)+1=((m+1:Nat):Int):=by omega
 have tk:=Hx (x:=b*2^s) (show n+2<=n+2+1 by omega);have kdh:=fun k=>Pu (A:=a*2^s) (k:=k) V1 V2
 have hQ: ∀k,k<=m+1->lI (a*2^s) (b*2^s) k<4294967296^(m+1):=fun k hk=>PM hA hk
 have hend:a%b*2^s<4294967296^(n+2+m+1):=by
  have h3:a%b<b:=Nat.mod_lt _ hb;have h4:a%b*2^s<=b*2^s:=Nat.mul_le_mul_right _ (Nat.le_of_lt h3);have h5:4294967296^(n+2)<=4294967296^(n+2+m+1):=Nat.pow_le_pow_right (by omega) (by omega);omega
 have hmod:a%b<4294967296^(n+2+m+1):=Nat.lt_of_le_of_lt (Nat.le_mul_of_pos_right _ hp2) hend;have hrw:=fun k (hk:k<=m)=>KH (A:=a*2^s) (V:=b*2^s) (k:=k) (nb:=n+2) (na:=n+2+m) hV (Nat.le_of_lt V1) (by omega)
 have hrr:=fun k (hk:k<=m)=>Nu (A:=a*2^s) (V:=b*2^s) (k:=k) (nb:=n+2) (na:=n+2+m) (by omega)
 have hqs:=fun k (hk:k<=m)=>Nk (A:=a*2^s) (V:=b*2^s) (k:=k) (m:=m+1) hV (by omega) (hQ _ (by omega))
 have hdiv:a/b<4294967296^(m+1):=by have:=hQ 0 (by omega);rwa[en2]at this
 have sr:=wY (bX (n+2+m+1) (a%b*2^s)) s (nI _ _) z1 (by rw[bU];omega) (by rw[bU];omega);rw[gk hend,bU,Nat.mul_div_cancel _ hp2]at sr;have ht1:=d8 (bX (m+1) (a/b)) (by rw[bU];omega);rw[sI hdiv]at ht1;have ht2:=d8 (bX (n+2+m+1) (a%b)) (by rw[bU];omega);rw[sI hmod]at ht2;have hlV:=bU (n+2) (b*2^s);refine aI Tryz.func170 rfl (by kernel_rfl) ?_;rw[Tryz.ntmps170];refine aD fun _ K=>?_;simp only[kd,bA,aa,ae];apply K
 refine aF (ki (S:=⟨(bA (aS a)::bA (aS b)::j16 (j16 (j16 (j16 (j16 (j16 (j4 (jk::jk::[])))))))),Hm []⟩) (aK ?_) ?_)
 ·refine aG [⟨2,_,_,_,hc⟩] [] fun _ K=>?_;simp(disch:=omega) only[kd,km,bA,aa];apply K
  refine aR rfl ?_;refine aD fun _ K=>?_;simp(disch:=omega) only[kd,km,aa];apply K
  refine aR rfl ?_;refine aD fun _ K=>?_;simp(disch:=omega) only[kd,km,aa];apply K
  refine bW rfl (fun h=>by simp at h<;>omega) (fun _=>aM (aE trivial ?_));simp[wk]
 refine aG [⟨6,_,_,_,hz⟩] [] fun _ K=>?_;simp(disch:=omega) only[kd,km,aa,bA,hn,e1,aP,hx];apply K
 refine aG [⟨2,_,_,_,jW⟩] [] fun _ K=>?_;simp(disch:=omega) only[kd,km,bA,aa,hn,ah,reduceCtorEq];apply K
 refine bo.weak ((bZ 61 (dc rfl)).trans (aE (tm:=(bA (aS a)::bA (aS b)::j4 (jk::jk::jk::rN s::bA (bX (n+2) (b*2^s))::j16 (j16 (j16 (j16 (j16 (j4 (j4 (j4 (jk::[]))))))))))) (l:=[]) trivial (by simp[wk,ij,fH,bi,Hm,gN,im,tk]))) ?_;generalize hvv:bX (n+2) (b*2^s)=vv at*
 refine aG [⟨2,_,_,_,sl2⟩] [] fun _ K=>?_;simp only[kd,bA,aa];apply K
 refine aD fun _ K=>?_;simp(disch:=omega) only[kd,km,aa,hm,hn,e2,aP,e3,ms,ab];apply K
 refine aF (aD fun _ K=>?_);simp(disch:=omega) only[kd,km,aa,hm,hn,e2,aP];apply K;generalize hAe:a*2^s=A at*
 generalize hVe:b*2^s=V at*
 refine aY (G:=j6 (m+1)) (fun g=>⟨(jk::bA (aS b)::jk::jk::.one (.sl 74 0 0 (m+1))::j4 (.raw (.int .i64 (s:Int))::bA vv::.one (.sl 67 0 0 (n+2+m+1))::.raw (.int .i64 ((g.i:Int)-1))::j16 (j16 (j16 (j16 (j16 (j4 (j4 (jk::jk::jk::[]))))))))),Hm [(67,[⟨79,1,lc fU (bX (n+2+m+1) (fj A V g.i))⟩]),(74,[⟨79,1,lc fU (bX (m+1) (lI A V g.i))⟩])]⟩) (fun g=>g.i) ⟨m+1,by omega⟩ ?_ ?_
 ·refine aE ⟨?_,?_,trivial⟩ ?_
  ·simp[st1,bi,Hm]
  ·simp[st2,bi,Hm,yd]
  simp[wk]
 rintro⟨i,hi⟩;simp only;by_cases h0:0<i
 ·obtain⟨k,rfl⟩: ∃k,i=k+1:=⟨i-1,by omega⟩;have hk:k<=m:=by omega
  have ek:((k+1:Nat):Int)-1=(k:Int):=by omega
  have ek2:(k:Int)+((n+2:Nat):Int)+1=((k+n+3:Nat):Int):=by omega
  have ek3:k+n+3-k=n+3:=by omega
  obtain⟨v1,v2,u2,u1,u0,K,nU,nV⟩:=kdh k;have w1:=hrw k hk;have w2:=hrr k hk;rw[show n+2+1=n+3 from rfl]at w1 w2;have w3:=hqs k hk;have gq:=fW (x:=lI A V (k+1)) (show k<m+1 by omega);have hds:=wX (bX k (fj A V (k+1))) _ (bX (n+2+m-(k+(n+2))) (fj A V (k+1)/4294967296^(k+(n+2)+1))) _ k n v1 v2 u2 u1 u0 (bU _ _) K (by rw[<- w2,bU];omega);rw[nU,nV]at hds;rw[w1,<- w2]at hds;have qd:=qN (A:=A) (k:=k) hV;have l1:=bU (m+1) (lI A V (k+1));have l2:=bU (n+2+m+1) (fj A V (k+1));obtain⟨R',hR'⟩: ∃R',R'=bX (n+2+m+1) (fj A V k):=⟨_,rfl⟩;obtain⟨Q',hQ'⟩: ∃Q',Q'=bX (m+1) (lI A V k):=⟨_,rfl⟩;rw[<- hR']at hds;rw[<- hQ']at w3;clear w1 w2 K nU nV;generalize fj A V (k+1)/4294967296^k/V=d at*
  generalize lI A V (k+1)/4294967296^k%4294967296=od at*
  generalize bX (m+1) (lI A V (k+1))=Q0 at*
  generalize bX (n+2+m+1) (fj A V (k+1))=R0 at*
  refine aF (aD fun _ K=>?_);simp(disch:=omega) only[kd,km,bA,ek];apply K;refine aX rfl (aM ?_);refine aF (aK ?_)
  ((refine CR 11 hds 67 0 [] [] (by simp[wk]) (by omega) (pR rfl) (eW _ _) (by simp[wk]) (by decide) fun K hK=>?_);simp(disch:=omega) only[kd,km,aa,hn,aP,ek2,ab,ah,ek3];apply hK;refine⟨⟨rfl,rfl⟩,by simp,?_⟩;intro K hK;simp(disch:=omega) only[kd,km,aa,Jk,cwD,ab,gq,dJ,w3];apply hK)
  show bo _ _ _ _;refine aL fun _ K=>?_;simp(disch:=omega) only[kd,km,aa,aP];apply K
  refine⟨⟨k,by omega⟩,by simp only;omega,aE ⟨?_,?_,trivial⟩ ?_⟩
  ·simp[bi,Hm,hR']
  ·simp[bi,Hm,hQ']
  simp[wk]
 have hi0:i=0:=by omega
 subst hi0;rw[en1,en2];generalize bX (n+2+m+1) (a%b*2^s)=R0 at*
 unfold A5;have l1:=bU (m+1) (a/b);have l2:=bU (n+2+m+1) (a%b);generalize bX (n+2+m+1) (a%b)=R1 at*
 generalize bX (m+1) (a/b)=Q1 at*
 generalize a/b=q at*
 generalize a%b=r at*
 refine aF (aD fun _ K=>?_);simp(disch:=omega) only[kd,km,bA];apply K;refine aR rfl (bN ?_);show bo _ _ _ _
 (refine ur 2 sr 67 0 [] [] (by simp[wk]) (by omega) (pR rfl) (eW _ _) (by simp[wk]) (by decide) fun K hK=>?_;simp only[kd];apply hK;refine⟨⟨rfl,rfl⟩,by simp,?_⟩;intro K hK;simp only[kd,aa,Jk,cwD,ab];apply hK)
 refine bo.weak ((bZ 67 (dc rfl)).trans ((bZ 74 (dc rfl)).trans (aE (tm:=(j4 (bA Q1::j4 (jk::jk::bA R1::j16 (j16 (j16 (j16 (j16 (j4 (j4 (j4 ([])))))))))))) (l:=[]) trivial (by simp[wk,ij,fH,bi,Hm,gN,im,List.take_of_length_le,l1,l2])))) ?_;refine aG [⟨1,_,_,_,ht1⟩,⟨3,_,_,_,ht2⟩] [] fun _ K=>?_;simp only[kd,bA,aa,af];apply K
 (refine aH ⟨.inr rfl,aJ rfl ?_ rfl⟩;simp(disch:=omega) only[kd,km,Tryz.results170])
theorem Pn {a b:Int} (hb:b≠0) (ha:0<=a):a/b=gA (decide (b<0)) (a.natAbs/b.natAbs)/\a%b=gA false (a.natAbs%b.natAbs):=by
 have e1:tr a b=gA false (a.natAbs%b.natAbs):=by unfold tr;rw[decide_eq_false (by omega)]
 have e2:tq a b=gA (decide (b<0)) (a.natAbs/b.natAbs):=by unfold tq;rw[decide_eq_false (show ¬a<0 by omega)];by_cases h:b<0<;>simp[h]
 rw[<- e1,<- e2];exact Df hb (by rw[e1];unfold gA;simp;omega)
theorem ME {a b:Int} (hb:b≠0) (ha:a<0) (h:a.natAbs%b.natAbs=0):a/b=gA (!decide (b<0)) (a.natAbs/b.natAbs)/\a%b=gA false (a.natAbs%b.natAbs):=by
 have e1:tr a b=gA false (a.natAbs%b.natAbs):=by unfold tr;rw[h];unfold gA;simp
 have e2:tq a b=gA (!decide (b<0)) (a.natAbs/b.natAbs):=by unfold tq;rw[decide_eq_true ha];by_cases h:b<0<;>simp[h]
 rw[<- e1,<- e2];exact Df hb (by rw[e1,h];unfold gA;simp)
theorem Pm {a b:Int} (hb:b≠0) (ha:a<0) (h:a.natAbs%b.natAbs≠0):a/b=gA (!decide (b<0)) (a.natAbs/b.natAbs+1)/\a%b=gA false (b.natAbs-a.natAbs%b.natAbs):=by
 have e1:tr a b= -((a.natAbs%b.natAbs:Nat):Int):=by unfold tr;rw[decide_eq_true ha];rfl
 have hlt:a.natAbs%b.natAbs<b.natAbs:=Nat.mod_lt _ (by omega);by_cases hbn:b<0
 ·obtain⟨p1,p2⟩:=Fa (a:=a) hbn (by rw[e1];omega);have e2:tq a b=((a.natAbs/b.natAbs:Nat):Int):=by unfold tq;rw[decide_eq_true ha,decide_eq_true hbn];rfl
  rw[p1,p2,e1,e2,decide_eq_true hbn];generalize a.natAbs/b.natAbs=q at*
  generalize a.natAbs%b.natAbs=r at*
  unfold gA;constructor<;>simp<;>omega
 obtain⟨p1,p2⟩:=Fb (a:=a) (show 0<b by omega) (by rw[e1];omega);have e2:tq a b= -((a.natAbs/b.natAbs:Nat):Int):=by unfold tq;rw[decide_eq_true ha,decide_eq_false hbn];rfl
 rw[p1,p2,e1,e2,decide_eq_false hbn];generalize a.natAbs/b.natAbs=q at*
 generalize a.natAbs%b.natAbs=r at*
 unfold gA;constructor<;>simp<;>omega
def Bd (z:Int):Prop:=Sz z 268435456
theorem xN (a b:Int) (hb0:b≠0) (ha:Bd a) (hb:Bd b):CallC Tryz.prog 163 [tZ a,tZ b] ⟨[],.tup [(true,cZ (a/b)),(true,cZ (a%b)),(false,[.p (.raw (.bool true))])]⟩:=by
 have la:(aS a.natAbs).length<=268435456:=jE ha;have lb:(aS b.natAbs).length<=268435456:=jE hb;have t1:=d8 (aS a.natAbs) (by omega);have t2:=d8 (aS b.natAbs) (by omega);rw[gp]at t1 t2;have hl0:(aS b.natAbs).length≠0:=fun h=>hb0 (by have:=fQ.1 h;omega)
 have hd:=GW a.natAbs b.natAbs (by omega) la lb;unfold A5 at hd;have hr0:=fQ (n:=a.natAbs%b.natAbs);have hlt:a.natAbs%b.natAbs<b.natAbs:=Nat.mod_lt _ (by omega);have lq:=pJ (show a.natAbs/b.natAbs<=a.natAbs from Nat.div_le_self _ _);have lr:=pJ (Nat.le_of_lt hlt);by_cases han:a<0
 ·by_cases hr:a.natAbs%b.natAbs=0
  ·obtain⟨p1,p2⟩:=ME hb0 han hr;have h8:=eR (!decide (b<0)) (a.natAbs/b.natAbs);have h9:=eR false (a.natAbs%b.natAbs);rw[<- p1]at h8;rw[<- p2]at h9;have hl:(aS (a.natAbs%b.natAbs)).length=0:=hr0.2 hr;clear p1 p2;generalize a.natAbs/b.natAbs=q at*
   generalize a.natAbs%b.natAbs=r at*
   generalize a/b=Q at*
   generalize a%b=R at*
   refine aI Tryz.func163 rfl (by kernel_rfl) ?_;rw[Tryz.ntmps163];refine aD fun _ K=>?_;simp(disch:=omega) only[kd,km,aa,tZ,ae,ab];apply K
   refine aG [⟨2,_,_,_,t2⟩] [] fun _ K=>?_;simp(disch:=omega) only[kd,km,bA,aa,ab];apply K
   refine aF (aD fun _ K=>?_);simp(disch:=omega) only[kd,km,aa];apply K;refine aR rfl (aM ?_);show bo _ _ _ _;refine aG [⟨2,_,_,_,t1⟩,⟨4,_,_,_,hd⟩] [] fun _ K=>?_;simp(disch:=omega) only[kd,km,bA,aa,ab,af];apply K
   refine aD fun _ K=>?_;simp(disch:=omega) only[kd,km,aa,ab];apply K
   refine aF (aK ?_);refine aF (aK ?_);refine aF (aK ?_);refine aF (aF (aD fun _ K=>?_));simp(disch:=omega) only[kd,km,aa,ab];apply K;refine aR rfl (aM ?_);show bo _ _ _ _;refine aD fun _ K=>?_;simp(disch:=omega) only[kd,km,aa,ab];apply K
   refine aX rfl (bN ?_);show bo _ _ _ _;refine aD fun _ K=>?_;simp only[kd,aa];apply K
   refine bN ?_;show bo _ _ _ _;refine aG [⟨2,_,_,_,h8⟩,⟨4,_,_,_,h9⟩] [] fun _ K=>?_;simp(disch:=omega) only[kd,km,bA,tZ,aa,af,ab];apply K
   (refine aH ⟨.inr rfl,aJ rfl ?_ rfl⟩;simp(disch:=omega) only[kd,km,Tryz.results163,ab,aa,cZ])
  obtain⟨p1,p2⟩:=Pm hb0 han hr;have h6:=xM (aS (a.natAbs/b.natAbs)) [1] (aV _) (by intro x hx;simp at hx;omega) (by omega) (by simp);rw[aQ,show natV [1]=1 from rfl,show bA [1]= .one (.p (.sl [[.raw (.int .u32 1)]]))from rfl]at h6;have h7:=rU (aS b.natAbs) (aS (a.natAbs%b.natAbs)) (aV _) (aV _) lr (by rw[aQ,aQ];omega) (by omega);rw[aQ,aQ]at h7;have h8:=eR (!decide (b<0)) (a.natAbs/b.natAbs+1);have h9:=eR false (b.natAbs-a.natAbs%b.natAbs);rw[<- p1]at h8;rw[<- p2]at h9;have hl:(aS (a.natAbs%b.natAbs)).length≠0:=fun h=>hr (hr0.1 h)
  clear p1 p2;generalize b.natAbs-a.natAbs%b.natAbs=br at*
  generalize a.natAbs/b.natAbs=q at*
  generalize a.natAbs%b.natAbs=r at*
  generalize a/b=Q at*
  generalize a%b=R at*
  refine aI Tryz.func163 rfl (by kernel_rfl) ?_;rw[Tryz.ntmps163];refine aD fun _ K=>?_;simp(disch:=omega) only[kd,km,aa,tZ,ae,ab];apply K
  refine aG [⟨2,_,_,_,t2⟩] [] fun _ K=>?_;simp(disch:=omega) only[kd,km,bA,aa,ab];apply K
  refine aF (aD fun _ K=>?_);simp(disch:=omega) only[kd,km,aa];apply K;refine aR rfl (aM ?_);show bo _ _ _ _;refine aG [⟨2,_,_,_,t1⟩,⟨4,_,_,_,hd⟩] [] fun _ K=>?_;simp(disch:=omega) only[kd,km,bA,aa,ab,af];apply K
  refine aD fun _ K=>?_;simp(disch:=omega) only[kd,km,aa,ab];apply K
  refine aF (aK ?_);refine aF (aK ?_);refine aF (aK ?_);refine aF (aF (aD fun _ K=>?_));simp(disch:=omega) only[kd,km,aa,ab];apply K;refine aX rfl (bN ?_);show bo _ _ _ _;refine aG [⟨2,_,_,_,h6⟩] [] fun _ K=>?_;simp(disch:=omega) only[kd,km,bA,aa,Nat.reduceMul,ah];apply K
  refine qb [⟨2,_,_,_,h7⟩] [] fun _ K=>?_;simp only[kd,bA,aa];apply K
  show bo _ _ _ _;refine aD fun _ K=>?_;simp only[kd,aa];apply K
  refine bN ?_;show bo _ _ _ _;refine aG [⟨2,_,_,_,h8⟩,⟨4,_,_,_,h9⟩] [] fun _ K=>?_;simp(disch:=omega) only[kd,km,bA,tZ,aa,af,ab];apply K
  (refine aH ⟨.inr rfl,aJ rfl ?_ rfl⟩;simp(disch:=omega) only[kd,km,Tryz.results163,ab,aa,cZ])
 obtain⟨p1,p2⟩:=Pn hb0 (show 0<=a by omega);have h8:=eR (decide (b<0)) (a.natAbs/b.natAbs);have h9:=eR false (a.natAbs%b.natAbs);rw[<- p1]at h8;rw[<- p2]at h9;clear p1 p2;generalize a.natAbs/b.natAbs=q at*
 generalize a.natAbs%b.natAbs=r at*
 generalize a/b=Q at*
 generalize a%b=R at*
 refine aI Tryz.func163 rfl (by kernel_rfl) ?_;rw[Tryz.ntmps163];refine aD fun _ K=>?_;simp(disch:=omega) only[kd,km,aa,tZ,ae,ab];apply K
 refine aG [⟨2,_,_,_,t2⟩] [] fun _ K=>?_;simp(disch:=omega) only[kd,km,bA,aa,ab];apply K
 refine aF (aD fun _ K=>?_);simp(disch:=omega) only[kd,km,aa];apply K;refine aR rfl (aM ?_);show bo _ _ _ _;refine aG [⟨2,_,_,_,t1⟩,⟨4,_,_,_,hd⟩] [] fun _ K=>?_;simp(disch:=omega) only[kd,km,bA,aa,ab,af];apply K
 refine aD fun _ K=>?_;simp(disch:=omega) only[kd,km,aa,ab];apply K
 refine aF (aK ?_);refine aF (aK ?_);refine aF (aK ?_);refine aF (aF (aD fun _ K=>?_));simp(disch:=omega) only[kd,km,aa,ab];apply K;refine aR rfl (aM ?_);show bo _ _ _ _;refine aD fun _ K=>?_;simp(disch:=omega) only[kd,km,aa,ab];apply K
 refine aR rfl (aM ?_);refine bN ?_;show bo _ _ _ _;refine aG [⟨2,_,_,_,h8⟩,⟨4,_,_,_,h9⟩] [] fun _ K=>?_;simp(disch:=omega) only[kd,km,bA,tZ,aa,af,ab];apply K
 (refine aH ⟨.inr rfl,aJ rfl ?_ rfl⟩;simp(disch:=omega) only[kd,km,Tryz.results163,ab,aa,cZ])
structure RT (M:List (List Int)) where
 i:Nat
 hi:i<=M.length
 ok: ∀r∈M.take i,r.length=(M.headD []).length
theorem Cj (M:List (List Int)):CallC Tryz.prog 112 [bx M] ⟨[],PU M⟩:=by
 by_cases h1:M.length<1
 ·rw[fX (fun h=>by have:=h.1;omega)];refine aI Tryz.func112 rfl (by kernel_rfl) ?_;rw[Tryz.ntmps112];refine aD fun _ K=>?_;simp only[kd,aa,bx,ae];apply K
  refine aF (aD fun _ K=>?_);simp(disch:=omega) only[kd,km,aa,reduceCtorEq];apply K;refine aX rfl ?_;refine aD fun _ K=>?_;simp only[kd,aa];apply K
  (refine aH ⟨.inr rfl,aJ rfl ?_ rfl⟩;simp(disch:=omega) only[kd,km,Tryz.results112])
 by_cases h2:16<M.length
 ·rw[fX (fun h=>by have:=h.2.1;omega)];refine aI Tryz.func112 rfl (by kernel_rfl) ?_;rw[Tryz.ntmps112];refine aD fun _ K=>?_;simp only[kd,aa,bx,ae];apply K
  refine aF (aD fun _ K=>?_);simp(disch:=omega) only[kd,km,aa];apply K;refine aX rfl ?_;refine aD fun _ K=>?_;simp only[kd,aa];apply K
  (refine aH ⟨.inr rfl,aJ rfl ?_ rfl⟩;simp(disch:=omega) only[kd,km,Tryz.results112])
 have h0:=lw (M:=M) (by omega);have hmem0:M.headD []∈M:=au h0;by_cases c1:(M.headD []).length<1
 ·rw[fX (fun h=>by have:=(h.2.2 _ hmem0).1;omega)];refine aI Tryz.func112 rfl (by kernel_rfl) ?_;rw[Tryz.ntmps112];refine aD fun _ K=>?_;simp only[kd,aa,bx,ae];apply K
  refine aF (aD fun _ K=>?_);simp(disch:=omega) only[kd,km,aa];apply K;refine aR rfl (aM ?_);show bo _ _ _ _;refine aD fun _ K=>?_;simp(disch:=omega) only[kd,km,aa,am,h0,fR];apply K
  refine aF (aD fun _ K=>?_);simp(disch:=omega) only[kd,km,aa,reduceCtorEq];apply K;refine aX rfl ?_;refine aD fun _ K=>?_;simp only[kd,aa];apply K
  (refine aH ⟨.inr rfl,aJ rfl ?_ rfl⟩;simp(disch:=omega) only[kd,km,Tryz.results112])
 by_cases c2:16<(M.headD []).length
 ·rw[fX (fun h=>by have:=(h.2.2 _ hmem0).2.1;omega)];refine aI Tryz.func112 rfl (by kernel_rfl) ?_;rw[Tryz.ntmps112];refine aD fun _ K=>?_;simp only[kd,aa,bx,ae];apply K
  refine aF (aD fun _ K=>?_);simp(disch:=omega) only[kd,km,aa];apply K;refine aR rfl (aM ?_);show bo _ _ _ _;refine aD fun _ K=>?_;simp(disch:=omega) only[kd,km,aa,am,h0,fR];apply K
  refine aF (aD fun _ K=>?_);simp(disch:=omega) only[kd,km,aa];apply K;refine aX rfl ?_;refine aD fun _ K=>?_;simp only[kd,aa];apply K
  (refine aH ⟨.inr rfl,aJ rfl ?_ rfl⟩;simp(disch:=omega) only[kd,km,Tryz.results112])
 refine aI Tryz.func112 rfl (by kernel_rfl) ?_;rw[Tryz.ntmps112];refine aD fun _ K=>?_;simp only[kd,aa,bx,ae];apply K
 refine aF (aD fun _ K=>?_);simp(disch:=omega) only[kd,km,aa];apply K;refine aR rfl (aM ?_);show bo _ _ _ _;refine aD fun _ K=>?_;simp(disch:=omega) only[kd,km,aa,am,h0,fR];apply K
 refine aF (aD fun _ K=>?_);simp(disch:=omega) only[kd,km,aa];apply K;refine aR rfl (aM ?_);show bo _ _ _ _;refine aF (aD fun _ K=>?_);simp only[kd,aa];apply K;refine aY (G:=RT M) (fun g=>⟨(bx M::j4 (.raw (.int .i64 ((M.headD []).length:Int))::j16 (j4 (bx M::rN M.length::rN g.i::j4 (j4 (jk::jk::jk::[])))))),Hm []⟩) (fun g=>M.length-g.i) ⟨0,by omega,fun r hr=>by simp at hr⟩ ?_ ?_
 ·refine aE trivial ?_;simp[wk]
 rintro⟨i,hi,ok⟩;simp only;by_cases hm:i<M.length
 ·obtain⟨r,hr⟩:=getElem?_of_lt hm;have hmem:r∈M:=au hr;refine aD fun _ K=>?_;simp(disch:=omega) only[kd,km,bx];apply K
  refine bG rfl ?_;refine aF (aK ?_);refine aD fun _ K=>?_;simp(disch:=omega) only[kd,km,aa,hr,fR];apply K
  by_cases c3:r.length=(M.headD []).length
  ·refine aD fun _ K=>?_;simp(disch:=omega) only[kd,km,aa];apply K
   refine aR rfl (aM ?_);show bo _ _ _ _;refine aL fun _ K=>?_;simp(disch:=omega) only[kd,km,aP];apply K
   refine⟨⟨i+1,by omega,fun r' hr'=>?_⟩,by simp only;omega,aE trivial ?_⟩
   ·rw[List.take_add_one,hr]at hr';rcases List.mem_append.1 hr' with h|h
    ·exact ok r' h
    have:r'=r:=by simpa using h
    subst this;exact c3
   simp[wk]
  rw[fX (fun h=>by have:=(h.2.2 r hmem).2.2;omega)];refine aD fun _ K=>?_;simp(disch:=omega) only[kd,km,aa];apply K
  refine aX rfl ?_;refine aD fun _ K=>?_;simp only[kd,aa];apply K
  (refine aH ⟨.inr rfl,aJ rfl ?_ rfl⟩;simp(disch:=omega) only[kd,km,Tryz.results112])
 have hsh:CB M:=⟨by omega,by omega,fun r hr=>by
  have:=ok r (by rw[List.take_of_length_le (by omega)];exact hr);exact⟨by omega,by omega,this⟩⟩
 rw[iv hsh];refine aD fun _ K=>?_;simp(disch:=omega) only[kd,km,bx];apply K
 refine bT rfl ?_;show bo _ _ _ _;refine aD fun _ K=>?_;simp only[kd,aa];apply K
 (refine aH ⟨.inr rfl,aJ rfl ?_ rfl⟩;simp(disch:=omega) only[kd,km,Tryz.results112])
theorem wv (M:List (List Int)):CallC Tryz.prog 159 [bJ M] ⟨[],PU M⟩:=by
 by_cases h1:M.length<1
 ·rw[fX (fun h=>by have:=h.1;omega)];refine aI Tryz.func159 rfl (by kernel_rfl) ?_;rw[Tryz.ntmps159];refine aD fun _ K=>?_;simp only[kd,aa,bJ,ae];apply K
  refine aF (aD fun _ K=>?_);simp(disch:=omega) only[kd,km,aa,reduceCtorEq];apply K;refine aX rfl ?_;refine aD fun _ K=>?_;simp only[kd,aa];apply K
  (refine aH ⟨.inr rfl,aJ rfl ?_ rfl⟩;simp(disch:=omega) only[kd,km,Tryz.results159])
 by_cases h2:16<M.length
 ·rw[fX (fun h=>by have:=h.2.1;omega)];refine aI Tryz.func159 rfl (by kernel_rfl) ?_;rw[Tryz.ntmps159];refine aD fun _ K=>?_;simp only[kd,aa,bJ,ae];apply K
  refine aF (aD fun _ K=>?_);simp(disch:=omega) only[kd,km,aa];apply K;refine aX rfl ?_;refine aD fun _ K=>?_;simp only[kd,aa];apply K
  (refine aH ⟨.inr rfl,aJ rfl ?_ rfl⟩;simp(disch:=omega) only[kd,km,Tryz.results159])
 have h0:=lw (M:=M) (by omega);have hmem0:M.headD []∈M:=au h0;by_cases c1:(M.headD []).length<1
 ·rw[fX (fun h=>by have:=(h.2.2 _ hmem0).1;omega)];refine aI Tryz.func159 rfl (by kernel_rfl) ?_;rw[Tryz.ntmps159];refine aD fun _ K=>?_;simp only[kd,aa,bJ,ae];apply K
  refine aF (aD fun _ K=>?_);simp(disch:=omega) only[kd,km,aa];apply K;refine aR rfl (aM ?_);show bo _ _ _ _;refine aD fun _ K=>?_;simp(disch:=omega) only[kd,km,aa,am,h0,fR];apply K
  refine aF (aD fun _ K=>?_);simp(disch:=omega) only[kd,km,aa,reduceCtorEq];apply K;refine aX rfl ?_;refine aD fun _ K=>?_;simp only[kd,aa];apply K
  (refine aH ⟨.inr rfl,aJ rfl ?_ rfl⟩;simp(disch:=omega) only[kd,km,Tryz.results159])
 by_cases c2:16<(M.headD []).length
 ·rw[fX (fun h=>by have:=(h.2.2 _ hmem0).2.1;omega)];refine aI Tryz.func159 rfl (by kernel_rfl) ?_;rw[Tryz.ntmps159];refine aD fun _ K=>?_;simp only[kd,aa,bJ,ae];apply K
  refine aF (aD fun _ K=>?_);simp(disch:=omega) only[kd,km,aa];apply K;refine aR rfl (aM ?_);show bo _ _ _ _;refine aD fun _ K=>?_;simp(disch:=omega) only[kd,km,aa,am,h0,fR];apply K
  refine aF (aD fun _ K=>?_);simp(disch:=omega) only[kd,km,aa];apply K;refine aX rfl ?_;refine aD fun _ K=>?_;simp only[kd,aa];apply K
  (refine aH ⟨.inr rfl,aJ rfl ?_ rfl⟩;simp(disch:=omega) only[kd,km,Tryz.results159])
 refine aI Tryz.func159 rfl (by kernel_rfl) ?_;rw[Tryz.ntmps159];refine aD fun _ K=>?_;simp only[kd,aa,bJ,ae];apply K
 refine aF (aD fun _ K=>?_);simp(disch:=omega) only[kd,km,aa];apply K;refine aR rfl (aM ?_);show bo _ _ _ _;refine aD fun _ K=>?_;simp(disch:=omega) only[kd,km,aa,am,h0,fR];apply K
 refine aF (aD fun _ K=>?_);simp(disch:=omega) only[kd,km,aa];apply K;refine aR rfl (aM ?_);show bo _ _ _ _;refine aF (aD fun _ K=>?_);simp only[kd,aa];apply K;refine aY (G:=RT M) (fun g=>⟨(bJ M::j4 (.raw (.int .i64 ((M.headD []).length:Int))::j16 (j4 (bJ M::rN M.length::rN g.i::j4 (j4 (jk::jk::jk::[])))))),Hm []⟩) (fun g=>M.length-g.i) ⟨0,by omega,fun r hr=>by simp at hr⟩ ?_ ?_
 ·refine aE trivial ?_;simp[wk]
 rintro⟨i,hi,ok⟩;simp only;by_cases hm:i<M.length
 ·obtain⟨r,hr⟩:=getElem?_of_lt hm;have hmem:r∈M:=au hr;refine aD fun _ K=>?_;simp(disch:=omega) only[kd,km,bJ];apply K
  refine bG rfl ?_;refine aF (aK ?_);refine aD fun _ K=>?_;simp(disch:=omega) only[kd,km,aa,hr,fR];apply K
  by_cases c3:r.length=(M.headD []).length
  ·refine aD fun _ K=>?_;simp(disch:=omega) only[kd,km,aa];apply K
   refine aR rfl (aM ?_);show bo _ _ _ _;refine aL fun _ K=>?_;simp(disch:=omega) only[kd,km,aP];apply K
   refine⟨⟨i+1,by omega,fun r' hr'=>?_⟩,by simp only;omega,aE trivial ?_⟩
   ·rw[List.take_add_one,hr]at hr';rcases List.mem_append.1 hr' with h|h
    ·exact ok r' h
    have:r'=r:=by simpa using h
    subst this;exact c3
   simp[wk]
  rw[fX (fun h=>by have:=(h.2.2 r hmem).2.2;omega)];refine aD fun _ K=>?_;simp(disch:=omega) only[kd,km,aa];apply K
  refine aX rfl ?_;refine aD fun _ K=>?_;simp only[kd,aa];apply K
  (refine aH ⟨.inr rfl,aJ rfl ?_ rfl⟩;simp(disch:=omega) only[kd,km,Tryz.results159])
 have hsh:CB M:=⟨by omega,by omega,fun r hr=>by
  have:=ok r (by rw[List.take_of_length_le (by omega)];exact hr);exact⟨by omega,by omega,this⟩⟩
 rw[iv hsh];refine aD fun _ K=>?_;simp(disch:=omega) only[kd,km,bJ];apply K
 refine bT rfl ?_;show bo _ _ _ _;refine aD fun _ K=>?_;simp only[kd,aa];apply K
 (refine aH ⟨.inr rfl,aJ rfl ?_ rfl⟩;simp(disch:=omega) only[kd,km,Tryz.results159])
theorem Ps (a b:Int) (ha:Bg a) (hb:Bg b):CallC Tryz.prog 117 [tZ a,tZ b] ⟨[],.raw (.int .i64 (qk a b))⟩:=by
 have h1:=qu a ha;have h2:=qu b hb;have t1:=d8 (aS a.natAbs) ha.len;have t2:=d8 (aS b.natAbs) hb.len;rw[gp]at t1 t2;have h3:=pE (aS a.natAbs) (aS b.natAbs) (aV _) (aV _) (cn _) (cn _) ha.len hb.len;rw[aQ,aQ]at h3;have r1:=q9 a;have r2:=q9 b;have r3:=uN a.natAbs b.natAbs;have r4: -1<=sg a*gy a.natAbs b.natAbs/\sg a*gy a.natAbs b.natAbs<=1:=by
  have:sg a= -1\/sg a=0\/sg a=1:=by omega
  rcases this with h|h|h<;>rw[h]<;>omega
 by_cases hs:sg a=sg b
 ·rw[ES hs];refine aI Tryz.func117 rfl (by kernel_rfl) ?_;rw[Tryz.ntmps117];refine aD fun _ K=>?_;simp(disch:=omega) only[kd,km,aa,tZ,ae,ab];apply K
  refine bu be [⟨1,_,_,_,h1⟩,⟨3,_,_,_,h2⟩] [] (by kernel_rfl) fun _ K=>?_;simp only[kd,tZ,aa,ab,af];apply K
  refine aF (aK ?_);refine aD fun _ K=>?_;simp(disch:=omega) only[kd,km,aa];apply K
  refine aR rfl ?_;refine aD fun _ K=>?_;simp(disch:=omega) only[kd,km,aa];apply K
  refine aR rfl (aM ?_);show bo _ _ _ _;refine bu be [⟨3,_,_,_,t1⟩,⟨6,_,_,_,t2⟩,⟨7,_,_,_,h3⟩] [] (by kernel_rfl) fun _ K=>?_;simp(disch:=omega) only[kd,km,bA,aa,ab,af,aP];apply K
  (refine aH ⟨.inr rfl,aJ rfl ?_ rfl⟩;simp(disch:=omega) only[kd,km,Tryz.results117])
 rw[ET hs];refine aI Tryz.func117 rfl (by kernel_rfl) ?_;rw[Tryz.ntmps117];refine aD fun _ K=>?_;simp(disch:=omega) only[kd,km,aa,tZ,ae,ab];apply K
 refine bu be [⟨1,_,_,_,h1⟩,⟨3,_,_,_,h2⟩] [] (by kernel_rfl) fun _ K=>?_;simp only[kd,tZ,aa,ab,af];apply K
 refine aF (aK ?_);refine aD fun _ K=>?_;simp only[kd,aa];apply K
 by_cases hlt:sg a<sg b
 ·rw[if_pos hlt];refine bW rfl (fun _=>?_) (fun h=>by simp at h<;>omega);refine aD fun _ K=>?_;simp(disch:=omega) only[kd,km];apply K
  (refine aH ⟨.inr rfl,aJ rfl ?_ rfl⟩;simp(disch:=omega) only[kd,km,Tryz.results117])
 rw[if_neg hlt];refine bW rfl (fun h=>by simp at h<;>omega) (fun _=>?_);refine aD fun _ K=>?_;simp(disch:=omega) only[kd,km,aa];apply K
 refine aX rfl ?_;refine aD fun _ K=>?_;simp only[kd];apply K
 (refine aH ⟨.inr rfl,aJ rfl ?_ rfl⟩;simp(disch:=omega) only[kd,km,Tryz.results117])
theorem Kt (n:Nat) (f:FF) (hn1:1<=n) (hn:n<=16):CallC Tryz.prog 143 [bJ (bs n n f)] ⟨[],.tup [(false,[.p (.raw (.int .i64 (n:Int)))]),(false,[.p (.raw (.int .i64 (n:Int)))]),(false,[.p (.raw (.bool true))])]⟩:=by
 have hS:=wv (bs n n f);rw[iv (kw f hn1 hn hn1 hn),aW,fV f hn1]at hS;refine aI Tryz.func143 rfl (by kernel_rfl) ?_;rw[Tryz.ntmps143];refine aD fun _ K=>?_;simp only[kd,aa,bJ,ae];apply K
 refine aG [⟨1,_,_,_,hS⟩] [] fun _ K=>?_;simp only[kd,bJ,aa];apply K
 (refine aH ⟨.inr rfl,aJ rfl ?_ rfl⟩;simp(disch:=omega) only[kd,km,Tryz.results143])
theorem yb (n:Nat) (f:FF) (hn1:1<=n) (hn:n<=16):CallC Tryz.prog 116 [bJ (bs n n f)] ⟨[],.tup [(false,[.p (.raw (.int .i64 (n:Int)))]),(false,[.p (.raw (.bool true))])]⟩:=by
 have hS:=Kt n f hn1 hn;refine aI Tryz.func116 rfl (by kernel_rfl) ?_;rw[Tryz.ntmps116];refine aD fun _ K=>?_;simp only[kd,bJ,ae];apply K
 refine aG [⟨1,_,_,_,hS⟩] [] fun _ K=>?_;simp only[kd,bJ,aa];apply K
 refine aD fun _ K=>?_;simp(disch:=omega) only[kd,km,aa];apply K
 (refine aH ⟨.inr rfl,aJ rfl ?_ rfl⟩;simp(disch:=omega) only[kd,km,Tryz.results116])
theorem Mx (a b c d e:Int) (s:Nat) (hs:s<=67174400) (ha:Sz a s) (hb:Sz b s) (hc:Sz c s) (hd:Sz d s) (he:Sz e s) (he0:e≠0):
  CallC Tryz.prog 150 [tZ a,tZ b,tZ c,tZ d,tZ e] ⟨[],tZ ((a*d-b*c)/e)⟩:=by
 have s1:=ha.mul hd;have s2:=hb.mul hc;have s3:=s1.sub s2;have h1:=y8 a d (ha.mono (by omega)) (hd.mono (by omega));have h2:=y8 b c (hb.mono (by omega)) (hc.mono (by omega));have h3:=JM (a*d) (b*c) (s1.mono (by omega)) (s2.mono (by omega));have h4:=xN (a*d-b*c) e he0 (s3.mono (by omega)) (he.mono (by omega));refine aI Tryz.func150 rfl (by kernel_rfl) ?_;rw[Tryz.ntmps150];refine aD fun _ K=>?_;simp(disch:=omega) only[kd,km,aa,tZ,ae,ab];apply K
 refine bo.weak (aE (tm:=(j4 (jk::.one (.ptr 5 0 0 0)::.one (.ptr 6 0 0 0)::.one (.ptr 7 0 0 0)::.one (.ptr 8 0 0 0)::.one (.ptr 9 0 0 0)::.one (.ptr 10 0 0 0)::j16 (jk::[])))) (l:=[(5,rA a),(6,rA b),(7,rA c),(8,rA d),(9,rA e),(10,rO)]) ⟨rfl,rfl,rfl,rfl,rfl,rfl,trivial⟩ (by simp[wk])) ?_;refine bu be [⟨2,_,_,_,h1⟩,⟨5,_,_,_,h2⟩,⟨6,_,_,_,h3⟩,⟨8,_,_,_,h4⟩] [] (by kernel_rfl) fun _ K=>?_;simp(disch:=omega) only[kd,km,tZ,cZ,aa,ab,af];apply K
 refine aD fun _ K=>?_;simp(disch:=omega) only[kd,km,ab,aa];apply K
 (refine aH ⟨.inr rfl,aJ rfl ?_ rfl⟩;simp(disch:=omega) only[kd,km,Tryz.results150,ab,aa,tZ])
abbrev uL (M:List (List Int)):List PV:=[.sl (ls (fR fZ) M)]
theorem P6 {n:Nat} {f:FF} {i j:Nat} (hi:i<n) (hj:j<n) (hn:n<=16) (hf:Bg (f i j)):
  CallC Tryz.prog 147 [.raw (.int .i64 (i:Int)),.raw (.int .i64 (j:Int)),.one (.p (.ptr (uL (bs n n f))))] ⟨[],tZ (f i j)⟩:=by
 have hr:=bC n f hi;have hjr:=aU (f i) hj;have hS:=qs (f i j) hf;refine aI Tryz.func147 rfl (by kernel_rfl) ?_;rw[Tryz.ntmps147];refine aD fun _ K=>?_;simp(disch:=omega) only[kd,km,aa,ae];apply K
 refine aG [⟨7,_,_,_,hS⟩] [] fun _ K=>?_;simp(disch:=omega) only[kd,km,tZ,aa,hr,fR,hjr,fZ];apply K
 (refine aH ⟨.inr rfl,aJ rfl ?_ rfl⟩;simp(disch:=omega) only[kd,km,Tryz.results147,aa,tZ])
theorem P7 (b:Nat) {m:Nat} {g:FF} {last:Int} {i j:Nat} (hi:i+1<m) (hj:j+1<m) (hm:m<=16) (s:Nat) (hs:s<=67174400) (hg: ∀i j,i<m->j<m->Sz (g i j) s) (hl:Sz last s) (hl0:last≠0):
  CallT Tryz.prog b 42 149 [.raw (.int .i64 (i:Int)),.raw (.int .i64 (j:Int)),.one (.p (.ptr (uL (bs m m g)))),.raw (.pointer (some ⟨b,0,none⟩))] (fZ last)
   ⟨[],tZ ((g 0 0*g (i+1) (j+1)-g (i+1) 0*g 0 (j+1))/last)⟩ (fZ last):=by
 have r0:=bC m g (show 0<m by omega);have r1:=bC m g hi;have c00:=aU (g 0) (show 0<m by omega);have c0j:=aU (g 0) hj;have ci0:=aU (g (i+1)) (show 0<m by omega);have cij:=aU (g (i+1)) hj;have e1:((i:Int)+1).toNat=i+1:=by omega
 have e2:((j:Int)+1).toNat=j+1:=by omega
 have hC:=Mx (g 0 0) (g (i+1) 0) (g 0 (j+1)) (g (i+1) (j+1)) last s hs (hg _ _ (by omega) (by omega)) (hg _ _ hi (by omega)) (hg _ _ (by omega) hj) (hg _ _ hi hj) hl hl0;refine ns Tryz.func149 rfl (by kernel_rfl) ?_;rw[Tryz.ntmps149];refine IW 3 900 rfl rfl ?_;refine fG.weak (aE (tm:=(.raw (.int .i64 (i:Int))::rN j::.one (.p (.ptr (uL (bs m m g))))::.one (.ptr 900 0 0 0)::j16 (j16 (jk::[])))) (l:=[(900,rA last)]) ⟨rfl,trivial⟩ (by simp[wk,C1,uC,ae])) ?_;refine bf (by kernel_rfl) fun _ K=>?_;simp(disch:=omega) only[kd,km,aa,ab];apply K
 refine oo be [⟨29,_,_,_,hC⟩] [] (by kernel_rfl) (by kernel_rfl) fun _ K=>?_;simp(disch:=omega) only[kd,km,tZ,aa,am,r0,fR,c00,fZ,aP,e1,r1,ci0,e2,c0j,cij,ab];apply K
 refine tB ⟨fZ last,rfl,rfl,.inr rfl,rfl,aJ rfl ?_ rfl⟩;simp(disch:=omega) only[kd,km,Tryz.results149,rY,ke,ab,aa,tZ]
def elF (f:FF) (k:Nat):Nat->Nat->Int:=fun i j=>bk f k (k+i) (k+j)
abbrev Jy (n:Nat) (f:FF) (k:Nat):List (List Int):=bs (n-k) (n-k) (elF f k)
def CI (n:Nat) (f:FF) (k:Nat):List (List (List Int)):=(List.range k).map (Jy n f)
theorem K9 (n:Nat) (f:FF) (k:Nat):CI n f k++[Jy n f k]=CI n f (k+1):=by simp[CI,List.range_succ]
theorem Ab (n:Nat) (f:FF) (k:Nat):(CI n f k).length=k:=by simp[CI]
theorem Jz (n:Nat) (f:FF):bs n n f=Jy n f 0:=eg fun i j _ _=>by
 show f i j=bk f 0 (0+i) (0+j);rw[dU,Nat.zero_add,Nat.zero_add]
theorem u9 {f:FF} {k:Nat} (hd: ∀t,t<k->dk f (t+1)≠0) (i j:Nat):
  (elF f k 0 0*elF f k (i+1) (j+1)-elF f k (i+1) 0*elF f k 0 (j+1))/dk f k=elF f (k+1) i j:=by
 have h0:dk f k≠0:=by
  cases k with
  |zero=>rw[dI];decide
  |succ k=>exact hd k (Nat.lt_succ_self k)
 have h:=sylv f k hd (k+1+i) (k+1+j);have e:elF f k 0 0*elF f k (i+1) (j+1)-elF f k (i+1) 0*elF f k 0 (j+1)=dk f k*elF f (k+1) i j:=by
  unfold elF;rw[Nat.add_zero,<- ca,show k+(i+1)=k+1+i by omega,show k+(j+1)=k+1+j by omega,h]
 rw[e,Int.mul_ediv_cancel_left _ h0]
theorem ny (f:FF) (k:Nat):elF f k 0 0=dk f (k+1):=by
 unfold elF;rw[Nat.add_zero,ca]
def fM (M:List (List Int)):List PV:=[.sl (ls (fR fZ) M)]
theorem JU (l:List (List (List Int))) (M:List (List Int)):lc fM l++[[.p (.sl (ls (fR fZ) M))]]=lc fM (l++[M]):=by simp[lc,fM]
def Qk (n:Nat) (f:FF):Prop:= ∀t,t+1<n->dk f (t+1)≠0
open Classical in
noncomputable def P8 (n:Nat) (f:FF):TV:=if Qk n f then .tup [(false,[.p (.sl (ls fM (CI n f n)))]),(false,[.p (.raw (.bool true))])]else .tup [(false,[.p (.raw (.slice none 0 0))]),(false,[.p (.raw (.bool false))])]
theorem Cm {n:Nat} {f:FF} (h:Qk n f):P8 n f= .tup [(false,[.p (.sl (ls fM (CI n f n)))]),(false,[.p (.raw (.bool true))])]:=if_pos h
theorem F5 {n:Nat} {f:FF} (h: ¬Qk n f):P8 n f= .tup [(false,[.p (.raw (.slice none 0 0))]),(false,[.p (.raw (.bool false))])]:=if_neg h
structure Sd (n:Nat) (f:FF) where
 k:Nat
 s:Nat
 hk:k<n
 nz: ∀t,t<k->dk f (t+1)≠0
 hs:s+1<=1025*2^k
 sz: ∀i j,i<n-k->j<n-k->Sz (elF f k i j) s
 sl:Sz (dk f k) s
theorem II (n:Nat) (f:FF) (hn1:1<=n) (hn:n<=16) (hf: ∀i j,i<n->j<n->Sz (f i j) 1024):CallC Tryz.prog 118 [bJ (bs n n f)] ⟨[],P8 n f⟩:=by
 have hQ:=yb n f hn1 hn;have h1:=vj 1 (by omega) (by omega);have hT:=NR 147 (uL (bs n n f)) n n f hn1 hn hn1 hn (fun i j hi hj=>P6 hi hj hn ((hf i j hi hj).mono (by omega)));refine aI Tryz.func118 rfl (by kernel_rfl) ?_;rw[Tryz.ntmps118];refine aD fun _ K=>?_;simp(disch:=omega) only[kd,km,aa,bJ,ae];apply K
 refine Gm ?_;refine aG [⟨1,_,_,_,hQ⟩] [] fun _ K=>?_;simp only[kd,bJ,aa];apply K
 refine aF (aD fun _ K=>?_);simp only[kd];apply K;refine aR rfl (aM ?_);show bo _ _ _ _;refine bo.weak ((p9 1 1 (cs:=uL (bs n n f)) rfl rfl).trans (aE (tm:=(jk::.one (.p (.ptr (uL (bs n n f))))::.raw (.slice none 0 0)::.raw (.bool false)::rN n::j16 (j16 (j16 (j4 (j4 (jk::[]))))))) (l:=[]) trivial (by simp[wk,ij,fH]))) ?_;refine aG [⟨3,_,_,_,hT⟩] [] fun _ K=>?_;simp only[kd,bJ,aa];apply K
 refine aG [⟨0,_,_,_,h1⟩] [] fun _ K=>?_;simp(disch:=omega) only[kd,km,tZ,aa];apply K
 refine aD fun _ K=>?_;simp only[kd];apply K
 refine aF (Gk ?_);show bo _ _ _ _;refine aF (aD fun _ K=>?_);simp only[kd];apply K;refine aY (G:=Sd n f) (fun g=>⟨(jk::jk::.raw (.slice none 0 0)::.raw (.bool false)::rN n::jk::bJ (Jy n f g.k)::.one (.ptr 7 0 0 0)::.one (.sl 30 0 0 g.k)::j4 (j4 (j4 (jk::jk::rN n::rN g.k::j16 (j16 (j4 (jk::[]))))))),Hm [(7,rA (dk f g.k)),(30,[⟨46,1,lc fM (CI n f g.k)⟩])]⟩) (fun g=>n-g.k) ⟨0,1024,by omega,fun t ht=>by omega,by omega,fun i j hi hj=>?_,?_⟩ ?_ ?_
 ·show Sz (bk f 0 (0+i) (0+j)) 1024;rw[dU,Nat.zero_add,Nat.zero_add];exact hf i j (by omega) (by omega)
 ·show Sz (dk f 0) 1024;rw[dI];exact oc (by omega)
 ·refine(fz (k:=8) (d:=30) 46 1 (by omega) rfl rfl).trans (aE ⟨?_,rfl,trivial⟩ ?_)
  ·rw[dI];rfl
  simp[wk];exact congrArg _ (Jz n f).symm
 rintro⟨k,s,hk,nz,hs,sz,sl⟩;simp only;have h2k:=iO (k:=k) (by omega);have hsb:s<=67174400:=by omega
 have q1:=bC (n-k) (elF f k) (show 0<n-k by omega);have q2:=aU (elF f k 0) (show 0<n-k by omega);have hSg:=qu (elF f k 0 0) ((sz 0 0 (by omega) (by omega)).mono (by omega));have hsn:=K9 n f k;have hln:=Ab n f k;refine aD fun _ K=>?_;simp(disch:=omega) only[kd,km,bJ];apply K
 refine bG rfl ?_;refine aF (aK ?_);refine aD fun _ K=>?_;simp only[kd];apply K
 refine aD fun _ K=>?_;simp(disch:=omega) only[kd,km,aa,Nat.reduceMul,ah,ab,hln,JU,hsn,af];apply K
 refine aF (aK ?_);by_cases hkn:k=n-1
 ·have hnz:Qk n f:=fun t ht=>nz t (by omega)
  rw[Cm hnz];refine aD fun _ K=>?_;simp(disch:=omega) only[kd,km,aa,aP];apply K
  refine aX rfl (bN ?_);show bo _ _ _ _;have hk1:k+1=n:=by omega
  rw[hk1];have hlen:=Ab n f n;refine aD fun _ K=>?_;simp only[kd,aa];apply K
  refine aH ⟨.inr rfl,kS 30 (dc rfl) ?_ rfl⟩;have eT:List.take n (CI n f n)=CI n f n:=List.take_of_length_le (by rw[hlen];exact Nat.le_refl _);simp(disch:=omega) only[kd,km,Tryz.results118,ab,eT]
 refine aD fun _ K=>?_;simp(disch:=omega) only[kd,km,aa,aP];apply K
 refine aR rfl ?_;by_cases hz:dk f (k+1)=0
 ·have hno: ¬Qk n f:=fun h=>h k (by omega) hz
  rw[F5 hno];rw[ny,hz]at hSg;refine aG [⟨5,_,_,_,hSg⟩] [] fun _ K=>?_;simp(disch:=omega) only[kd,km,tZ,tX,aa,am,q1,fR,q2,ny,hz,fZ];apply K
  refine aX rfl ?_;refine aD fun _ K=>?_;simp only[kd];apply K
  (refine aH ⟨.inr rfl,aJ rfl ?_ rfl⟩;simp(disch:=omega) only[kd,km,Tryz.results118])
 have hs0:=FT hz;rw[ny]at hSg q2;refine aG [⟨5,_,_,_,hSg⟩] [] fun _ K=>?_;simp(disch:=omega) only[kd,km,tZ,aa,am,q1,fR,q2,fZ];apply K
 refine aR rfl (aM ?_);show bo _ _ _ _;refine aD fun _ K=>?_;simp(disch:=omega) only[kd,km,aa,ab];apply K
 refine bo.weak ((p9 10 10 (cs:=uL (Jy n f k)) rfl rfl).trans (aE (tm:=(jk::jk::.raw (.slice none 0 0)::.raw (.bool false)::rN n::jk::jk::.one (.ptr 7 0 0 0)::.one (.sl 30 0 0 (k+1))::rN k::.one (.p (.ptr (uL (Jy n f k))))::j4 (j4 (j4 (.raw (.int .i64 (n:Int))::rN k::j16 (j16 (j4 (jk::[])))))))) (l:=[(7,rA (dk f k)),(30,[⟨46,1,lc fM (CI n f (k+1))⟩])]) ⟨rfl,rfl,trivial⟩ (by simp[wk,ij,fH]))) ?_;refine aF (pj 7 (cs:=fZ (dk f k)) rfl fun b=>?_);refine eo.weak (aE (tm:=(jk::jk::.raw (.slice none 0 0)::.raw (.bool false)::rN n::jk::jk::de b::.one (.sl 30 0 0 (k+1))::rN k::.one (.p (.ptr (uL (Jy n f k))))::j4 (j4 (j4 (.raw (.int .i64 (n:Int))::rN k::j16 (j16 (j4 (jk::[])))))))) (l:=[(30,[⟨46,1,lc fM (CI n f (k+1))⟩])]) ⟨rfl,trivial⟩ (by simp[wk,rY,ke])) ?_;have hd0:dk f k≠0:=by
  cases k with
  |zero=>rw[dI];decide
  |succ k=>exact nz k (by omega)
 have hT2:=NS 149 (uL (Jy n f k)) b 42 (fZ (dk f k)) (n-(k+1)) (n-(k+1)) (fun i j=>(elF f k 0 0*elF f k (i+1) (j+1)-elF f k (i+1) 0*elF f k 0 (j+1))/dk f k) (by omega) (by omega) (by omega) (by omega)
  (fun i j hi hj=>P7 b (by omega) (by omega) (by omega) s hsb sz sl hd0)
 rw[eg fun i j _ _=>u9 (f:=f) (k:=k) nz i j]at hT2;have en:((n-(k+1):Nat):Int)=(n:Int)-(k:Int)-1:=by omega
 rw[en]at hT2;refine iH 9 hT2 [] [] (by kernel_rfl) (by rfl) (by rfl) fun _ K=>?_;simp(disch:=omega) only[kd,km,bJ,aa,de,aP];apply K
 refine⟨rfl,?_⟩;show bo _ _ _ _;refine bo.weak (aE (tm:=(jk::jk::.raw (.slice none 0 0)::.raw (.bool false)::rN n::jk::bJ (Jy n f (k+1))::.one (.ptr 7 0 0 0)::.one (.sl 30 0 0 (k+1))::jk::.one (.p (.ptr (uL (Jy n f k))))::j4 (j4 (j4 (.raw (.int .i64 (n:Int))::rN k::j16 (j16 (j4 (jk::[])))))))) (l:=[(7,rA (dk f k)),(30,[⟨46,1,lc fM (CI n f (k+1))⟩])]) ⟨rfl,rfl,trivial⟩ (by simp[wk,C1,uC])) ?_;refine aL fun _ K=>?_;simp(disch:=omega) only[kd,km,aa,bJ,am,q1,fR,q2,fZ,ab];apply K
 show bo _ _ _ _;refine aL fun _ K=>?_;simp(disch:=omega) only[kd,km,aP];apply K
 have nz': ∀t,t<k+1->dk f (t+1)≠0:=fun t ht=>by
  by_cases e:t=k
  ·subst e;exact hz
  exact nz t (by omega)
 refine⟨⟨k+1,2*s+1,by omega,nz',by rw[Nat.pow_succ];omega,fun i j hi hj=>?_,?_⟩,by simp only;omega,aE ⟨rfl,rfl,trivial⟩ ?_⟩
 ·rw[<- u9 nz];exact((((sz 0 0 (by omega) (by omega)).mul (sz (i+1) (j+1) (by omega) (by omega))).sub ((sz (i+1) 0 (by omega) (by omega)).mul (sz 0 (j+1) (by omega) (by omega)))).ediv _).mono (by omega)
 ·rw[<- ny];exact(sz 0 0 (by omega) (by omega)).mono (by omega)
 simp[wk]
abbrev pw (M:List (List Int)):AV:= .p (.ptr [.sl (ls (fR fI) M)])
theorem QM {n c:Nat} {f:FF} {i j:Nat} (hi:i<n) (hj:j<c) (hc:c<=16) (hn:n<=16) (hf: -9223372036854775808<=f i j/\f i j<=9223372036854775807):
  CallC Tryz.prog 114 [.raw (.int .i64 (i:Int)),.raw (.int .i64 (j:Int)),.one (pw (bs n c f))] ⟨[],tZ (f i j)⟩:=by
 have hml:=aW n c f;have hr:=bC c f hi;have hjr:=aU (f i) hj;have hS:=vj (f i j) hf.1 hf.2;refine aI Tryz.func114 rfl (by kernel_rfl) ?_;rw[Tryz.ntmps114];refine aD fun _ K=>?_;simp(disch:=omega) only[kd,km,pw,aa,ae];apply K
 refine aG [⟨7,_,_,_,hS⟩] [] fun _ K=>?_;simp(disch:=omega) only[kd,km,tZ,aa,hr,fR,hjr];apply K
 (refine aH ⟨.inr rfl,aJ rfl ?_ rfl⟩;simp(disch:=omega) only[kd,km,Tryz.results114,aa,tZ])
def CD (d n c i:Nat) (g:FF):List OObj:=⟨84,1,gC d (ae i c)++ae (n-i) [.p (.sl [])]⟩::(bs i c g).map mY
theorem xC (d n c:Nat) (g:FF):([⟨84,1,ae n [.raw (.slice none 0 0)]⟩]:List OObj).map zO=CD d n c 0 g:=by
 simp[CD,bs,zO,gC,Ar,CA]
theorem AX (d n c:Nat) (g:FF):CD d n c n g=gZ d n c g:=by
 simp[CD]
theorem AY {d n c i:Nat} (g:FF) (hi:i<n) (hz: ∀b,b<c->g i b=0):
  ((⟨84,1,(gC d (ae i c)++ae (n-i) [AV.p (PV.sl [])]).set i [.sl d (i+1) 0 c]⟩::(bs i c g).map mY++[⟨42,2,ae c [.raw (.bool false),.raw (.slice none 0 0)]⟩]:List OObj)).map zO=CD d n c (i+1) g:=by
 have e1:(gC d (ae i c)++ae (n-i) [AV.p (PV.sl [])]).set i [.sl d (i+1) 0 c]=gC d (ae (i+1) c)++ae (n-(i+1)) [AV.p (PV.sl [])]:=by
  rw[List.set_append_right _ _ (by simp[cw]),cw,List.length_replicate,Nat.sub_self,List.replicate_succ' (n:=i),nY,List.length_replicate,List.append_assoc]
  congr 1
  rw[show n-i=n-(i+1)+1 by omega,List.replicate_succ];rfl
 have e2:bE c (g i)=ae c 0:=by
  apply List.ext_getElem?;intro b;by_cases hb:b<c
  ·rw[aU _ hb,List.getElem?_replicate,if_pos hb,hz b hb]
  rw[aq (by rw[bv];omega),aq (by simp;omega)]
 have e3:bs (i+1) c g=bs i c g++[bE c (g i)]:=by simp[bs,List.range_succ]
 rw[e1];simp only[List.cons_append,List.map_cons,List.map_append,CD,e3,List.map_map]
 congr 1
 ·simp[zO,OG,Ar,CA]
 congr 1
 ·refine List.map_congr_left fun r _=>?_
  simp[zO,mY,QY]
 simp[e2,zO,mY,lc,fZ,Ar,CA,cH,ls]
theorem EL {d n c i k:Nat} (h:k<i):(gC d (ae i c)++ae (n-i) [AV.p (PV.sl [])])[k]?=some [.sl d (k+1) 0 c]:=by
 rw[List.getElem?_append_left (by simp[cw];exact h),bO d c h]
theorem EM {d n c i:Nat} (h:i<=n):(gC d (ae i c)++ae (n-i) [AV.p (PV.sl [])]).length=n:=by simp[cw];omega
theorem Mk (n c:Nat) (f:FF) (hn1:1<=n) (hn:n<=16) (hc1:1<=c) (hc:c<=16) (hf: ∀i j,i<n->j<c-> -9223372036854775808<=f i j/\f i j<=9223372036854775807):
  CallC Tryz.prog 113 [.raw (.int .i64 (n:Int)),.raw (.int .i64 (c:Int)),.fn 114 [pw (bs n c f)]] ⟨gZ 0 n c f,.one (.sl 0 0 0 n)⟩:=by
 refine aI Tryz.func113 rfl (by kernel_rfl) ?_;rw[Tryz.ntmps113];refine aD fun _ K=>?_;simp only[kd,pw,aa,ae];apply K
 refine aD fun _ K=>?_;simp(disch:=omega) only[kd,km,aa];apply K
 refine aF (aD fun _ K=>?_);simp only[kd,aa];apply K;refine aY (G:=j6 n) (fun g=>⟨(jk::rN c::.fn 114 [pw (bs n c f)]::j4 (.one (.sl 11 0 0 n)::j4 (jk::rN n::rN g.i::j16 (j4 (j4 (j4 ([]))))))),Hm [(11,CD 11 n c g.i (part f g.i 0))]⟩) (fun g=>n-g.i) ⟨0,by omega⟩ ?_ ?_
 ·refine(fo 11).trans (aE ⟨xC 11 n c _,trivial⟩ ?_);simp[wk]
 rintro⟨i,hi⟩;simp only;by_cases hm:i<n
 ·have hg:=Am (d:=11) (c:=c) hm;refine aD fun _ K=>?_;simp(disch:=omega) only[kd,km,pw];apply K
  refine bG rfl ?_;refine aF (aK ?_);refine aD fun _ K=>?_;simp only[kd];apply K
  simp only[CD];refine aD fun _ K=>?_;simp(disch:=omega) only[kd,km,aa,ab,hg,ah,List.length_replicate,List.all_replicate,aW,af];apply K
  refine bo.weak ((fo 11).trans (aE (tm:=(jk::rN c::.fn 114 [pw (bs n c f)]::j4 (.one (.sl 11 0 0 n)::rN i::j4 (.raw (.int .i64 (n:Int))::rN i::j16 (j4 (j4 (j4 ([])))))))) (l:=[(11,CD 11 n c (i+1) (part f i 0))]) ⟨AY (part f i 0) hm (fun b _=>by simp[part]),trivial⟩ (by simp[wk]))) ?_;have a1:=EL (d:=11) (n:=n) (c:=c) (show i<i+1 by omega);have a2:=EM (d:=11) (n:=n) (c:=c) (show i+1<=n by omega);have a3:=eE (n:=i+1) c (part f i 0) (show i<i+1 by omega);simp only[CD];refine aD fun _ K=>?_;simp(disch:=omega) only[kd,km,aa,pw,a1];apply K
  refine aY (G:=j6 c) (fun g=>⟨(jk::rN c::.fn 114 [pw (bs n c f)]::j4 (.one (.sl 11 0 0 n)::rN i::j4 (.raw (.int .i64 (n:Int))::rN i::j4 (j4 (jk::jk::jk::rN c::rN g.i::j4 (j4 (j4 (jk::jk::jk::[])))))))),Hm [(11,CD 11 n c (i+1) (part f i g.i))]⟩) (fun g=>c-g.i) ⟨0,by omega⟩ ?_ ?_
  ·refine aE ⟨rfl,trivial⟩ ?_;simp[wk]
  rintro⟨j,hj⟩;simp only;by_cases hm2:j<c
  ·have hS:=QM (n:=n) (c:=c) (f:=f) hm hm2 hc hn (hf i j hm hm2);have g2:=eE (n:=i+1) c (part f i j) (show i<i+1 by omega);have g3:=aU (part f i j i) hm2;refine aD fun _ K=>?_;simp(disch:=omega) only[kd,km,pw];apply K
   refine bG rfl ?_;refine aF (aK ?_);refine aD fun _ K=>?_;simp only[kd];apply K
   simp only[CD];refine ef be [⟨8,_,_,_,hS⟩] [] (by kernel_rfl) fun _ K=>?_;simp(disch:=omega) only[kd,km,pw,tZ,aa,a1,g2,fZ,g3,kx];apply K
   show bo _ _ _ _;refine aL fun _ K=>?_;simp(disch:=omega) only[kd,km,aP];apply K
   refine⟨⟨j+1,by omega⟩,by simp only;omega,aE ⟨?_,trivial⟩ ?_⟩
   ·show _::_=_::_;rw[cL fun a b _ _=>jH f i j a b]
   simp[wk]
  have hjc:j=c:=by omega
  subst hjc;refine aD fun _ K=>?_;simp(disch:=omega) only[kd,km,pw];apply K
  refine bT rfl ?_;show bo _ _ _ _;refine aL fun _ K=>?_;simp(disch:=omega) only[kd,km,aP];apply K
  refine⟨⟨i+1,by omega⟩,by simp only;omega,aE ⟨?_,trivial⟩ ?_⟩
  ·show _::_=_::_;rw[cL fun a b _ hb=>lF f i a b hb]
  simp[wk]
 have hin:i=n:=by omega
 subst hin;rw[AX];refine aD fun _ K=>?_;simp(disch:=omega) only[kd,km,pw];apply K
 refine bT rfl ?_;show bo _ _ _ _;refine aD fun _ K=>?_;simp only[kd];apply K
 refine aH ⟨.inr rfl,_,ce.refl _,?_⟩;refine⟨.one (.sl 11 0 0 i),11,?_,rfl,?_,rfl⟩
 ·simp(disch:=omega) only[kd,km,Tryz.results113]
 show gZ 0 i c f=(gZ 11 i c (part f i 0)).map (renO 0);rw[gO 11 0];show _::_=_::_;rw[cL fun a b ha _=>jS f a b ha]
end Go.Proofs.YtfgeomlagfomgaaGreatDoor
