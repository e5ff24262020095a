/-
  Part 20 of a proof (walks and plain facts).
-/
import Derived.Test.YtfgeomlagfomgaaGreatDoorS18
set_option linter.all false
set_option maxRecDepth 100000
set_option maxHeartbeats 64000000
open Nat renaming reduceAdd → aa
open Nat renaming reduceEqDiff → ab
open List renaming replicate → ae
open Nat renaming reduceBEq → af
open Nat renaming reduceLeDiff → ah
open Int renaming reduceToNat → am
open List renaming getElem?_eq_none → aq
open List renaming mem_of_getElem? → au
namespace Go.Proofs.YtfgeomlagfomgaaGreatDoor
open Go.RowKit
theorem gR (M:List (List Int)):CallC Tryz.prog 45 [bi M] ⟨[],.raw (.bool (bA M))⟩:=by
 refine ii (by kernel_rfl) fun X w vs hX hvs ha=>?_
 obtain⟨v0,e0,r0⟩:=mv ha (j:=0) rfl;obtain⟨A,c,rfl,hc,hl,hR⟩:=nX r0;obtain rfl:vs= #[.slice A M.length c]:=by
  apply Array.ext_getElem?;intro j
  match j with
  |0=>exact e0
  |j+1=>rw[Array.getElem?_eq_none (by simp at hvs;omega)];rfl
 refine(ke A c M w hR hl hc).mono fun e w' ⟨h1,h2⟩=>?_
 exact⟨_,h1,fun _ _ _=>uG _,h2⟩
theorem L7 (n:Int) (x:List Int):CallC Tryz.prog 95 [.raw (.int .i64 n),iU x] ⟨[],.raw (.bool (FitB n x))⟩:=by
 refine ii (by kernel_rfl) fun X w vs hX hvs ha=>?_
 obtain⟨v0,e0,r0⟩:=mv ha (j:=0) rfl;obtain⟨v1,e1,r1⟩:=mv ha (j:=1) rfl;obtain rfl:=lT r0;obtain⟨B,d,rfl,hd,hlx,hx⟩:=jW r1;obtain rfl:vs= #[.int .i64 n,.slice B x.length d]:=by
  apply Array.ext_getElem?;intro j
  match j with
  |0=>exact e0
  |1=>exact e1
  |j+2=>rw[Array.getElem?_eq_none (by simp at hvs;omega)];rfl
 refine(pu n B d x w hx hlx).mono fun e w' ⟨h1,h2⟩=>?_
 subst h2;exact⟨_,h1,fun _ _ _=>uG _,Ext.refl _⟩
theorem OP (a b:List (List Int)):CallC Tryz.prog 28 [bi a,bi b] ⟨[],.raw (.bool (decide (a=b)))⟩:=by
 refine ii (by kernel_rfl) fun X w vs hX hvs ha=>?_
 obtain⟨v0,e0,r0⟩:=mv ha (j:=0) rfl;obtain⟨v1,e1,r1⟩:=mv ha (j:=1) rfl;obtain⟨A,c,rfl,hc,hl,hA⟩:=nX r0;obtain⟨B,d,rfl,hd,hlb,hB⟩:=nX r1;obtain rfl:vs= #[.slice A a.length c,.slice B b.length d]:=by
  apply Array.ext_getElem?;intro j
  match j with
  |0=>exact e0
  |1=>exact e1
  |j+2=>rw[Array.getElem?_eq_none (by simp at hvs;omega)];rfl
 refine(JO A B c d a b w hA hB hl hlb).mono fun e w' ⟨h1,h2⟩=>?_
 exact⟨_,h1,fun _ _ _=>uG _,h2⟩
theorem JB {X:Nat->Prop} {w:World} {l:List Int} {b off c:Nat} (hX: ¬X b) (hb:b<w.heap.size) (hl:l.length<=c) (hm:l.length<=9223372036854775807) (h:RdI .i64 w (some ⟨b,off,none⟩) l):cu X w (.sl (ls fI l)) (.slice (some ⟨b,off,none⟩) l.length c):=by
 have hc: ∀(i:Nat) (z:Int),l[i]?=some z->w.cell? ⟨b,off+i,none⟩=some (.int .i64 z):=fun i z hz=>by
  cases l with
  |nil=>simp at hz
  |cons z0 l0=>
   obtain⟨b',off',h1,hc⟩:=h (by simp);injection h1 with h1
   injection h1 with h1 h2
   subst h1 h2;exact hc i _ (by rw[List.getElem?_map,hz];rfl)
 have:=cu.sl (X:=X) (w:=w) b off 1 c (ls fI l) (fun i _=> .int .i64 (l.getD i 0)) hX hb (fun e he=>by
  obtain⟨z,_,rfl⟩:=List.mem_map.1 he;rfl) (by rw[dW];exact hl) (by rw[dW];exact hm) (fun i e j x he hx=>by
  rw[fv]at he;obtain⟨z,hz,rfl⟩:=Option.map_eq_some_iff.1 he;cases j with
  |succ j=>simp[fI]at hx
  |zero=>
   simp only[Nat.mul_one,Nat.add_zero,List.getD_eq_getElem?_getD,hz,Option.getD_some];exact hc i z hz) (fun i e j x he hx=>by
  rw[fv]at he;obtain⟨z,hz,rfl⟩:=Option.map_eq_some_iff.1 he;cases j with
  |succ j=>simp[fI]at hx
  |zero=>
   simp[fI]at hx;subst hx;simp only[List.getD_eq_getElem?_getD,hz,Option.getD_some];exact cu.raw _ rfl)
 rw[dW]at this;exact this
theorem Jj (M:List (List Int)) (x:List Int) (hM:bA M=true) (hx:FitB M.length x=true):CallC Tryz.prog 97 [bi M,iU x] ⟨[],iU (dK M x)⟩:=by
 refine ta (by kernel_rfl) fun X w vs hX hvs ha=>?_
 obtain⟨v0,e0,r0⟩:=mv ha (j:=0) rfl;obtain⟨v1,e1,r1⟩:=mv ha (j:=1) rfl;obtain⟨A,c,rfl,hc,hl,hR⟩:=nX r0;obtain⟨B,d,rfl,hd,hlx,hrx⟩:=jW r1;obtain rfl:vs= #[.slice A M.length c,.slice B x.length d]:=by
  apply Array.ext_getElem?;intro j
  match j with
  |0=>exact e0
  |1=>exact e1
  |j+2=>rw[Array.getElem?_eq_none (by simp at hvs;omega)];rfl
 have hs:=eH hM;obtain⟨hxl,hxb⟩:=iy.1 hx;have h8:M.length<=8:=hs.2.1;have h1:1<=M.length:=hs.1;refine(vZ A B c d M x w hR hrx (by omega) (fun i hi=>by rw[hs.2.2.1 i hi];omega) hlx).mono fun e w' ⟨h1,h2,h3⟩=>?_
 refine⟨_,h1,fun ρ H Y hY=>?_,h3⟩;have hlen:=j7 M x;have hb:w.heap.size<w'.heap.size:=by
  obtain⟨b,off,h4,h5⟩:=h2 (by intro h;rw[List.map_eq_nil_iff]at h;rw[h]at hlen;simp at hlen;omega);injection h4 with h4
  injection h4 with h4 h6
  subst h4 h6;cases hz:(dK M x)[0]? with
  |none=>rw[List.getElem?_eq_none_iff]at hz;omega
  |some z=>exact jL (h5 0 _ (by rw[List.getElem?_map,hz];rfl))
 have:=JB (X:=Y) (c:=M.length) (fun h=>absurd (hY _ h) (by omega)) hb (by omega) (by omega) h2;rw[hlen]at this;exact this
theorem OG (M:List (List Int)) (x y:List Int) (hM:bA M=true) (hx:FitB M.length x=true) (hy:FitB M.length y=true):CallC Tryz.prog 96 [iU x,iU (dK M y)] ⟨[],Pq (eW x (dK M y) x.length)⟩:=by
 refine ii (by kernel_rfl) fun X w vs hX hvs ha=>?_
 obtain⟨v0,e0,r0⟩:=mv ha (j:=0) rfl;obtain⟨v1,e1,r1⟩:=mv ha (j:=1) rfl;obtain⟨A,c,rfl,hc,hl,hrx⟩:=jW r0;obtain⟨B,d,rfl,hd,hly,hry⟩:=jW r1;obtain rfl:vs= #[.slice A x.length c,.slice B (dK M y).length d]:=by
  apply Array.ext_getElem?;intro j
  match j with
  |0=>exact e0
  |1=>exact e1
  |j+2=>rw[Array.getElem?_eq_none (by simp at hvs;omega)];rfl
 have hs:=eH hM;obtain⟨hxl,hxb⟩:=iy.1 hx;obtain⟨hyl,hyb⟩:=iy.1 hy;have h8:M.length<=8:=hs.2.1;have hlen:=j7 M y;refine(DJ A B c d x (dK M y) w hrx hry (by omega) (by omega) hly (fun i z hz=>kS hxb hz) (vY hs hyb)).mono fun e w' ⟨h1,h2⟩=>?_
 refine⟨_,h1,fun ρ H Y=>?_,h2⟩;unfold Pq tu;split
 ·exact sk _ _
 exact sk _ _
/-! The plain side of Gram. -/
def vG (M l:List (List Int)) (i j:Nat):Int:=eW (l.getD i []) (dK M (l.getD j [])) (l.getD i []).length
structure PG (M l:List (List Int)) (i j:Nat):Prop where
 x:FitB M.length (l.getD i [])=true
 y:FitB M.length (l.getD j [])=true
 lo: -4611686018427387904<=vG M l i j
 hi:vG M l i j<=4611686018427387904
def Pj (M l:List (List Int)):Prop:=bA M=true/\ ∀i,i<l.length-> ∀j,j<l.length->PG M l i j
theorem xJ {M:List (List Int)} {x y:List Int} (hM:bA M=true) (hx:FitB M.length x=true) (hy:FitB M.length y=true):
  eW x (dK M y) x.length=BF M.length (ent M) (fun i=>x.getD i 0) (fun i=>y.getD i 0):=by
 obtain⟨h1,h8,hsq,hr⟩:=(dw M).1 hM;obtain⟨hxl,hxb⟩:=iy.1 hx;obtain⟨hyl,hyb⟩:=iy.1 hy;generalize hn:M.length=n at*
 have eM:M=bu n n (ent M):=by
  apply List.ext_getElem?;intro i;by_cases hi:i<n
  ·rw[bD _ _ hi];obtain⟨r,hr'⟩:=getElem?_of_lt (show i<M.length by omega);rw[hr'];have hrl:r.length=n:=by
    have:=hsq i (by omega);rw[List.getD_eq_getElem?_getD,hr']at this;simpa[hn] using this
   refine congrArg some ?_;apply List.ext_getElem?;intro j;by_cases hj:j<n
   ·rw[aU _ hj];obtain⟨z,hz⟩:=getElem?_of_lt (show j<r.length by omega);rw[hz];simp[ent,List.getD_eq_getElem?_getD,hr',hz]
   rw[aq (by omega),aq (by rw[bz];omega)]
  rw[aq (by omega),aq (by rw[aV];omega)]
 have er: ∀(x:List Int),x.length=n->x=bG n (fun i=>x.getD i 0):=fun x hxl=>by
  apply List.ext_getElem?;intro j;by_cases hj:j<n
  ·rw[aU _ hj];obtain⟨z,hz⟩:=getElem?_of_lt (show j<x.length by omega);simp[List.getD_eq_getElem?_getD,hz]
  rw[aq (by omega),aq (by rw[bz];omega)]
 have hM2:bA (bu n n (ent M))=true:=by rw[<- eM];exact hM
 have ex:=er x hxl;have ey:=er y hyl;rw[show dK M y=Qz n n (ent M) y by rw[<- Bt hM2 hyb,<- eM],hxl,Qz];generalize(fun i=>x.getD i 0)=fx at*
 generalize(fun i=>y.getD i 0)=fy at*
 rw[ex,ey,pm _ _ n (Nat.le_refl _)];exact bf n fun i _=>by rw[pm _ _ n (Nat.le_refl _)]
theorem KD {M l:List (List Int)} {i j:Nat} (hM:bA M=true) (hi:FitB M.length (l.getD i [])=true) (hj:FitB M.length (l.getD j [])=true):vG M l i j=vG M l j i:=by
 unfold vG;rw[xJ hM hi hj,xJ hM hj hi];obtain⟨h1,h8,hsq,hr⟩:=(dw M).1 hM;exact qr hr.1 _ _
theorem ON {P:Program} {fn:Func} {s:AS} {r:TV} (k:Nat) (hk:s.tmps[k]?=some (.raw (.slice none 0 0))) (hd:s.H 1000=[]) (h:rU P ⟨s.tmps.set k (.one (.p (.sl []))),s.H⟩ fn.results.toList=some r) (hp:noRefTV r=true): ∃s',ca s s'/\ol P fn ⟨[],r⟩ s':=
 ⟨_,nf k hk,pX hd h hp⟩
theorem Fs (a b:Nat) (hb:0<b) (la:(aR a).length<=268435456) (lb:(aR b).length<=268435456):CallC Tryz.prog 170 [bF (aR a),bF (aR b)] ⟨[],zw a b⟩:=by
 have hc:=oL (aR a) (aR b) (aW _) (aW _) (cd _) (cd _) (by omega) (by omega);rw[aQ,aQ]at hc;by_cases hlt:a<b
 ·rw[nt hlt]at hc;have hcl:=tP (aR a) (by omega);unfold zw;rw[Nat.div_eq_of_lt hlt,Nat.mod_eq_of_lt hlt,cj];refine aJ Tryz.func170 rfl (by kernel_rfl) ?_;rw[Tryz.ntmps170];refine aD fun _ K=>?_;simp only[kd,bF,aa,ae];apply K
  refine aE (aK ?_);refine aG [⟨2,_,_,_,hc⟩] [] fun _ K=>?_;simp(disch:=omega) only[kd,bF,aa];apply K
  refine aS rfl ?_;refine aG [⟨1,_,_,_,hcl⟩] [] fun _ K=>?_;simp only[kd,bF,aa];apply K
  refine aI ⟨.inr rfl,ON 4 rfl rfl ?_ rfl⟩;simp(disch:=omega) only[kd,Tryz.results170]
 obtain⟨c,hcv,hc0⟩: ∃c,c=fX a b/\0<=c:=⟨_,rfl,Dt (by omega)⟩;rw[<- hcv]at hc;clear hcv;by_cases hs:(aR a).length<=2
 ·have sb:(aR b).length<=2:=Nat.le_trans (oO (show b<=a by omega)) hs;have ua:=gH hs;have ub:=gH sb;have h1:=pB (aR a) (aW _) hs;have h2:=pB (aR b) (aW _) sb;rw[aQ]at h1 h2;have hq:a/b<=a:=Nat.div_le_self _ _;have hr:a%b<b:=Nat.mod_lt _ hb;have h3:=iD (a/b) (by omega);have h4:=iD (a%b) (by omega);have hb0:(b:Int)≠0:=by omega
  have e1:IntKind.u64.wrap (Int.tdiv (a:Int) (b:Int))=((a/b:Nat):Int):=by
   rw[Int.tdiv_eq_ediv_of_nonneg (by omega),<- Int.natCast_ediv];generalize a/b=q at*;rw[IntKind.wrap_u64];omega
  have e2:Int.tmod (a:Int) (b:Int)=((a%b:Nat):Int):=by
   rw[Int.tmod_eq_emod_of_nonneg (by omega),<- Int.natCast_emod]
  unfold zw;generalize a/b=q at*
  generalize a%b=r at*
  refine aJ Tryz.func170 rfl (by kernel_rfl) ?_;rw[Tryz.ntmps170];refine aD fun _ K=>?_;simp only[kd,bF,aa,ae];apply K
  refine aE (aK ?_);refine aG [⟨2,_,_,_,hc⟩] [] fun _ K=>?_;simp(disch:=omega) only[kd,bF,aa];apply K
  refine aO rfl ?_;refine aD fun _ K=>?_;simp(disch:=omega) only[kd,aa];apply K
  refine aS rfl ?_;refine aG [⟨1,_,_,_,h1⟩,⟨3,_,_,_,h2⟩] [] fun _ K=>?_;simp only[kd,bF,aa,af];apply K
  refine bv aZ [⟨3,_,_,_,h3⟩,⟨7,_,_,_,h4⟩] [] (by kernel_rfl) fun _ K=>?_;simp only[kd,bF,aa,ne_eq,hb0,not_false_eq_true,e1,e2,af];apply K
  (refine aI ⟨.inr rfl,aH rfl ?_ rfl⟩;simp(disch:=omega) only[kd,Tryz.results170])
 by_cases h1:(aR b).length=1
 ·obtain⟨g0,b32⟩:=Fy h1;have hcl:=Fr (aR a) (by omega) (by omega);have hw:=rT (aR a) b (aW _) hb b32 (by omega) (by omega);rw[aQ]at hw;have hq:a/b<4294967296^(aR a).length:=Nat.lt_of_le_of_lt (Nat.div_le_self _ _) (zW a);have hr:a%b<b:=Nat.mod_lt _ hb;have ht:=dV (bV (aR a).length (a/b)) (by rw[bQ];omega);rw[rf hq]at ht;have hf:=iD (a%b) (by omega);have hpl:=bQ (aR a).length (a/b);unfold zw;generalize a%b=r at*
  generalize bV (aR a).length (a/b)=R at*
  generalize a/b=q at*
  have e1:IntKind.u64.wrap (r:Int)=(r:Int):=by rw[IntKind.wrap_u64];omega
  refine aJ Tryz.func170 rfl (by kernel_rfl) ?_;rw[Tryz.ntmps170];refine aD fun _ K=>?_;simp only[kd,bF,aa,ae];apply K
  refine aE (aK ?_);refine aG [⟨2,_,_,_,hc⟩] [] fun _ K=>?_;simp(disch:=omega) only[kd,bF,aa];apply K
  refine aO rfl ?_;refine aD fun _ K=>?_;simp(disch:=omega) only[kd,aa];apply K
  refine aO rfl ?_;refine aD fun _ K=>?_;simp(disch:=omega) only[kd,aa];apply K
  refine aS rfl ?_;refine aG [⟨1,_,_,_,hcl⟩] [] fun _ K=>?_;simp only[kd,bF,aa];apply K
  (refine sU 4 hw 41 0 [] [] (by simp[wk]) (by omega) (lS rfl) (dD _ _) (by simp[wk]) (by decide) fun K hK=>?_;simp(disch:=omega) only[kd,aa,am,g0];apply hK;refine⟨⟨rfl,rfl⟩,by simp,?_⟩;intro K hK;simp only[kd,aa,GJ,cwD];apply hK)
  refine bs.weak ((bW 41 (cH rfl)).trans (aF (tm:=(j4 (bF R::jk::jk::jk::.raw (.int .u32 (r:Int))::j16 (j16 (j16 (j16 (j16 (j4 (j4 (j4 (jk::jk::jk::[]))))))))))) (l:=[]) trivial (by simp[wk,gW,fD,bj,Hm,gu,gP,List.take_of_length_le,hpl]))) ?_;refine aG [⟨1,_,_,_,ht⟩,⟨4,_,_,_,hf⟩] [] fun _ K=>?_;simp only[kd,bF,aa,e1,af];apply K
  (refine aI ⟨.inr rfl,aH rfl ?_ rfl⟩;simp(disch:=omega) only[kd,Tryz.results170])
 obtain⟨n,hn⟩: ∃n,(aR b).length=n+2:=⟨(aR b).length-2,by have:=fE (n:=b);omega⟩;obtain⟨m,hm⟩: ∃m,(aR a).length=n+2+m:=⟨(aR a).length-(n+2),by have:=oO (show b<=a by omega);omega⟩;obtain⟨x,hx,hx0,hx32,hbl⟩:=AT (n:=n+1) hn;have hz:=PR x hx32;obtain⟨z1,z2,z3⟩:=LO hx0 hx32;obtain⟨s,hsz⟩: ∃s,s=lz x:=⟨_,rfl⟩;rw[<- hsz]at hz z1 z2 z3;clear hsz;obtain⟨V1,V2⟩:=MH hn hx ⟨z2,z3⟩ z1;have hp2:=Nat.two_pow_pos s;have hV:0<b*2^s:=Nat.mul_pos hb hp2;have iU:=pz (aR b) s (aW _) z1 (by omega);have sl2:=pz (aR a) s (aW _) z1 (by omega);rw[aQ,hn]at iU;rw[aQ,hm]at sl2;have ha':=zW a;rw[hm]at ha';obtain⟨st1,st2⟩:=Ga (s:=s) ha' hbl;have hA:a*2^s<b*2^s*4294967296^(m+1):=by
  have h2:4294967296^(n+2+m)<=b*4294967296^(m+1):=by
   have e:4294967296^(n+2+m)=4294967296^(n+1)*4294967296^(m+1):=by rw[<- Nat.pow_add];congr 1;omega
   rw[e];exact Nat.mul_le_mul_right _ hbl
  rw[Nat.mul_right_comm];exact Nat.mul_lt_mul_of_pos_right (Nat.lt_of_lt_of_le ha' h2) hp2
 obtain⟨en1,en2⟩:=Mr (a:=a) (b:=b) (s:=s);have e1:((n+2:Nat):Int)-1=((n+1:Nat):Int):=by omega
 have e2:((n+2+m:Nat):Int)-((n+2:Nat):Int)=(m:Int):=by omega
 have e3:(m:Int)+1=((m+1:Nat):Int):=by omega
 have tk:=F3 (x:=b*2^s) (show n+2<=n+2+1 by omega);have kdh:=fun k=>Ov (A:=a*2^s) (k:=k) V1 V2
 have hQ: ∀k,k<=m+1->kL (a*2^s) (b*2^s) k<4294967296^(m+1):=fun k hk=>OK hA hk
 have hend:a%b*2^s<4294967296^(n+2+m+1):=by
  have h3:a%b<b:=Nat.mod_lt _ hb;have h4:a%b*2^s<=b*2^s:=Nat.mul_le_mul_right _ (Nat.le_of_lt h3);have h5:4294967296^(n+2)<=4294967296^(n+2+m+1):=Nat.pow_le_pow_right (by omega) (by omega);omega
 have hmod:a%b<4294967296^(n+2+m+1):=Nat.lt_of_le_of_lt (Nat.le_mul_of_pos_right _ hp2) hend;have hrw:=fun k (hk:k<=m)=>JE (A:=a*2^s) (V:=b*2^s) (k:=k) (nb:=n+2) (na:=n+2+m) hV (Nat.le_of_lt V1) (by omega)
 have hrr:=fun k (hk:k<=m)=>Ms (A:=a*2^s) (V:=b*2^s) (k:=k) (nb:=n+2) (na:=n+2+m) (by omega)
 have hqs:=fun k (hk:k<=m)=>Md (A:=a*2^s) (V:=b*2^s) (k:=k) (m:=m+1) hV (by omega) (hQ _ (by omega))
 have hdiv:a/b<4294967296^(m+1):=by have:=hQ 0 (by omega);rwa[en2]at this
 have sr:=vz (bV (n+2+m+1) (a%b*2^s)) s (mJ _ _) z1 (by rw[bQ];omega) (by rw[bQ];omega);rw[fK hend,bQ,Nat.mul_div_cancel _ hp2]at sr;have ht1:=dV (bV (m+1) (a/b)) (by rw[bQ];omega);rw[rf hdiv]at ht1;have ht2:=dV (bV (n+2+m+1) (a%b)) (by rw[bQ];omega);rw[rf hmod]at ht2;have hlV:=bQ (n+2) (b*2^s);refine aJ Tryz.func170 rfl (by kernel_rfl) ?_;rw[Tryz.ntmps170];refine aD fun _ K=>?_;simp only[kd,bF,aa,ae];apply K
 refine aE (jI (S:=⟨(bF (aR a)::bF (aR b)::j16 (j16 (j16 (j16 (j16 (j16 (j4 (jk::jk::[])))))))),Hm []⟩) (aK ?_) ?_)
 ·refine aG [⟨2,_,_,_,hc⟩] [] fun _ K=>?_;simp(disch:=omega) only[kd,bF,aa];apply K
  refine aO rfl ?_;refine aD fun _ K=>?_;simp(disch:=omega) only[kd,aa];apply K
  refine aO rfl ?_;refine aD fun _ K=>?_;simp(disch:=omega) only[kd,aa];apply K
  refine bT rfl (fun h=>by simp at h<;>omega) (fun _=>aL (aF trivial ?_));simp[wk]
 refine aG [⟨6,_,_,_,hz⟩] [] fun _ K=>?_;simp(disch:=omega) only[kd,aa,bF,hn,e1,aP,hx];apply K
 refine aG [⟨2,_,_,_,iU⟩] [] fun _ K=>?_;simp(disch:=omega) only[kd,bF,aa,hn,ah,reduceCtorEq];apply K
 refine bs.weak ((bW 61 (cH rfl)).trans (aF (tm:=(bF (aR a)::bF (aR b)::j4 (jk::jk::jk::rN s::bF (bV (n+2) (b*2^s))::j16 (j16 (j16 (j16 (j16 (j4 (j4 (j4 (jk::[]))))))))))) (l:=[]) trivial (by simp[wk,gW,fD,bj,Hm,gu,gP,tk]))) ?_;generalize hvv:bV (n+2) (b*2^s)=vv at*
 refine aG [⟨2,_,_,_,sl2⟩] [] fun _ K=>?_;simp only[kd,bF,aa];apply K
 refine aD fun _ K=>?_;simp(disch:=omega) only[kd,aa,hm,hn,e2,aP,e3,lJ,ab];apply K
 refine aE (aD fun _ K=>?_);simp(disch:=omega) only[kd,aa,hm,hn,e2,aP];apply K;generalize hAe:a*2^s=A at*
 generalize hVe:b*2^s=V at*
 refine aT (G:=jD (m+1)) (fun g=>⟨(jk::bF (aR b)::jk::jk::.one (.sl 74 0 0 (m+1))::j4 (.raw (.int .i64 (s:Int))::bF vv::.one (.sl 67 0 0 (n+2+m+1))::.raw (.int .i64 ((g.i:Int)-1))::j16 (j16 (j16 (j16 (j16 (j4 (j4 (jk::jk::jk::[]))))))))),Hm [(67,[⟨79,1,lc fU (bV (n+2+m+1) (eK A V g.i))⟩]),(74,[⟨79,1,lc fU (bV (m+1) (kL A V g.i))⟩])]⟩) (fun g=>g.i) ⟨m+1,by omega⟩ ?_ ?_
 ·refine aF ⟨?_,?_,trivial⟩ ?_
  ·simp[st1,bj,Hm]
  ·simp[st2,bj,Hm,wM]
  simp[wk]
 rintro⟨i,hi⟩;simp only;by_cases h0:0<i
 ·obtain⟨k,rfl⟩: ∃k,i=k+1:=⟨i-1,by omega⟩;have hk:k<=m:=by omega
  have ek:((k+1:Nat):Int)-1=(k:Int):=by omega
  have ek2:(k:Int)+((n+2:Nat):Int)+1=((k+n+3:Nat):Int):=by omega
  have ek3:k+n+3-k=n+3:=by omega
  obtain⟨v1,v2,u2,u1,u0,K,nU,nV⟩:=kdh k;have w1:=hrw k hk;have w2:=hrr k hk;rw[show n+2+1=n+3 from rfl]at w1 w2;have w3:=hqs k hk;have gq:=fF (x:=kL A V (k+1)) (show k<m+1 by omega);have hds:=vy (bV k (eK A V (k+1))) _ (bV (n+2+m-(k+(n+2))) (eK A V (k+1)/4294967296^(k+(n+2)+1))) _ k n v1 v2 u2 u1 u0 (bQ _ _) K (by rw[<- w2,bQ];omega);rw[nU,nV]at hds;rw[w1,<- w2]at hds;have qd:=pO (A:=A) (k:=k) hV;have l1:=bQ (m+1) (kL A V (k+1));have l2:=bQ (n+2+m+1) (eK A V (k+1));obtain⟨R',hR'⟩: ∃R',R'=bV (n+2+m+1) (eK A V k):=⟨_,rfl⟩;obtain⟨Q',hQ'⟩: ∃Q',Q'=bV (m+1) (kL A V k):=⟨_,rfl⟩;rw[<- hR']at hds;rw[<- hQ']at w3;clear w1 w2 K nU nV;generalize eK A V (k+1)/4294967296^k/V=d at*
  generalize kL A V (k+1)/4294967296^k%4294967296=od at*
  generalize bV (m+1) (kL A V (k+1))=Q0 at*
  generalize bV (n+2+m+1) (eK A V (k+1))=R0 at*
  refine aE (aD fun _ K=>?_);simp(disch:=omega) only[kd,bF,ek];apply K;refine aS rfl (aL ?_);refine aE (aK ?_)
  ((refine sS 11 hds 67 0 [] [] (by simp[wk]) (by omega) (lS rfl) (dD _ _) (by simp[wk]) (by decide) fun K hK=>?_);simp(disch:=omega) only[kd,aa,hn,aP,ek2,ab,ah,ek3];apply hK;refine⟨⟨rfl,rfl⟩,by simp,?_⟩;intro K hK;simp(disch:=omega) only[kd,aa,GJ,cwD,ab,gq,dH,w3];apply hK)
  show bs _ _ _ _;refine aM fun _ K=>?_;simp(disch:=omega) only[kd,aa,aP];apply K
  refine⟨⟨k,by omega⟩,by simp only;omega,aF ⟨?_,?_,trivial⟩ ?_⟩
  ·simp[bj,Hm,hR']
  ·simp[bj,Hm,hQ']
  simp[wk]
 have hi0:i=0:=by omega
 subst hi0;rw[en1,en2];generalize bV (n+2+m+1) (a%b*2^s)=R0 at*
 unfold zw;have l1:=bQ (m+1) (a/b);have l2:=bQ (n+2+m+1) (a%b);generalize bV (n+2+m+1) (a%b)=R1 at*
 generalize bV (m+1) (a/b)=Q1 at*
 generalize a/b=q at*
 generalize a%b=r at*
 refine aE (aD fun _ K=>?_);simp(disch:=omega) only[kd,bF];apply K;refine aO rfl (bK ?_);show bs _ _ _ _
 (refine sU 2 sr 67 0 [] [] (by simp[wk]) (by omega) (lS rfl) (dD _ _) (by simp[wk]) (by decide) fun K hK=>?_;simp only[kd];apply hK;refine⟨⟨rfl,rfl⟩,by simp,?_⟩;intro K hK;simp only[kd,aa,GJ,cwD,ab];apply hK)
 refine bs.weak ((bW 67 (cH rfl)).trans ((bW 74 (cH rfl)).trans (aF (tm:=(j4 (bF Q1::j4 (jk::jk::bF R1::j16 (j16 (j16 (j16 (j16 (j4 (j4 (j4 ([])))))))))))) (l:=[]) trivial (by simp[wk,gW,fD,bj,Hm,gu,gP,List.take_of_length_le,l1,l2])))) ?_;refine aG [⟨1,_,_,_,ht1⟩,⟨3,_,_,_,ht2⟩] [] fun _ K=>?_;simp only[kd,bF,aa,af];apply K
 (refine aI ⟨.inr rfl,aH rfl ?_ rfl⟩;simp(disch:=omega) only[kd,Tryz.results170])
theorem On {a b:Int} (hb:b≠0) (ha:0<=a):a/b=f4 (decide (b<0)) (a.natAbs/b.natAbs)/\a%b=f4 false (a.natAbs%b.natAbs):=by
 have e1:tr a b=f4 false (a.natAbs%b.natAbs):=by unfold tr;rw[decide_eq_false (by omega)]
 have e2:tq a b=f4 (decide (b<0)) (a.natAbs/b.natAbs):=by unfold tq;rw[decide_eq_false (show ¬a<0 by omega)];by_cases h:b<0<;>simp[h]
 rw[<- e1,<- e2];exact BD hb (by rw[e1];unfold f4;simp;omega)
theorem Lx {a b:Int} (hb:b≠0) (ha:a<0) (h:a.natAbs%b.natAbs=0):a/b=f4 (!decide (b<0)) (a.natAbs/b.natAbs)/\a%b=f4 false (a.natAbs%b.natAbs):=by
 have e1:tr a b=f4 false (a.natAbs%b.natAbs):=by unfold tr;rw[h];unfold f4;simp
 have e2:tq a b=f4 (!decide (b<0)) (a.natAbs/b.natAbs):=by unfold tq;rw[decide_eq_true ha];by_cases h:b<0<;>simp[h]
 rw[<- e1,<- e2];exact BD hb (by rw[e1,h];unfold f4;simp)
theorem Om {a b:Int} (hb:b≠0) (ha:a<0) (h:a.natAbs%b.natAbs≠0):a/b=f4 (!decide (b<0)) (a.natAbs/b.natAbs+1)/\a%b=f4 false (b.natAbs-a.natAbs%b.natAbs):=by
 have e1:tr a b= -((a.natAbs%b.natAbs:Nat):Int):=by unfold tr;rw[decide_eq_true ha];rfl
 have hlt:a.natAbs%b.natAbs<b.natAbs:=Nat.mod_lt _ (by omega);by_cases hbn:b<0
 ·obtain⟨p1,p2⟩:=DH (a:=a) hbn (by rw[e1];omega);have e2:tq a b=((a.natAbs/b.natAbs:Nat):Int):=by unfold tq;rw[decide_eq_true ha,decide_eq_true hbn];rfl
  rw[p1,p2,e1,e2,decide_eq_true hbn];generalize a.natAbs/b.natAbs=q at*
  generalize a.natAbs%b.natAbs=r at*
  unfold f4;constructor<;>simp<;>omega
 obtain⟨p1,p2⟩:=DI (a:=a) (show 0<b by omega) (by rw[e1];omega);have e2:tq a b= -((a.natAbs/b.natAbs:Nat):Int):=by unfold tq;rw[decide_eq_true ha,decide_eq_false hbn];rfl
 rw[p1,p2,e1,e2,decide_eq_false hbn];generalize a.natAbs/b.natAbs=q at*
 generalize a.natAbs%b.natAbs=r at*
 unfold f4;constructor<;>simp<;>omega
def Bd (z:Int):Prop:=Sz z 268435456
theorem wq (a b:Int) (hb0:b≠0) (ha:Bd a) (hb:Bd b):CallC Tryz.prog 163 [tZ a,tZ b] ⟨[],.tup [(true,cZ (a/b)),(true,cZ (a%b)),(false,[.p (.raw (.bool true))])]⟩:=by
 have la:(aR a.natAbs).length<=268435456:=jb ha;have lb:(aR b.natAbs).length<=268435456:=jb hb;have t1:=dV (aR a.natAbs) (by omega);have t2:=dV (aR b.natAbs) (by omega);rw[fV]at t1 t2;have hl0:(aR b.natAbs).length≠0:=fun h=>hb0 (by have:=fE.1 h;omega)
 have hd:=Fs a.natAbs b.natAbs (by omega) la lb;unfold zw at hd;have hr0:=fE (n:=a.natAbs%b.natAbs);have hlt:a.natAbs%b.natAbs<b.natAbs:=Nat.mod_lt _ (by omega);have lq:=oO (show a.natAbs/b.natAbs<=a.natAbs from Nat.div_le_self _ _);have lr:=oO (Nat.le_of_lt hlt);by_cases han:a<0
 ·by_cases hr:a.natAbs%b.natAbs=0
  ·obtain⟨p1,p2⟩:=Lx hb0 han hr;have h8:=eu (!decide (b<0)) (a.natAbs/b.natAbs);have h9:=eu false (a.natAbs%b.natAbs);rw[<- p1]at h8;rw[<- p2]at h9;have hl:(aR (a.natAbs%b.natAbs)).length=0:=hr0.2 hr;clear p1 p2;generalize a.natAbs/b.natAbs=q at*
   generalize a.natAbs%b.natAbs=r at*
   generalize a/b=Q at*
   generalize a%b=R at*
   refine aJ Tryz.func163 rfl (by kernel_rfl) ?_;rw[Tryz.ntmps163];refine aD fun _ K=>?_;simp(disch:=omega) only[kd,aa,tZ,ae,ab];apply K
   refine aG [⟨2,_,_,_,t2⟩] [] fun _ K=>?_;simp(disch:=omega) only[kd,bF,aa,ab];apply K
   refine aE (aD fun _ K=>?_);simp(disch:=omega) only[kd,aa];apply K;refine aO rfl (aL ?_);show bs _ _ _ _;refine aG [⟨2,_,_,_,t1⟩,⟨4,_,_,_,hd⟩] [] fun _ K=>?_;simp(disch:=omega) only[kd,bF,aa,ab,af];apply K
   refine aD fun _ K=>?_;simp(disch:=omega) only[kd,aa,ab];apply K
   refine aE (aK ?_);refine aE (aK ?_);refine aE (aK ?_);refine aE (aE (aD fun _ K=>?_));simp(disch:=omega) only[kd,aa,ab];apply K;refine aO rfl (aL ?_);show bs _ _ _ _;refine aD fun _ K=>?_;simp(disch:=omega) only[kd,aa,ab];apply K
   refine aS rfl (bK ?_);show bs _ _ _ _;refine aD fun _ K=>?_;simp only[kd,aa];apply K
   refine bK ?_;show bs _ _ _ _;refine aG [⟨2,_,_,_,h8⟩,⟨4,_,_,_,h9⟩] [] fun _ K=>?_;simp(disch:=omega) only[kd,bF,tZ,aa,af,ab];apply K
   (refine aI ⟨.inr rfl,aH rfl ?_ rfl⟩;simp(disch:=omega) only[kd,Tryz.results163,ab,aa,cZ])
  obtain⟨p1,p2⟩:=Om hb0 han hr;have h6:=wn (aR (a.natAbs/b.natAbs)) [1] (aW _) (by intro x hx;simp at hx;omega) (by omega) (by simp);rw[aQ,show natV [1]=1 from rfl,show bF [1]= .one (.p (.sl [[.raw (.int .u32 1)]]))from rfl]at h6;have h7:=qI (aR b.natAbs) (aR (a.natAbs%b.natAbs)) (aW _) (aW _) lr (by rw[aQ,aQ];omega) (by omega);rw[aQ,aQ]at h7;have h8:=eu (!decide (b<0)) (a.natAbs/b.natAbs+1);have h9:=eu false (b.natAbs-a.natAbs%b.natAbs);rw[<- p1]at h8;rw[<- p2]at h9;have hl:(aR (a.natAbs%b.natAbs)).length≠0:=fun h=>hr (hr0.1 h)
  clear p1 p2;generalize b.natAbs-a.natAbs%b.natAbs=br at*
  generalize a.natAbs/b.natAbs=q at*
  generalize a.natAbs%b.natAbs=r at*
  generalize a/b=Q at*
  generalize a%b=R at*
  refine aJ Tryz.func163 rfl (by kernel_rfl) ?_;rw[Tryz.ntmps163];refine aD fun _ K=>?_;simp(disch:=omega) only[kd,aa,tZ,ae,ab];apply K
  refine aG [⟨2,_,_,_,t2⟩] [] fun _ K=>?_;simp(disch:=omega) only[kd,bF,aa,ab];apply K
  refine aE (aD fun _ K=>?_);simp(disch:=omega) only[kd,aa];apply K;refine aO rfl (aL ?_);show bs _ _ _ _;refine aG [⟨2,_,_,_,t1⟩,⟨4,_,_,_,hd⟩] [] fun _ K=>?_;simp(disch:=omega) only[kd,bF,aa,ab,af];apply K
  refine aD fun _ K=>?_;simp(disch:=omega) only[kd,aa,ab];apply K
  refine aE (aK ?_);refine aE (aK ?_);refine aE (aK ?_);refine aE (aE (aD fun _ K=>?_));simp(disch:=omega) only[kd,aa,ab];apply K;refine aS rfl (bK ?_);show bs _ _ _ _;refine aG [⟨2,_,_,_,h6⟩] [] fun _ K=>?_;simp(disch:=omega) only[kd,bF,aa,Nat.reduceMul,ah];apply K
  refine kp [⟨2,_,_,_,h7⟩] [] fun _ K=>?_;simp only[kd,bF,aa];apply K
  show bs _ _ _ _;refine aD fun _ K=>?_;simp only[kd,aa];apply K
  refine bK ?_;show bs _ _ _ _;refine aG [⟨2,_,_,_,h8⟩,⟨4,_,_,_,h9⟩] [] fun _ K=>?_;simp(disch:=omega) only[kd,bF,tZ,aa,af,ab];apply K
  (refine aI ⟨.inr rfl,aH rfl ?_ rfl⟩;simp(disch:=omega) only[kd,Tryz.results163,ab,aa,cZ])
 obtain⟨p1,p2⟩:=On hb0 (show 0<=a by omega);have h8:=eu (decide (b<0)) (a.natAbs/b.natAbs);have h9:=eu false (a.natAbs%b.natAbs);rw[<- p1]at h8;rw[<- p2]at h9;clear p1 p2;generalize a.natAbs/b.natAbs=q at*
 generalize a.natAbs%b.natAbs=r at*
 generalize a/b=Q at*
 generalize a%b=R at*
 refine aJ Tryz.func163 rfl (by kernel_rfl) ?_;rw[Tryz.ntmps163];refine aD fun _ K=>?_;simp(disch:=omega) only[kd,aa,tZ,ae,ab];apply K
 refine aG [⟨2,_,_,_,t2⟩] [] fun _ K=>?_;simp(disch:=omega) only[kd,bF,aa,ab];apply K
 refine aE (aD fun _ K=>?_);simp(disch:=omega) only[kd,aa];apply K;refine aO rfl (aL ?_);show bs _ _ _ _;refine aG [⟨2,_,_,_,t1⟩,⟨4,_,_,_,hd⟩] [] fun _ K=>?_;simp(disch:=omega) only[kd,bF,aa,ab,af];apply K
 refine aD fun _ K=>?_;simp(disch:=omega) only[kd,aa,ab];apply K
 refine aE (aK ?_);refine aE (aK ?_);refine aE (aK ?_);refine aE (aE (aD fun _ K=>?_));simp(disch:=omega) only[kd,aa,ab];apply K;refine aO rfl (aL ?_);show bs _ _ _ _;refine aD fun _ K=>?_;simp(disch:=omega) only[kd,aa,ab];apply K
 refine aO rfl (aL ?_);refine bK ?_;show bs _ _ _ _;refine aG [⟨2,_,_,_,h8⟩,⟨4,_,_,_,h9⟩] [] fun _ K=>?_;simp(disch:=omega) only[kd,bF,tZ,aa,af,ab];apply K
 (refine aI ⟨.inr rfl,aH rfl ?_ rfl⟩;simp(disch:=omega) only[kd,Tryz.results163,ab,aa,cZ])
structure QQ (M:List (List Int)) where
 i:Nat
 hi:i<=M.length
 ok: ∀r∈M.take i,r.length=(M.headD []).length
theorem AJ (M:List (List Int)):CallC Tryz.prog 112 [bi M] ⟨[],OU M⟩:=by
 by_cases h1:M.length<1
 ·rw[fH (fun h=>by have:=h.1;omega)];refine aJ Tryz.func112 rfl (by kernel_rfl) ?_;rw[Tryz.ntmps112];refine aD fun _ K=>?_;simp only[kd,aa,bi,ae];apply K
  refine aE (aD fun _ K=>?_);simp(disch:=omega) only[kd,aa,reduceCtorEq];apply K;refine aS rfl ?_;refine aD fun _ K=>?_;simp only[kd,aa];apply K
  (refine aI ⟨.inr rfl,aH rfl ?_ rfl⟩;simp(disch:=omega) only[kd,Tryz.results112])
 by_cases h2:16<M.length
 ·rw[fH (fun h=>by have:=h.2.1;omega)];refine aJ Tryz.func112 rfl (by kernel_rfl) ?_;rw[Tryz.ntmps112];refine aD fun _ K=>?_;simp only[kd,aa,bi,ae];apply K
  refine aE (aD fun _ K=>?_);simp(disch:=omega) only[kd,aa];apply K;refine aS rfl ?_;refine aD fun _ K=>?_;simp only[kd,aa];apply K
  (refine aI ⟨.inr rfl,aH rfl ?_ rfl⟩;simp(disch:=omega) only[kd,Tryz.results112])
 have h0:=gk (M:=M) (by omega);have hmem0:M.headD []∈M:=au h0;by_cases c1:(M.headD []).length<1
 ·rw[fH (fun h=>by have:=(h.2.2 _ hmem0).1;omega)];refine aJ Tryz.func112 rfl (by kernel_rfl) ?_;rw[Tryz.ntmps112];refine aD fun _ K=>?_;simp only[kd,aa,bi,ae];apply K
  refine aE (aD fun _ K=>?_);simp(disch:=omega) only[kd,aa];apply K;refine aO rfl (aL ?_);show bs _ _ _ _;refine aD fun _ K=>?_;simp(disch:=omega) only[kd,aa,am,h0,fR];apply K
  refine aE (aD fun _ K=>?_);simp(disch:=omega) only[kd,aa,reduceCtorEq];apply K;refine aS rfl ?_;refine aD fun _ K=>?_;simp only[kd,aa];apply K
  (refine aI ⟨.inr rfl,aH rfl ?_ rfl⟩;simp(disch:=omega) only[kd,Tryz.results112])
 by_cases c2:16<(M.headD []).length
 ·rw[fH (fun h=>by have:=(h.2.2 _ hmem0).2.1;omega)];refine aJ Tryz.func112 rfl (by kernel_rfl) ?_;rw[Tryz.ntmps112];refine aD fun _ K=>?_;simp only[kd,aa,bi,ae];apply K
  refine aE (aD fun _ K=>?_);simp(disch:=omega) only[kd,aa];apply K;refine aO rfl (aL ?_);show bs _ _ _ _;refine aD fun _ K=>?_;simp(disch:=omega) only[kd,aa,am,h0,fR];apply K
  refine aE (aD fun _ K=>?_);simp(disch:=omega) only[kd,aa];apply K;refine aS rfl ?_;refine aD fun _ K=>?_;simp only[kd,aa];apply K
  (refine aI ⟨.inr rfl,aH rfl ?_ rfl⟩;simp(disch:=omega) only[kd,Tryz.results112])
 refine aJ Tryz.func112 rfl (by kernel_rfl) ?_;rw[Tryz.ntmps112];refine aD fun _ K=>?_;simp only[kd,aa,bi,ae];apply K
 refine aE (aD fun _ K=>?_);simp(disch:=omega) only[kd,aa];apply K;refine aO rfl (aL ?_);show bs _ _ _ _;refine aD fun _ K=>?_;simp(disch:=omega) only[kd,aa,am,h0,fR];apply K
 refine aE (aD fun _ K=>?_);simp(disch:=omega) only[kd,aa];apply K;refine aO rfl (aL ?_);show bs _ _ _ _;refine aE (aD fun _ K=>?_);simp only[kd,aa];apply K;refine aT (G:=QQ M) (fun g=>⟨(bi M::j4 (.raw (.int .i64 ((M.headD []).length:Int))::j16 (j4 (bi M::rN M.length::rN g.i::j4 (j4 (jk::jk::jk::[])))))),Hm []⟩) (fun g=>M.length-g.i) ⟨0,by omega,fun r hr=>by simp at hr⟩ ?_ ?_
 ·refine aF trivial ?_;simp[wk]
 rintro⟨i,hi,ok⟩;simp only;by_cases hm:i<M.length
 ·obtain⟨r,hr⟩:=getElem?_of_lt hm;have hmem:r∈M:=au hr;refine aD fun _ K=>?_;simp(disch:=omega) only[kd,bi];apply K
  refine bC rfl ?_;refine aE (aK ?_);refine aD fun _ K=>?_;simp(disch:=omega) only[kd,aa,hr,fR];apply K
  by_cases c3:r.length=(M.headD []).length
  ·refine aD fun _ K=>?_;simp(disch:=omega) only[kd,aa];apply K
   refine aO rfl (aL ?_);show bs _ _ _ _;refine aM fun _ K=>?_;simp(disch:=omega) only[kd,aP];apply K
   refine⟨⟨i+1,by omega,fun r' hr'=>?_⟩,by simp only;omega,aF trivial ?_⟩
   ·rw[List.take_add_one,hr]at hr';rcases List.mem_append.1 hr' with h|h
    ·exact ok r' h
    have:r'=r:=by simpa using h
    subst this;exact c3
   simp[wk]
  rw[fH (fun h=>by have:=(h.2.2 r hmem).2.2;omega)];refine aD fun _ K=>?_;simp(disch:=omega) only[kd,aa];apply K
  refine aS rfl ?_;refine aD fun _ K=>?_;simp only[kd,aa];apply K
  (refine aI ⟨.inr rfl,aH rfl ?_ rfl⟩;simp(disch:=omega) only[kd,Tryz.results112])
 have hsh:xe M:=⟨by omega,by omega,fun r hr=>by
  have:=ok r (by rw[List.take_of_length_le (by omega)];exact hr);exact⟨by omega,by omega,this⟩⟩
 rw[fP hsh];refine aD fun _ K=>?_;simp(disch:=omega) only[kd,bi];apply K
 refine bJ rfl ?_;show bs _ _ _ _;refine aD fun _ K=>?_;simp only[kd,aa];apply K
 (refine aI ⟨.inr rfl,aH rfl ?_ rfl⟩;simp(disch:=omega) only[kd,Tryz.results112])
theorem uY (M:List (List Int)):CallC Tryz.prog 159 [bE M] ⟨[],OU M⟩:=by
 by_cases h1:M.length<1
 ·rw[fH (fun h=>by have:=h.1;omega)];refine aJ Tryz.func159 rfl (by kernel_rfl) ?_;rw[Tryz.ntmps159];refine aD fun _ K=>?_;simp only[kd,aa,bE,ae];apply K
  refine aE (aD fun _ K=>?_);simp(disch:=omega) only[kd,aa,reduceCtorEq];apply K;refine aS rfl ?_;refine aD fun _ K=>?_;simp only[kd,aa];apply K
  (refine aI ⟨.inr rfl,aH rfl ?_ rfl⟩;simp(disch:=omega) only[kd,Tryz.results159])
 by_cases h2:16<M.length
 ·rw[fH (fun h=>by have:=h.2.1;omega)];refine aJ Tryz.func159 rfl (by kernel_rfl) ?_;rw[Tryz.ntmps159];refine aD fun _ K=>?_;simp only[kd,aa,bE,ae];apply K
  refine aE (aD fun _ K=>?_);simp(disch:=omega) only[kd,aa];apply K;refine aS rfl ?_;refine aD fun _ K=>?_;simp only[kd,aa];apply K
  (refine aI ⟨.inr rfl,aH rfl ?_ rfl⟩;simp(disch:=omega) only[kd,Tryz.results159])
 have h0:=gk (M:=M) (by omega);have hmem0:M.headD []∈M:=au h0;by_cases c1:(M.headD []).length<1
 ·rw[fH (fun h=>by have:=(h.2.2 _ hmem0).1;omega)];refine aJ Tryz.func159 rfl (by kernel_rfl) ?_;rw[Tryz.ntmps159];refine aD fun _ K=>?_;simp only[kd,aa,bE,ae];apply K
  refine aE (aD fun _ K=>?_);simp(disch:=omega) only[kd,aa];apply K;refine aO rfl (aL ?_);show bs _ _ _ _;refine aD fun _ K=>?_;simp(disch:=omega) only[kd,aa,am,h0,fR];apply K
  refine aE (aD fun _ K=>?_);simp(disch:=omega) only[kd,aa,reduceCtorEq];apply K;refine aS rfl ?_;refine aD fun _ K=>?_;simp only[kd,aa];apply K
  (refine aI ⟨.inr rfl,aH rfl ?_ rfl⟩;simp(disch:=omega) only[kd,Tryz.results159])
 by_cases c2:16<(M.headD []).length
 ·rw[fH (fun h=>by have:=(h.2.2 _ hmem0).2.1;omega)];refine aJ Tryz.func159 rfl (by kernel_rfl) ?_;rw[Tryz.ntmps159];refine aD fun _ K=>?_;simp only[kd,aa,bE,ae];apply K
  refine aE (aD fun _ K=>?_);simp(disch:=omega) only[kd,aa];apply K;refine aO rfl (aL ?_);show bs _ _ _ _;refine aD fun _ K=>?_;simp(disch:=omega) only[kd,aa,am,h0,fR];apply K
  refine aE (aD fun _ K=>?_);simp(disch:=omega) only[kd,aa];apply K;refine aS rfl ?_;refine aD fun _ K=>?_;simp only[kd,aa];apply K
  (refine aI ⟨.inr rfl,aH rfl ?_ rfl⟩;simp(disch:=omega) only[kd,Tryz.results159])
 refine aJ Tryz.func159 rfl (by kernel_rfl) ?_;rw[Tryz.ntmps159];refine aD fun _ K=>?_;simp only[kd,aa,bE,ae];apply K
 refine aE (aD fun _ K=>?_);simp(disch:=omega) only[kd,aa];apply K;refine aO rfl (aL ?_);show bs _ _ _ _;refine aD fun _ K=>?_;simp(disch:=omega) only[kd,aa,am,h0,fR];apply K
 refine aE (aD fun _ K=>?_);simp(disch:=omega) only[kd,aa];apply K;refine aO rfl (aL ?_);show bs _ _ _ _;refine aE (aD fun _ K=>?_);simp only[kd,aa];apply K;refine aT (G:=QQ M) (fun g=>⟨(bE M::j4 (.raw (.int .i64 ((M.headD []).length:Int))::j16 (j4 (bE M::rN M.length::rN g.i::j4 (j4 (jk::jk::jk::[])))))),Hm []⟩) (fun g=>M.length-g.i) ⟨0,by omega,fun r hr=>by simp at hr⟩ ?_ ?_
 ·refine aF trivial ?_;simp[wk]
 rintro⟨i,hi,ok⟩;simp only;by_cases hm:i<M.length
 ·obtain⟨r,hr⟩:=getElem?_of_lt hm;have hmem:r∈M:=au hr;refine aD fun _ K=>?_;simp(disch:=omega) only[kd,bE];apply K
  refine bC rfl ?_;refine aE (aK ?_);refine aD fun _ K=>?_;simp(disch:=omega) only[kd,aa,hr,fR];apply K
  by_cases c3:r.length=(M.headD []).length
  ·refine aD fun _ K=>?_;simp(disch:=omega) only[kd,aa];apply K
   refine aO rfl (aL ?_);show bs _ _ _ _;refine aM fun _ K=>?_;simp(disch:=omega) only[kd,aP];apply K
   refine⟨⟨i+1,by omega,fun r' hr'=>?_⟩,by simp only;omega,aF trivial ?_⟩
   ·rw[List.take_add_one,hr]at hr';rcases List.mem_append.1 hr' with h|h
    ·exact ok r' h
    have:r'=r:=by simpa using h
    subst this;exact c3
   simp[wk]
  rw[fH (fun h=>by have:=(h.2.2 r hmem).2.2;omega)];refine aD fun _ K=>?_;simp(disch:=omega) only[kd,aa];apply K
  refine aS rfl ?_;refine aD fun _ K=>?_;simp only[kd,aa];apply K
  (refine aI ⟨.inr rfl,aH rfl ?_ rfl⟩;simp(disch:=omega) only[kd,Tryz.results159])
 have hsh:xe M:=⟨by omega,by omega,fun r hr=>by
  have:=ok r (by rw[List.take_of_length_le (by omega)];exact hr);exact⟨by omega,by omega,this⟩⟩
 rw[fP hsh];refine aD fun _ K=>?_;simp(disch:=omega) only[kd,bE];apply K
 refine bJ rfl ?_;show bs _ _ _ _;refine aD fun _ K=>?_;simp only[kd,aa];apply K
 (refine aI ⟨.inr rfl,aH rfl ?_ rfl⟩;simp(disch:=omega) only[kd,Tryz.results159])
theorem Ot (a b:Int) (ha:Bg a) (hb:Bg b):CallC Tryz.prog 117 [tZ a,tZ b] ⟨[],.raw (.int .i64 (oh a b))⟩:=by
 have h1:=pA a ha;have h2:=pA b hb;have t1:=dV (aR a.natAbs) ha.len;have t2:=dV (aR b.natAbs) hb.len;rw[fV]at t1 t2;have h3:=oL (aR a.natAbs) (aR b.natAbs) (aW _) (aW _) (cd _) (cd _) ha.len hb.len;rw[aQ,aQ]at h3;have r1:=p9 a;have r2:=p9 b;have r3:=th a.natAbs b.natAbs;have r4: -1<=sg a*fX a.natAbs b.natAbs/\sg a*fX a.natAbs b.natAbs<=1:=by
  have:sg a= -1\/sg a=0\/sg a=1:=by omega
  rcases this with h|h|h<;>rw[h]<;>omega
 by_cases hs:sg a=sg b
 ·rw[Du hs];refine aJ Tryz.func117 rfl (by kernel_rfl) ?_;rw[Tryz.ntmps117];refine aD fun _ K=>?_;simp(disch:=omega) only[kd,aa,tZ,ae,ab];apply K
  refine bv aZ [⟨1,_,_,_,h1⟩,⟨3,_,_,_,h2⟩] [] (by kernel_rfl) fun _ K=>?_;simp only[kd,tZ,aa,ab,af];apply K
  refine aE (aK ?_);refine aD fun _ K=>?_;simp(disch:=omega) only[kd,aa];apply K
  refine aO rfl ?_;refine aD fun _ K=>?_;simp(disch:=omega) only[kd,aa];apply K
  refine aO rfl (aL ?_);show bs _ _ _ _;refine bv aZ [⟨3,_,_,_,t1⟩,⟨6,_,_,_,t2⟩,⟨7,_,_,_,h3⟩] [] (by kernel_rfl) fun _ K=>?_;simp(disch:=omega) only[kd,bF,aa,ab,af,aP];apply K
  (refine aI ⟨.inr rfl,aH rfl ?_ rfl⟩;simp(disch:=omega) only[kd,Tryz.results117])
 rw[Dv hs];refine aJ Tryz.func117 rfl (by kernel_rfl) ?_;rw[Tryz.ntmps117];refine aD fun _ K=>?_;simp(disch:=omega) only[kd,aa,tZ,ae,ab];apply K
 refine bv aZ [⟨1,_,_,_,h1⟩,⟨3,_,_,_,h2⟩] [] (by kernel_rfl) fun _ K=>?_;simp only[kd,tZ,aa,ab,af];apply K
 refine aE (aK ?_);refine aD fun _ K=>?_;simp only[kd,aa];apply K
 by_cases hlt:sg a<sg b
 ·rw[if_pos hlt];refine bT rfl (fun _=>?_) (fun h=>by simp at h<;>omega);refine aD fun _ K=>?_;simp(disch:=omega) only[kd];apply K
  (refine aI ⟨.inr rfl,aH rfl ?_ rfl⟩;simp(disch:=omega) only[kd,Tryz.results117])
 rw[if_neg hlt];refine bT rfl (fun h=>by simp at h<;>omega) (fun _=>?_);refine aD fun _ K=>?_;simp(disch:=omega) only[kd,aa];apply K
 refine aS rfl ?_;refine aD fun _ K=>?_;simp only[kd];apply K
 (refine aI ⟨.inr rfl,aH rfl ?_ rfl⟩;simp(disch:=omega) only[kd,Tryz.results117])
theorem Jl (n:Nat) (f:FF) (hn1:1<=n) (hn:n<=16):CallC Tryz.prog 143 [bE (bu n n f)] ⟨[],.tup [(false,[.p (.raw (.int .i64 (n:Int)))]),(false,[.p (.raw (.int .i64 (n:Int)))]),(false,[.p (.raw (.bool true))])]⟩:=by
 have hS:=uY (bu n n f);rw[fP (iu f hn1 hn hn1 hn),aV,eI f hn1]at hS;refine aJ Tryz.func143 rfl (by kernel_rfl) ?_;rw[Tryz.ntmps143];refine aD fun _ K=>?_;simp only[kd,aa,bE,ae];apply K
 refine aG [⟨1,_,_,_,hS⟩] [] fun _ K=>?_;simp only[kd,bE,aa];apply K
 (refine aI ⟨.inr rfl,aH rfl ?_ rfl⟩;simp(disch:=omega) only[kd,Tryz.results143])
theorem wK (n:Nat) (f:FF) (hn1:1<=n) (hn:n<=16):CallC Tryz.prog 116 [bE (bu n n f)] ⟨[],.tup [(false,[.p (.raw (.int .i64 (n:Int)))]),(false,[.p (.raw (.bool true))])]⟩:=by
 have hS:=Jl n f hn1 hn;refine aJ Tryz.func116 rfl (by kernel_rfl) ?_;rw[Tryz.ntmps116];refine aD fun _ K=>?_;simp only[kd,bE,ae];apply K
 refine aG [⟨1,_,_,_,hS⟩] [] fun _ K=>?_;simp only[kd,bE,aa];apply K
 refine aD fun _ K=>?_;simp(disch:=omega) only[kd,aa];apply K
 (refine aI ⟨.inr rfl,aH rfl ?_ rfl⟩;simp(disch:=omega) only[kd,Tryz.results116])
theorem Lp (a b c d e:Int) (s:Nat) (hs:s<=67174400) (ha:Sz a s) (hb:Sz b s) (hc:Sz c s) (hd:Sz d s) (he:Sz e s) (he0:e≠0):
  CallC Tryz.prog 150 [tZ a,tZ b,tZ c,tZ d,tZ e] ⟨[],tZ ((a*d-b*c)/e)⟩:=by
 have s1:=ha.mul hd;have s2:=hb.mul hc;have s3:=s1.sub s2;have h1:=xI a d (ha.mono (by omega)) (hd.mono (by omega));have h2:=xI b c (hb.mono (by omega)) (hc.mono (by omega));have h3:=Iw (a*d) (b*c) (s1.mono (by omega)) (s2.mono (by omega));have h4:=wq (a*d-b*c) e he0 (s3.mono (by omega)) (he.mono (by omega));refine aJ Tryz.func150 rfl (by kernel_rfl) ?_;rw[Tryz.ntmps150];refine aD fun _ K=>?_;simp(disch:=omega) only[kd,aa,tZ,ae,ab];apply K
 refine bs.weak (aF (tm:=(j4 (jk::.one (.ptr 5 0 0 0)::.one (.ptr 6 0 0 0)::.one (.ptr 7 0 0 0)::.one (.ptr 8 0 0 0)::.one (.ptr 9 0 0 0)::.one (.ptr 10 0 0 0)::j16 (jk::[])))) (l:=[(5,qo a),(6,qo b),(7,qo c),(8,qo d),(9,qo e),(10,qB)]) ⟨rfl,rfl,rfl,rfl,rfl,rfl,trivial⟩ (by simp[wk])) ?_;refine bv aZ [⟨2,_,_,_,h1⟩,⟨5,_,_,_,h2⟩,⟨6,_,_,_,h3⟩,⟨8,_,_,_,h4⟩] [] (by kernel_rfl) fun _ K=>?_;simp(disch:=omega) only[kd,tZ,cZ,aa,ab,af];apply K
 refine aD fun _ K=>?_;simp(disch:=omega) only[kd,ab,aa];apply K
 (refine aI ⟨.inr rfl,aH rfl ?_ rfl⟩;simp(disch:=omega) only[kd,Tryz.results150,ab,aa,tZ])
abbrev tf (M:List (List Int)):List PV:=[.sl (ls (fR fZ) M)]
theorem O2 {n:Nat} {f:FF} {i j:Nat} (hi:i<n) (hj:j<n) (hn:n<=16) (hf:Bg (f i j)):
  CallC Tryz.prog 147 [.raw (.int .i64 (i:Int)),.raw (.int .i64 (j:Int)),.one (.p (.ptr (tf (bu n n f))))] ⟨[],tZ (f i j)⟩:=by
 have hr:=bD n f hi;have hjr:=aU (f i) hj;have hS:=px (f i j) hf;refine aJ Tryz.func147 rfl (by kernel_rfl) ?_;rw[Tryz.ntmps147];refine aD fun _ K=>?_;simp(disch:=omega) only[kd,aa,ae];apply K
 refine aG [⟨7,_,_,_,hS⟩] [] fun _ K=>?_;simp(disch:=omega) only[kd,tZ,aa,hr,fR,hjr,fZ];apply K
 (refine aI ⟨.inr rfl,aH rfl ?_ rfl⟩;simp(disch:=omega) only[kd,Tryz.results147,aa,tZ])
theorem O3 (b:Nat) {m:Nat} {g:FF} {last:Int} {i j:Nat} (hi:i+1<m) (hj:j+1<m) (hm:m<=16) (s:Nat) (hs:s<=67174400) (hg: ∀i j,i<m->j<m->Sz (g i j) s) (hl:Sz last s) (hl0:last≠0):
  CallT Tryz.prog b 42 149 [.raw (.int .i64 (i:Int)),.raw (.int .i64 (j:Int)),.one (.p (.ptr (tf (bu m m g)))),.raw (.pointer (some ⟨b,0,none⟩))] (fZ last)
   ⟨[],tZ ((g 0 0*g (i+1) (j+1)-g (i+1) 0*g 0 (j+1))/last)⟩ (fZ last):=by
 have r0:=bD m g (show 0<m by omega);have r1:=bD m g hi;have c00:=aU (g 0) (show 0<m by omega);have c0j:=aU (g 0) hj;have ci0:=aU (g (i+1)) (show 0<m by omega);have cij:=aU (g (i+1)) hj;have e1:((i:Int)+1).toNat=i+1:=by omega
 have e2:((j:Int)+1).toNat=j+1:=by omega
 have hC:=Lp (g 0 0) (g (i+1) 0) (g 0 (j+1)) (g (i+1) (j+1)) last s hs (hg _ _ (by omega) (by omega)) (hg _ _ hi (by omega)) (hg _ _ (by omega) hj) (hg _ _ hi hj) hl hl0;refine my Tryz.func149 rfl (by kernel_rfl) ?_;rw[Tryz.ntmps149];refine He 3 900 rfl rfl ?_;refine fc.weak (aF (tm:=(.raw (.int .i64 (i:Int))::rN j::.one (.p (.ptr (tf (bu m m g))))::.one (.ptr 900 0 0 0)::j16 (j16 (jk::[])))) (l:=[(900,qo last)]) ⟨rfl,trivial⟩ (by simp[wk,Hl,xu,ae])) ?_;refine aX (by kernel_rfl) fun _ K=>?_;simp(disch:=omega) only[kd,aa,ab];apply K
 refine nk aZ [⟨29,_,_,_,hC⟩] [] (by kernel_rfl) (by kernel_rfl) fun _ K=>?_;simp(disch:=omega) only[kd,tZ,aa,am,r0,fR,c00,fZ,aP,e1,r1,ci0,e2,c0j,cij,ab];apply K
 refine nj ⟨fZ last,rfl,rfl,.inr rfl,rfl,aH rfl ?_ rfl⟩;simp(disch:=omega) only[kd,Tryz.results149,tY,kA,ab,aa,tZ]
def elF (f:FF) (k:Nat):Nat->Nat->Int:=fun i j=>bk f k (k+i) (k+j)
abbrev If (n:Nat) (f:FF) (k:Nat):List (List Int):=bu (n-k) (n-k) (elF f k)
def A8 (n:Nat) (f:FF) (k:Nat):List (List (List Int)):=(List.range k).map (If n f)
theorem J7 (n:Nat) (f:FF) (k:Nat):A8 n f k++[If n f k]=A8 n f (k+1):=by simp[A8,List.range_succ]
theorem yy (n:Nat) (f:FF) (k:Nat):(A8 n f k).length=k:=by simp[A8]
theorem Ig (n:Nat) (f:FF):bu n n f=If n f 0:=fp fun i j _ _=>by
 show f i j=bk f 0 (0+i) (0+j);rw[dG,Nat.zero_add,Nat.zero_add]
theorem tE {f:FF} {k:Nat} (hd: ∀t,t<k->dk f (t+1)≠0) (i j:Nat):
  (elF f k 0 0*elF f k (i+1) (j+1)-elF f k (i+1) 0*elF f k 0 (j+1))/dk f k=elF f (k+1) i j:=by
 have h0:dk f k≠0:=by
  cases k with
  |zero=>rw[dv];decide
  |succ k=>exact hd k (Nat.lt_succ_self k)
 have h:=sylv f k hd (k+1+i) (k+1+j);have e:elF f k 0 0*elF f k (i+1) (j+1)-elF f k (i+1) 0*elF f k 0 (j+1)=dk f k*elF f (k+1) i j:=by
  unfold elF;rw[Nat.add_zero,<- b8,show k+(i+1)=k+1+i by omega,show k+(j+1)=k+1+j by omega,h]
 rw[e,Int.mul_ediv_cancel_left _ h0]
theorem mA (f:FF) (k:Nat):elF f k 0 0=dk f (k+1):=by
 unfold elF;rw[Nat.add_zero,b8]
def fM (M:List (List Int)):List PV:=[.sl (ls (fR fZ) M)]
theorem ID (l:List (List (List Int))) (M:List (List Int)):lc fM l++[[.p (.sl (ls (fR fZ) M))]]=lc fM (l++[M]):=by simp[lc,fM]
def Pk (n:Nat) (f:FF):Prop:= ∀t,t+1<n->dk f (t+1)≠0
open Classical in
noncomputable def O4 (n:Nat) (f:FF):TV:=if Pk n f then .tup [(false,[.p (.sl (ls fM (A8 n f n)))]),(false,[.p (.raw (.bool true))])]else .tup [(false,[.p (.raw (.slice none 0 0))]),(false,[.p (.raw (.bool false))])]
theorem AO {n:Nat} {f:FF} (h:Pk n f):O4 n f= .tup [(false,[.p (.sl (ls fM (A8 n f n)))]),(false,[.p (.raw (.bool true))])]:=if_pos h
theorem Ew {n:Nat} {f:FF} (h: ¬Pk n f):O4 n f= .tup [(false,[.p (.raw (.slice none 0 0))]),(false,[.p (.raw (.bool false))])]:=if_neg h
structure Rg (n:Nat) (f:FF) where
 k:Nat
 s:Nat
 hk:k<n
 nz: ∀t,t<k->dk f (t+1)≠0
 hs:s+1<=1025*2^k
 sz: ∀i j,i<n-k->j<n-k->Sz (elF f k i j) s
 sl:Sz (dk f k) s
theorem GY (n:Nat) (f:FF) (hn1:1<=n) (hn:n<=16) (hf: ∀i j,i<n->j<n->Sz (f i j) 1024):CallC Tryz.prog 118 [bE (bu n n f)] ⟨[],O4 n f⟩:=by
 have hQ:=wK n f hn1 hn;have h1:=tQ 1 (by omega) (by omega);have hT:=MQ 147 (tf (bu n n f)) n n f hn1 hn hn1 hn (fun i j hi hj=>O2 hi hj hn ((hf i j hi hj).mono (by omega)));refine aJ Tryz.func118 rfl (by kernel_rfl) ?_;rw[Tryz.ntmps118];refine aD fun _ K=>?_;simp(disch:=omega) only[kd,aa,bE,ae];apply K
 refine EQ ?_;refine aG [⟨1,_,_,_,hQ⟩] [] fun _ K=>?_;simp only[kd,bE,aa];apply K
 refine aE (aD fun _ K=>?_);simp only[kd];apply K;refine aO rfl (aL ?_);show bs _ _ _ _;refine bs.weak ((mq 1 1 (cs:=tf (bu n n f)) rfl rfl).trans (aF (tm:=(jk::.one (.p (.ptr (tf (bu n n f))))::.raw (.slice none 0 0)::.raw (.bool false)::rN n::j16 (j16 (j16 (j4 (j4 (jk::[]))))))) (l:=[]) trivial (by simp[wk,gW,fD]))) ?_;refine aG [⟨3,_,_,_,hT⟩] [] fun _ K=>?_;simp only[kd,bE,aa,jo];apply K
 refine aG [⟨0,_,_,_,h1⟩] [] fun _ K=>?_;simp(disch:=omega) only[kd,tZ,aa];apply K
 refine aD fun _ K=>?_;simp only[kd];apply K
 refine aE (EO ?_);show bs _ _ _ _;refine aE (aD fun _ K=>?_);simp only[kd];apply K;refine aT (G:=Rg n f) (fun g=>⟨(jk::jk::.raw (.slice none 0 0)::.raw (.bool false)::rN n::jk::bE (If n f g.k)::.one (.ptr 7 0 0 0)::.one (.sl 30 0 0 g.k)::j4 (j4 (j4 (jk::jk::rN n::rN g.k::j16 (j16 (j4 (jk::[]))))))),Hm [(7,qo (dk f g.k)),(30,[⟨46,1,lc fM (A8 n f g.k)⟩])]⟩) (fun g=>n-g.k) ⟨0,1024,by omega,fun t ht=>by omega,by omega,fun i j hi hj=>?_,?_⟩ ?_ ?_
 ·show Sz (bk f 0 (0+i) (0+j)) 1024;rw[dG,Nat.zero_add,Nat.zero_add];exact hf i j (by omega) (by omega)
 ·show Sz (dk f 0) 1024;rw[dv];exact lZ (by omega)
 ·refine(fg (k:=8) (d:=30) 46 1 (by omega) rfl rfl).trans (aF ⟨?_,rfl,trivial⟩ ?_)
  ·rw[dv];rfl
  simp[wk];exact congrArg _ (Ig n f).symm
 rintro⟨k,s,hk,nz,hs,sz,sl⟩;simp only;have h2k:=il (k:=k) (by omega);have hsb:s<=67174400:=by omega
 have q1:=bD (n-k) (elF f k) (show 0<n-k by omega);have q2:=aU (elF f k 0) (show 0<n-k by omega);have hSg:=pA (elF f k 0 0) ((sz 0 0 (by omega) (by omega)).mono (by omega));have hsn:=J7 n f k;have hln:=yy n f k;refine aD fun _ K=>?_;simp(disch:=omega) only[kd,bE];apply K
 refine bC rfl ?_;refine aE (aK ?_);refine aD fun _ K=>?_;simp only[kd];apply K
 refine aD fun _ K=>?_;simp(disch:=omega) only[kd,aa,Nat.reduceMul,ah,ab,hln,ID,hsn,af];apply K
 refine aE (aK ?_);by_cases hkn:k=n-1
 ·have hnz:Pk n f:=fun t ht=>nz t (by omega)
  rw[AO hnz];refine aD fun _ K=>?_;simp(disch:=omega) only[kd,aa,aP];apply K
  refine aS rfl (bK ?_);show bs _ _ _ _;have hk1:k+1=n:=by omega
  rw[hk1];have hlen:=yy n f n;refine aD fun _ K=>?_;simp only[kd,aa];apply K
  refine aI ⟨.inr rfl,jz 30 (cH rfl) ?_ rfl⟩;have eT:List.take n (A8 n f n)=A8 n f n:=List.take_of_length_le (by rw[hlen];exact Nat.le_refl _);simp(disch:=omega) only[kd,Tryz.results118,ab,eT]
 refine aD fun _ K=>?_;simp(disch:=omega) only[kd,aa,aP];apply K
 refine aO rfl ?_;by_cases hz:dk f (k+1)=0
 ·have hno: ¬Pk n f:=fun h=>h k (by omega) hz
  rw[Ew hno];rw[mA,hz]at hSg;refine aG [⟨5,_,_,_,hSg⟩] [] fun _ K=>?_;simp(disch:=omega) only[kd,tZ,sC,aa,am,q1,fR,q2,mA,hz,fZ];apply K
  refine aS rfl ?_;refine aD fun _ K=>?_;simp only[kd];apply K
  (refine aI ⟨.inr rfl,aH rfl ?_ rfl⟩;simp(disch:=omega) only[kd,Tryz.results118])
 have hs0:=El hz;rw[mA]at hSg q2;refine aG [⟨5,_,_,_,hSg⟩] [] fun _ K=>?_;simp(disch:=omega) only[kd,tZ,aa,am,q1,fR,q2,fZ];apply K
 refine aO rfl (aL ?_);show bs _ _ _ _;refine aD fun _ K=>?_;simp(disch:=omega) only[kd,aa,ab];apply K
 refine bs.weak ((mq 10 10 (cs:=tf (If n f k)) rfl rfl).trans (aF (tm:=(jk::jk::.raw (.slice none 0 0)::.raw (.bool false)::rN n::jk::jk::.one (.ptr 7 0 0 0)::.one (.sl 30 0 0 (k+1))::rN k::.one (.p (.ptr (tf (If n f k))))::j4 (j4 (j4 (.raw (.int .i64 (n:Int))::rN k::j16 (j16 (j4 (jk::[])))))))) (l:=[(7,qo (dk f k)),(30,[⟨46,1,lc fM (A8 n f (k+1))⟩])]) ⟨rfl,rfl,trivial⟩ (by simp[wk,gW,fD]))) ?_;refine aE (Bi 7 (cs:=fZ (dk f k)) rfl fun b=>?_);refine eZ.weak (aF (tm:=(jk::jk::.raw (.slice none 0 0)::.raw (.bool false)::rN n::jk::jk::dF b::.one (.sl 30 0 0 (k+1))::rN k::.one (.p (.ptr (tf (If n f k))))::j4 (j4 (j4 (.raw (.int .i64 (n:Int))::rN k::j16 (j16 (j4 (jk::[])))))))) (l:=[(30,[⟨46,1,lc fM (A8 n f (k+1))⟩])]) ⟨rfl,trivial⟩ (by simp[wk,tY,kA])) ?_;have hd0:dk f k≠0:=by
  cases k with
  |zero=>rw[dv];decide
  |succ k=>exact nz k (by omega)
 have hT2:=MR 149 (tf (If n f k)) b 42 (fZ (dk f k)) (n-(k+1)) (n-(k+1)) (fun i j=>(elF f k 0 0*elF f k (i+1) (j+1)-elF f k (i+1) 0*elF f k 0 (j+1))/dk f k) (by omega) (by omega) (by omega) (by omega)
  (fun i j hi hj=>O3 b (by omega) (by omega) (by omega) s hsb sz sl hd0)
 rw[fp fun i j _ _=>tE (f:=f) (k:=k) nz i j]at hT2;have en:((n-(k+1):Nat):Int)=(n:Int)-(k:Int)-1:=by omega
 rw[en]at hT2;refine ic 9 hT2 [] [] (by kernel_rfl) (by rfl) (by rfl) fun _ K=>?_;simp(disch:=omega) only[kd,bE,aa,dF,aP,jo];apply K
 refine⟨rfl,?_⟩;show bs _ _ _ _;refine bs.weak (aF (tm:=(jk::jk::.raw (.slice none 0 0)::.raw (.bool false)::rN n::jk::bE (If n f (k+1))::.one (.ptr 7 0 0 0)::.one (.sl 30 0 0 (k+1))::jk::.one (.p (.ptr (tf (If n f k))))::j4 (j4 (j4 (.raw (.int .i64 (n:Int))::rN k::j16 (j16 (j4 (jk::[])))))))) (l:=[(7,qo (dk f k)),(30,[⟨46,1,lc fM (A8 n f (k+1))⟩])]) ⟨rfl,rfl,trivial⟩ (by simp[wk,Hl,xu])) ?_;refine aM fun _ K=>?_;simp(disch:=omega) only[kd,aa,bE,am,q1,fR,q2,fZ,ab];apply K
 show bs _ _ _ _;refine aM fun _ K=>?_;simp(disch:=omega) only[kd,aP];apply K
 have nz': ∀t,t<k+1->dk f (t+1)≠0:=fun t ht=>by
  by_cases e:t=k
  ·subst e;exact hz
  exact nz t (by omega)
 refine⟨⟨k+1,2*s+1,by omega,nz',by rw[Nat.pow_succ];omega,fun i j hi hj=>?_,?_⟩,by simp only;omega,aF ⟨rfl,rfl,trivial⟩ ?_⟩
 ·rw[<- tE nz];exact((((sz 0 0 (by omega) (by omega)).mul (sz (i+1) (j+1) (by omega) (by omega))).sub ((sz (i+1) 0 (by omega) (by omega)).mul (sz 0 (j+1) (by omega) (by omega)))).ediv _).mono (by omega)
 ·rw[<- mA];exact(sz 0 0 (by omega) (by omega)).mono (by omega)
 simp[wk]
abbrev oG (M:List (List Int)):AV:= .p (.ptr [.sl (ls (fR fI) M)])
theorem PN {n c:Nat} {f:FF} {i j:Nat} (hi:i<n) (hj:j<c) (hc:c<=16) (hn:n<=16) (hf: -9223372036854775808<=f i j/\f i j<=9223372036854775807):
  CallC Tryz.prog 114 [.raw (.int .i64 (i:Int)),.raw (.int .i64 (j:Int)),.one (oG (bu n c f))] ⟨[],tZ (f i j)⟩:=by
 have hml:=aV n c f;have hr:=bD c f hi;have hjr:=aU (f i) hj;have hS:=tQ (f i j) hf.1 hf.2;refine aJ Tryz.func114 rfl (by kernel_rfl) ?_;rw[Tryz.ntmps114];refine aD fun _ K=>?_;simp(disch:=omega) only[kd,oG,aa,ae];apply K
 refine aG [⟨7,_,_,_,hS⟩] [] fun _ K=>?_;simp(disch:=omega) only[kd,tZ,aa,hr,fR,hjr];apply K
 (refine aI ⟨.inr rfl,aH rfl ?_ rfl⟩;simp(disch:=omega) only[kd,Tryz.results114,aa,tZ])
def A5 (d n c i:Nat) (g:FF):List OObj:=⟨84,1,gm d (ae i c)++ae (n-i) [.p (.sl [])]⟩::(bu i c g).map mn
theorem v7 (d n c:Nat) (g:FF):([⟨84,1,ae n [.raw (.slice none 0 0)]⟩]:List OObj).map zO=A5 d n c 0 g:=by
 simp[A5,bu,zO,gm,yH,yQ]
theorem zm (d n c:Nat) (g:FF):A5 d n c n g=gI d n c g:=by
 simp[A5]
theorem zo {d n c i:Nat} (g:FF) (hi:i<n) (hz: ∀b,b<c->g i b=0):
  ((⟨84,1,(gm d (ae i c)++ae (n-i) [AV.p (PV.sl [])]).set i [.sl d (i+1) 0 c]⟩::(bu i c g).map mn++[⟨42,2,ae c [.raw (.bool false),.raw (.slice none 0 0)]⟩]:List OObj)).map zO=A5 d n c (i+1) g:=by
 have e1:(gm d (ae i c)++ae (n-i) [AV.p (PV.sl [])]).set i [.sl d (i+1) 0 c]=gm d (ae (i+1) c)++ae (n-(i+1)) [AV.p (PV.sl [])]:=by
  rw[List.set_append_right _ _ (by simp[ch]),ch,List.length_replicate,Nat.sub_self,List.replicate_succ' (n:=i),mX,List.length_replicate,List.append_assoc]
  congr 1
  rw[show n-i=n-(i+1)+1 by omega,List.replicate_succ];rfl
 have e2:bG c (g i)=ae c 0:=by
  apply List.ext_getElem?;intro b;by_cases hb:b<c
  ·rw[aU _ hb,List.getElem?_replicate,if_pos hb,hz b hb]
  rw[aq (by rw[bz];omega),aq (by simp;omega)]
 have e3:bu (i+1) c g=bu i c g++[bG c (g i)]:=by simp[bu,List.range_succ]
 rw[e1];simp only[List.cons_append,List.map_cons,List.map_append,A5,e3,List.map_map]
 congr 1
 ·simp[zO,NE,yH,yQ]
 congr 1
 ·refine List.map_congr_left fun r _=>?_
  simp[zO,mn,P3]
 simp[e2,zO,mn,lc,fZ,yH,yQ,cj,ls]
theorem Dm {d n c i k:Nat} (h:k<i):(gm d (ae i c)++ae (n-i) [AV.p (PV.sl [])])[k]?=some [.sl d (k+1) 0 c]:=by
 rw[List.getElem?_append_left (by simp[ch];exact h),bO d c h]
theorem Dn {d n c i:Nat} (h:i<=n):(gm d (ae i c)++ae (n-i) [AV.p (PV.sl [])]).length=n:=by simp[ch];omega
theorem Lb (n c:Nat) (f:FF) (hn1:1<=n) (hn:n<=16) (hc1:1<=c) (hc:c<=16) (hf: ∀i j,i<n->j<c-> -9223372036854775808<=f i j/\f i j<=9223372036854775807):
  CallC Tryz.prog 113 [.raw (.int .i64 (n:Int)),.raw (.int .i64 (c:Int)),.fn 114 [oG (bu n c f)]] ⟨gI 0 n c f,.one (.sl 0 0 0 n)⟩:=by
 refine aJ Tryz.func113 rfl (by kernel_rfl) ?_;rw[Tryz.ntmps113];refine aD fun _ K=>?_;simp only[kd,oG,aa,ae];apply K
 refine aD fun _ K=>?_;simp(disch:=omega) only[kd,aa];apply K
 refine aE (aD fun _ K=>?_);simp only[kd,aa];apply K;refine aT (G:=jD n) (fun g=>⟨(jk::rN c::.fn 114 [oG (bu n c f)]::j4 (.one (.sl 11 0 0 n)::j4 (jk::rN n::rN g.i::j16 (j4 (j4 (j4 ([]))))))),Hm [(11,A5 11 n c g.i (part f g.i 0))]⟩) (fun g=>n-g.i) ⟨0,by omega⟩ ?_ ?_
 ·refine(eE 11).trans (aF ⟨v7 11 n c _,trivial⟩ ?_);simp[wk]
 rintro⟨i,hi⟩;simp only;by_cases hm:i<n
 ·have hg:=yI (d:=11) (c:=c) hm;refine aD fun _ K=>?_;simp(disch:=omega) only[kd,oG];apply K
  refine bC rfl ?_;refine aE (aK ?_);refine aD fun _ K=>?_;simp only[kd];apply K
  simp only[A5];refine aD fun _ K=>?_;simp(disch:=omega) only[kd,aa,ab,hg,ah,List.length_replicate,List.all_replicate,aV,af];apply K
  refine bs.weak ((eE 11).trans (aF (tm:=(jk::rN c::.fn 114 [oG (bu n c f)]::j4 (.one (.sl 11 0 0 n)::rN i::j4 (.raw (.int .i64 (n:Int))::rN i::j16 (j4 (j4 (j4 ([])))))))) (l:=[(11,A5 11 n c (i+1) (part f i 0))]) ⟨zo (part f i 0) hm (fun b _=>by simp[part]),trivial⟩ (by simp[wk]))) ?_;have a1:=Dm (d:=11) (n:=n) (c:=c) (show i<i+1 by omega);have a2:=Dn (d:=11) (n:=n) (c:=c) (show i+1<=n by omega);have a3:=ee (n:=i+1) c (part f i 0) (show i<i+1 by omega);simp only[A5];refine aD fun _ K=>?_;simp(disch:=omega) only[kd,aa,oG,a1];apply K
  refine aT (G:=jD c) (fun g=>⟨(jk::rN c::.fn 114 [oG (bu n c f)]::j4 (.one (.sl 11 0 0 n)::rN i::j4 (.raw (.int .i64 (n:Int))::rN i::j4 (j4 (jk::jk::jk::rN c::rN g.i::j4 (j4 (j4 (jk::jk::jk::[])))))))),Hm [(11,A5 11 n c (i+1) (part f i g.i))]⟩) (fun g=>c-g.i) ⟨0,by omega⟩ ?_ ?_
  ·refine aF ⟨rfl,trivial⟩ ?_;simp[wk]
  rintro⟨j,hj⟩;simp only;by_cases hm2:j<c
  ·have hS:=PN (n:=n) (c:=c) (f:=f) hm hm2 hc hn (hf i j hm hm2);have g2:=ee (n:=i+1) c (part f i j) (show i<i+1 by omega);have g3:=aU (part f i j i) hm2;refine aD fun _ K=>?_;simp(disch:=omega) only[kd,oG];apply K
   refine bC rfl ?_;refine aE (aK ?_);refine aD fun _ K=>?_;simp only[kd];apply K
   simp only[A5];refine d7 aZ [⟨8,_,_,_,hS⟩] [] (by kernel_rfl) fun _ K=>?_;simp(disch:=omega) only[kd,oG,tZ,aa,a1,g2,fZ,g3,jS];apply K
   show bs _ _ _ _;refine aM fun _ K=>?_;simp(disch:=omega) only[kd,aP];apply K
   refine⟨⟨j+1,by omega⟩,by simp only;omega,aF ⟨?_,trivial⟩ ?_⟩
   ·show _::_=_::_;rw[cq fun a b _ _=>je f i j a b]
   simp[wk]
  have hjc:j=c:=by omega
  subst hjc;refine aD fun _ K=>?_;simp(disch:=omega) only[kd,oG];apply K
  refine bJ rfl ?_;show bs _ _ _ _;refine aM fun _ K=>?_;simp(disch:=omega) only[kd,aP];apply K
  refine⟨⟨i+1,by omega⟩,by simp only;omega,aF ⟨?_,trivial⟩ ?_⟩
  ·show _::_=_::_;rw[cq fun a b _ hb=>kH f i a b hb]
  simp[wk]
 have hin:i=n:=by omega
 subst hin;rw[zm];refine aD fun _ K=>?_;simp(disch:=omega) only[kd,oG];apply K
 refine bJ rfl ?_;show bs _ _ _ _;refine aD fun _ K=>?_;simp only[kd];apply K
 refine aI ⟨.inr rfl,_,ca.refl _,?_⟩;refine⟨.one (.sl 11 0 0 i),11,?_,rfl,?_,rfl⟩
 ·simp(disch:=omega) only[kd,Tryz.results113]
 show gI 0 i c f=(gI 11 i c (part f i 0)).map (renO 0);rw[gy 11 0];show _::_=_::_;rw[cq fun a b ha _=>jw f a b ha]
end Go.Proofs.YtfgeomlagfomgaaGreatDoor
