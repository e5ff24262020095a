/-
  Part 20 of a proof (walks and plain facts).
-/
import Derived.Test.YtfgeomlagfomgaaGreatDoorR18
set_option linter.all false
set_option maxRecDepth 100000
set_option maxHeartbeats 64000000
open Nat renaming reduceAdd → aa
open Nat renaming reduceEqDiff → ab
open List renaming replicate → ae
open Nat renaming reduceBEq → af
open Nat renaming reduceLeDiff → ah
open Int renaming reduceToNat → am
open List renaming getElem?_eq_none → aq
open List renaming mem_of_getElem? → au
namespace Go.Proofs.YtfgeomlagfomgaaGreatDoor
open Go.RowKit
theorem lU (M:List (List Int)):CallC Tryz.prog 45 [slI M] ⟨[],.raw (.bool (bF M))⟩:=by
 refine ij (by kernel_rfl) fun X w vs hX hvs ha=>?_
 obtain⟨v0,e0,r0⟩:=mB ha (j:=0) rfl;obtain⟨A,c,rfl,hc,hl,hR⟩:=oc r0;obtain rfl:vs= #[.slice A M.length c]:=by
  apply Array.ext_getElem?;intro j
  match j with
  |0=>exact e0
  |j+1=>rw[Array.getElem?_eq_none (by simp at hvs;omega)];rfl
 refine(kt A c M w hR hl hc).mono fun e w' ⟨h1,h2⟩=>?_
 exact⟨_,h1,fun _ _ _=>uS _,h2⟩
theorem Mo (n:Int) (x:List Int):CallC Tryz.prog 95 [.raw (.int .i64 n),iC x] ⟨[],.raw (.bool (FitB n x))⟩:=by
 refine ij (by kernel_rfl) fun X w vs hX hvs ha=>?_
 obtain⟨v0,e0,r0⟩:=mB ha (j:=0) rfl;obtain⟨v1,e1,r1⟩:=mB ha (j:=1) rfl;obtain rfl:=lW r0;obtain⟨B,d,rfl,hd,hlx,hx⟩:=ke r1;obtain rfl:vs= #[.int .i64 n,.slice B x.length d]:=by
  apply Array.ext_getElem?;intro j
  match j with
  |0=>exact e0
  |1=>exact e1
  |j+2=>rw[Array.getElem?_eq_none (by simp at hvs;omega)];rfl
 refine(pH n B d x w hx hlx).mono fun e w' ⟨h1,h2⟩=>?_
 subst h2;exact⟨_,h1,fun _ _ _=>uS _,Ext.refl _⟩
theorem Pb (a b:List (List Int)):CallC Tryz.prog 28 [slI a,slI b] ⟨[],.raw (.bool (decide (a=b)))⟩:=by
 refine ij (by kernel_rfl) fun X w vs hX hvs ha=>?_
 obtain⟨v0,e0,r0⟩:=mB ha (j:=0) rfl;obtain⟨v1,e1,r1⟩:=mB ha (j:=1) rfl;obtain⟨A,c,rfl,hc,hl,hA⟩:=oc r0;obtain⟨B,d,rfl,hd,hlb,hB⟩:=oc r1;obtain rfl:vs= #[.slice A a.length c,.slice B b.length d]:=by
  apply Array.ext_getElem?;intro j
  match j with
  |0=>exact e0
  |1=>exact e1
  |j+2=>rw[Array.getElem?_eq_none (by simp at hvs;omega)];rfl
 refine(J2 A B c d a b w hA hB hl hlb).mono fun e w' ⟨h1,h2⟩=>?_
 exact⟨_,h1,fun _ _ _=>uS _,h2⟩
theorem JR {X:Nat->Prop} {w:World} {l:List Int} {b off c:Nat} (hX: ¬X b) (hb:b<w.heap.size) (hl:l.length<=c) (hm:l.length<=9223372036854775807) (h:RdI .i64 w (some ⟨b,off,none⟩) l):cz X w (.sl (ls fI l)) (.slice (some ⟨b,off,none⟩) l.length c):=by
 have hc: ∀(i:Nat) (z:Int),l[i]?=some z->w.cell? ⟨b,off+i,none⟩=some (.int .i64 z):=fun i z hz=>by
  cases l with
  |nil=>simp at hz
  |cons z0 l0=>
   obtain⟨b',off',h1,hc⟩:=h (by simp);injection h1 with h1
   injection h1 with h1 h2
   subst h1 h2;exact hc i _ (by rw[List.getElem?_map,hz];rfl)
 have:=cz.sl (X:=X) (w:=w) b off 1 c (ls fI l) (fun i _=> .int .i64 (l.getD i 0)) hX hb (fun e he=>by
  obtain⟨z,_,rfl⟩:=List.mem_map.1 he;rfl) (by rw[dW];exact hl) (by rw[dW];exact hm) (fun i e j x he hx=>by
  rw[eZ]at he;obtain⟨z,hz,rfl⟩:=Option.map_eq_some_iff.1 he;cases j with
  |succ j=>simp[fI]at hx
  |zero=>
   simp only[Nat.mul_one,Nat.add_zero,List.getD_eq_getElem?_getD,hz,Option.getD_some];exact hc i z hz) (fun i e j x he hx=>by
  rw[eZ]at he;obtain⟨z,hz,rfl⟩:=Option.map_eq_some_iff.1 he;cases j with
  |succ j=>simp[fI]at hx
  |zero=>
   simp[fI]at hx;subst hx;simp only[List.getD_eq_getElem?_getD,hz,Option.getD_some];exact cz.raw _ rfl)
 rw[dW]at this;exact this
theorem Jy (M:List (List Int)) (x:List Int) (hM:bF M=true) (hx:FitB M.length x=true):CallC Tryz.prog 97 [slI M,iC x] ⟨[],iC (dJ M x)⟩:=by
 refine tp (by kernel_rfl) fun X w vs hX hvs ha=>?_
 obtain⟨v0,e0,r0⟩:=mB ha (j:=0) rfl;obtain⟨v1,e1,r1⟩:=mB ha (j:=1) rfl;obtain⟨A,c,rfl,hc,hl,hR⟩:=oc r0;obtain⟨B,d,rfl,hd,hlx,hrx⟩:=ke r1;obtain rfl:vs= #[.slice A M.length c,.slice B x.length d]:=by
  apply Array.ext_getElem?;intro j
  match j with
  |0=>exact e0
  |1=>exact e1
  |j+2=>rw[Array.getElem?_eq_none (by simp at hvs;omega)];rfl
 have hs:=eW hM;obtain⟨hxl,hxb⟩:=iE.1 hx;have h8:M.length<=8:=hs.2.1;have h1:1<=M.length:=hs.1;refine(wu A B c d M x w hR hrx (by omega) (fun i hi=>by rw[hs.2.2.1 i hi];omega) hlx).mono fun e w' ⟨h1,h2,h3⟩=>?_
 refine⟨_,h1,fun ρ H Y hY=>?_,h3⟩;have hlen:=ko M x;have hb:w.heap.size<w'.heap.size:=by
  obtain⟨b,off,h4,h5⟩:=h2 (by intro h;rw[List.map_eq_nil_iff]at h;rw[h]at hlen;simp at hlen;omega);injection h4 with h4
  injection h4 with h4 h6
  subst h4 h6;cases hz:(dJ M x)[0]? with
  |none=>rw[List.getElem?_eq_none_iff]at hz;omega
  |some z=>exact jV (h5 0 _ (by rw[List.getElem?_map,hz];rfl))
 have:=JR (X:=Y) (c:=M.length) (fun h=>absurd (hY _ h) (by omega)) hb (by omega) (by omega) h2;rw[hlen]at this;exact this
theorem O2 (M:List (List Int)) (x y:List Int) (hM:bF M=true) (hx:FitB M.length x=true) (hy:FitB M.length y=true):CallC Tryz.prog 96 [iC x,iC (dJ M y)] ⟨[],PN (fh x (dJ M y) x.length)⟩:=by
 refine ij (by kernel_rfl) fun X w vs hX hvs ha=>?_
 obtain⟨v0,e0,r0⟩:=mB ha (j:=0) rfl;obtain⟨v1,e1,r1⟩:=mB ha (j:=1) rfl;obtain⟨A,c,rfl,hc,hl,hrx⟩:=ke r0;obtain⟨B,d,rfl,hd,hly,hry⟩:=ke r1;obtain rfl:vs= #[.slice A x.length c,.slice B (dJ M y).length d]:=by
  apply Array.ext_getElem?;intro j
  match j with
  |0=>exact e0
  |1=>exact e1
  |j+2=>rw[Array.getElem?_eq_none (by simp at hvs;omega)];rfl
 have hs:=eW hM;obtain⟨hxl,hxb⟩:=iE.1 hx;obtain⟨hyl,hyb⟩:=iE.1 hy;have h8:M.length<=8:=hs.2.1;have hlen:=ko M y;refine(DV A B c d x (dJ M y) w hrx hry (by omega) (by omega) hly (fun i z hz=>lg hxb hz) (wt hs hyb)).mono fun e w' ⟨h1,h2⟩=>?_
 refine⟨_,h1,fun ρ H Y=>?_,h2⟩;unfold PN tI;split
 ·exact sG _ _
 exact sG _ _
/-! The plain side of Gram. -/
def vG (M l:List (List Int)) (i j:Nat):Int:=fh (l.getD i []) (dJ M (l.getD j [])) (l.getD i []).length
structure PG (M l:List (List Int)) (i j:Nat):Prop where
 x:FitB M.length (l.getD i [])=true
 y:FitB M.length (l.getD j [])=true
 lo: -4611686018427387904<=vG M l i j
 hi:vG M l i j<=4611686018427387904
def PH (M l:List (List Int)):Prop:=bF M=true/\ ∀i,i<l.length-> ∀j,j<l.length->PG M l i j
theorem x8 {M:List (List Int)} {x y:List Int} (hM:bF M=true) (hx:FitB M.length x=true) (hy:FitB M.length y=true):
  fh x (dJ M y) x.length=BF M.length (ent M) (fun i=>x.getD i 0) (fun i=>y.getD i 0):=by
 obtain⟨h1,h8,hsq,hr⟩:=(dN M).1 hM;obtain⟨hxl,hxb⟩:=iE.1 hx;obtain⟨hyl,hyb⟩:=iE.1 hy;generalize hn:M.length=n at*
 have eM:M=mat n n (ent M):=by
  apply List.ext_getElem?;intro i;by_cases hi:i<n
  ·rw[bs _ _ hi];obtain⟨r,hr'⟩:=getElem?_of_lt (show i<M.length by omega);rw[hr'];have hrl:r.length=n:=by
    have:=hsq i (by omega);rw[List.getD_eq_getElem?_getD,hr']at this;simpa[hn] using this
   refine congrArg some ?_;apply List.ext_getElem?;intro j;by_cases hj:j<n
   ·rw[aR _ hj];obtain⟨z,hz⟩:=getElem?_of_lt (show j<r.length by omega);rw[hz];simp[ent,List.getD_eq_getElem?_getD,hr',hz]
   rw[aq (by omega),aq (by rw[bv];omega)]
  rw[aq (by omega),aq (by rw[aU];omega)]
 have er: ∀(x:List Int),x.length=n->x=bz n (fun i=>x.getD i 0):=fun x hxl=>by
  apply List.ext_getElem?;intro j;by_cases hj:j<n
  ·rw[aR _ hj];obtain⟨z,hz⟩:=getElem?_of_lt (show j<x.length by omega);simp[List.getD_eq_getElem?_getD,hz]
  rw[aq (by omega),aq (by rw[bv];omega)]
 have hM2:bF (mat n n (ent M))=true:=by rw[<- eM];exact hM
 have ex:=er x hxl;have ey:=er y hyl;rw[show dJ M y=QW n n (ent M) y by rw[<- BA hM2 hyb,<- eM],hxl,QW];generalize(fun i=>x.getD i 0)=fx at*
 generalize(fun i=>y.getD i 0)=fy at*
 rw[ex,ey,pB _ _ n (Nat.le_refl _)];exact aY n fun i _=>by rw[pB _ _ n (Nat.le_refl _)]
theorem KU {M l:List (List Int)} {i j:Nat} (hM:bF M=true) (hi:FitB M.length (l.getD i [])=true) (hj:FitB M.length (l.getD j [])=true):vG M l i j=vG M l j i:=by
 unfold vG;rw[x8 hM hi hj,x8 hM hj hi];obtain⟨h1,h8,hsq,hr⟩:=(dN M).1 hM;exact qA hr.1 _ _
theorem O8 {P:Program} {fn:Func} {s:AS} {r:TV} (k:Nat) (hk:s.tmps[k]?=some (.raw (.slice none 0 0))) (hd:s.H 1000=[]) (h:uU P ⟨s.tmps.set k (.one (.p (.sl []))),s.H⟩ fn.results.toList=some r) (hp:noRefTV r=true): ∃s',b8 s s'/\oA P fn ⟨[],r⟩ s':=
 ⟨_,Do k hk,qg hd h hp⟩
theorem FC (a b:Nat) (hb:0<b) (la:(aQ a).length<=268435456) (lb:(aQ b).length<=268435456):CallC Tryz.prog 170 [bA (aQ a),bA (aQ b)] ⟨[],zN a b⟩:=by
 have hc:=oU (aQ a) (aQ b) (aV _) (aV _) (ce _) (ce _) (by omega) (by omega);rw[aP,aP]at hc;by_cases hlt:a<b
 ·rw[nF hlt]at hc;have hcl:=t8 (aQ a) (by omega);unfold zN;rw[Nat.div_eq_of_lt hlt,Nat.mod_eq_of_lt hlt,ci];refine aI Tryz.func170 rfl (by kernel_rfl) ?_;rw[Tryz.ntmps170];refine aC fun _ K=>?_;simp only[kd,bA,aa,ae];apply K
  refine aD (aJ ?_);refine aF [⟨2,_,_,_,hc⟩] [] fun _ K=>?_;simp(disch:=omega) only[kd,bA,aa];apply K
  refine aS rfl ?_;refine aF [⟨1,_,_,_,hcl⟩] [] fun _ K=>?_;simp only[kd,bA,aa];apply K
  refine aH ⟨.inr rfl,O8 4 rfl rfl ?_ rfl⟩;simp(disch:=omega) only[kd,Tryz.results170]
 obtain⟨c,hcv,hc0⟩: ∃c,c=f4 a b/\0<=c:=⟨_,rfl,DF (by omega)⟩;rw[<- hcv]at hc;clear hcv;by_cases hs:(aQ a).length<=2
 ·have sb:(aQ b).length<=2:=Nat.le_trans (oX (show b<=a by omega)) hs;have ua:=gI hs;have ub:=gI sb;have h1:=pM (aQ a) (aV _) hs;have h2:=pM (aQ b) (aV _) sb;rw[aP]at h1 h2;have hq:a/b<=a:=Nat.div_le_self _ _;have hr:a%b<b:=Nat.mod_lt _ hb;have h3:=iN (a/b) (by omega);have h4:=iN (a%b) (by omega);have hb0:(b:Int)≠0:=by omega
  have e1:IntKind.u64.wrap (Int.tdiv (a:Int) (b:Int))=((a/b:Nat):Int):=by
   rw[Int.tdiv_eq_ediv_of_nonneg (by omega),<- Int.natCast_ediv];generalize a/b=q at*;rw[IntKind.wrap_u64];omega
  have e2:Int.tmod (a:Int) (b:Int)=((a%b:Nat):Int):=by
   rw[Int.tmod_eq_emod_of_nonneg (by omega),<- Int.natCast_emod]
  unfold zN;generalize a/b=q at*
  generalize a%b=r at*
  refine aI Tryz.func170 rfl (by kernel_rfl) ?_;rw[Tryz.ntmps170];refine aC fun _ K=>?_;simp only[kd,bA,aa,ae];apply K
  refine aD (aJ ?_);refine aF [⟨2,_,_,_,hc⟩] [] fun _ K=>?_;simp(disch:=omega) only[kd,bA,aa];apply K
  refine aN rfl ?_;refine aC fun _ K=>?_;simp(disch:=omega) only[kd,aa];apply K
  refine aS rfl ?_;refine aF [⟨1,_,_,_,h1⟩,⟨3,_,_,_,h2⟩] [] fun _ K=>?_;simp only[kd,bA,aa,af];apply K
  refine bo aW [⟨3,_,_,_,h3⟩,⟨7,_,_,_,h4⟩] [] (by kernel_rfl) fun _ K=>?_;simp only[kd,bA,aa,ne_eq,hb0,not_false_eq_true,e1,e2,af];apply K
  (refine aH ⟨.inr rfl,aG rfl ?_ rfl⟩;simp(disch:=omega) only[kd,Tryz.results170])
 by_cases h1:(aQ b).length=1
 ·obtain⟨g0,b32⟩:=FI h1;have hcl:=FB (aQ a) (by omega) (by omega);have hw:=r7 (aQ a) b (aV _) hb b32 (by omega) (by omega);rw[aP]at hw;have hq:a/b<4294967296^(aQ a).length:=Nat.lt_of_le_of_lt (Nat.div_le_self _ _) (Ai a);have hr:a%b<b:=Nat.mod_lt _ hb;have ht:=dZ (bT (aQ a).length (a/b)) (by rw[bN];omega);rw[rt hq]at ht;have hf:=iN (a%b) (by omega);have hpl:=bN (aQ a).length (a/b);unfold zN;generalize a%b=r at*
  generalize bT (aQ a).length (a/b)=R at*
  generalize a/b=q at*
  have e1:IntKind.u64.wrap (r:Int)=(r:Int):=by rw[IntKind.wrap_u64];omega
  refine aI Tryz.func170 rfl (by kernel_rfl) ?_;rw[Tryz.ntmps170];refine aC fun _ K=>?_;simp only[kd,bA,aa,ae];apply K
  refine aD (aJ ?_);refine aF [⟨2,_,_,_,hc⟩] [] fun _ K=>?_;simp(disch:=omega) only[kd,bA,aa];apply K
  refine aN rfl ?_;refine aC fun _ K=>?_;simp(disch:=omega) only[kd,aa];apply K
  refine aN rfl ?_;refine aC fun _ K=>?_;simp(disch:=omega) only[kd,aa];apply K
  refine aS rfl ?_;refine aF [⟨1,_,_,_,hcl⟩] [] fun _ K=>?_;simp only[kd,bA,aa];apply K
  (refine s8 4 hw 41 0 [] [] (by simp[wk]) (by omega) (lV rfl) (dC _ _) (by simp[wk]) (by decide) fun K hK=>?_;simp(disch:=omega) only[kd,aa,am,g0];apply hK;refine⟨⟨rfl,rfl⟩,by simp,?_⟩;intro K hK;simp only[kd,aa,GW,cwD];apply hK)
  refine bf.weak ((bC 41 (cY rfl)).trans (aE (tm:=(j4 (bA R::jk::jk::jk::.raw (.int .u32 (r:Int))::j16 (j16 (j16 (j16 (j16 (j4 (j4 (j4 (jk::jk::jk::[]))))))))))) (l:=[]) trivial (by simp[wk,fD,eG,bi,Hm,fE,gT,List.take_of_length_le,hpl]))) ?_;refine aF [⟨1,_,_,_,ht⟩,⟨4,_,_,_,hf⟩] [] fun _ K=>?_;simp only[kd,bA,aa,e1,af];apply K
  (refine aH ⟨.inr rfl,aG rfl ?_ rfl⟩;simp(disch:=omega) only[kd,Tryz.results170])
 obtain⟨n,hn⟩: ∃n,(aQ b).length=n+2:=⟨(aQ b).length-2,by have:=fJ (n:=b);omega⟩;obtain⟨m,hm⟩: ∃m,(aQ a).length=n+2+m:=⟨(aQ a).length-(n+2),by have:=oX (show b<=a by omega);omega⟩;obtain⟨x,hx,hx0,hx32,hbl⟩:=A4 (n:=n+1) hn;have hz:=Qg x hx32;obtain⟨z1,z2,z3⟩:=L7 hx0 hx32;obtain⟨s,hsz⟩: ∃s,s=lz x:=⟨_,rfl⟩;rw[<- hsz]at hz z1 z2 z3;clear hsz;obtain⟨V1,V2⟩:=M2 hn hx ⟨z2,z3⟩ z1;have hp2:=Nat.two_pow_pos s;have hV:0<b*2^s:=Nat.mul_pos hb hp2;have iC:=pK (aQ b) s (aV _) z1 (by omega);have sl2:=pK (aQ a) s (aV _) z1 (by omega);rw[aP,hn]at iC;rw[aP,hm]at sl2;have ha':=Ai a;rw[hm]at ha';obtain⟨st1,st2⟩:=Gl (s:=s) ha' hbl;have hA:a*2^s<b*2^s*4294967296^(m+1):=by
  have h2:4294967296^(n+2+m)<=b*4294967296^(m+1):=by
   have e:4294967296^(n+2+m)=4294967296^(n+1)*4294967296^(m+1):=by rw[<- Nat.pow_add];congr 1;omega
   rw[e];exact Nat.mul_le_mul_right _ hbl
  rw[Nat.mul_right_comm];exact Nat.mul_lt_mul_of_pos_right (Nat.lt_of_lt_of_le ha' h2) hp2
 obtain⟨en1,en2⟩:=MK (a:=a) (b:=b) (s:=s);have e1:((n+2:Nat):Int)-1=((n+1:Nat):Int):=by omega
 have e2:((n+2+m:Nat):Int)-((n+2:Nat):Int)=(m:Int):=by omega
 have e3:(m:Int)+1=((m+1:Nat):Int):=by omega
 have tk:=Gd (x:=b*2^s) (show n+2<=n+2+1 by omega);have kdh:=fun k=>OP (A:=a*2^s) (k:=k) V1 V2
 have hQ: ∀k,k<=m+1->kW (a*2^s) (b*2^s) k<4294967296^(m+1):=fun k hk=>O5 hA hk
 have hend:a%b*2^s<4294967296^(n+2+m+1):=by
  have h3:a%b<b:=Nat.mod_lt _ hb;have h4:a%b*2^s<=b*2^s:=Nat.mul_le_mul_right _ (Nat.le_of_lt h3);have h5:4294967296^(n+2)<=4294967296^(n+2+m+1):=Nat.pow_le_pow_right (by omega) (by omega);omega
 have hmod:a%b<4294967296^(n+2+m+1):=Nat.lt_of_le_of_lt (Nat.le_mul_of_pos_right _ hp2) hend;have hrw:=fun k (hk:k<=m)=>JU (A:=a*2^s) (V:=b*2^s) (k:=k) (nb:=n+2) (na:=n+2+m) hV (Nat.le_of_lt V1) (by omega)
 have hrr:=fun k (hk:k<=m)=>ML (A:=a*2^s) (V:=b*2^s) (k:=k) (nb:=n+2) (na:=n+2+m) (by omega)
 have hqs:=fun k (hk:k<=m)=>Mu (A:=a*2^s) (V:=b*2^s) (k:=k) (m:=m+1) hV (by omega) (hQ _ (by omega))
 have hdiv:a/b<4294967296^(m+1):=by have:=hQ 0 (by omega);rwa[en2]at this
 have sr:=vR (bT (n+2+m+1) (a%b*2^s)) s (mP _ _) z1 (by rw[bN];omega) (by rw[bN];omega);rw[fQ hend,bN,Nat.mul_div_cancel _ hp2]at sr;have ht1:=dZ (bT (m+1) (a/b)) (by rw[bN];omega);rw[rt hdiv]at ht1;have ht2:=dZ (bT (n+2+m+1) (a%b)) (by rw[bN];omega);rw[rt hmod]at ht2;have hlV:=bN (n+2) (b*2^s);refine aI Tryz.func170 rfl (by kernel_rfl) ?_;rw[Tryz.ntmps170];refine aC fun _ K=>?_;simp only[kd,bA,aa,ae];apply K
 refine aD (jc (S:=⟨(bA (aQ a)::bA (aQ b)::j16 (j16 (j16 (j16 (j16 (j16 (j4 (jk::jk::[])))))))),Hm []⟩) (aJ ?_) ?_)
 ·refine aF [⟨2,_,_,_,hc⟩] [] fun _ K=>?_;simp(disch:=omega) only[kd,bA,aa];apply K
  refine aN rfl ?_;refine aC fun _ K=>?_;simp(disch:=omega) only[kd,aa];apply K
  refine aN rfl ?_;refine aC fun _ K=>?_;simp(disch:=omega) only[kd,aa];apply K
  refine bP rfl (fun h=>by simp at h<;>omega) (fun _=>aK (aE trivial ?_));simp[wk]
 refine aF [⟨6,_,_,_,hz⟩] [] fun _ K=>?_;simp(disch:=omega) only[kd,aa,bA,hn,e1,aO,hx];apply K
 refine aF [⟨2,_,_,_,iC⟩] [] fun _ K=>?_;simp(disch:=omega) only[kd,bA,aa,hn,ah,reduceCtorEq];apply K
 refine bf.weak ((bC 61 (cY rfl)).trans (aE (tm:=(bA (aQ a)::bA (aQ b)::j4 (jk::jk::jk::rN s::bA (bT (n+2) (b*2^s))::j16 (j16 (j16 (j16 (j16 (j4 (j4 (j4 (jk::[]))))))))))) (l:=[]) trivial (by simp[wk,fD,eG,bi,Hm,fE,gT,tk]))) ?_;generalize hvv:bT (n+2) (b*2^s)=vv at*
 refine aF [⟨2,_,_,_,sl2⟩] [] fun _ K=>?_;simp only[kd,bA,aa];apply K
 refine aC fun _ K=>?_;simp(disch:=omega) only[kd,aa,hm,hn,e2,aO,e3,lP,ab];apply K
 refine aD (aC fun _ K=>?_);simp(disch:=omega) only[kd,aa,hm,hn,e2,aO];apply K;generalize hAe:a*2^s=A at*
 generalize hVe:b*2^s=V at*
 refine aT (G:=jP (m+1)) (fun g=>⟨(jk::bA (aQ b)::jk::jk::.one (.sl 74 0 0 (m+1))::j4 (.raw (.int .i64 (s:Int))::bA vv::.one (.sl 67 0 0 (n+2+m+1))::.raw (.int .i64 ((g.i:Int)-1))::j16 (j16 (j16 (j16 (j16 (j4 (j4 (jk::jk::jk::[]))))))))),Hm [(67,[⟨79,1,lc fU (bT (n+2+m+1) (ff A V g.i))⟩]),(74,[⟨79,1,lc fU (bT (m+1) (kW A V g.i))⟩])]⟩) (fun g=>g.i) ⟨m+1,by omega⟩ ?_ ?_
 ·refine aE ⟨?_,?_,trivial⟩ ?_
  ·simp[st1,bi,Hm]
  ·simp[st2,bi,Hm,w7]
  simp[wk]
 rintro⟨i,hi⟩;simp only;by_cases h0:0<i
 ·obtain⟨k,rfl⟩: ∃k,i=k+1:=⟨i-1,by omega⟩;have hk:k<=m:=by omega
  have ek:((k+1:Nat):Int)-1=(k:Int):=by omega
  have ek2:(k:Int)+((n+2:Nat):Int)+1=((k+n+3:Nat):Int):=by omega
  have ek3:k+n+3-k=n+3:=by omega
  obtain⟨v1,v2,u2,u1,u0,K,nU,nV⟩:=kdh k;have w1:=hrw k hk;have w2:=hrr k hk;rw[show n+2+1=n+3 from rfl]at w1 w2;have w3:=hqs k hk;have gq:=fK (x:=kW A V (k+1)) (show k<m+1 by omega);have hds:=vQ (bT k (ff A V (k+1))) _ (bT (n+2+m-(k+(n+2))) (ff A V (k+1)/4294967296^(k+(n+2)+1))) _ k n v1 v2 u2 u1 u0 (bN _ _) K (by rw[<- w2,bN];omega);rw[nU,nV]at hds;rw[w1,<- w2]at hds;have qd:=pZ (A:=A) (k:=k) hV;have l1:=bN (m+1) (kW A V (k+1));have l2:=bN (n+2+m+1) (ff A V (k+1));obtain⟨R',hR'⟩: ∃R',R'=bT (n+2+m+1) (ff A V k):=⟨_,rfl⟩;obtain⟨Q',hQ'⟩: ∃Q',Q'=bT (m+1) (kW A V k):=⟨_,rfl⟩;rw[<- hR']at hds;rw[<- hQ']at w3;clear w1 w2 K nU nV;generalize ff A V (k+1)/4294967296^k/V=d at*
  generalize kW A V (k+1)/4294967296^k%4294967296=od at*
  generalize bT (m+1) (kW A V (k+1))=Q0 at*
  generalize bT (n+2+m+1) (ff A V (k+1))=R0 at*
  refine aD (aC fun _ K=>?_);simp(disch:=omega) only[kd,bA,ek];apply K;refine aS rfl (aK ?_);refine aD (aJ ?_)
  ((refine s7 11 hds 67 0 [] [] (by simp[wk]) (by omega) (lV rfl) (dC _ _) (by simp[wk]) (by decide) fun K hK=>?_);simp(disch:=omega) only[kd,aa,hn,aO,ek2,ab,ah,ek3];apply hK;refine⟨⟨rfl,rfl⟩,by simp,?_⟩;intro K hK;simp(disch:=omega) only[kd,aa,GW,cwD,ab,gq,dG,w3];apply hK)
  show bf _ _ _ _;refine aL fun _ K=>?_;simp(disch:=omega) only[kd,aa,aO];apply K
  refine⟨⟨k,by omega⟩,by simp only;omega,aE ⟨?_,?_,trivial⟩ ?_⟩
  ·simp[bi,Hm,hR']
  ·simp[bi,Hm,hQ']
  simp[wk]
 have hi0:i=0:=by omega
 subst hi0;rw[en1,en2];generalize bT (n+2+m+1) (a%b*2^s)=R0 at*
 unfold zN;have l1:=bN (m+1) (a/b);have l2:=bN (n+2+m+1) (a%b);generalize bT (n+2+m+1) (a%b)=R1 at*
 generalize bT (m+1) (a/b)=Q1 at*
 generalize a/b=q at*
 generalize a%b=r at*
 refine aD (aC fun _ K=>?_);simp(disch:=omega) only[kd,bA];apply K;refine aN rfl (bE ?_);show bf _ _ _ _
 (refine s8 2 sr 67 0 [] [] (by simp[wk]) (by omega) (lV rfl) (dC _ _) (by simp[wk]) (by decide) fun K hK=>?_;simp only[kd];apply hK;refine⟨⟨rfl,rfl⟩,by simp,?_⟩;intro K hK;simp only[kd,aa,GW,cwD,ab];apply hK)
 refine bf.weak ((bC 67 (cY rfl)).trans ((bC 74 (cY rfl)).trans (aE (tm:=(j4 (bA Q1::j4 (jk::jk::bA R1::j16 (j16 (j16 (j16 (j16 (j4 (j4 (j4 ([])))))))))))) (l:=[]) trivial (by simp[wk,fD,eG,bi,Hm,fE,gT,List.take_of_length_le,l1,l2])))) ?_;refine aF [⟨1,_,_,_,ht1⟩,⟨3,_,_,_,ht2⟩] [] fun _ K=>?_;simp only[kd,bA,aa,af];apply K
 (refine aH ⟨.inr rfl,aG rfl ?_ rfl⟩;simp(disch:=omega) only[kd,Tryz.results170])
theorem OI {a b:Int} (hb:b≠0) (ha:0<=a):a/b=f6 (decide (b<0)) (a.natAbs/b.natAbs)/\a%b=f6 false (a.natAbs%b.natAbs):=by
 have e1:tr a b=f6 false (a.natAbs%b.natAbs):=by unfold tr;rw[decide_eq_false (by omega)]
 have e2:tq a b=f6 (decide (b<0)) (a.natAbs/b.natAbs):=by unfold tq;rw[decide_eq_false (show ¬a<0 by omega)];by_cases h:b<0<;>simp[h]
 rw[<- e1,<- e2];exact BM hb (by rw[e1];unfold f6;simp;omega)
theorem LQ {a b:Int} (hb:b≠0) (ha:a<0) (h:a.natAbs%b.natAbs=0):a/b=f6 (!decide (b<0)) (a.natAbs/b.natAbs)/\a%b=f6 false (a.natAbs%b.natAbs):=by
 have e1:tr a b=f6 false (a.natAbs%b.natAbs):=by unfold tr;rw[h];unfold f6;simp
 have e2:tq a b=f6 (!decide (b<0)) (a.natAbs/b.natAbs):=by unfold tq;rw[decide_eq_true ha];by_cases h:b<0<;>simp[h]
 rw[<- e1,<- e2];exact BM hb (by rw[e1,h];unfold f6;simp)
theorem OG {a b:Int} (hb:b≠0) (ha:a<0) (h:a.natAbs%b.natAbs≠0):a/b=f6 (!decide (b<0)) (a.natAbs/b.natAbs+1)/\a%b=f6 false (b.natAbs-a.natAbs%b.natAbs):=by
 have e1:tr a b= -((a.natAbs%b.natAbs:Nat):Int):=by unfold tr;rw[decide_eq_true ha];rfl
 have hlt:a.natAbs%b.natAbs<b.natAbs:=Nat.mod_lt _ (by omega);by_cases hbn:b<0
 ·obtain⟨p1,p2⟩:=DT (a:=a) hbn (by rw[e1];omega);have e2:tq a b=((a.natAbs/b.natAbs:Nat):Int):=by unfold tq;rw[decide_eq_true ha,decide_eq_true hbn];rfl
  rw[p1,p2,e1,e2,decide_eq_true hbn];generalize a.natAbs/b.natAbs=q at*
  generalize a.natAbs%b.natAbs=r at*
  unfold f6;constructor<;>simp<;>omega
 obtain⟨p1,p2⟩:=DU (a:=a) (show 0<b by omega) (by rw[e1];omega);have e2:tq a b= -((a.natAbs/b.natAbs:Nat):Int):=by unfold tq;rw[decide_eq_true ha,decide_eq_false hbn];rfl
 rw[p1,p2,e1,e2,decide_eq_false hbn];generalize a.natAbs/b.natAbs=q at*
 generalize a.natAbs%b.natAbs=r at*
 unfold f6;constructor<;>simp<;>omega
def Bd (z:Int):Prop:=Sz z 268435456
theorem wI (a b:Int) (hb0:b≠0) (ha:Bd a) (hb:Bd b):CallC Tryz.prog 163 [tZ a,tZ b] ⟨[],.tup [(true,cZ (a/b)),(true,cZ (a%b)),(false,[.p (.raw (.bool true))])]⟩:=by
 have la:(aQ a.natAbs).length<=268435456:=jq ha;have lb:(aQ b.natAbs).length<=268435456:=jq hb;have t1:=dZ (aQ a.natAbs) (by omega);have t2:=dZ (aQ b.natAbs) (by omega);rw[fY]at t1 t2;have hl0:(aQ b.natAbs).length≠0:=fun h=>hb0 (by have:=fJ.1 h;omega)
 have hd:=FC a.natAbs b.natAbs (by omega) la lb;unfold zN at hd;have hr0:=fJ (n:=a.natAbs%b.natAbs);have hlt:a.natAbs%b.natAbs<b.natAbs:=Nat.mod_lt _ (by omega);have lq:=oX (show a.natAbs/b.natAbs<=a.natAbs from Nat.div_le_self _ _);have lr:=oX (Nat.le_of_lt hlt);by_cases han:a<0
 ·by_cases hr:a.natAbs%b.natAbs=0
  ·obtain⟨p1,p2⟩:=LQ hb0 han hr;have h8:=eE (!decide (b<0)) (a.natAbs/b.natAbs);have h9:=eE false (a.natAbs%b.natAbs);rw[<- p1]at h8;rw[<- p2]at h9;have hl:(aQ (a.natAbs%b.natAbs)).length=0:=hr0.2 hr;clear p1 p2;generalize a.natAbs/b.natAbs=q at*
   generalize a.natAbs%b.natAbs=r at*
   generalize a/b=Q at*
   generalize a%b=R at*
   refine aI Tryz.func163 rfl (by kernel_rfl) ?_;rw[Tryz.ntmps163];refine aC fun _ K=>?_;simp(disch:=omega) only[kd,aa,tZ,ae,ab];apply K
   refine aF [⟨2,_,_,_,t2⟩] [] fun _ K=>?_;simp(disch:=omega) only[kd,bA,aa,ab];apply K
   refine aD (aC fun _ K=>?_);simp(disch:=omega) only[kd,aa];apply K;refine aN rfl (aK ?_);show bf _ _ _ _;refine aF [⟨2,_,_,_,t1⟩,⟨4,_,_,_,hd⟩] [] fun _ K=>?_;simp(disch:=omega) only[kd,bA,aa,ab,af];apply K
   refine aC fun _ K=>?_;simp(disch:=omega) only[kd,aa,ab];apply K
   refine aD (aJ ?_);refine aD (aJ ?_);refine aD (aJ ?_);refine aD (aD (aC fun _ K=>?_));simp(disch:=omega) only[kd,aa,ab];apply K;refine aN rfl (aK ?_);show bf _ _ _ _;refine aC fun _ K=>?_;simp(disch:=omega) only[kd,aa,ab];apply K
   refine aS rfl (bE ?_);show bf _ _ _ _;refine aC fun _ K=>?_;simp only[kd,aa];apply K
   refine bE ?_;show bf _ _ _ _;refine aF [⟨2,_,_,_,h8⟩,⟨4,_,_,_,h9⟩] [] fun _ K=>?_;simp(disch:=omega) only[kd,bA,tZ,aa,af,ab];apply K
   (refine aH ⟨.inr rfl,aG rfl ?_ rfl⟩;simp(disch:=omega) only[kd,Tryz.results163,ab,aa,cZ])
  obtain⟨p1,p2⟩:=OG hb0 han hr;have h6:=wH (aQ (a.natAbs/b.natAbs)) [1] (aV _) (by intro x hx;simp at hx;omega) (by omega) (by simp);rw[aP,show natV [1]=1 from rfl,show bA [1]= .one (.p (.sl [[.raw (.int .u32 1)]]))from rfl]at h6;have h7:=qU (aQ b.natAbs) (aQ (a.natAbs%b.natAbs)) (aV _) (aV _) lr (by rw[aP,aP];omega) (by omega);rw[aP,aP]at h7;have h8:=eE (!decide (b<0)) (a.natAbs/b.natAbs+1);have h9:=eE false (b.natAbs-a.natAbs%b.natAbs);rw[<- p1]at h8;rw[<- p2]at h9;have hl:(aQ (a.natAbs%b.natAbs)).length≠0:=fun h=>hr (hr0.1 h)
  clear p1 p2;generalize b.natAbs-a.natAbs%b.natAbs=br at*
  generalize a.natAbs/b.natAbs=q at*
  generalize a.natAbs%b.natAbs=r at*
  generalize a/b=Q at*
  generalize a%b=R at*
  refine aI Tryz.func163 rfl (by kernel_rfl) ?_;rw[Tryz.ntmps163];refine aC fun _ K=>?_;simp(disch:=omega) only[kd,aa,tZ,ae,ab];apply K
  refine aF [⟨2,_,_,_,t2⟩] [] fun _ K=>?_;simp(disch:=omega) only[kd,bA,aa,ab];apply K
  refine aD (aC fun _ K=>?_);simp(disch:=omega) only[kd,aa];apply K;refine aN rfl (aK ?_);show bf _ _ _ _;refine aF [⟨2,_,_,_,t1⟩,⟨4,_,_,_,hd⟩] [] fun _ K=>?_;simp(disch:=omega) only[kd,bA,aa,ab,af];apply K
  refine aC fun _ K=>?_;simp(disch:=omega) only[kd,aa,ab];apply K
  refine aD (aJ ?_);refine aD (aJ ?_);refine aD (aJ ?_);refine aD (aD (aC fun _ K=>?_));simp(disch:=omega) only[kd,aa,ab];apply K;refine aS rfl (bE ?_);show bf _ _ _ _;refine aF [⟨2,_,_,_,h6⟩] [] fun _ K=>?_;simp(disch:=omega) only[kd,bA,aa,Nat.reduceMul,ah];apply K
  refine jx [⟨2,_,_,_,h7⟩] [] fun _ K=>?_;simp only[kd,bA,aa];apply K
  show bf _ _ _ _;refine aC fun _ K=>?_;simp only[kd,aa];apply K
  refine bE ?_;show bf _ _ _ _;refine aF [⟨2,_,_,_,h8⟩,⟨4,_,_,_,h9⟩] [] fun _ K=>?_;simp(disch:=omega) only[kd,bA,tZ,aa,af,ab];apply K
  (refine aH ⟨.inr rfl,aG rfl ?_ rfl⟩;simp(disch:=omega) only[kd,Tryz.results163,ab,aa,cZ])
 obtain⟨p1,p2⟩:=OI hb0 (show 0<=a by omega);have h8:=eE (decide (b<0)) (a.natAbs/b.natAbs);have h9:=eE false (a.natAbs%b.natAbs);rw[<- p1]at h8;rw[<- p2]at h9;clear p1 p2;generalize a.natAbs/b.natAbs=q at*
 generalize a.natAbs%b.natAbs=r at*
 generalize a/b=Q at*
 generalize a%b=R at*
 refine aI Tryz.func163 rfl (by kernel_rfl) ?_;rw[Tryz.ntmps163];refine aC fun _ K=>?_;simp(disch:=omega) only[kd,aa,tZ,ae,ab];apply K
 refine aF [⟨2,_,_,_,t2⟩] [] fun _ K=>?_;simp(disch:=omega) only[kd,bA,aa,ab];apply K
 refine aD (aC fun _ K=>?_);simp(disch:=omega) only[kd,aa];apply K;refine aN rfl (aK ?_);show bf _ _ _ _;refine aF [⟨2,_,_,_,t1⟩,⟨4,_,_,_,hd⟩] [] fun _ K=>?_;simp(disch:=omega) only[kd,bA,aa,ab,af];apply K
 refine aC fun _ K=>?_;simp(disch:=omega) only[kd,aa,ab];apply K
 refine aD (aJ ?_);refine aD (aJ ?_);refine aD (aJ ?_);refine aD (aD (aC fun _ K=>?_));simp(disch:=omega) only[kd,aa,ab];apply K;refine aN rfl (aK ?_);show bf _ _ _ _;refine aC fun _ K=>?_;simp(disch:=omega) only[kd,aa,ab];apply K
 refine aN rfl (aK ?_);refine bE ?_;show bf _ _ _ _;refine aF [⟨2,_,_,_,h8⟩,⟨4,_,_,_,h9⟩] [] fun _ K=>?_;simp(disch:=omega) only[kd,bA,tZ,aa,af,ab];apply K
 (refine aH ⟨.inr rfl,aG rfl ?_ rfl⟩;simp(disch:=omega) only[kd,Tryz.results163,ab,aa,cZ])
structure Rk (M:List (List Int)) where
 i:Nat
 hi:i<=M.length
 ok: ∀r∈M.take i,r.length=(M.headD []).length
theorem AU (M:List (List Int)):CallC Tryz.prog 112 [slI M] ⟨[],Pf M⟩:=by
 by_cases h1:M.length<1
 ·rw[fL (fun h=>by have:=h.1;omega)];refine aI Tryz.func112 rfl (by kernel_rfl) ?_;rw[Tryz.ntmps112];refine aC fun _ K=>?_;simp only[kd,aa,slI,ae];apply K
  refine aD (aC fun _ K=>?_);simp(disch:=omega) only[kd,aa,reduceCtorEq];apply K;refine aS rfl ?_;refine aC fun _ K=>?_;simp only[kd,aa];apply K
  (refine aH ⟨.inr rfl,aG rfl ?_ rfl⟩;simp(disch:=omega) only[kd,Tryz.results112])
 by_cases h2:16<M.length
 ·rw[fL (fun h=>by have:=h.2.1;omega)];refine aI Tryz.func112 rfl (by kernel_rfl) ?_;rw[Tryz.ntmps112];refine aC fun _ K=>?_;simp only[kd,aa,slI,ae];apply K
  refine aD (aC fun _ K=>?_);simp(disch:=omega) only[kd,aa];apply K;refine aS rfl ?_;refine aC fun _ K=>?_;simp only[kd,aa];apply K
  (refine aH ⟨.inr rfl,aG rfl ?_ rfl⟩;simp(disch:=omega) only[kd,Tryz.results112])
 have h0:=gh (M:=M) (by omega);have hmem0:M.headD []∈M:=au h0;by_cases c1:(M.headD []).length<1
 ·rw[fL (fun h=>by have:=(h.2.2 _ hmem0).1;omega)];refine aI Tryz.func112 rfl (by kernel_rfl) ?_;rw[Tryz.ntmps112];refine aC fun _ K=>?_;simp only[kd,aa,slI,ae];apply K
  refine aD (aC fun _ K=>?_);simp(disch:=omega) only[kd,aa];apply K;refine aN rfl (aK ?_);show bf _ _ _ _;refine aC fun _ K=>?_;simp(disch:=omega) only[kd,aa,am,h0,fR];apply K
  refine aD (aC fun _ K=>?_);simp(disch:=omega) only[kd,aa,reduceCtorEq];apply K;refine aS rfl ?_;refine aC fun _ K=>?_;simp only[kd,aa];apply K
  (refine aH ⟨.inr rfl,aG rfl ?_ rfl⟩;simp(disch:=omega) only[kd,Tryz.results112])
 by_cases c2:16<(M.headD []).length
 ·rw[fL (fun h=>by have:=(h.2.2 _ hmem0).2.1;omega)];refine aI Tryz.func112 rfl (by kernel_rfl) ?_;rw[Tryz.ntmps112];refine aC fun _ K=>?_;simp only[kd,aa,slI,ae];apply K
  refine aD (aC fun _ K=>?_);simp(disch:=omega) only[kd,aa];apply K;refine aN rfl (aK ?_);show bf _ _ _ _;refine aC fun _ K=>?_;simp(disch:=omega) only[kd,aa,am,h0,fR];apply K
  refine aD (aC fun _ K=>?_);simp(disch:=omega) only[kd,aa];apply K;refine aS rfl ?_;refine aC fun _ K=>?_;simp only[kd,aa];apply K
  (refine aH ⟨.inr rfl,aG rfl ?_ rfl⟩;simp(disch:=omega) only[kd,Tryz.results112])
 refine aI Tryz.func112 rfl (by kernel_rfl) ?_;rw[Tryz.ntmps112];refine aC fun _ K=>?_;simp only[kd,aa,slI,ae];apply K
 refine aD (aC fun _ K=>?_);simp(disch:=omega) only[kd,aa];apply K;refine aN rfl (aK ?_);show bf _ _ _ _;refine aC fun _ K=>?_;simp(disch:=omega) only[kd,aa,am,h0,fR];apply K
 refine aD (aC fun _ K=>?_);simp(disch:=omega) only[kd,aa];apply K;refine aN rfl (aK ?_);show bf _ _ _ _;refine aD (aC fun _ K=>?_);simp only[kd,aa];apply K;refine aT (G:=Rk M) (fun g=>⟨(slI M::j4 (.raw (.int .i64 ((M.headD []).length:Int))::j16 (j4 (slI M::rN M.length::rN g.i::j4 (j4 (jk::jk::jk::[])))))),Hm []⟩) (fun g=>M.length-g.i) ⟨0,by omega,fun r hr=>by simp at hr⟩ ?_ ?_
 ·refine aE trivial ?_;simp[wk]
 rintro⟨i,hi,ok⟩;simp only;by_cases hm:i<M.length
 ·obtain⟨r,hr⟩:=getElem?_of_lt hm;have hmem:r∈M:=au hr;refine aC fun _ K=>?_;simp(disch:=omega) only[kd,slI];apply K
  refine bu rfl ?_;refine aD (aJ ?_);refine aC fun _ K=>?_;simp(disch:=omega) only[kd,aa,hr,fR];apply K
  by_cases c3:r.length=(M.headD []).length
  ·refine aC fun _ K=>?_;simp(disch:=omega) only[kd,aa];apply K
   refine aN rfl (aK ?_);show bf _ _ _ _;refine aL fun _ K=>?_;simp(disch:=omega) only[kd,aO];apply K
   refine⟨⟨i+1,by omega,fun r' hr'=>?_⟩,by simp only;omega,aE trivial ?_⟩
   ·rw[List.take_add_one,hr]at hr';rcases List.mem_append.1 hr' with h|h
    ·exact ok r' h
    have:r'=r:=by simpa using h
    subst this;exact c3
   simp[wk]
  rw[fL (fun h=>by have:=(h.2.2 r hmem).2.2;omega)];refine aC fun _ K=>?_;simp(disch:=omega) only[kd,aa];apply K
  refine aS rfl ?_;refine aC fun _ K=>?_;simp only[kd,aa];apply K
  (refine aH ⟨.inr rfl,aG rfl ?_ rfl⟩;simp(disch:=omega) only[kd,Tryz.results112])
 have hsh:xz M:=⟨by omega,by omega,fun r hr=>by
  have:=ok r (by rw[List.take_of_length_le (by omega)];exact hr);exact⟨by omega,by omega,this⟩⟩
 rw[fW hsh];refine aC fun _ K=>?_;simp(disch:=omega) only[kd,slI];apply K
 refine bD rfl ?_;show bf _ _ _ _;refine aC fun _ K=>?_;simp only[kd,aa];apply K
 (refine aH ⟨.inr rfl,aG rfl ?_ rfl⟩;simp(disch:=omega) only[kd,Tryz.results112])
theorem vm (M:List (List Int)):CallC Tryz.prog 159 [slM M] ⟨[],Pf M⟩:=by
 by_cases h1:M.length<1
 ·rw[fL (fun h=>by have:=h.1;omega)];refine aI Tryz.func159 rfl (by kernel_rfl) ?_;rw[Tryz.ntmps159];refine aC fun _ K=>?_;simp only[kd,aa,slM,ae];apply K
  refine aD (aC fun _ K=>?_);simp(disch:=omega) only[kd,aa,reduceCtorEq];apply K;refine aS rfl ?_;refine aC fun _ K=>?_;simp only[kd,aa];apply K
  (refine aH ⟨.inr rfl,aG rfl ?_ rfl⟩;simp(disch:=omega) only[kd,Tryz.results159])
 by_cases h2:16<M.length
 ·rw[fL (fun h=>by have:=h.2.1;omega)];refine aI Tryz.func159 rfl (by kernel_rfl) ?_;rw[Tryz.ntmps159];refine aC fun _ K=>?_;simp only[kd,aa,slM,ae];apply K
  refine aD (aC fun _ K=>?_);simp(disch:=omega) only[kd,aa];apply K;refine aS rfl ?_;refine aC fun _ K=>?_;simp only[kd,aa];apply K
  (refine aH ⟨.inr rfl,aG rfl ?_ rfl⟩;simp(disch:=omega) only[kd,Tryz.results159])
 have h0:=gh (M:=M) (by omega);have hmem0:M.headD []∈M:=au h0;by_cases c1:(M.headD []).length<1
 ·rw[fL (fun h=>by have:=(h.2.2 _ hmem0).1;omega)];refine aI Tryz.func159 rfl (by kernel_rfl) ?_;rw[Tryz.ntmps159];refine aC fun _ K=>?_;simp only[kd,aa,slM,ae];apply K
  refine aD (aC fun _ K=>?_);simp(disch:=omega) only[kd,aa];apply K;refine aN rfl (aK ?_);show bf _ _ _ _;refine aC fun _ K=>?_;simp(disch:=omega) only[kd,aa,am,h0,fR];apply K
  refine aD (aC fun _ K=>?_);simp(disch:=omega) only[kd,aa,reduceCtorEq];apply K;refine aS rfl ?_;refine aC fun _ K=>?_;simp only[kd,aa];apply K
  (refine aH ⟨.inr rfl,aG rfl ?_ rfl⟩;simp(disch:=omega) only[kd,Tryz.results159])
 by_cases c2:16<(M.headD []).length
 ·rw[fL (fun h=>by have:=(h.2.2 _ hmem0).2.1;omega)];refine aI Tryz.func159 rfl (by kernel_rfl) ?_;rw[Tryz.ntmps159];refine aC fun _ K=>?_;simp only[kd,aa,slM,ae];apply K
  refine aD (aC fun _ K=>?_);simp(disch:=omega) only[kd,aa];apply K;refine aN rfl (aK ?_);show bf _ _ _ _;refine aC fun _ K=>?_;simp(disch:=omega) only[kd,aa,am,h0,fR];apply K
  refine aD (aC fun _ K=>?_);simp(disch:=omega) only[kd,aa];apply K;refine aS rfl ?_;refine aC fun _ K=>?_;simp only[kd,aa];apply K
  (refine aH ⟨.inr rfl,aG rfl ?_ rfl⟩;simp(disch:=omega) only[kd,Tryz.results159])
 refine aI Tryz.func159 rfl (by kernel_rfl) ?_;rw[Tryz.ntmps159];refine aC fun _ K=>?_;simp only[kd,aa,slM,ae];apply K
 refine aD (aC fun _ K=>?_);simp(disch:=omega) only[kd,aa];apply K;refine aN rfl (aK ?_);show bf _ _ _ _;refine aC fun _ K=>?_;simp(disch:=omega) only[kd,aa,am,h0,fR];apply K
 refine aD (aC fun _ K=>?_);simp(disch:=omega) only[kd,aa];apply K;refine aN rfl (aK ?_);show bf _ _ _ _;refine aD (aC fun _ K=>?_);simp only[kd,aa];apply K;refine aT (G:=Rk M) (fun g=>⟨(slM M::j4 (.raw (.int .i64 ((M.headD []).length:Int))::j16 (j4 (slM M::rN M.length::rN g.i::j4 (j4 (jk::jk::jk::[])))))),Hm []⟩) (fun g=>M.length-g.i) ⟨0,by omega,fun r hr=>by simp at hr⟩ ?_ ?_
 ·refine aE trivial ?_;simp[wk]
 rintro⟨i,hi,ok⟩;simp only;by_cases hm:i<M.length
 ·obtain⟨r,hr⟩:=getElem?_of_lt hm;have hmem:r∈M:=au hr;refine aC fun _ K=>?_;simp(disch:=omega) only[kd,slM];apply K
  refine bu rfl ?_;refine aD (aJ ?_);refine aC fun _ K=>?_;simp(disch:=omega) only[kd,aa,hr,fR];apply K
  by_cases c3:r.length=(M.headD []).length
  ·refine aC fun _ K=>?_;simp(disch:=omega) only[kd,aa];apply K
   refine aN rfl (aK ?_);show bf _ _ _ _;refine aL fun _ K=>?_;simp(disch:=omega) only[kd,aO];apply K
   refine⟨⟨i+1,by omega,fun r' hr'=>?_⟩,by simp only;omega,aE trivial ?_⟩
   ·rw[List.take_add_one,hr]at hr';rcases List.mem_append.1 hr' with h|h
    ·exact ok r' h
    have:r'=r:=by simpa using h
    subst this;exact c3
   simp[wk]
  rw[fL (fun h=>by have:=(h.2.2 r hmem).2.2;omega)];refine aC fun _ K=>?_;simp(disch:=omega) only[kd,aa];apply K
  refine aS rfl ?_;refine aC fun _ K=>?_;simp only[kd,aa];apply K
  (refine aH ⟨.inr rfl,aG rfl ?_ rfl⟩;simp(disch:=omega) only[kd,Tryz.results159])
 have hsh:xz M:=⟨by omega,by omega,fun r hr=>by
  have:=ok r (by rw[List.take_of_length_le (by omega)];exact hr);exact⟨by omega,by omega,this⟩⟩
 rw[fW hsh];refine aC fun _ K=>?_;simp(disch:=omega) only[kd,slM];apply K
 refine bD rfl ?_;show bf _ _ _ _;refine aC fun _ K=>?_;simp only[kd,aa];apply K
 (refine aH ⟨.inr rfl,aG rfl ?_ rfl⟩;simp(disch:=omega) only[kd,Tryz.results159])
theorem ON (a b:Int) (ha:Bg a) (hb:Bg b):CallC Tryz.prog 117 [tZ a,tZ b] ⟨[],.raw (.int .i64 (oy a b))⟩:=by
 have h1:=pL a ha;have h2:=pL b hb;have t1:=dZ (aQ a.natAbs) ha.len;have t2:=dZ (aQ b.natAbs) hb.len;rw[fY]at t1 t2;have h3:=oU (aQ a.natAbs) (aQ b.natAbs) (aV _) (aV _) (ce _) (ce _) ha.len hb.len;rw[aP,aP]at h3;have r1:=qk a;have r2:=qk b;have r3:=tD a.natAbs b.natAbs;have r4: -1<=sg a*f4 a.natAbs b.natAbs/\sg a*f4 a.natAbs b.natAbs<=1:=by
  have:sg a= -1\/sg a=0\/sg a=1:=by omega
  rcases this with h|h|h<;>rw[h]<;>omega
 by_cases hs:sg a=sg b
 ·rw[DG hs];refine aI Tryz.func117 rfl (by kernel_rfl) ?_;rw[Tryz.ntmps117];refine aC fun _ K=>?_;simp(disch:=omega) only[kd,aa,tZ,ae,ab];apply K
  refine bo aW [⟨1,_,_,_,h1⟩,⟨3,_,_,_,h2⟩] [] (by kernel_rfl) fun _ K=>?_;simp only[kd,tZ,aa,ab,af];apply K
  refine aD (aJ ?_);refine aC fun _ K=>?_;simp(disch:=omega) only[kd,aa];apply K
  refine aN rfl ?_;refine aC fun _ K=>?_;simp(disch:=omega) only[kd,aa];apply K
  refine aN rfl (aK ?_);show bf _ _ _ _;refine bo aW [⟨3,_,_,_,t1⟩,⟨6,_,_,_,t2⟩,⟨7,_,_,_,h3⟩] [] (by kernel_rfl) fun _ K=>?_;simp(disch:=omega) only[kd,bA,aa,ab,af,aO];apply K
  (refine aH ⟨.inr rfl,aG rfl ?_ rfl⟩;simp(disch:=omega) only[kd,Tryz.results117])
 rw[DH hs];refine aI Tryz.func117 rfl (by kernel_rfl) ?_;rw[Tryz.ntmps117];refine aC fun _ K=>?_;simp(disch:=omega) only[kd,aa,tZ,ae,ab];apply K
 refine bo aW [⟨1,_,_,_,h1⟩,⟨3,_,_,_,h2⟩] [] (by kernel_rfl) fun _ K=>?_;simp only[kd,tZ,aa,ab,af];apply K
 refine aD (aJ ?_);refine aC fun _ K=>?_;simp only[kd,aa];apply K
 by_cases hlt:sg a<sg b
 ·rw[if_pos hlt];refine bP rfl (fun _=>?_) (fun h=>by simp at h<;>omega);refine aC fun _ K=>?_;simp(disch:=omega) only[kd];apply K
  (refine aH ⟨.inr rfl,aG rfl ?_ rfl⟩;simp(disch:=omega) only[kd,Tryz.results117])
 rw[if_neg hlt];refine bP rfl (fun h=>by simp at h<;>omega) (fun _=>?_);refine aC fun _ K=>?_;simp(disch:=omega) only[kd,aa];apply K
 refine aS rfl ?_;refine aC fun _ K=>?_;simp only[kd];apply K
 (refine aH ⟨.inr rfl,aG rfl ?_ rfl⟩;simp(disch:=omega) only[kd,Tryz.results117])
theorem JA (n:Nat) (f:FF) (hn1:1<=n) (hn:n<=16):CallC Tryz.prog 143 [slM (mat n n f)] ⟨[],.tup [(false,[.p (.raw (.int .i64 (n:Int)))]),(false,[.p (.raw (.int .i64 (n:Int)))]),(false,[.p (.raw (.bool true))])]⟩:=by
 have hS:=vm (mat n n f);rw[fW (iy f hn1 hn hn1 hn),aU,fb f hn1]at hS;refine aI Tryz.func143 rfl (by kernel_rfl) ?_;rw[Tryz.ntmps143];refine aC fun _ K=>?_;simp only[kd,aa,slM,ae];apply K
 refine aF [⟨1,_,_,_,hS⟩] [] fun _ K=>?_;simp only[kd,slM,aa];apply K
 (refine aH ⟨.inr rfl,aG rfl ?_ rfl⟩;simp(disch:=omega) only[kd,Tryz.results143])
theorem w5 (n:Nat) (f:FF) (hn1:1<=n) (hn:n<=16):CallC Tryz.prog 116 [slM (mat n n f)] ⟨[],.tup [(false,[.p (.raw (.int .i64 (n:Int)))]),(false,[.p (.raw (.bool true))])]⟩:=by
 have hS:=JA n f hn1 hn;refine aI Tryz.func116 rfl (by kernel_rfl) ?_;rw[Tryz.ntmps116];refine aC fun _ K=>?_;simp only[kd,slM,ae];apply K
 refine aF [⟨1,_,_,_,hS⟩] [] fun _ K=>?_;simp only[kd,slM,aa];apply K
 refine aC fun _ K=>?_;simp(disch:=omega) only[kd,aa];apply K
 (refine aH ⟨.inr rfl,aG rfl ?_ rfl⟩;simp(disch:=omega) only[kd,Tryz.results116])
theorem LH (a b c d e:Int) (s:Nat) (hs:s<=67174400) (ha:Sz a s) (hb:Sz b s) (hc:Sz c s) (hd:Sz d s) (he:Sz e s) (he0:e≠0):
  CallC Tryz.prog 150 [tZ a,tZ b,tZ c,tZ d,tZ e] ⟨[],tZ ((a*d-b*c)/e)⟩:=by
 have s1:=ha.mul hd;have s2:=hb.mul hc;have s3:=s1.sub s2;have h1:=x7 a d (ha.mono (by omega)) (hd.mono (by omega));have h2:=x7 b c (hb.mono (by omega)) (hc.mono (by omega));have h3:=IH (a*d) (b*c) (s1.mono (by omega)) (s2.mono (by omega));have h4:=wI (a*d-b*c) e he0 (s3.mono (by omega)) (he.mono (by omega));refine aI Tryz.func150 rfl (by kernel_rfl) ?_;rw[Tryz.ntmps150];refine aC fun _ K=>?_;simp(disch:=omega) only[kd,aa,tZ,ae,ab];apply K
 refine bf.weak (aE (tm:=(j4 (jk::.one (.ptr 5 0 0 0)::.one (.ptr 6 0 0 0)::.one (.ptr 7 0 0 0)::.one (.ptr 8 0 0 0)::.one (.ptr 9 0 0 0)::.one (.ptr 10 0 0 0)::j16 (jk::[])))) (l:=[(5,qy a),(6,qy b),(7,qy c),(8,qy d),(9,qy e),(10,qL)]) ⟨rfl,rfl,rfl,rfl,rfl,rfl,trivial⟩ (by simp[wk])) ?_;refine bo aW [⟨2,_,_,_,h1⟩,⟨5,_,_,_,h2⟩,⟨6,_,_,_,h3⟩,⟨8,_,_,_,h4⟩] [] (by kernel_rfl) fun _ K=>?_;simp(disch:=omega) only[kd,tZ,cZ,aa,ab,af];apply K
 refine aC fun _ K=>?_;simp(disch:=omega) only[kd,ab,aa];apply K
 (refine aH ⟨.inr rfl,aG rfl ?_ rfl⟩;simp(disch:=omega) only[kd,Tryz.results150,ab,aa,tZ])
abbrev tz (M:List (List Int)):List PV:=[.sl (ls (fR fZ) M)]
theorem Pp {n:Nat} {f:FF} {i j:Nat} (hi:i<n) (hj:j<n) (hn:n<=16) (hf:Bg (f i j)):
  CallC Tryz.prog 147 [.raw (.int .i64 (i:Int)),.raw (.int .i64 (j:Int)),.one (.p (.ptr (tz (mat n n f))))] ⟨[],tZ (f i j)⟩:=by
 have hr:=bs n f hi;have hjr:=aR (f i) hj;have hS:=pJ (f i j) hf;refine aI Tryz.func147 rfl (by kernel_rfl) ?_;rw[Tryz.ntmps147];refine aC fun _ K=>?_;simp(disch:=omega) only[kd,aa,ae];apply K
 refine aF [⟨7,_,_,_,hS⟩] [] fun _ K=>?_;simp(disch:=omega) only[kd,tZ,aa,hr,fR,hjr,fZ];apply K
 (refine aH ⟨.inr rfl,aG rfl ?_ rfl⟩;simp(disch:=omega) only[kd,Tryz.results147,aa,tZ])
theorem Pq (b:Nat) {m:Nat} {g:FF} {last:Int} {i j:Nat} (hi:i+1<m) (hj:j+1<m) (hm:m<=16) (s:Nat) (hs:s<=67174400) (hg: ∀i j,i<m->j<m->Sz (g i j) s) (hl:Sz last s) (hl0:last≠0):
  CallT Tryz.prog b 42 149 [.raw (.int .i64 (i:Int)),.raw (.int .i64 (j:Int)),.one (.p (.ptr (tz (mat m m g)))),.raw (.pointer (some ⟨b,0,none⟩))] (fZ last)
   ⟨[],tZ ((g 0 0*g (i+1) (j+1)-g (i+1) 0*g 0 (j+1))/last)⟩ (fZ last):=by
 have r0:=bs m g (show 0<m by omega);have r1:=bs m g hi;have c00:=aR (g 0) (show 0<m by omega);have c0j:=aR (g 0) hj;have ci0:=aR (g (i+1)) (show 0<m by omega);have cij:=aR (g (i+1)) hj;have e1:((i:Int)+1).toNat=i+1:=by omega
 have e2:((j:Int)+1).toNat=j+1:=by omega
 have hC:=LH (g 0 0) (g (i+1) 0) (g 0 (j+1)) (g (i+1) (j+1)) last s hs (hg _ _ (by omega) (by omega)) (hg _ _ hi (by omega)) (hg _ _ (by omega) hj) (hg _ _ hi hj) hl hl0;refine mD Tryz.func149 rfl (by kernel_rfl) ?_;rw[Tryz.ntmps149];refine Hp 3 900 rfl rfl ?_;refine gB.weak (aE (tm:=(.raw (.int .i64 (i:Int))::rN j::.one (.p (.ptr (tz (mat m m g))))::.one (.ptr 900 0 0 0)::j16 (j16 (jk::[])))) (l:=[(900,qy last)]) ⟨rfl,trivial⟩ (by simp[wk,Hx,xM,ae])) ?_;refine aX (by kernel_rfl) fun _ K=>?_;simp(disch:=omega) only[kd,aa,ab];apply K
 refine we aW [⟨29,_,_,_,hC⟩] [] (by kernel_rfl) (by kernel_rfl) fun _ K=>?_;simp(disch:=omega) only[kd,tZ,aa,am,r0,fR,c00,fZ,aO,e1,r1,ci0,e2,c0j,cij,ab];apply K
 refine nC ⟨fZ last,rfl,rfl,.inr rfl,rfl,aG rfl ?_ rfl⟩;simp(disch:=omega) only[kd,Tryz.results149,un,kQ,ab,aa,tZ]
def elF (f:FF) (k:Nat):Nat->Nat->Int:=fun i j=>bk f k (k+i) (k+j)
abbrev Ip (n:Nat) (f:FF) (k:Nat):List (List Int):=mat (n-k) (n-k) (elF f k)
def Bk (n:Nat) (f:FF) (k:Nat):List (List (List Int)):=(List.range k).map (Ip n f)
theorem Km (n:Nat) (f:FF) (k:Nat):Bk n f k++[Ip n f k]=Bk n f (k+1):=by simp[Bk,List.range_succ]
theorem yN (n:Nat) (f:FF) (k:Nat):(Bk n f k).length=k:=by simp[Bk]
theorem Iq (n:Nat) (f:FF):mat n n f=Ip n f 0:=dR fun i j _ _=>by
 show f i j=bk f 0 (0+i) (0+j);rw[dF,Nat.zero_add,Nat.zero_add]
theorem tP {f:FF} {k:Nat} (hd: ∀t,t<k->dk f (t+1)≠0) (i j:Nat):
  (elF f k 0 0*elF f k (i+1) (j+1)-elF f k (i+1) 0*elF f k 0 (j+1))/dk f k=elF f (k+1) i j:=by
 have h0:dk f k≠0:=by
  cases k with
  |zero=>rw[dx];decide
  |succ k=>exact hd k (Nat.lt_succ_self k)
 have h:=sylv f k hd (k+1+i) (k+1+j);have e:elF f k 0 0*elF f k (i+1) (j+1)-elF f k (i+1) 0*elF f k 0 (j+1)=dk f k*elF f (k+1) i j:=by
  unfold elF;rw[Nat.add_zero,<- bY,show k+(i+1)=k+1+i by omega,show k+(j+1)=k+1+j by omega,h]
 rw[e,Int.mul_ediv_cancel_left _ h0]
theorem mG (f:FF) (k:Nat):elF f k 0 0=dk f (k+1):=by
 unfold elF;rw[Nat.add_zero,bY]
def fM (M:List (List Int)):List PV:=[.sl (ls (fR fZ) M)]
theorem IP (l:List (List (List Int))) (M:List (List Int)):lc fM l++[[.p (.sl (ls (fR fZ) M))]]=lc fM (l++[M]):=by simp[lc,fM]
def PI (n:Nat) (f:FF):Prop:= ∀t,t+1<n->dk f (t+1)≠0
open Classical in
noncomputable def Pr (n:Nat) (f:FF):TV:=if PI n f then .tup [(false,[.p (.sl (ls fM (Bk n f n)))]),(false,[.p (.raw (.bool true))])]else .tup [(false,[.p (.raw (.slice none 0 0))]),(false,[.p (.raw (.bool false))])]
theorem AZ {n:Nat} {f:FF} (h:PI n f):Pr n f= .tup [(false,[.p (.sl (ls fM (Bk n f n)))]),(false,[.p (.raw (.bool true))])]:=if_pos h
theorem EI {n:Nat} {f:FF} (h: ¬PI n f):Pr n f= .tup [(false,[.p (.raw (.slice none 0 0))]),(false,[.p (.raw (.bool false))])]:=if_neg h
structure RO (n:Nat) (f:FF) where
 k:Nat
 s:Nat
 hk:k<n
 nz: ∀t,t<k->dk f (t+1)≠0
 hs:s+1<=1025*2^k
 sz: ∀i j,i<n-k->j<n-k->Sz (elF f k i j) s
 sl:Sz (dk f k) s
theorem G9 (n:Nat) (f:FF) (hn1:1<=n) (hn:n<=16) (hf: ∀i j,i<n->j<n->Sz (f i j) 1024):CallC Tryz.prog 118 [slM (mat n n f)] ⟨[],Pr n f⟩:=by
 have hQ:=w5 n f hn1 hn;have h1:=uc 1 (by omega) (by omega);have hT:=Nb 147 (tz (mat n n f)) n n f hn1 hn hn1 hn (fun i j hi hj=>Pp hi hj hn ((hf i j hi hj).mono (by omega)));refine aI Tryz.func118 rfl (by kernel_rfl) ?_;rw[Tryz.ntmps118];refine aC fun _ K=>?_;simp(disch:=omega) only[kd,aa,slM,ae];apply K
 refine E3 ?_;refine aF [⟨1,_,_,_,hQ⟩] [] fun _ K=>?_;simp only[kd,slM,aa];apply K
 refine aD (aC fun _ K=>?_);simp only[kd];apply K;refine aN rfl (aK ?_);show bf _ _ _ _;refine bf.weak ((px 1 1 (cs:=tz (mat n n f)) rfl rfl).trans (aE (tm:=(jk::.one (.p (.ptr (tz (mat n n f))))::.raw (.slice none 0 0)::.raw (.bool false)::rN n::j16 (j16 (j16 (j4 (j4 (jk::[]))))))) (l:=[]) trivial (by simp[wk,fD,eG]))) ?_;refine aF [⟨3,_,_,_,hT⟩] [] fun _ K=>?_;simp only[kd,slM,aa,jU];apply K
 refine aF [⟨0,_,_,_,h1⟩] [] fun _ K=>?_;simp(disch:=omega) only[kd,tZ,aa];apply K
 refine aC fun _ K=>?_;simp only[kd];apply K
 refine aD (EY ?_);show bf _ _ _ _;refine aD (aC fun _ K=>?_);simp only[kd];apply K;refine aT (G:=RO n f) (fun g=>⟨(jk::jk::.raw (.slice none 0 0)::.raw (.bool false)::rN n::jk::slM (Ip n f g.k)::.one (.ptr 7 0 0 0)::.one (.sl 30 0 0 g.k)::j4 (j4 (j4 (jk::jk::rN n::rN g.k::j16 (j16 (j4 (jk::[]))))))),Hm [(7,qy (dk f g.k)),(30,[⟨46,1,lc fM (Bk n f g.k)⟩])]⟩) (fun g=>n-g.k) ⟨0,1024,by omega,fun t ht=>by omega,by omega,fun i j hi hj=>?_,?_⟩ ?_ ?_
 ·show Sz (bk f 0 (0+i) (0+j)) 1024;rw[dF,Nat.zero_add,Nat.zero_add];exact hf i j (by omega) (by omega)
 ·show Sz (dk f 0) 1024;rw[dx];exact l4 (by omega)
 ·refine(fp (k:=8) (d:=30) 46 1 (by omega) rfl rfl).trans (aE ⟨?_,rfl,trivial⟩ ?_)
  ·rw[dx];rfl
  simp[wk];exact congrArg _ (Iq n f).symm
 rintro⟨k,s,hk,nz,hs,sz,sl⟩;simp only;have h2k:=ip (k:=k) (by omega);have hsb:s<=67174400:=by omega
 have q1:=bs (n-k) (elF f k) (show 0<n-k by omega);have q2:=aR (elF f k 0) (show 0<n-k by omega);have hSg:=pL (elF f k 0 0) ((sz 0 0 (by omega) (by omega)).mono (by omega));have hsn:=Km n f k;have hln:=yN n f k;refine aC fun _ K=>?_;simp(disch:=omega) only[kd,slM];apply K
 refine bu rfl ?_;refine aD (aJ ?_);refine aC fun _ K=>?_;simp only[kd];apply K
 refine aC fun _ K=>?_;simp(disch:=omega) only[kd,aa,Nat.reduceMul,ah,ab,hln,IP,hsn,af];apply K
 refine aD (aJ ?_);by_cases hkn:k=n-1
 ·have hnz:PI n f:=fun t ht=>nz t (by omega)
  rw[AZ hnz];refine aC fun _ K=>?_;simp(disch:=omega) only[kd,aa,aO];apply K
  refine aS rfl (bE ?_);show bf _ _ _ _;have hk1:k+1=n:=by omega
  rw[hk1];have hlen:=yN n f n;refine aC fun _ K=>?_;simp only[kd,aa];apply K
  refine aH ⟨.inr rfl,kw 30 (cY rfl) ?_ rfl⟩;have eT:List.take n (Bk n f n)=Bk n f n:=List.take_of_length_le (by rw[hlen];exact Nat.le_refl _);simp(disch:=omega) only[kd,Tryz.results118,ab,eT]
 refine aC fun _ K=>?_;simp(disch:=omega) only[kd,aa,aO];apply K
 refine aN rfl ?_;by_cases hz:dk f (k+1)=0
 ·have hno: ¬PI n f:=fun h=>h k (by omega) hz
  rw[EI hno];rw[mG,hz]at hSg;refine aF [⟨5,_,_,_,hSg⟩] [] fun _ K=>?_;simp(disch:=omega) only[kd,tZ,sN,aa,am,q1,fR,q2,mG,hz,fZ];apply K
  refine aS rfl ?_;refine aC fun _ K=>?_;simp only[kd];apply K
  (refine aH ⟨.inr rfl,aG rfl ?_ rfl⟩;simp(disch:=omega) only[kd,Tryz.results118])
 have hs0:=EA hz;rw[mG]at hSg q2;refine aF [⟨5,_,_,_,hSg⟩] [] fun _ K=>?_;simp(disch:=omega) only[kd,tZ,aa,am,q1,fR,q2,fZ];apply K
 refine aN rfl (aK ?_);show bf _ _ _ _;refine aC fun _ K=>?_;simp(disch:=omega) only[kd,aa,ab];apply K
 refine bf.weak ((px 10 10 (cs:=tz (Ip n f k)) rfl rfl).trans (aE (tm:=(jk::jk::.raw (.slice none 0 0)::.raw (.bool false)::rN n::jk::jk::.one (.ptr 7 0 0 0)::.one (.sl 30 0 0 (k+1))::rN k::.one (.p (.ptr (tz (Ip n f k))))::j4 (j4 (j4 (.raw (.int .i64 (n:Int))::rN k::j16 (j16 (j4 (jk::[])))))))) (l:=[(7,qy (dk f k)),(30,[⟨46,1,lc fM (Bk n f (k+1))⟩])]) ⟨rfl,rfl,trivial⟩ (by simp[wk,fD,eG]))) ?_;refine aD (Br 7 (cs:=fZ (dk f k)) rfl fun b=>?_);refine fi.weak (aE (tm:=(jk::jk::.raw (.slice none 0 0)::.raw (.bool false)::rN n::jk::jk::dE b::.one (.sl 30 0 0 (k+1))::rN k::.one (.p (.ptr (tz (Ip n f k))))::j4 (j4 (j4 (.raw (.int .i64 (n:Int))::rN k::j16 (j16 (j4 (jk::[])))))))) (l:=[(30,[⟨46,1,lc fM (Bk n f (k+1))⟩])]) ⟨rfl,trivial⟩ (by simp[wk,un,kQ])) ?_;have hd0:dk f k≠0:=by
  cases k with
  |zero=>rw[dx];decide
  |succ k=>exact nz k (by omega)
 have hT2:=Nc 149 (tz (Ip n f k)) b 42 (fZ (dk f k)) (n-(k+1)) (n-(k+1)) (fun i j=>(elF f k 0 0*elF f k (i+1) (j+1)-elF f k (i+1) 0*elF f k 0 (j+1))/dk f k) (by omega) (by omega) (by omega) (by omega)
  (fun i j hi hj=>Pq b (by omega) (by omega) (by omega) s hsb sz sl hd0)
 rw[dR fun i j _ _=>tP (f:=f) (k:=k) nz i j]at hT2;have en:((n-(k+1):Nat):Int)=(n:Int)-(k:Int)-1:=by omega
 rw[en]at hT2;refine ig 9 hT2 [] [] (by kernel_rfl) (by rfl) (by rfl) fun _ K=>?_;simp(disch:=omega) only[kd,slM,aa,dE,aO,jU];apply K
 refine⟨rfl,?_⟩;show bf _ _ _ _;refine bf.weak (aE (tm:=(jk::jk::.raw (.slice none 0 0)::.raw (.bool false)::rN n::jk::slM (Ip n f (k+1))::.one (.ptr 7 0 0 0)::.one (.sl 30 0 0 (k+1))::jk::.one (.p (.ptr (tz (Ip n f k))))::j4 (j4 (j4 (.raw (.int .i64 (n:Int))::rN k::j16 (j16 (j4 (jk::[])))))))) (l:=[(7,qy (dk f k)),(30,[⟨46,1,lc fM (Bk n f (k+1))⟩])]) ⟨rfl,rfl,trivial⟩ (by simp[wk,Hx,xM])) ?_;refine aL fun _ K=>?_;simp(disch:=omega) only[kd,aa,slM,am,q1,fR,q2,fZ,ab];apply K
 show bf _ _ _ _;refine aL fun _ K=>?_;simp(disch:=omega) only[kd,aO];apply K
 have nz': ∀t,t<k+1->dk f (t+1)≠0:=fun t ht=>by
  by_cases e:t=k
  ·subst e;exact hz
  exact nz t (by omega)
 refine⟨⟨k+1,2*s+1,by omega,nz',by rw[Nat.pow_succ];omega,fun i j hi hj=>?_,?_⟩,by simp only;omega,aE ⟨rfl,rfl,trivial⟩ ?_⟩
 ·rw[<- tP nz];exact((((sz 0 0 (by omega) (by omega)).mul (sz (i+1) (j+1) (by omega) (by omega))).sub ((sz (i+1) 0 (by omega) (by omega)).mul (sz 0 (j+1) (by omega) (by omega)))).ediv _).mono (by omega)
 ·rw[<- mG];exact(sz 0 0 (by omega) (by omega)).mono (by omega)
 simp[wk]
abbrev oP (M:List (List Int)):AV:= .p (.ptr [.sl (ls (fR fI) M)])
theorem Qb {n c:Nat} {f:FF} {i j:Nat} (hi:i<n) (hj:j<c) (hc:c<=16) (hn:n<=16) (hf: -9223372036854775808<=f i j/\f i j<=9223372036854775807):
  CallC Tryz.prog 114 [.raw (.int .i64 (i:Int)),.raw (.int .i64 (j:Int)),.one (oP (mat n c f))] ⟨[],tZ (f i j)⟩:=by
 have hml:=aU n c f;have hr:=bs c f hi;have hjr:=aR (f i) hj;have hS:=uc (f i j) hf.1 hf.2;refine aI Tryz.func114 rfl (by kernel_rfl) ?_;rw[Tryz.ntmps114];refine aC fun _ K=>?_;simp(disch:=omega) only[kd,oP,aa,ae];apply K
 refine aF [⟨7,_,_,_,hS⟩] [] fun _ K=>?_;simp(disch:=omega) only[kd,tZ,aa,hr,fR,hjr];apply K
 (refine aH ⟨.inr rfl,aG rfl ?_ rfl⟩;simp(disch:=omega) only[kd,Tryz.results114,aa,tZ])
def Bj (d n c i:Nat) (g:FF):List OObj:=⟨84,1,fO d (ae i c)++ae (n-i) [.p (.sl [])]⟩::(mat i c g).map mn
theorem wv (d n c:Nat) (g:FF):([⟨84,1,ae n [.raw (.slice none 0 0)]⟩]:List OObj).map zO=Bj d n c 0 g:=by
 simp[Bj,mat,zO,fO,yV,y9]
theorem zF (d n c:Nat) (g:FF):Bj d n c n g=gK d n c g:=by
 simp[Bj]
theorem zG {d n c i:Nat} (g:FF) (hi:i<n) (hz: ∀b,b<c->g i b=0):
  ((⟨84,1,(fO d (ae i c)++ae (n-i) [AV.p (PV.sl [])]).set i [.sl d (i+1) 0 c]⟩::(mat i c g).map mn++[⟨42,2,ae c [.raw (.bool false),.raw (.slice none 0 0)]⟩]:List OObj)).map zO=Bj d n c (i+1) g:=by
 have e1:(fO d (ae i c)++ae (n-i) [AV.p (PV.sl [])]).set i [.sl d (i+1) 0 c]=fO d (ae (i+1) c)++ae (n-(i+1)) [AV.p (PV.sl [])]:=by
  rw[List.set_append_right _ _ (by simp[cq]),cq,List.length_replicate,Nat.sub_self,List.replicate_succ' (n:=i),ni,List.length_replicate,List.append_assoc]
  congr 1
  rw[show n-i=n-(i+1)+1 by omega,List.replicate_succ];rfl
 have e2:bz c (g i)=ae c 0:=by
  apply List.ext_getElem?;intro b;by_cases hb:b<c
  ·rw[aR _ hb,List.getElem?_replicate,if_pos hb,hz b hb]
  rw[aq (by rw[bv];omega),aq (by simp;omega)]
 have e3:mat (i+1) c g=mat i c g++[bz c (g i)]:=by simp[mat,List.range_succ]
 rw[e1];simp only[List.cons_append,List.map_cons,List.map_append,Bj,e3,List.map_map]
 congr 1
 ·simp[zO,NX,yV,y9]
 congr 1
 ·refine List.map_congr_left fun r _=>?_
  simp[zO,mn,Qs]
 simp[e2,zO,mn,lc,fZ,yV,y9,ci,ls]
theorem Dy {d n c i k:Nat} (h:k<i):(fO d (ae i c)++ae (n-i) [AV.p (PV.sl [])])[k]?=some [.sl d (k+1) 0 c]:=by
 rw[List.getElem?_append_left (by simp[cq];exact h),bK d c h]
theorem Dz {d n c i:Nat} (h:i<=n):(fO d (ae i c)++ae (n-i) [AV.p (PV.sl [])]).length=n:=by simp[cq];omega
theorem Lr (n c:Nat) (f:FF) (hn1:1<=n) (hn:n<=16) (hc1:1<=c) (hc:c<=16) (hf: ∀i j,i<n->j<c-> -9223372036854775808<=f i j/\f i j<=9223372036854775807):
  CallC Tryz.prog 113 [.raw (.int .i64 (n:Int)),.raw (.int .i64 (c:Int)),.fn 114 [oP (mat n c f)]] ⟨gK 0 n c f,.one (.sl 0 0 0 n)⟩:=by
 refine aI Tryz.func113 rfl (by kernel_rfl) ?_;rw[Tryz.ntmps113];refine aC fun _ K=>?_;simp only[kd,oP,aa,ae];apply K
 refine aC fun _ K=>?_;simp(disch:=omega) only[kd,aa];apply K
 refine aD (aC fun _ K=>?_);simp only[kd,aa];apply K;refine aT (G:=jP n) (fun g=>⟨(jk::rN c::.fn 114 [oP (mat n c f)]::j4 (.one (.sl 11 0 0 n)::j4 (jk::rN n::rN g.i::j16 (j4 (j4 (j4 ([]))))))),Hm [(11,Bj 11 n c g.i (part f g.i 0))]⟩) (fun g=>n-g.i) ⟨0,by omega⟩ ?_ ?_
 ·refine(eK 11).trans (aE ⟨wv 11 n c _,trivial⟩ ?_);simp[wk]
 rintro⟨i,hi⟩;simp only;by_cases hm:i<n
 ·have hg:=yW (d:=11) (c:=c) hm;refine aC fun _ K=>?_;simp(disch:=omega) only[kd,oP];apply K
  refine bu rfl ?_;refine aD (aJ ?_);refine aC fun _ K=>?_;simp only[kd];apply K
  simp only[Bj];refine aC fun _ K=>?_;simp(disch:=omega) only[kd,aa,ab,hg,ah,List.length_replicate,List.all_replicate,aU,af];apply K
  refine bf.weak ((eK 11).trans (aE (tm:=(jk::rN c::.fn 114 [oP (mat n c f)]::j4 (.one (.sl 11 0 0 n)::rN i::j4 (.raw (.int .i64 (n:Int))::rN i::j16 (j4 (j4 (j4 ([])))))))) (l:=[(11,Bj 11 n c (i+1) (part f i 0))]) ⟨zG (part f i 0) hm (fun b _=>by simp[part]),trivial⟩ (by simp[wk]))) ?_;have a1:=Dy (d:=11) (n:=n) (c:=c) (show i<i+1 by omega);have a2:=Dz (d:=11) (n:=n) (c:=c) (show i+1<=n by omega);have a3:=em (n:=i+1) c (part f i 0) (show i<i+1 by omega);simp only[Bj];refine aC fun _ K=>?_;simp(disch:=omega) only[kd,aa,oP,a1];apply K
  refine aT (G:=jP c) (fun g=>⟨(jk::rN c::.fn 114 [oP (mat n c f)]::j4 (.one (.sl 11 0 0 n)::rN i::j4 (.raw (.int .i64 (n:Int))::rN i::j4 (j4 (jk::jk::jk::rN c::rN g.i::j4 (j4 (j4 (jk::jk::jk::[])))))))),Hm [(11,Bj 11 n c (i+1) (part f i g.i))]⟩) (fun g=>c-g.i) ⟨0,by omega⟩ ?_ ?_
  ·refine aE ⟨rfl,trivial⟩ ?_;simp[wk]
  rintro⟨j,hj⟩;simp only;by_cases hm2:j<c
  ·have hS:=Qb (n:=n) (c:=c) (f:=f) hm hm2 hc hn (hf i j hm hm2);have g2:=em (n:=i+1) c (part f i j) (show i<i+1 by omega);have g3:=aR (part f i j i) hm2;refine aC fun _ K=>?_;simp(disch:=omega) only[kd,oP];apply K
   refine bu rfl ?_;refine aD (aJ ?_);refine aC fun _ K=>?_;simp only[kd];apply K
   simp only[Bj];refine d8 aW [⟨8,_,_,_,hS⟩] [] (by kernel_rfl) fun _ K=>?_;simp(disch:=omega) only[kd,oP,tZ,aa,a1,g2,fZ,g3,j7];apply K
   show bf _ _ _ _;refine aL fun _ K=>?_;simp(disch:=omega) only[kd,aO];apply K
   refine⟨⟨j+1,by omega⟩,by simp only;omega,aE ⟨?_,trivial⟩ ?_⟩
   ·show _::_=_::_;rw[cx fun a b _ _=>jt f i j a b]
   simp[wk]
  have hjc:j=c:=by omega
  subst hjc;refine aC fun _ K=>?_;simp(disch:=omega) only[kd,oP];apply K
  refine bD rfl ?_;show bf _ _ _ _;refine aL fun _ K=>?_;simp(disch:=omega) only[kd,aO];apply K
  refine⟨⟨i+1,by omega⟩,by simp only;omega,aE ⟨?_,trivial⟩ ?_⟩
  ·show _::_=_::_;rw[cx fun a b _ hb=>kU f i a b hb]
  simp[wk]
 have hin:i=n:=by omega
 subst hin;rw[zF];refine aC fun _ K=>?_;simp(disch:=omega) only[kd,oP];apply K
 refine bD rfl ?_;show bf _ _ _ _;refine aC fun _ K=>?_;simp only[kd];apply K
 refine aH ⟨.inr rfl,_,b8.refl _,?_⟩;refine⟨.one (.sl 11 0 0 i),11,?_,rfl,?_,rfl⟩
 ·simp(disch:=omega) only[kd,Tryz.results113]
 show gK 0 i c f=(gK 11 i c (part f i 0)).map (dj 0);rw[gu 11 0];show _::_=_::_;rw[cx fun a b ha _=>jG f a b ha]
end Go.Proofs.YtfgeomlagfomgaaGreatDoor
