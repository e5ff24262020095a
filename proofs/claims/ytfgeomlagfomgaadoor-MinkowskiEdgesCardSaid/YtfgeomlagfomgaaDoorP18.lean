/-
  Part 19 of a proof (walks and plain facts).
-/
import Derived.Test.YtfgeomlagfomgaaDoorP17
set_option linter.all false
set_option maxRecDepth 100000
set_option maxHeartbeats 64000000
open Nat renaming reduceAdd → aa
open Nat renaming reduceLeDiff → ah
namespace Go.Proofs.YtfgeomlagfomgaaDoor
open Go.RowKit
theorem kJ (f:FF):dk f 2=f 0 0*f 1 1-f 0 1*f 1 0:=by
 simp[dk,om,ce,i7];grind
theorem xP (h t:FF):dk (cngF 2 h t) 2=dk h 2*(dk t 2*dk t 2):=by
 rw[kJ,kJ,kJ];simp only[eh,BF,bu];grind
theorem B9 {h t u:FF} (hp:PD h 2) (mf:dw (cngF 2 h t) 2) (mg:dw (cngF 2 h u) 2) (ht:rF 2 t) (hu:rF 2 u) (dt:(dk t 2).natAbs=1) (du:(dk u 2).natAbs=1) {i j:Nat} (hi:i<2) (hj:j<2):cngF 2 h t i j=cngF 2 h u i j:=by
 have d0:=uA (by omega) hp mf mg ht hu (by omega) (by omega) (i:=0) (by omega);have d1:=uA (by omega) hp mf mg ht hu (by omega) (by omega) (i:=1) (by omega);have q: ∀v:Int,v.natAbs=1->v*v=1:=fun v hv=>by
  have:v=1\/v= -1:=by omega
  rcases this with e|e<;>rw[e]<;>rfl
 have e1:=xP h t;have e2:=xP h u;rw[q _ dt,kJ]at e1;rw[q _ du,kJ]at e2;have s1:=(hp.cng (t:=t) (by omega)).1 0 (by omega) 1 (by omega);have s2:=(hp.cng (t:=u) (by omega)).1 0 (by omega) 1 (by omega);have n1:=(mf.1 0 (by omega)).2;have n2:=(mg.1 0 (by omega)).2;rw[Nat.zero_add]at n1 n2;have off:cngF 2 h t 0 1=cngF 2 h u 0 1:=by
  rw[<- s1]at e1;rw[<- s2]at e2;rw[d0,d1]at e1;generalize cngF 2 h t 0 1=a at*
  generalize cngF 2 h u 0 1=b at*
  have hab:a*a=b*b:=by omega
  rcases Int.lt_or_le a b with hl|hl
  ·have:a*a<b*b:=by
    have h1:a*a<=a*b:=Int.mul_le_mul_of_nonneg_left (by omega) n1;have h2:a*b<b*b:=Int.mul_lt_mul_of_pos_right hl (by omega);omega
   omega
  rcases Int.lt_or_le b a with hl2|hl2
  ·have:b*b<a*a:=by
    have h1:b*b<=b*a:=Int.mul_le_mul_of_nonneg_left (by omega) n2;have h2:b*a<a*a:=Int.mul_lt_mul_of_pos_right hl2 (by omega);omega
   omega
  omega
 have ci:i=0\/i=1:=by omega
 have cj:j=0\/j=1:=by omega
 rcases ci with rfl|rfl<;>rcases cj with rfl|rfl
 ·exact d0
 ·exact off
 ·rw[<- s1,<- s2];exact off
 exact d1
/-! awake -/
abbrev vA:List (List Int):=[[2,-1],[-1,3]]
abbrev JI:List (List Int):=[[2,-1],[-1,2]]
abbrev I7:List (List Int):=[[2,1],[1,3]]
theorem GN:bD vA=true:=by decide+kernel
def IG:Nat->Nat->Int:=fun a b=>if a=b then(if a=0 then 1 else -1)else 0
theorem xF:vA=bL 2 2 (ent vA):=rfl
theorem D9:I7=bL 2 2 (cngF 2 (ent vA) IG):=by decide+kernel
theorem rS:dZ (ent vA) 2:=by
 have h:=(eK _).1 GN;rw[xF]at h;have:=((tj (by omega)).1 h).2.2;exact this
theorem Be:dw (cngF 2 (ent vA) IG) 2:=by
 refine⟨fun i hi=>?_,fun i hi=>?_⟩
 ·obtain rfl:i=0:=by omega
  decide
 rintro⟨c,h1,h2⟩
 match i,hi with
 |0,_=>
  obtain rfl:c=0:=by simpa using h1
  revert h2;decide
 |1,_=>
  have hc:c=0\/c=1\/c=2:=by omega
  rcases hc with rfl|rfl|rfl<;>revert h2<;>decide
theorem IH: ¬yK JI:=fun h=>by
 have:=(h.2.1 0 (by decide)).2
 revert this;decide
theorem Ea:rF 2 IG:=⟨fun v i=>if i=0 then v 0 else-v 1,fun v j hj=>by
 have:j=0\/j=1:=by omega
 rcases this with rfl|rfl
 ·simp[mV,bu,IG]
 simp[mV,bu,IG]⟩
theorem Ju {R:FF} (hR:RchB 2 (ent vA) idF R):bL 2 2 (dP 2 (ent vA) (tb (dP 2 (ent vA) R) R))=I7:=by
 have hr:=rS;have h1:InB2 2 (ent vA) 262144 idF:=InB2.one (by omega) (by omega) hr;obtain⟨e1,e2,e3⟩:=pD hR h1;have hm:=uC e2 e3;have one:k9 2 (trF idF):=k9.one.congr fun i j _ _=>by
  show(if j=i then(1:Int)else 0)=if i=j then 1 else 0
  by_cases e:i=j<;>simp[e,eq_comm]
 have hs:=Fz (g:=dP 2 (ent vA) R) (CE hR one);have hd:=(e1.sg (dP 2 (ent vA) R)).dt;rw[se]at hm⊢;rw[D9];exact ff fun i j hi hj=>B9 hr.pd hm Be hs.rinv Ea hd (by rw[kJ];decide) hi hj
theorem Eb:CallG Tryd.prog 0 63 5 [] iy ⟨[],.raw (.bool true)⟩:=by
 obtain⟨R,hR,_⟩:=uD (h:=ent vA) (n:=2) (by omega) (by omega) rS;have cR:=wI 2 (ent vA) R (by omega) (by omega) rS hR;have hTl:=aU 2 2 (trF (tb (dP 2 (ent vA) R) R));rw[Ju hR,<- xF]at cR;generalize bL 2 2 (trF (tb (dP 2 (ent vA) R) R))=T at*
 have hTi:(T.length:Int)=2:=by omega
 have cS:=HZ I7 I7;rw[decide_eq_true rfl]at cS;have cI:=fX JI false (by simp[IH]);simp only[bT,ls,fR,fI,List.map_cons,List.map_nil]at cR cS cI;refine eJ Tryd.func5 rfl (by kernel_rfl) ?_;rw[Tryd.ntmps5];refine aE fun _ K=>?_;simp only[kd,List.replicate];apply K
 refine dc [⟨3,_,_,_,cR,rfl⟩] [] [] fun _ K=>?_;simp(disch:=omega) only[kd,gN,JC,dW.a,aa,Nat.reduceMul,ah];apply K
 refine dc [⟨18,_,_,_,cI,rfl⟩] [⟨12,_,_,_,cS⟩] [] fun _ K=>?_;simp(disch:=omega) only[kd,gN,dW.a,aa,ls,fR,hTi,Nat.reduceMul,ah,Nat.reduceBEq];apply K
 (refine dQ ⟨.inr rfl,rfl,aI rfl ?_ rfl⟩;simp(disch:=omega) only[kd,gN,Tryd.results5])
/-! Congruence of the conditions. -/
theorem dw.congr {f g:FF} {n:Nat} (h: ∀i j,i<n->j<n->f i j=g i j) (hm:dw f n):dw g n:=by
 refine⟨fun i hi=>?_,fun i hi hv=>hm.2 i hi ?_⟩
 ·rw[<- h i i (by omega) (by omega),<- h (i+1) (i+1) hi hi,<- h i (i+1) (by omega) hi];exact hm.1 i hi
 obtain⟨c,h1,h2⟩:=hv;refine⟨c,h1,?_⟩;rw[h i i hi hi];have e:nrm n f (iA i c)=nrm n g (iA i c):=dK h (fun _ _=>rfl) (fun _ _=>rfl);rw[e];exact h2
theorem PD.congr {f g:FF} {n:Nat} (h: ∀i j,i<n->j<n->f i j=g i j) (hp:PD f n):PD g n:=by
 refine⟨fun i hi j hj=>?_,fun k hk=>?_⟩
 ·rw[<- h i j hi hj,<- h j i hj hi];exact hp.1 i hi j hj
 rw[<- gh (f:=f) fun i j hi hj=>h i j (by omega) (by omega)];exact hp.2 k hk
theorem uG {g:FF} {n:Nat} (hn1:1<=n) (hn:n<=4) (hb: ∀i j,i<n->j<n-> -1125899906842624<=g i j/\g i j<=1125899906842624) (hp:PD g n) (hm:dw g n):yK (bL n n g):=by
 have hl:=aU n n g;have he: ∀i j,i<n->j<n->g i j=ent (bL n n g) i j:=fun i j hi hj=>(nO g hi hj).symm
 refine⟨⟨by omega,fun q hq=>?_,by rw[hl];exact hp.congr he⟩,by rw[hl];exact hm.congr he⟩;rw[hl];obtain⟨i,hi,rfl⟩:=List.mem_map.1 hq;have hin:=List.mem_range.1 hi;refine⟨bA _ _,fun x hx=>?_⟩;obtain⟨j,hj,rfl⟩:=List.mem_map.1 hx;exact hb i j hin (List.mem_range.1 hj)
def DP (d:Int):Nat->Nat->Int:=fun i j=>if i=j then(if i=0 then 1 else d)else 0
theorem G5 {d:Int} (h:0<d):yK [[d]]↔d<=1125899906842624:=by
 refine⟨fun hr=>?_,fun h2=>?_⟩
 ·exact((hr.1.2.1 [d] (by simp)).2 d (by simp)).2
 rw[show[[d]]=bL 1 1 (fun _ _=>d)from rfl];refine uG (by omega) (by omega) (fun _ _ _ _=>by omega) ⟨fun _ _ _ _=>rfl,fun k hk=>?_⟩ ⟨fun i hi=>by omega,fun i hi=>?_⟩
 ·obtain rfl:k=0:=by omega
  simp[dk,om,ce,i7];omega
 obtain rfl:i=0:=by omega
 rintro⟨c,_,hl⟩;rw[ew (y:=eC 0) (fun i hi=>by obtain rfl:i=0:=(by omega);simp[iA,eC]),gu (by omega)]at hl;exact Int.lt_irrefl _ hl
theorem G6 {d:Int} (h:1<=d):yK [[1,0],[0,d]]↔d<=1125899906842624:=by
 refine⟨fun hr=>?_,fun h2=>?_⟩
 ·exact((hr.1.2.1 [0,d] (by simp)).2 d (by simp)).2
 rw[show[[1,0],[0,d]]=bL 2 2 (DP d)from rfl];refine uG (by omega) (by omega) (fun i j _ _=>by unfold DP;split<;>(try split)<;>omega) ⟨fun i _ j _=>?_,fun k hk=>?_⟩ ⟨fun i hi=>?_,fun i hi=>?_⟩
 ·unfold DP;by_cases e:i=j
  ·subst e;rfl
  rw[if_neg e,if_neg (Ne.symm e)]
 ·have hk2:k=0\/k=1:=by omega
  rcases hk2 with rfl|rfl
  ·simp[dk,om,ce,i7,DP]
  rw[kJ];simp[DP];omega
 ·obtain rfl:i=0:=by omega
  simp[DP];omega
 rintro⟨c,hc,hl⟩;have hi2:i=0\/i=1:=by omega
 rcases hi2 with rfl|rfl
 ·have hc0:c=0:=by simpa using hc
  subst hc0;simp[nrm,BF,bu,iA,DP]at hl
 have hx:nrm 2 (DP d) (iA 1 c)=dg c 0*dg c 0+d:=by
  simp[nrm,BF,bu,iA,DP]
 rw[hx]at hl;have:DP d 1 1=d:=rfl;have h0:0<=dg c 0*dg c 0:=by
  rcases Int.le_total 0 (dg c 0)with h|h
  ·exact Int.mul_nonneg h h
  exact Int.mul_nonneg_of_nonpos_of_nonpos h h
 omega
theorem IK: ¬yK [[-9223372036854775808]]:=fun hr=>by
 have:=((hr.1.2.1 [-9223372036854775808] (by simp)).2 _ (by simp:(-9223372036854775808:Int)∈[-9223372036854775808])).1;omega
theorem wE (m:Int) (d:Nat) (hm: -128<=m/\m<=127) (hd:d<=255):
  CallG Tryd.prog 0 63 3 [.raw (.int .i8 m),.raw (.int .u8 (d:Int))] iy ⟨[],.raw (.bool true)⟩:=by
 have cA:=Eb;have c3:=fX [[-9223372036854775808]] false (by simp[IK]);have e2:Int.tmod (d:Int) 2=((d%2:Nat):Int):=(Int.ofNat_tmod d 2).symm;obtain⟨e,he⟩: ∃e,e=Int.tmod m 3:=⟨_,rfl⟩;have he':Int.tmod m 3=e:=he.symm;have hb: -2<=e/\e<=2:=by rw[he];exact I0 m
 clear he;have eE:IntKind.i64.wrap e=e:=aS (by omega) (by omega);obtain⟨D,hD⟩: ∃D,D=1125899906842624+e:=⟨_,rfl⟩;have eD:IntKind.i64.wrap (1125899906842624+e)=D:=by rw[hD];exact aS (by omega) (by omega)
 obtain⟨b,hbl⟩: ∃b:Bool,b=decide (D<=1125899906842624):=⟨_,rfl⟩;have hbi:b=true↔D<=1125899906842624:=by rw[hbl];simp
 have hx:(b==decide (D<=1125899906842624))=true:=by rw[hbl];simp
 have c1:=fX [[D]] b (hbi.trans (G5 (by omega)).symm);have c2:=fX [[1,0],[0,D]] b (hbi.trans (G6 (by omega)).symm);clear hbl hbi hD;simp only[bT,ls,fR,fI,List.map_cons,List.map_nil]at c1 c2 c3;by_cases hp:d%2=1
 ·rw[hp]at e2;refine eJ Tryd.func3 rfl (by kernel_rfl) ?_;rw[Tryd.ntmps3];refine aE fun _ K=>?_;simp only[kd,aa,List.replicate];apply K
  refine aE fun _ K=>?_;simp(disch:=omega) only[kd,gN,aa,he',eE,eD];apply K
  refine aE fun _ K=>?_;simp(disch:=omega) only[kd,gN,aa,Nat.reduceMul,ah];apply K
  refine bj (aE fun _ K=>?_);simp(disch:=omega) only[kd,gN,aa,e2];apply K;refine ib rfl ?_;refine bY fun _ K=>?_;simp(disch:=omega) only[kd,gN,aa,Nat.reduceMul,ah];apply K
  show db _ _ _ _ _ _ _;refine dc [⟨1,_,_,_,c2,rfl⟩,⟨8,_,_,_,c3,rfl⟩,⟨12,_,_,_,cA,rfl⟩] [] [] fun _ K=>?_;simp(disch:=omega) only[kd,gN,dW.a,aa,hx,Nat.reduceMul,ah,Nat.reduceBEq];apply K
  (refine dQ ⟨.inr rfl,rfl,aI rfl ?_ rfl⟩;simp(disch:=omega) only[kd,gN,Tryd.results3])
 have hp0:d%2=0:=by omega
 rw[hp0]at e2;refine eJ Tryd.func3 rfl (by kernel_rfl) ?_;rw[Tryd.ntmps3];refine aE fun _ K=>?_;simp only[kd,aa,List.replicate];apply K
 refine aE fun _ K=>?_;simp(disch:=omega) only[kd,gN,aa,he',eE,eD];apply K
 refine aE fun _ K=>?_;simp(disch:=omega) only[kd,gN,aa,Nat.reduceMul,ah];apply K
 refine bj (aE fun _ K=>?_);simp(disch:=omega) only[kd,gN,aa,e2];apply K;refine f8 rfl (d5 ?_);show db _ _ _ _ _ _ _;refine dc [⟨1,_,_,_,c1,rfl⟩,⟨8,_,_,_,c3,rfl⟩,⟨12,_,_,_,cA,rfl⟩] [] [] fun _ K=>?_;simp(disch:=omega) only[kd,gN,dW.a,aa,hx,Nat.reduceMul,ah,Nat.reduceBEq];apply K
 (refine dQ ⟨.inr rfl,rfl,aI rfl ?_ rfl⟩;simp(disch:=omega) only[kd,gN,Tryd.results3])
end Go.Proofs.YtfgeomlagfomgaaDoor
