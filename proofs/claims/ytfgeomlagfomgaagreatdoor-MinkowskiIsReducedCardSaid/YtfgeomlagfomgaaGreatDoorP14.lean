/-
  Part 15 of a proof (walks and plain facts).
-/
import Derived.Test.YtfgeomlagfomgaaGreatDoorP13
set_option linter.all false
set_option maxRecDepth 100000
set_option maxHeartbeats 64000000
open Nat renaming reduceAdd → aa
open Go.Value renaming oneCell' → ab
open List renaming find?_cons → ac
open Go.Proofs.YtfgeomlagfomgaaGreatDoor.CallRes renaming plain → ae
open Nat renaming reduceEqDiff → af
open List renaming getElem?_cons_zero → ag
open List renaming getElem?_cons_succ → ah
open Nat renaming le_refl → ai
open List renaming replicate → aj
open Nat renaming reduceBEq → ak
open Int renaming reduceToNat → aw
open Nat renaming add_zero → az
open List renaming getElem?_map → aH
namespace Go.Proofs.YtfgeomlagfomgaaGreatDoor
open Go.RowKit
theorem jo (u:Nat) (hu:u<18446744073709551616):CallC Tryz.prog 142 [.raw (.int .u64 u)] ⟨[],de (bT u)⟩:=by
 have hlm:Lmb [u%4294967296,u/4294967296]:=by intro a ha;simp at ha;omega
 have ht:=gk [u%4294967296,u/4294967296] (by simp)
 rw[gy hlm,uV]at ht
 have e1:IntKind.u32.wrap (u:Int)=((u%4294967296:Nat):Int):=by rw[IntKind.wrap_u32];omega
 have e2:IntKind.u32.wrap ((u:Int).fdiv (2^(min (32:Int).toNat IntKind.u64.bits)))=((u/4294967296:Nat):Int):=by
  rw[IntKind.wrap_u32]
  show(Int.fdiv (u:Int) 4294967296)%4294967296=_
  rw[Int.fdiv_eq_ediv_of_nonneg _ (by omega)]
  omega
 simp only[aw]at e2
 refine bG Tryz.func142 rfl (by kernel_rfl) ?_;rw[Tryz.ntmps142]
 (refine aL [] fun K hK=>?_;simp(disch:=omega) only[kc,aM,aj,aN,ab];apply hK)
 (refine aL [⟨6,_,_,_,ht⟩] fun K hK=>?_;simp(disch:=omega) only[kc,de,Ba,fU,jX,bj.a,aM,aa,ct,aU,Tryz.underlying78,dI,e1,aO,aR,aX,aN,ab,aS,Int.reduceLE,aw,e2,cX,bU,bI,aV,ea,cg,gU,cellsOf,isPure,Nat.reduceMul,Nat.reduceLeDiff,List.contains_nil,lI,cQ,aY,ac,bO,cq,ae,bV,bW,bs,noRefTV,bf,bQ,bM];apply hK)
 (refine bC ⟨.inr rfl,bF rfl ?_ rfl⟩;simp(disch:=omega) only[cH,Tryz.results142,bH,ah,ag,de])
theorem qK (l:List Nat) (lm:Lmb l) (bl:l.length<=2):CallC Tryz.prog 161 [de l] ⟨[],.raw (.int .u64 (natV l:Nat))⟩:=by
 refine bG Tryz.func161 rfl (by kernel_rfl) ?_;rw[Tryz.ntmps161]
 (refine aL [] fun K hK=>?_;simp(disch:=omega) only[kc,aM,de,aj,aN,ab];apply hK)
 (refine aL [] fun K hK=>?_;simp(disch:=omega) only[kc,aM,aN,ab];apply hK)
 (refine aP (aL [] fun K hK=>?_);simp(disch:=omega) only[kc,aM,aa,be,aZ,aV,bE,aN,ab];apply hK)
 refine cC (G:=KY l) (fun g=>⟨[jk,jk,jk,.raw (.int .u64 (g.u:Int)),jk,jk,de l,.raw (.int .i64 (l.length:Int)),.raw (.int .i64 (g.i:Int)),jk,jk,jk,jk,jk,jk,jk,jk,jk,jk,jk,jk,jk],Hm []⟩) (fun g=>l.length-g.i) ⟨0,0,⟨by omega,by omega⟩,rfl⟩ ?_ ?_
 ·refine aT trivial ?_
  simp[di,b9,b8]
 rintro⟨i,u,hi,hu⟩
 simp only
 have hlt:=gK lm i
 rw[<- hu]at hlt
 by_cases hm:i<l.length
 ·obtain⟨a,ha⟩:=getElem?_of_lt hm
  have ha':=dY lm ha
  have hu2:=dq ha
  rw[<- hu]at hu2
  (refine aL [] fun K hK=>?_;simp(disch:=omega) only[kc,aM,de,Hm,aU,aO,aR,aX,aS,cw];apply hK)
  refine aP (bJ rfl (bi ?_))
  refine aP (bA ?_)
  (refine aL [] fun K hK=>?_;simp(disch:=omega) only[kc,aM,aa,aQ,aZ,aW,aV,ch,ha,fU,cg,packT,cW];apply hK)
  have hi2:i=0\/i=1:=by omega
  rcases hi2 with rfl|rfl
  ·have e1:IntKind.u64.wrap ((a:Int)*2^min (32*((0:Nat):Int)).toNat IntKind.u64.bits)=(a:Int):=by
    rw[IntKind.wrap_u64];show((a:Int)*1)%_=_;omega
   have hu0:u=0:=by simpa[natV] using hu
   have e2:=vX u a (by omega) (by omega)
   rw[hu0,Nat.zero_or,<- hu0]at e2
   ((refine bK [] [] (by simp) fun K hK=>?_);simp(disch:=omega) only[kc,aM,aa,ct,aU,Tryz.underlying79,dn,eG,aO,aR,aN,ab,aX,aS,cd,e1,cQ,e2];apply hK)
   show da _ _ _ _
   ((refine bK [] [] (by simp) fun K hK=>?_);simp(disch:=omega) only[kc,aM,aU,aO,aR,aX,aN,ab,aS,cd];apply hK)
   refine⟨⟨1,a,⟨by omega,by omega⟩,by rw[hu2,hu0];simp⟩,by simp only;omega,aT trivial ?_⟩
   simp[di,b9,b8]
  have e1:IntKind.u64.wrap ((a:Int)*2^min (32*((1:Nat):Int)).toNat IntKind.u64.bits)=((a*4294967296:Nat):Int):=by
   rw[IntKind.wrap_u64];show((a:Int)*4294967296)%_=_;omega
  simp only[Nat.pow_one]at hlt
  have e2:=vX u (a*4294967296) (by omega) (by omega)
  rw[show a*4294967296=a*2^32 from rfl,qN _ _ _ hlt,show a*2^32=a*4294967296 from rfl]at e2
  ((refine bK [] [] (by simp) fun K hK=>?_);simp(disch:=omega) only[kc,aM,aa,ct,aU,Tryz.underlying79,dn,eG,aO,aR,aN,ab,aX,aS,cd,e1,cQ,e2];apply hK)
  show da _ _ _ _
  ((refine bK [] [] (by simp) fun K hK=>?_);simp(disch:=omega) only[kc,aM,aU,aO,aR,aX,aN,ab,aS,cd];apply hK)
  refine⟨⟨2,a*4294967296+u,⟨by omega,by omega⟩,by rw[hu2];omega⟩,by simp only;omega,aT trivial ?_⟩
  simp[di,b9,b8]
 have hfin:u=natV l:=by rw[hu,List.take_of_length_le (by omega)]
 rw[<- hfin]
 (refine aL [] fun K hK=>?_;simp(disch:=omega) only[kc,aM,de,Hm,aU,aO,aR,aX,aS,cp];apply hK)
 refine aP (bL rfl (ck ?_))
 show da _ _ _ _
 (refine aL [] fun K hK=>?_;simp(disch:=omega) only[kc,aM];apply hK)
 (refine bC ⟨.inr rfl,bF rfl ?_ rfl⟩;simp(disch:=omega) only[cH,Tryz.results161,bH,ah,ag])
theorem xn (n:Int) (h1: -9223372036854775808<=n) (h2:n<=9223372036854775807):CallC Tryz.prog 115 [.raw (.int .i64 n)] ⟨[],tZ n⟩:=by
 have hf:=jo n.natAbs (by omega)
 by_cases hn:n<0
 ·have ht:=gD true n.natAbs
  have e1:IntKind.u64.wrap (0-IntKind.u64.wrap n)=((n.natAbs:Nat):Int):=by rw[IntKind.wrap_u64,IntKind.wrap_u64];omega
  rw[show iw true n.natAbs=n by unfold iw;simp;omega]at ht
  refine bG Tryz.func115 rfl (by kernel_rfl) ?_;rw[Tryz.ntmps115]
  (refine aL [] fun K hK=>?_;simp(disch:=omega) only[kc,aM,aj,cy,bU,bI,cx,ab,aa,cQ];apply hK)
  (refine aP (aL [] fun K hK=>?_);simp(disch:=omega) only[kc,aM,aU,aO,aR,aX,aN,ab,aS,cw];apply hK)
  refine bJ rfl ?_
  (refine aL [⟨3,_,_,_,hf⟩,⟨4,_,_,_,ht⟩] fun K hK=>?_;simp(disch:=omega) only[kc,de,tZ,cw,bj.a,aM,aa,ct,aU,Tryz.underlying2,dn,dM,fD,e1,aY,bU,bI,ac,bO,cq,ae,bV,bW,bs,noRefTV,bf,bQ,bM,ak,aN,ab,bo,ew,cU,bS,bD,cellsOf,ai,isPure,cQ,bu,bz,bx];apply hK)
  (refine bC ⟨.inr rfl,bF rfl ?_ rfl⟩;simp(disch:=omega) only[kc,cH,Tryz.results115,bH,bD,d4,packT,bS,cf,aa,ai,tZ,cw])
 have ht:=gD false n.natAbs
 have e1:IntKind.u64.wrap n=((n.natAbs:Nat):Int):=by rw[IntKind.wrap_u64];omega
 rw[show iw false n.natAbs=n by unfold iw;simp;omega]at ht
 refine bG Tryz.func115 rfl (by kernel_rfl) ?_;rw[Tryz.ntmps115]
 (refine aL [] fun K hK=>?_;simp(disch:=omega) only[kc,aM,aj,cy,bU,bI,cx,ab,aa,cQ];apply hK)
 (refine aP (aL [] fun K hK=>?_);simp(disch:=omega) only[kc,aM,aU,aO,aR,aX,aN,ab,aS,cp];apply hK)
 refine bL rfl (bi ?_)
 show da _ _ _ _
 (refine aL [⟨2,_,_,_,hf⟩,⟨3,_,_,_,ht⟩] fun K hK=>?_;simp(disch:=omega) only[kc,de,tZ,cp,bj.a,aM,aa,ct,aU,Tryz.underlying2,dn,e1,aY,bU,bI,ac,bO,cq,ae,bV,bW,bs,noRefTV,bf,bQ,bM,ak,aN,ab,bo,ew,cU,bS,bD,cellsOf,ai,isPure,cQ,bu,bz,bx];apply hK)
 (refine bC ⟨.inr rfl,bF rfl ?_ rfl⟩;simp(disch:=omega) only[kc,cH,Tryz.results115,bH,bD,d4,packT,bS,cf,aa,ai,tZ,cp])
theorem qJ (z:Int) (h:Bg z):CallC Tryz.prog 119 [tZ z] ⟨[],.raw (.int .i64 (sg z))⟩:=by
 have ht:=gk (bT z.natAbs) h.len
 rw[jh]at ht
 have hl:=gW (n:=z.natAbs)
 rcases Int.lt_trichotomy z 0 with hz|hz|hz
 ·have e:sg z= -1:=by simp[sg,hz]
  have hl':(bT z.natAbs).length≠0:=by omega
  rw[e]
  refine bG Tryz.func119 rfl (by kernel_rfl) ?_;rw[Tryz.ntmps119]
  (refine aL [] fun K hK=>?_;simp(disch:=omega) only[kc,aM,tZ,cw,aj,dP,bU,bI,cellsOf,isPure,aa,cQ,aN,ab];apply hK)
  refine aP (bA ?_)
  (refine aL [⟨2,_,_,_,ht⟩] fun K hK=>?_;simp(disch:=omega) only[kc,de,bj.a,aM,aa,bY,aZ,df,dU,bD,packT,dG,aY,bU,bI,ac,bO,cq,ae,bV,bW,bs,noRefTV,bf,bQ,bM,be,aV,bE,aU,aO,aR,aX,aN,ab,aS,cp];apply hK)
  refine bL rfl ?_
  (refine aL [] fun K hK=>?_;simp(disch:=omega) only[kc,aM,aa,bY,aZ,dv,eI,az,bD,packT,d6];apply hK)
  refine bJ rfl ?_
  (refine aL [] fun K hK=>?_;simp(disch:=omega) only[kc,aM,aN,ab];apply hK)
  (refine bC ⟨.inr rfl,bF rfl ?_ rfl⟩;simp(disch:=omega) only[cH,Tryz.results119,bH,ah,ag])
 ·subst hz
  rw[show sg 0=0 from rfl]
  rw[Int.natAbs_zero,ef]at ht
  rw[show tZ 0= .agg [.p (.raw (.bool false)),.p (.sl (ls fU []))]from by simp[tZ,ef]]
  refine bG Tryz.func119 rfl (by kernel_rfl) ?_;rw[Tryz.ntmps119]
  (refine aL [] fun K hK=>?_;simp(disch:=omega) only[kc,aM,jX,aj,dP,bU,bI,cellsOf,isPure,aa,cQ,aN,ab];apply hK)
  refine aP (bA ?_)
  (refine aL [⟨2,_,_,_,ht⟩] fun K hK=>?_;simp(disch:=omega) only[kc,de,jX,bj.a,aM,aa,bY,aZ,df,dU,bD,packT,dG,aY,bU,bI,ac,bO,cq,ae,bV,bW,bs,noRefTV,bf,bQ,bM,be,aV,aU,aO,aR,aX,aN,ab,aS,cw];apply hK)
  refine bJ rfl ?_
  (refine aL [] fun K hK=>?_;simp(disch:=omega) only[kc,aM,aN,ab];apply hK)
  (refine bC ⟨.inr rfl,bF rfl ?_ rfl⟩;simp(disch:=omega) only[cH,Tryz.results119,bH,ah,ag])
 have e:sg z=1:=by unfold sg;rw[if_neg (by omega),if_neg (by omega)]
 have hl':(bT z.natAbs).length≠0:=by omega
 rw[e]
 refine bG Tryz.func119 rfl (by kernel_rfl) ?_;rw[Tryz.ntmps119]
 (refine aL [] fun K hK=>?_;simp(disch:=omega) only[kc,aM,tZ,cp,aj,dP,bU,bI,cellsOf,isPure,aa,cQ,aN,ab];apply hK)
 refine aP (bA ?_)
 (refine aL [⟨2,_,_,_,ht⟩] fun K hK=>?_;simp(disch:=omega) only[kc,de,bj.a,aM,aa,bY,aZ,df,dU,bD,packT,dG,aY,bU,bI,ac,bO,cq,ae,bV,bW,bs,noRefTV,bf,bQ,bM,be,aV,bE,aU,aO,aR,aX,aN,ab,aS,cp];apply hK)
 refine bL rfl ?_
 (refine aL [] fun K hK=>?_;simp(disch:=omega) only[kc,aM,aa,bY,aZ,dv,eI,az,bD,packT,d6];apply hK)
 refine bL rfl (bi ?_)
 show da _ _ _ _
 (refine aL [] fun K hK=>?_;simp(disch:=omega) only[kc,aM,aN,ab];apply hK)
 (refine bC ⟨.inr rfl,bF rfl ?_ rfl⟩;simp(disch:=omega) only[cH,Tryz.results119,bH,ah,ag])
/-! Clone: a walk of the older kind, for it holds the slice against nil. -/
theorem rz (A:Option Addr) (c:Nat) (x:List Int) (w:World) (hx:RdI .u32 w A x) (hl:x.length*4<=140737488355328):
  Calls Tryz.prog 162 #[.slice A x.length c] w fun e w'=> ∃v,e= .returned v/\w'.ownsRow w.heap.size 79 1 v x.length (x.map (Value.int .u32))/\Ext w w':=by
 have hnil:=fun(w:World) (n c:Nat)=>Lib.run_eql_slice_nil (P:=Tryz.prog) w 40 79 A n c 0 0 Tryz.underlying40
 cases A with
 |none=>
  have hx0:x=[]:=by
   cases x with
   |nil=>rfl
   |cons a l=>obtain⟨_,_,h,_⟩:=hx (by simp);cases h
  subst hx0
  go_enter Tryz.func162,Tryz.ntmps162
  go_wp2_with fail
  go_ret
  exact⟨_,rfl,World.ownsRow_nil _ _ _ _,Ext.refl _⟩
 |some a=>
  go_enter Tryz.func162,Tryz.ntmps162
  go_wp2_with (at_builtin;refine qk _ rfl (.tmp 5) (.tmp 6) _ rfl w.heap.size 79 (.int .u32 0) 1 4 Tryz.underlying40 Tryz.inU32 rfl (by omega) _ 0 [] rfl (World.ownsRow_made w #[] 0 (ai _) (Nat.zero_le _) rfl) (some a) x.length c _ rfl (Rd.ext hx ((Ext.refl _).alloc _)) (by simp) vW (by simp only[maxLen];omega) (by omega) (by simp) ?_;intro v1 w1 hown1 hg1 _)
  go_ret
  exact⟨_,rfl,by simpa using hown1,Cz hg1 (World.ownsRow_made w #[] 0 (ai _) (Nat.zero_le _) rfl:World.ownsRow _ w.heap.size 79 1 _ 0 []) ((Ext.refl w).alloc _) (ai _)⟩
theorem Bs {X:Nat->Prop} {w:World} {l:List Nat} {v:Value} (h:ee X w (.sl (ls fU l)) v): ∃A c,v= .slice A l.length c/\l.length<=c/\RdI .u32 w A (l.map fun n:Nat=>(n:Int)):=by
 generalize hx:PV.sl (ls fU l)=x at h
 cases h with
 |raw v h=>cases hx
 |ptr b off cs f hX hb hc hr=>cases hx
 |nil a c=>
  injection hx with hx
  have hl:l=[]:=by simpa[ls] using hx
  subst hl
  exact⟨a,c,rfl,Nat.zero_le _,RdI.nil _ _ _⟩
 |sl b off es cap xs f hX hb hes hcap hm hc hr=>
  injection hx with hx
  subst hx
  rw[bE]at hcap hm
  refine⟨some ⟨b,off,none⟩,cap,by rw[bE],hcap,fun hne=>⟨b,off,rfl,fun i x hx=>?_⟩⟩
  rw[aH,aH]at hx
  obtain⟨z',hz',rfl⟩:=Option.map_eq_some_iff.1 hx
  obtain⟨z,hz,rfl⟩:=Option.map_eq_some_iff.1 hz'
  have h1:(ls fU l)[i]?=some (fU z):=by rw[ch,hz];rfl
  have he:es=1:=by rw[<- hes _ (List.mem_of_getElem? h1)];rfl
  subst he
  have h2:=hc i _ 0 _ h1 rfl
  have h3:=qT (hr i _ 0 _ h1 rfl)
  rw[h3,Nat.mul_one,az]at h2
  exact h2
theorem Fe {w':World} {k:Nat} {v:Value} {l:List Nat} {Y:Nat->Prop} (hY: ∀b,Y b->b<k) (hm:l.length<=9223372036854775807) (h:w'.ownsRow k 79 1 v l.length ((l.map fun n:Nat=>(n:Int)).map (Value.int .u32))):ee Y w' (.sl (ls fU l)) v:=by
 obtain⟨hl,h2⟩:=h
 rcases h2 with⟨hv,hn⟩|⟨g,cap,cur,hv,hg,hh,hnc,hm2,hs,ht⟩
 ·have:l=[]:=List.eq_nil_of_length_eq_zero (by omega)
  subst this
  rw[hv]
  exact ee.nil _ _
 rw[hv]
 have hcell: ∀(i:Nat) z,l[i]?=some z->cur[i]?=some (.int .u32 (z:Int)):=fun i z hz=>by
  have h3:((l.map fun n:Nat=>(n:Int)).map (Value.int .u32))[i]?=some (.int .u32 (z:Int)):=by rw[aH,aH,hz];rfl
  rw[<- ht,List.getElem?_take]at h3
  split at h3
  ·simpa using h3
  cases h3
 have:=ee.sl (X:=Y) (w:=w') g 0 1 cap (ls fU l) (fun i _=>(cur[i]?).getD undef) (fun h=>absurd (hY _ h) (by omega)) (Array.getElem?_eq_some_iff.1 hh).1 (fun e he=>by
  obtain⟨z,_,rfl⟩:=List.mem_map.1 he
  rfl) (by rw[bE];exact hnc) (by rw[bE];exact hm) (fun i e j x he hx=>by
  rw[ch]at he
  obtain⟨z,hz,rfl⟩:=Option.map_eq_some_iff.1 he
  cases j with
  |succ j=>simp[fU]at hx
  |zero=>
   rw[cell_of_row _ g _ cur _ _ hh,Nat.zero_add,Nat.mul_one,az,hcell i z hz];rfl) (fun i e j x he hx=>by
  rw[ch]at he
  obtain⟨z,hz,rfl⟩:=Option.map_eq_some_iff.1 he
  cases j with
  |succ j=>simp[fU]at hx
  |zero=>
   simp[fU]at hx
   subst hx
   simp only[hcell i z hz,Option.getD_some]
   exact ee.raw _ rfl)
 rw[bE]at this
 exact this
theorem xm (l:List Nat) (hl:l.length<=1073741824):CallC Tryz.prog 162 [de l] ⟨[],de l⟩:=by
 refine rt (by kernel_rfl) fun X w vs hX hvs ha=>?_
 obtain⟨v0,e0,r0⟩:=my ha (j:=0) rfl
 obtain⟨A,c,rfl,hc,hR⟩:=Bs r0
 obtain rfl:vs= #[.slice A l.length c]:=by
  apply Array.ext_getElem?
  intro j
  match j with
  |0=>exact e0
  |j+1=>rw[Array.getElem?_eq_none (by simp at hvs;omega)];rfl
 have hlen:(l.map fun n:Nat=>(n:Int)).length=l.length:=List.length_map _
 have:=rz A c (l.map fun n:Nat=>(n:Int)) w hR (by rw[hlen];omega)
 rw[hlen]at this
 refine this.mono fun e w' ⟨v,h1,h2,h3⟩=>⟨v,h1,fun ρ H Y hY=>Fe hY (by omega) h2,h3⟩
theorem vI (z:Int) (h:Bg z):CallC Tryz.prog 148 [tZ z] ⟨[],tZ z⟩:=by
 have ht:=gk (bT z.natAbs) h.len
 rw[jh]at ht
 have hc:=xm (bT z.natAbs) h.len
 have hb:=gD (decide (z<0)) z.natAbs
 rw[vT]at hb
 refine bG Tryz.func148 rfl (by kernel_rfl) ?_;rw[Tryz.ntmps148]
 (refine aL [] fun K hK=>?_;simp(disch:=omega) only[kc,aM,tZ,aj,dP,bU,bI,cellsOf,isPure,aa,cQ,cy,cx,ab,bD,af];apply hK)
 (refine cL cJ [⟨4,_,_,_,ht⟩,⟨5,_,_,_,hc⟩,⟨6,_,_,_,hb⟩] [] (by kernel_rfl) (by simp) fun K hK=>?_;simp(disch:=omega) only[kc,de,tZ,bj.a,aM,aa,bY,aZ,dv,eI,az,bD,af,packT,d6,df,dU,dG,aY,bU,bI,ac,bO,cq,ae,bV,bW,bs,noRefTV,bf,bQ,bM,ak,bo,ew,cU,bS,cellsOf,ai,isPure,cQ,bu,bz,bx];apply hK)
 (refine bC ⟨.inr rfl,bF rfl ?_ rfl⟩;simp(disch:=omega) only[kc,cH,Tryz.results148,bH,bD,af,d4,packT,bS,cf,aa,ai,tZ])
theorem ol (o:List Nat) (k v:Nat):(o++aj (k+1) 0).set o.length v=(o++[v])++aj k 0:=by
 rw[List.set_append_right _ _ (ai _),Nat.sub_self,List.replicate_succ,List.set_cons_zero,List.append_assoc];rfl
theorem p8 (o:List Nat) (k:Nat):(o++aj (k+1) 0)[o.length]?=some 0:=by
 rw[List.getElem?_append_right (ai _),Nat.sub_self,List.replicate_succ];rfl
theorem n5 (l m:List Nat) (ll:Lmb l) (lm:Lmb m) (cl:nN l) (cm:nN m) (bl:l.length<=1073741824) (bm:m.length<=1073741824):
  CallC Tryz.prog 144 [de l,de m] ⟨[],.raw (.int .i64 (ir (natV l) (natV m)))⟩:=by
 rcases Nat.lt_trichotomy l.length m.length with hlt|heq|hgt
 ·rw[m8 (jt ll cm hlt)]
  refine bG Tryz.func144 rfl (by kernel_rfl) ?_;rw[Tryz.ntmps144]
  (refine aL [] fun K hK=>?_;simp(disch:=omega) only[kc,aM,de,aa,aj,aN,ab];apply hK)
  refine aP (bA ?_)
  (refine aL [] fun K hK=>?_;simp(disch:=omega) only[kc,aM,aa,be,aZ,aV,bE,aU,aO,aR,aX,aS,cw];apply hK)
  refine bJ rfl ?_
  (refine aL [] fun K hK=>?_;simp(disch:=omega) only[kc,aM,aN,ab];apply hK)
  (refine bC ⟨.inr rfl,bF rfl ?_ rfl⟩;simp(disch:=omega) only[cH,Tryz.results144,bH,ah,ag])
 ·refine bG Tryz.func144 rfl (by kernel_rfl) ?_;rw[Tryz.ntmps144]
  (refine aL [] fun K hK=>?_;simp(disch:=omega) only[kc,aM,de,aa,aj,aN,ab];apply hK)
  refine aP (bA ?_)
  (refine aL [] fun K hK=>?_;simp(disch:=omega) only[kc,aM,aa,be,aZ,aV,bE,aU,aO,aR,aX,aS,cp];apply hK)
  refine bL rfl ?_
  (refine aL [] fun K hK=>?_;simp(disch:=omega) only[kc,aM,aa,be,aZ,aV,bE,aU,aO,aR,aX,aS,cp];apply hK)
  refine bL rfl (bi ?_)
  show da _ _ _ _
  (refine aP (aL [] fun K hK=>?_);simp(disch:=omega) only[kc,aM,aa,be,aZ,aV,bE,aU,aO,aR,aX,aN,ab,aS,cd];apply hK)
  refine cC (G:={k:Nat//k<=l.length/\l.drop k=m.drop k}) (fun k=>⟨[de l,de m,jk,jk,jk,.raw (.int .i64 ((k.1:Int)-1)),jk,jk,jk,jk,jk,jk,jk,jk,jk,jk,jk,jk,jk,jk,jk,jk,jk,jk,jk,jk,jk,jk,jk,jk,jk,jk,jk,jk,jk,jk,jk,jk,jk,jk,jk,jk,jk,jk,jk],Hm []⟩) (fun k=>k.1) ⟨l.length,ai _,by rw[List.drop_length,heq,List.drop_length]⟩ ?_ ?_
  ·refine aT trivial ?_
   simp[di,b9,b8]
  rintro⟨k,hk,hd⟩
  simp only
  by_cases h0:0<k
  ·obtain⟨a,ha⟩:=getElem?_of_lt (l:=l) (k:=k-1) (by omega)
   obtain⟨b,hb⟩:=getElem?_of_lt (l:=m) (k:=k-1) (by omega)
   have e1:((k:Int)-1).toNat=k-1:=by omega
   have hd':l.drop (k-1+1)=m.drop (k-1+1):=by rw[show k-1+1=k by omega];exact hd
   (refine aP (aL [] fun K hK=>?_);simp(disch:=omega) only[kc,aM,de,Hm,aU,aO,aR,aX,aN,ab,aS,cw];apply hK)
   refine bJ rfl (bi ?_)
   refine aP (bA ?_)
   refine bA ?_
   rcases Nat.lt_trichotomy a b with hab|hab|hab
   ·rw[m8 (l7 ll ha hb hd' hab)]
    (refine cL cJ [] [] (by kernel_rfl) (by simp) fun K hK=>?_;simp(disch:=omega) only[kc,aM,aa,aQ,aZ,aW,e1,aV,ch,ha,fU,cg,packT,cW,hb,aU,aO,aR,aX,aS,cw];apply hK)
    refine bJ rfl ?_
    (refine aL [] fun K hK=>?_;simp(disch:=omega) only[kc,aM,aN,ab];apply hK)
    (refine bC ⟨.inr rfl,bF rfl ?_ rfl⟩;simp(disch:=omega) only[cH,Tryz.results144,bH,ah,ag])
   ·subst hab
    (refine cL cJ [] [] (by kernel_rfl) (by simp) fun K hK=>?_;simp(disch:=omega) only[kc,aM,aa,aQ,aZ,aW,e1,aV,ch,ha,fU,cg,packT,cW,hb,aU,aO,aR,aX,aS,cp];apply hK)
    refine bL rfl ?_
    (refine cL cJ [] [] (by kernel_rfl) (by simp) fun K hK=>?_;simp(disch:=omega) only[kc,aM,aa,aQ,aZ,aW,e1,aV,ch,ha,fU,cg,packT,cW,hb,aU,aO,aR,aX,aS,cp];apply hK)
    refine bL rfl (bi ?_)
    show da _ _ _ _
    ((refine bK [] [] (by simp) fun K hK=>?_);simp(disch:=omega) only[kc,aM,aa,aU,aO,aR,aX,aN,ab,aS,cd];apply hK)
    refine⟨⟨k-1,by omega,ud ha hb hd'⟩,by simp only;omega,aT trivial ?_⟩
    have e2:((k-1:Nat):Int)=(k:Int)-1:=by omega
    simp[di,b9,b8,e2]
   rw[qI (l7 lm hb ha hd'.symm hab)]
   (refine cL cJ [] [] (by kernel_rfl) (by simp) fun K hK=>?_;simp(disch:=omega) only[kc,aM,aa,aQ,aZ,aW,e1,aV,ch,ha,fU,cg,packT,cW,hb,aU,aO,aR,aX,aS,cp];apply hK)
   refine bL rfl ?_
   (refine cL cJ [] [] (by kernel_rfl) (by simp) fun K hK=>?_;simp(disch:=omega) only[kc,aM,aa,aQ,aZ,aW,e1,aV,ch,ha,fU,cg,packT,cW,hb,aU,aO,aR,aX,aS,cw];apply hK)
   refine bJ rfl ?_
   (refine aL [] fun K hK=>?_;simp(disch:=omega) only[kc,aM,aN,ab];apply hK)
   (refine bC ⟨.inr rfl,bF rfl ?_ rfl⟩;simp(disch:=omega) only[cH,Tryz.results144,bH,ah,ag])
  have hk0:k=0:=by omega
  subst hk0
  have hlm:l=m:=by simpa using hd
  rw[show ir (natV l) (natV m)=0 by rw[hlm];simp[ir]]
  (refine aP (aL [] fun K hK=>?_);simp(disch:=omega) only[kc,aM,de,Hm,aU,aO,aR,aX,aN,ab,aS,cp];apply hK)
  refine bL rfl (ck ?_)
  show da _ _ _ _
  (refine aL [] fun K hK=>?_;simp(disch:=omega) only[kc,aM,aN,ab];apply hK)
  (refine bC ⟨.inr rfl,bF rfl ?_ rfl⟩;simp(disch:=omega) only[cH,Tryz.results144,bH,ah,ag])
 rw[qI (jt lm cl hgt)]
 refine bG Tryz.func144 rfl (by kernel_rfl) ?_;rw[Tryz.ntmps144]
 (refine aL [] fun K hK=>?_;simp(disch:=omega) only[kc,aM,de,aa,aj,aN,ab];apply hK)
 refine aP (bA ?_)
 (refine aL [] fun K hK=>?_;simp(disch:=omega) only[kc,aM,aa,be,aZ,aV,bE,aU,aO,aR,aX,aS,cp];apply hK)
 refine bL rfl ?_
 (refine aL [] fun K hK=>?_;simp(disch:=omega) only[kc,aM,aa,be,aZ,aV,bE,aU,aO,aR,aX,aS,cw];apply hK)
 refine bJ rfl ?_
 (refine aL [] fun K hK=>?_;simp(disch:=omega) only[kc,aM,aN,ab];apply hK)
 (refine bC ⟨.inr rfl,bF rfl ?_ rfl⟩;simp(disch:=omega) only[cH,Tryz.results144,bH,ah,ag])
structure LA (m n:List Nat) (e:Nat) where
 i:Nat
 o:List Nat
 c:Nat
 hi:i<=e
 hc:c<=1
 ho:o.length=i
 h:o++sumL (m.drop i) (n.drop i) c=sumL m n 0
structure LB (m n:List Nat) where
 j:Nat
 o:List Nat
 c:Nat
 hj:n.length+j<=m.length
 hc:c<=1
 ho:o.length=n.length+j
 h:o++sumL (m.drop (n.length+j)) [] c=sumL m n 0
theorem ug (m n:List Nat) (lm:Lmb m) (ln:Lmb n) (bm:m.length<=536870912) (bn:n.length<=536870912):
  CallC Tryz.prog 171 [de m,de n] ⟨[],de (bT (natV m+natV n))⟩:=by
 refine bG Tryz.func171 rfl (by kernel_rfl) ?_;rw[Tryz.ntmps171]
 (refine aL [] fun K hK=>?_;simp(disch:=omega) only[kc,aM,de,aa,aj,aN,ab];apply hK)
 obtain⟨p,q,hpq,hle⟩: ∃p q:List Nat,((p=m/\q=n/\ ¬m.length<n.length)\/(p=n/\q=m/\m.length<n.length))/\q.length<=p.length:=by
  by_cases h:m.length<n.length
  ·exact⟨n,m,.inr ⟨rfl,rfl,h⟩,by omega⟩
  exact⟨m,n,.inl ⟨rfl,rfl,h⟩,by omega⟩
 refine aP (oD (S:=⟨[de p,de q,jk,jk,jk,jk,jk,jk,jk,jk,jk,jk,jk,jk,jk,jk,jk,jk,jk,jk,jk,jk,jk,jk,jk,jk,jk,jk,jk,jk,jk,jk,jk,jk,jk,jk,jk,jk,jk,jk,jk,jk,jk,jk,jk,jk,jk,jk,jk,jk,jk,jk,jk,jk,jk,jk,jk,jk,jk,jk,jk,jk,jk,jk,jk,jk,jk,jk,jk,jk,jk,jk,jk,jk,jk,jk,jk,jk,jk,jk,jk,jk,jk],Hm []⟩) ?_ ?_)
 ·rcases hpq with⟨rfl,rfl,h⟩|⟨rfl,rfl,h⟩
  ·(refine aL [] fun K hK=>?_;simp(disch:=omega) only[kc,aM,aa,be,aZ,aV,bE,aU,aO,aR,aX,aS,cp];apply hK)
   refine iA rfl (fun h=>by simp at h<;>omega) (fun _=>bi (aT trivial ?_))
   simp[di,b9,b8]
  (refine aL [] fun K hK=>?_;simp(disch:=omega) only[kc,aM,aa,be,aZ,aV,bE,aU,aO,aR,aX,aS,cw];apply hK)
  refine bJ rfl ?_
  ((refine bK [] [] (by simp) fun K hK=>?_);simp(disch:=omega) only[kc,aM,aa];apply hK)
  refine aT trivial ?_
  simp[di,b9,b8]
 have hsum:natV m+natV n=natV p+natV q:=by rcases hpq with⟨rfl,rfl,_⟩|⟨rfl,rfl,_⟩<;>omega
 have lp:Lmb p:=by rcases hpq with⟨rfl,rfl,_⟩|⟨rfl,rfl,_⟩<;>assumption
 have lq:Lmb q:=by rcases hpq with⟨rfl,rfl,_⟩|⟨rfl,rfl,_⟩<;>assumption
 have bp:p.length<=536870912:=by rcases hpq with⟨rfl,rfl,_⟩|⟨rfl,rfl,_⟩<;>assumption
 rw[hsum]
 clear hsum hpq lm ln bm bn
 have ep:(p.length:Int)+1=((p.length+1:Nat):Int):=by omega
 (refine aL [] fun K hK=>?_;simp(disch:=omega) only[kc,aM,aa,de,Hm,be,aZ,aV,bE,aU,aO,aR,aX,aN,ab,aS,ep,cd,cY,bU,bI,ea,cg,gn,Int.natCast_nonneg,and_true,lY,cQ];apply hK)
 (refine aL [] fun K hK=>?_;simp(disch:=omega) only[kc,aM,aN,ab];apply hK)
 (refine aP (aL [] fun K hK=>?_);simp(disch:=omega) only[kc,aM,aa,be,aZ,aV,bE,aN,ab];apply hK)
 refine cC (G:=LA p q q.length) (fun g=>⟨[de p,de q,jk,jk,jk,.one (.sl 19 0 0 (p.length+1)),.raw (.int .u64 (g.c:Int)),jk,jk,jk,jk,jk,jk,jk,jk,jk,jk,jk,jk,jk,jk,.raw (.int .i64 (q.length:Int)),.raw (.int .i64 (g.i:Int)),jk,jk,jk,jk,jk,jk,jk,jk,jk,jk,jk,jk,jk,jk,jk,jk,jk,jk,jk,jk,jk,jk,jk,jk,jk,jk,jk,jk,jk,jk,jk,jk,jk,jk,jk,jk,jk,jk,jk,jk,jk,jk,jk,jk,jk,jk,jk,jk,jk,jk,jk,jk,jk,jk,jk,jk,jk,jk,jk,jk],Hm [(19,[⟨79,1,lc fU (g.o++aj (p.length+1-g.i) 0)⟩])]⟩) (fun g=>q.length-g.i) ⟨0,[],0,by omega,by omega,rfl,rfl⟩ ?_ ?_
 ·refine aT ⟨?_,trivial⟩ ?_
  ·simp[bD,Hm]
  simp[di,b9,b8]
 rintro⟨i,o,c,hi,hc,ho,h⟩
 simp only
 by_cases hm:i<q.length
 ·obtain⟨a,ha⟩:=getElem?_of_lt (show i<p.length by omega)
  obtain⟨b,hb⟩:=getElem?_of_lt hm
  have ha':=dY lp ha
  have hb':=dY lq hb
  have e1:IntKind.u32.wrap ((c:Int)+((a:Int)+(b:Int)))=(((c+a+b)%4294967296:Nat):Int):=by rw[<- q9];congr 1<;>omega
  have e2:Int.fdiv ((c:Int)+((a:Int)+(b:Int))) (2^(min 32 IntKind.u64.bits))=(((c+a+b)/4294967296:Nat):Int):=by rw[<- Du];congr 1<;>omega
  have hz:p.length+1-i=(p.length-i)+1:=by omega
  have hg:=p8 o (p.length-i)
  have hs:=ol o (p.length-i) ((c+a+b)%4294967296)
  rw[ho]at hg hs
  rw[hz]
  (refine aL [] fun K hK=>?_;simp(disch:=omega) only[kc,aM,de,Hm,aU,aO,aR,aX,aS,cw];apply hK)
  refine aP (bJ rfl (bi ?_))
  refine aP (bA ?_)
  (refine aL [] fun K hK=>?_;simp(disch:=omega) only[kc,aM];apply hK)
  (refine cL cJ [] [] (by kernel_rfl) (by simp) fun K hK=>?_;simp(disch:=omega) only[kc,aM,aa,aQ,aZ,aW,aV,ch,ha,fU,cg,packT,cW,ct,aU,Tryz.underlying79,dn,eG,hb,aO,aR,aX,aS];apply hK)
  (refine aL [] fun K hK=>?_;simp(disch:=omega) only[kc,aM,aa,ct,aU,Tryz.underlying78,dI,e1,aQ,aZ,aW,aV,cg,cQ,bo,ew,cU,dp,fU,hg,cellsOf,ai,isPure,bu,ff,hs,bz,bx];apply hK)
  ((refine bK [] [] (by simp) fun K hK=>?_);simp(disch:=omega) only[kc,aM,aa,aU,aO,aR,aX,aN,ab,aS,Int.reduceLE,aw,e2];apply hK)
  show da _ _ _ _
  ((refine bK [] [] (by simp) fun K hK=>?_);simp(disch:=omega) only[kc,aM,aU,aO,aR,aX,aN,ab,aS,cd];apply hK)
  refine⟨⟨i+1,o++[(c+a+b)%4294967296],(c+a+b)/4294967296,by omega,by omega,by simp[ho],?_⟩,by simp only;omega,aT ⟨?_,trivial⟩ ?_⟩
  ·rw[<- h,fY ha,fY hb,sumL,List.append_assoc];rfl
  ·show _=[(⟨_,_,lc fU ((o++[(c+a+b)%4294967296])++aj (p.length+1-(i+1)) 0)⟩:OObj)]
   rw[show p.length+1-(i+1)=p.length-i by omega];rfl
  simp[di,b9,b8]
 have hin:i=q.length:=by omega
 subst hin
 rw[fj (ai _)]at h
 (refine aL [] fun K hK=>?_;simp(disch:=omega) only[kc,aM,de,Hm,aU,aO,aR,aX,aS,cp];apply hK)
 refine aP (bL rfl (ck ?_))
 show da _ _ _ _
 have es:(p.length:Int)-(q.length:Int)=((p.length-q.length:Nat):Int):=by omega
 (refine aP (aL [] fun K hK=>?_);simp(disch:=omega) only[kc,aM,aa,be,aZ,aV,bE,aU,aO,aR,aX,aS,es,cd,aN,ab];apply hK)
 refine cC (G:=LB p q) (fun g=>⟨[de p,de q,jk,jk,jk,.one (.sl 19 0 0 (p.length+1)),.raw (.int .u64 (g.c:Int)),jk,jk,jk,jk,jk,jk,jk,jk,jk,jk,jk,jk,jk,jk,jk,jk,jk,jk,jk,jk,jk,jk,jk,jk,jk,jk,jk,jk,jk,jk,jk,jk,jk,jk,jk,jk,jk,jk,jk,jk,jk,jk,jk,.raw (.int .i64 ((p.length-q.length:Nat):Int)),.raw (.int .i64 (g.j:Int)),jk,jk,jk,jk,jk,jk,jk,jk,jk,jk,jk,jk,jk,jk,jk,jk,jk,jk,jk,jk,jk,jk,jk,jk,jk,jk,jk,jk,jk,jk,jk],Hm [(19,[⟨79,1,lc fU (g.o++aj (p.length+1-(q.length+g.j)) 0)⟩])]⟩) (fun g=>p.length-q.length-g.j) ⟨0,o,c,by omega,hc,ho,h⟩ ?_ ?_
 ·refine aT ⟨rfl,trivial⟩ ?_
  simp[di,b9,b8]
 clear h ho hc c o
 rintro⟨j,o,c,hj,hc,ho,h⟩
 simp only
 have eNj:(q.length:Int)+(j:Int)=((q.length+j:Nat):Int):=by omega
 by_cases hm2:j<p.length-q.length
 ·obtain⟨a,ha⟩:=getElem?_of_lt (show q.length+j<p.length by omega)
  have ha':=dY lp ha
  have e1:IntKind.u32.wrap ((c:Int)+(a:Int))=(((c+a)%4294967296:Nat):Int):=by rw[<- q9];congr 1<;>omega
  have e2:Int.fdiv ((c:Int)+(a:Int)) (2^(min 32 IntKind.u64.bits))=(((c+a)/4294967296:Nat):Int):=by rw[<- Du];congr 1<;>omega
  have hz:p.length+1-(q.length+j)=(p.length-(q.length+j))+1:=by omega
  have hg:=p8 o (p.length-(q.length+j))
  have hs:=ol o (p.length-(q.length+j)) ((c+a)%4294967296)
  rw[ho]at hg hs
  rw[hz]
  (refine aL [] fun K hK=>?_;simp(disch:=omega) only[kc,aM,de,Hm,aU,aO,aR,aX,aS,cw];apply hK)
  refine aP (bJ rfl (bi ?_))
  refine aP (bA ?_)
  (refine aL [] fun K hK=>?_;simp(disch:=omega) only[kc,aM];apply hK)
  (refine aL [] fun K hK=>?_;simp(disch:=omega) only[kc,aM,aa,be,aZ,aV,bE,aU,aO,aR,aX,aS,eNj,cd,aQ,aW,ch,ha,fU,cg,packT,cW,ct,Tryz.underlying79,dn,eG];apply hK)
  (refine aL [] fun K hK=>?_;simp(disch:=omega) only[kc,aM,aa,be,aZ,aV,bE,aU,aO,aR,aX,aS,eNj,cd,ct,Tryz.underlying78,dI,e1,aQ,aW,cg,cQ,bo,ew,cU,dp,fU,hg,cellsOf,ai,isPure,bu,ff,hs,bz,bx];apply hK)
  ((refine bK [] [] (by simp) fun K hK=>?_);simp(disch:=omega) only[kc,aM,aa,aU,aO,aR,aX,aN,ab,aS,Int.reduceLE,aw,e2];apply hK)
  show da _ _ _ _
  ((refine bK [] [] (by simp) fun K hK=>?_);simp(disch:=omega) only[kc,aM,aU,aO,aR,aX,aN,ab,aS,cd];apply hK)
  refine⟨⟨j+1,o++[(c+a)%4294967296],(c+a)/4294967296,by omega,by omega,by simp[ho];omega,?_⟩,by simp only;omega,aT ⟨?_,trivial⟩ ?_⟩
  ·rw[<- h,fY ha,sumL,List.append_assoc];rfl
  ·show _=[(⟨_,_,lc fU ((o++[(c+a)%4294967296])++aj (p.length+1-(q.length+(j+1))) 0)⟩:OObj)]
   rw[show p.length+1-(q.length+(j+1))=p.length-(q.length+j) by omega];rfl
  simp[di,b9,b8]
 have hje:q.length+j=p.length:=by omega
 rw[hje]at h ho
 rw[fj (ai _),sumL]at h
 have e1:IntKind.u32.wrap (c:Int)=(c:Int):=by rw[q9];omega
 have hz:p.length+1-(q.length+j)=0+1:=by omega
 have hg:=p8 o 0
 have hs:=ol o 0 c
 rw[ho]at hg hs
 rw[List.replicate_zero,List.append_nil,h]at hs
 have hsl:(sumL p q 0).length=p.length+1:=by rw[mX];omega
 have hlm:=mK p q 0 lp lq (by omega)
 have ht:=gk (sumL p q 0) (by omega)
 rw[gy hlm,lk,az]at ht
 rw[hz]
 generalize sumL p q 0=S at*
 (refine aL [] fun K hK=>?_;simp(disch:=omega) only[kc,aM,de,Hm,aU,aO,aR,aX,aS,cp];apply hK)
 refine aP (bL rfl (ck ?_))
 show da _ _ _ _
 (refine aL [] fun K hK=>?_;simp(disch:=omega) only[kc,aM,aa,be,aZ,aV,bE,ct,aU,Tryz.underlying78,dI,e1,aQ,aW,cg,cQ,bo,ew,cU,dp,fU,hg,cellsOf,ai,isPure,bu,ff,hs,bz,bx];apply hK)
 refine da.weak ((fp 19 (eE rfl)).trans (aT (tm:=[jk,jk,jk,jk,jk,de S,jk,jk,jk,jk,jk,jk,jk,jk,jk,jk,jk,jk,jk,jk,jk,jk,jk,jk,jk,jk,jk,jk,jk,jk,jk,jk,jk,jk,jk,jk,jk,jk,jk,jk,jk,jk,jk,jk,jk,jk,jk,jk,jk,jk,jk,jk,jk,jk,jk,jk,jk,jk,jk,jk,jk,jk,jk,jk,jk,jk,jk,jk,jk,jk,jk,jk,jk,jk,jk,jk,jk,jk,jk,jk,jk,jk,jk]) (l:=[]) trivial (by simp[di,b9,b8,gT,gh,bD,Hm,eB,eZ,List.take_of_length_le,hsl]))) ?_
 (refine aL [⟨1,_,_,_,ht⟩] fun K hK=>?_;simp(disch:=omega) only[kc,de,bj.a,aM,aa,Hm,aY,bU,bI,ac,bO,cq,ae,bV,bW,bs,noRefTV,bf,bQ,bM];apply hK)
 (refine bC ⟨.inr rfl,bF rfl ?_ rfl⟩;simp(disch:=omega) only[cH,Tryz.results171,bH,ah,ag,de])
theorem pO (m n:List Nat) (lm:Lmb m) (ln:Lmb n) (hl:n.length<=m.length) (hle:natV n<=natV m) (bm:m.length<=536870912):
  CallC Tryz.prog 172 [de m,de n] ⟨[],de (bT (natV m-natV n))⟩:=by
 refine bG Tryz.func172 rfl (by kernel_rfl) ?_;rw[Tryz.ntmps172]
 (refine aL [] fun K hK=>?_;simp(disch:=omega) only[kc,aM,de,aa,aj,aN,ab];apply hK)
 (refine aL [] fun K hK=>?_;simp(disch:=omega) only[kc,aM,aa,be,aZ,aV,bE,cY,bU,bI,ea,cg,gn,Int.natCast_nonneg,ab,and_true,lY,cQ];apply hK)
 (refine aL [] fun K hK=>?_;simp(disch:=omega) only[kc,aM,aN,ab];apply hK)
 (refine aP (aL [] fun K hK=>?_);simp(disch:=omega) only[kc,aM,aa,be,aZ,aV,bE,aN,ab];apply hK)
 refine cC (G:=KW m n) (fun g=>⟨[de m,de n,jk,jk,jk,.one (.sl 11 0 0 m.length),.raw (.int .u64 (g.c:Int)),jk,jk,jk,jk,jk,jk,.raw (.int .i64 (m.length:Int)),.raw (.int .i64 (g.i:Int)),jk,jk,jk,jk,jk,jk,jk,jk,jk,jk,jk,jk,jk,jk,jk,jk,jk,jk,jk,jk,jk,jk,jk,jk,jk,jk,jk,jk,jk,jk],Hm [(11,[⟨79,1,lc fU (g.o++aj (m.length-g.i) 0)⟩])]⟩) (fun g=>m.length-g.i) ⟨0,[],0,by omega,by omega,rfl,rfl⟩ ?_ ?_
 ·refine aT ⟨?_,trivial⟩ ?_
  ·simp[bD,Hm]
  simp[di,b9,b8]
 rintro⟨i,o,c,hi,hc,ho,h⟩
 simp only
 by_cases hm:i<m.length
 ·obtain⟨a,ha⟩:=getElem?_of_lt hm
  have ha':=dY lm ha
  have hz:m.length-i=(m.length-i-1)+1:=by omega
  have hg:=p8 o (m.length-i-1)
  rw[ho]at hg
  rw[hz]
  (refine aL [] fun K hK=>?_;simp(disch:=omega) only[kc,aM,de,Hm,aU,aO,aR,aX,aS,cw];apply hK)
  refine aP (bJ rfl (bi ?_))
  refine aP (bA ?_)
  (refine aL [] fun K hK=>?_;simp(disch:=omega) only[kc,aM];apply hK)
  (refine aL [] fun K hK=>?_;simp(disch:=omega) only[kc,aM,aa,aQ,aZ,aW,aV,ch,ha,fU,cg,packT,cW,ct,aU,Tryz.underlying79,dn,eG,aO,aR,aX,aS];apply hK)
  by_cases hn:i<n.length
  ·obtain⟨b,hb⟩:=getElem?_of_lt hn
   have hb':=dY ln hb
   have e1:IntKind.u32.wrap (IntKind.u64.wrap (IntKind.u64.wrap ((a:Int)-(c:Int))-(b:Int)))=(((a+8589934592-(c+b))%4294967296:Nat):Int):=by rw[IntKind.wrap_u32,IntKind.wrap_u64,IntKind.wrap_u64];omega
   have e2:Int.fdiv (IntKind.u64.wrap (IntKind.u64.wrap ((a:Int)-(c:Int))-(b:Int))) (2^(min 63 IntKind.u64.bits))=(((if a<c+b then 1 else 0):Nat):Int):=by
    rw[IntKind.wrap_u64,IntKind.wrap_u64]
    show Int.fdiv _ 9223372036854775808=_
    rw[Int.fdiv_eq_ediv_of_nonneg _ (by omega)]
    split<;>omega
   have hs:=ol o (m.length-i-1) ((a+8589934592-(c+b))%4294967296)
   rw[ho]at hs
   (refine aP (aL [] fun K hK=>?_);simp(disch:=omega) only[kc,aM,aa,be,aZ,aV,bE,aU,aO,aR,aX,aS,cw];apply hK)
   refine bJ rfl ?_
   ((refine bK [] [] (by simp) fun K hK=>?_);simp(disch:=omega) only[kc,aM,aa,aQ,aZ,aW,aV,ch,hb,fU,cg,packT,cW,ct,aU,Tryz.underlying79,dn,eG,aO,aR,aX,aS];apply hK)
   show da _ _ _ _
   (refine aL [] fun K hK=>?_;simp(disch:=omega) only[kc,aM,aa,ct,aU,Tryz.underlying78,dI,e1,aQ,aZ,aW,aV,cg,cQ,bo,ew,cU,dp,fU,hg,cellsOf,ai,isPure,bu,ff,hs,bz,bx];apply hK)
   ((refine bK [] [] (by simp) fun K hK=>?_);simp(disch:=omega) only[kc,aM,aa,aU,aO,aR,aX,aN,ab,aS,Int.reduceLE,aw,e2];apply hK)
   show da _ _ _ _
   ((refine bK [] [] (by simp) fun K hK=>?_);simp(disch:=omega) only[kc,aM,aU,aO,aR,aX,aN,ab,aS,cd];apply hK)
   refine⟨⟨i+1,o++[(a+8589934592-(c+b))%4294967296],if a<c+b then 1 else 0,by omega,by split<;>omega,by simp[ho],?_⟩,by simp only;omega,aT ⟨?_,trivial⟩ ?_⟩
   ·rw[<- h,fY ha,fY hb,diffL,List.append_assoc];rfl
   ·show _=[(⟨_,_,lc fU ((o++[(a+8589934592-(c+b))%4294967296])++aj (m.length-(i+1)) 0)⟩:OObj)]
    rw[show m.length-(i+1)=m.length-i-1 by omega];rfl
   simp[di,b9,b8]
  have e1:IntKind.u32.wrap (IntKind.u64.wrap ((a:Int)-(c:Int)))=(((a+8589934592-c)%4294967296:Nat):Int):=by rw[IntKind.wrap_u32,IntKind.wrap_u64];omega
  have e2:Int.fdiv (IntKind.u64.wrap ((a:Int)-(c:Int))) (2^(min 63 IntKind.u64.bits))=(((if a<c then 1 else 0):Nat):Int):=by
   rw[IntKind.wrap_u64]
   show Int.fdiv _ 9223372036854775808=_
   rw[Int.fdiv_eq_ediv_of_nonneg _ (by omega)]
   split<;>omega
  have hs:=ol o (m.length-i-1) ((a+8589934592-c)%4294967296)
  rw[ho]at hs
  (refine aP (aL [] fun K hK=>?_);simp(disch:=omega) only[kc,aM,aa,be,aZ,aV,bE,aU,aO,aR,aX,aS,cp];apply hK)
  refine bL rfl (bi ?_)
  show da _ _ _ _
  (refine aL [] fun K hK=>?_;simp(disch:=omega) only[kc,aM,aa,ct,aU,Tryz.underlying78,dI,e1,aQ,aZ,aW,aV,cg,cQ,bo,ew,cU,dp,fU,hg,cellsOf,ai,isPure,bu,ff,hs,bz,bx];apply hK)
  ((refine bK [] [] (by simp) fun K hK=>?_);simp(disch:=omega) only[kc,aM,aa,aU,aO,aR,aX,aN,ab,aS,Int.reduceLE,aw,e2];apply hK)
  show da _ _ _ _
  ((refine bK [] [] (by simp) fun K hK=>?_);simp(disch:=omega) only[kc,aM,aU,aO,aR,aX,aN,ab,aS,cd];apply hK)
  refine⟨⟨i+1,o++[(a+8589934592-c)%4294967296],if a<c then 1 else 0,by omega,by split<;>omega,by simp[ho],?_⟩,by simp only;omega,aT ⟨?_,trivial⟩ ?_⟩
  ·rw[<- h,fY ha,fj (by omega:n.length<=i),fj (by omega:n.length<=i+1),diffL,List.append_assoc];rfl
  ·show _=[(⟨_,_,lc fU ((o++[(a+8589934592-c)%4294967296])++aj (m.length-(i+1)) 0)⟩:OObj)]
   rw[show m.length-(i+1)=m.length-i-1 by omega];rfl
  simp[di,b9,b8]
 have hie:i=m.length:=by omega
 subst hie
 rw[fj (ai _),diffL,List.append_nil]at h
 rw[Nat.sub_self,List.replicate_zero,List.append_nil,h]
 have hsl:(diffL m n 0).length=m.length:=jH m n 0
 have hlm:=jJ m n 0
 have hv:=i9 m n 0 lm ln (by omega) hl (by omega)
 have ht:=gk (diffL m n 0) (by omega)
 rw[gy hlm,show natV (diffL m n 0)=natV m-natV n by omega]at ht
 generalize diffL m n 0=S at*
 (refine aL [] fun K hK=>?_;simp(disch:=omega) only[kc,aM,de,Hm,aU,aO,aR,aX,aS,cp];apply hK)
 refine aP (bL rfl (ck ?_))
 show da _ _ _ _
 refine da.weak ((fp 11 (eE rfl)).trans (aT (tm:=[jk,jk,jk,jk,jk,de S,jk,jk,jk,jk,jk,jk,jk,jk,jk,jk,jk,jk,jk,jk,jk,jk,jk,jk,jk,jk,jk,jk,jk,jk,jk,jk,jk,jk,jk,jk,jk,jk,jk,jk,jk,jk,jk,jk,jk]) (l:=[]) trivial (by simp[di,b9,b8,gT,gh,bD,Hm,eB,eZ,List.take_of_length_le,hsl]))) ?_
 (refine aL [⟨1,_,_,_,ht⟩] fun K hK=>?_;simp(disch:=omega) only[kc,de,bj.a,aM,aa,Hm,aY,bU,bI,ac,bO,cq,ae,bV,bW,bs,noRefTV,bf,bQ,bM];apply hK)
 (refine bC ⟨.inr rfl,bF rfl ?_ rfl⟩;simp(disch:=omega) only[cH,Tryz.results172,bH,ah,ag,de])
theorem CP {A B:List Nat} (g:BY A B) (h:A[g.i]?=some 0): ∃g':BY A B,g'.i=g.i+1/\g'.O=g.O:=by
 refine⟨⟨g.i+1,g.O,(List.getElem?_eq_some_iff.1 h).1,g.len,g.lmb,?_,fun k h1 h2=>g.zero k (by omega) h2⟩,rfl,rfl⟩
 rw[dq h,g.val];simp
theorem CD (A B:List Nat) (hlA:Lmb A) (hlB:Lmb B) (la:A.length<=536870912) (lb:B.length<=536870912):CallC Tryz.prog 174 [de A,de B] ⟨[],de (bT (natV A*natV B))⟩:=by
 by_cases hsm:A.length<=1/\B.length<=1
 ·have hsm1:=hsm.1
  have hsm2:=hsm.2
  have w1:=qK A hlA (by omega)
  have w2:=qK B hlB (by omega)
  have b1:natV A<4294967296:=by
   have:=ik hlA
   exact Nat.lt_of_lt_of_le this (by have:=Nat.pow_le_pow_right (n:=4294967296) (by omega) hsm1;simpa using this)
  have b2:natV B<4294967296:=by
   have:=ik hlB
   exact Nat.lt_of_lt_of_le this (by have:=Nat.pow_le_pow_right (n:=4294967296) (by omega) hsm2;simpa using this)
  have hb:=nq b1 b2
  have w3:=jo (natV A*natV B) (by omega)
  have e2:(natV A:Int)*(natV B:Int)=((natV A*natV B:Nat):Int):=by simp
  generalize natV A*natV B=p at*
  refine bG Tryz.func174 rfl (by kernel_rfl) ?_;rw[Tryz.ntmps174]
  (refine aL [] fun K hK=>?_;simp(disch:=omega) only[kc,aM,de,aa,aj,aN,ab];apply hK)
  (refine aP (aL [] fun K hK=>?_);simp(disch:=omega) only[kc,aM,aa,be,aZ,aV,bE,aU,aO,aR,aX,aN,ab,aS,cw,bP,cQ,b7];apply hK)
  refine bJ rfl ?_
  (refine aL [⟨1,_,_,_,w1⟩,⟨3,_,_,_,w2⟩,⟨5,_,_,_,w3⟩] fun K hK=>?_;simp(disch:=omega) only[kc,de,bj.a,aM,aa,aY,bU,bI,ac,bO,cq,ae,bV,bW,bs,noRefTV,bf,bQ,bM,ak,aU,aO,aR,aX,aS,e2,eG];apply hK)
  (refine bC ⟨.inr rfl,bF rfl ?_ rfl⟩;simp(disch:=omega) only[cH,Tryz.results174,bH,ah,ag,de])
 have e0:((A.length:Int)+(B.length:Int)).toNat=A.length+B.length:=by omega
 refine bG Tryz.func174 rfl (by kernel_rfl) ?_;rw[Tryz.ntmps174]
 (refine aL [] fun K hK=>?_;simp(disch:=omega) only[kc,aM,de,aa,aj,aN,ab];apply hK)
 refine aP (oD (S:=⟨[de A,de B,jk,jk,jk,jk,jk,jk,jk,jk,jk,jk,jk,jk,jk,jk,jk,jk,jk,jk,jk,jk,jk,jk,jk,jk,jk,jk,jk,jk,jk,jk,jk,jk,jk,jk,jk,jk,jk,jk,jk,jk,jk,jk,jk,jk,jk,jk,jk,jk,jk,jk,jk,jk,jk,jk,jk,jk,jk,jk,jk,jk,jk,jk,jk,jk,jk,jk,jk,jk,jk,jk,jk,jk,jk,jk,jk,jk,jk,jk,jk,jk,jk,jk,jk,jk],Hm []⟩) ?_ ?_)
 ·by_cases h1:A.length<=1
  ·(refine aL [] fun K hK=>?_;simp(disch:=omega) only[kc,aM,aa,be,aZ,aV,bE,aU,aO,aR,aX,aN,ab,aS,cw,bP,cQ,cp,b7];apply hK)
   refine iA rfl (fun h=>by simp at h<;>omega) (fun _=>bi (aT trivial ?_))
   simp[di,b9,b8]
  (refine aL [] fun K hK=>?_;simp(disch:=omega) only[kc,aM,aa,be,aZ,aV,bE,aU,aO,aR,aX,aN,ab,aS,cp,bP,Option.map_none,cQ,b7];apply hK)
  refine iA rfl (fun h=>by simp at h<;>omega) (fun _=>bi (aT trivial ?_))
  simp[di,b9,b8]
 (refine aL [] fun K hK=>?_;simp(disch:=omega) only[kc,aM,aa,de,Hm,be,aZ,aV,bE,aU,aO,aR,aX,aS,cd,cY,bU,bI,ea,cg,gn,ab,and_true,e0,lY,cQ];apply hK)
 (refine aP (aL [] fun K hK=>?_);simp(disch:=omega) only[kc,aM,aa,be,aZ,aV,bE,aN,ab];apply hK)
 refine cC (G:=BY A B) (fun g=>⟨[de A,de B,jk,jk,jk,.one (.sl 31 0 0 (A.length+B.length)),jk,jk,jk,jk,jk,jk,jk,jk,jk,jk,jk,jk,jk,jk,jk,jk,jk,jk,jk,jk,jk,jk,jk,jk,jk,jk,de A,.raw (.int .i64 (A.length:Int)),.raw (.int .i64 (g.i:Int)),jk,jk,jk,jk,jk,jk,jk,jk,jk,jk,jk,jk,jk,jk,jk,jk,jk,jk,jk,jk,jk,jk,jk,jk,jk,jk,jk,jk,jk,jk,jk,jk,jk,jk,jk,jk,jk,jk,jk,jk,jk,jk,jk,jk,jk,jk,jk,jk,jk,jk,jk],Hm [(31,[⟨79,1,lc fU g.O⟩])]⟩) (fun g=>A.length-g.i) ⟨0,aj (A.length+B.length) 0,by omega,by simp,fun x hx=>by simp at hx;omega,by simp[r9,natV],fun k h1 h2=>by rw[List.getElem?_replicate,if_pos h2]⟩ ?_ ?_
 ·refine aT ⟨rfl,trivial⟩ ?_
  simp[di,b9,b8]
 rintro⟨i,O,hi,len,lmb,val,zero⟩
 simp only
 by_cases hm:i<A.length
 ·obtain⟨x,hx⟩:=getElem?_of_lt hm
  have hx':=dY hlA hx
  (refine aL [] fun K hK=>?_;simp(disch:=omega) only[kc,aM,de,Hm,aU,aO,aR,aX,aS,cw];apply hK)
  refine aP (bJ rfl (bi ?_))
  refine aP (bA ?_)
  (refine aL [] fun K hK=>?_;simp(disch:=omega) only[kc,aM,aa,aQ,aZ,aW,aV,ch,hx,fU,cg,packT,cW];apply hK)
  by_cases hx0:x=0
  ·subst hx0
   obtain⟨g',q1,q2⟩:=CP (⟨i,O,hi,len,lmb,val,zero⟩:BY A B) hx
   simp only at q1 q2
   (refine aP (aL [] fun K hK=>?_);simp(disch:=omega) only[kc,aM,aU,aO,aR,aX,aN,ab,aS,cw];apply hK)
   refine bJ rfl (ck ?_)
   show da _ _ _ _
   ((refine bK [] [] (by simp) fun K hK=>?_);simp(disch:=omega) only[kc,aM,aU,aO,aR,aX,aN,ab,aS,cd];apply hK)
   refine⟨g',by omega,aT ⟨by rw[q2];rfl,trivial⟩ ?_⟩
   simp[di,b9,b8,q1]
  have es:(i:Int)+(B.length:Int)+1=((i+B.length+1:Nat):Int):=by omega
  have el:i+B.length+1-i=B.length+1:=by omega
  (refine aP (aL [] fun K hK=>?_);simp(disch:=omega) only[kc,aM,aU,aO,aR,aX,aN,ab,aS,cp];apply hK)
  refine bL rfl (bi ?_)
  show da _ _ _ _
  (refine aL [] fun K hK=>?_;simp(disch:=omega) only[kc,aM,aa,be,aZ,aV,bE,aU,aO,aR,aX,aS,cd,aN,ab,es,gR,eK,aW,cg,el,cQ];apply hK)
  (refine aL [] fun K hK=>?_;simp(disch:=omega) only[kc,aM,aN,ab];apply hK)
  (refine aP (aL [] fun K hK=>?_);simp(disch:=omega) only[kc,aM,aa,be,aZ,aV,bE,aN,ab];apply hK)
  refine cC (G:=DC A B i x) (fun g=>⟨[de A,de B,jk,jk,jk,.one (.sl 31 0 0 (A.length+B.length)),jk,.raw (.int .u32 (x:Int)),.one (.sl 31 0 i (B.length+1)),.raw (.int .u64 (g.c:Int)),jk,jk,jk,jk,jk,jk,jk,jk,jk,jk,jk,jk,jk,jk,jk,jk,jk,jk,jk,jk,jk,jk,de A,.raw (.int .i64 (A.length:Int)),.raw (.int .i64 (i:Int)),jk,jk,jk,jk,jk,jk,jk,jk,jk,jk,jk,jk,jk,jk,de B,.raw (.int .i64 (B.length:Int)),.raw (.int .i64 (g.j:Int)),jk,jk,jk,jk,jk,jk,jk,jk,jk,jk,jk,jk,jk,jk,jk,jk,jk,jk,jk,jk,jk,jk,jk,jk,jk,jk,jk,jk,jk,jk,jk,jk,jk,jk],Hm [(31,[⟨79,1,lc fU g.O⟩])]⟩) (fun g=>B.length-g.j) ⟨0,O,0,by omega,len,lmb,by omega,by simpa[natV] using val,zero⟩ ?_ ?_
  ·refine aT ⟨rfl,trivial⟩ ?_
   simp[di,b9,b8]
  intro g
  by_cases hn:g.j<B.length
  ·obtain⟨y,hy⟩:=getElem?_of_lt hn
   have hy':=dY hlB hy
   have hlen:=g.len
   obtain⟨o,ho⟩:=getElem?_of_lt (show i+g.j<g.O.length by omega)
   have ho':=dY g.lmb ho
   have hb:=nq hx' hy'
   have hgc:=g.hc
   obtain⟨g',q1,q2,q3⟩:=uu g hy ho hm hx' hy'
   have e2:(x:Int)*(y:Int)=((x*y:Nat):Int):=by simp
   generalize hp:x*y=p at*
   have e3:IntKind.u32.wrap ((g.c:Int)+((p:Int)+(o:Int)))=(((g.c+(p+o))%4294967296:Nat):Int):=by rw[<- q9];congr 1<;>omega
   have e4:Int.fdiv ((g.c:Int)+((p:Int)+(o:Int))) (2^(min 32 IntKind.u64.bits))=(((g.c+(p+o))/4294967296:Nat):Int):=by rw[<- Du];congr 1<;>omega
   (refine aL [] fun K hK=>?_;simp(disch:=omega) only[kc,aM,de,Hm,aU,aO,aR,aX,aS,cw];apply hK)
   refine aP (bJ rfl (bi ?_))
   refine aP (bA ?_)
   (refine aL [] fun K hK=>?_;simp(disch:=omega) only[kc,aM,aa,aQ,aZ,aW,aV,ch,hy,fU,cg,packT,cW];apply hK)
   (refine aL [] fun K hK=>?_;simp(disch:=omega) only[kc,aM,aa,ct,aU,Tryz.underlying79,dn,eG,aO,aR,aX,aS,e2,aQ,aZ,aW,aV,cg,cQ,dp,fU,ho,packT,cW];apply hK)
   (refine aL [] fun K hK=>?_;simp(disch:=omega) only[kc,aM,aa,ct,aU,Tryz.underlying78,dI,e3,aQ,aZ,aW,aV,cg,cQ,bo,ew,cU,dp,fU,ho,cellsOf,ai,isPure,bu,ff,bz,bx];apply hK)
   ((refine bK [] [] (by simp) fun K hK=>?_);simp(disch:=omega) only[kc,aM,aa,aU,aO,aR,aX,aN,ab,aS,Int.reduceLE,aw,e4];apply hK)
   show da _ _ _ _
   ((refine bK [] [] (by simp) fun K hK=>?_);simp(disch:=omega) only[kc,aM,aU,aO,aR,aX,aN,ab,aS,cd];apply hK)
   refine⟨g',by omega,aT ⟨by rw[q2];rfl,trivial⟩ ?_⟩
   simp[di,b9,b8,q1,q3]
  have hgj:=g.hj
  have hgc:=g.hc
  have hgl:=g.len
  obtain⟨g',q1,q2⟩:=ut hx g hn
  have e3:IntKind.u32.wrap (g.c:Int)=(g.c:Int):=by rw[q9];omega
  (refine aL [] fun K hK=>?_;simp(disch:=omega) only[kc,aM,de,Hm,aU,aO,aR,aX,aS,cp];apply hK)
  refine aP (bL rfl (ck ?_))
  show da _ _ _ _
  have hz:=g.zero (i+B.length) (ai _) (by omega)
  ((refine bK [] [] (by simp) fun K hK=>?_);simp(disch:=omega) only[kc,aM,aa,be,aZ,aV,bE,ct,aU,Tryz.underlying78,dI,e3,aQ,aW,cg,cQ,bo,ew,cU,dp,fU,hz,cellsOf,ai,isPure,bu,ff,bz,bx];apply hK)
  show da _ _ _ _
  ((refine bK [] [] (by simp) fun K hK=>?_);simp(disch:=omega) only[kc,aM,aU,aO,aR,aX,aN,ab,aS,cd];apply hK)
  refine⟨g',by omega,aT ⟨by rw[q2];rfl,trivial⟩ ?_⟩
  simp[di,b9,b8,q1]
 have hfin:natV O=natV A*natV B:=by
  have:i=A.length:=by omega
  rw[val,this,List.take_length]
 have ht:=gk O (by omega)
 rw[gy lmb,hfin]at ht
 (refine aL [] fun K hK=>?_;simp(disch:=omega) only[kc,aM,de,Hm,aU,aO,aR,aX,aS,cp];apply hK)
 refine aP (bL rfl (ck ?_))
 show da _ _ _ _
 refine da.weak ((fp 31 (eE rfl)).trans (aT (tm:=[jk,jk,jk,jk,jk,de O,jk,jk,jk,jk,jk,jk,jk,jk,jk,jk,jk,jk,jk,jk,jk,jk,jk,jk,jk,jk,jk,jk,jk,jk,jk,jk,jk,jk,jk,jk,jk,jk,jk,jk,jk,jk,jk,jk,jk,jk,jk,jk,jk,jk,jk,jk,jk,jk,jk,jk,jk,jk,jk,jk,jk,jk,jk,jk,jk,jk,jk,jk,jk,jk,jk,jk,jk,jk,jk,jk,jk,jk,jk,jk,jk,jk,jk,jk,jk,jk]) (l:=[]) trivial (by simp[di,b9,b8,gT,gh,bD,Hm,eB,eZ,List.take_of_length_le,len]))) ?_
 (refine aL [⟨1,_,_,_,ht⟩] fun K hK=>?_;simp(disch:=omega) only[kc,de,bj.a,aM,aa,Hm,aY,bU,bI,ac,bO,cq,ae,bV,bW,bs,noRefTV,bf,bQ,bM];apply hK)
 (refine bC ⟨.inr rfl,bF rfl ?_ rfl⟩;simp(disch:=omega) only[cH,Tryz.results174,bH,ah,ag,de])
/-! Signed numbers. -/
theorem D6 {a b:Nat}:0<=ir a b↔b<=a:=by unfold ir;split<;>(try split)<;>omega
theorem zZ {na nb:Bool} {a b:Nat} (h:na≠nb) (hle:b<=a):iw na (a-b)=iw na a+iw nb b:=by
 unfold iw;cases na<;>cases nb<;>simp at* <;>omega
theorem z6 {na nb:Bool} {a b:Nat} (h:na≠nb) (hle:a<=b):iw nb (b-a)=iw na a+iw nb b:=by
 unfold iw;cases na<;>cases nb<;>simp at* <;>omega
theorem IG (n:Bool) (a b:Nat):iw n (a+b)=iw n a+iw n b:=by unfold iw;cases n<;>simp<;>omega
theorem vH (na nb:Bool) (a b:Nat) (la:(bT a).length<=536870912) (lb:(bT b).length<=536870912):CallC Tryz.prog 173 [.raw (.bool na),de (bT a),.raw (.bool nb),de (bT b)] ⟨[],tZ (iw na a+iw nb b)⟩:=by
 by_cases hs:na=nb
 ·subst hs
  have h1:=ug (bT a) (bT b) (ce _) (ce _) la lb
  rw[bN,bN]at h1
  have h2:=gD na (a+b)
  rw[IG]at h2
  refine bG Tryz.func173 rfl (by kernel_rfl) ?_;rw[Tryz.ntmps173]
  (refine aL [] fun K hK=>?_;simp(disch:=omega) only[kc,aM,de,aa,aj,cy,bU,bI,cx,ab,cQ];apply hK)
  refine aP (bA ?_)
  (refine aL [] fun K hK=>?_;simp(disch:=omega) only[kc,aM,aa,aU,aO,aR,aX,aS,fV];apply hK)
  refine bJ rfl ?_
  (refine aL [⟨3,_,_,_,h1⟩,⟨4,_,_,_,h2⟩] fun K hK=>?_;simp(disch:=omega) only[kc,de,tZ,bj.a,aM,aa,aY,bU,bI,ac,bO,cq,ae,bV,bW,bs,noRefTV,bf,bQ,bM,ak,bo,ew,cU,bS,bD,cellsOf,ai,isPure,cQ,bu,bz,bx];apply hK)
  (refine bC ⟨.inr rfl,bF rfl ?_ rfl⟩;simp(disch:=omega) only[kc,cH,Tryz.results173,bH,bD,d4,packT,bS,cf,aa,ai,tZ])
 have hne:(na==nb)=false:=by simpa using hs
 have h0:=n5 (bT a) (bT b) (ce _) (ce _) (dV _) (dV _) (by omega) (by omega)
 rw[bN,bN]at h0
 have hge:=D6 (a:=a) (b:=b)
 by_cases hle:b<=a
 ·have h1:=pO (bT a) (bT b) (ce _) (ce _) (js (ce _) (dV _) (by rw[bN,bN];exact hle)) (by rw[bN,bN];exact hle) la
  rw[bN,bN]at h1
  have h2:=gD na (a-b)
  rw[zZ hs hle]at h2
  have hc:0<=ir a b:=hge.2 hle
  generalize ir a b=cv at*
  refine bG Tryz.func173 rfl (by kernel_rfl) ?_;rw[Tryz.ntmps173]
  (refine aL [] fun K hK=>?_;simp(disch:=omega) only[kc,aM,de,aa,aj,cy,bU,bI,cx,ab,cQ];apply hK)
  refine aP (bA ?_)
  (refine aL [] fun K hK=>?_;simp(disch:=omega) only[kc,aM,aa,aU,aO,aR,aX,aS,fV,hne];apply hK)
  refine bL rfl ?_
  (refine aL [⟨2,_,_,_,h0⟩] fun K hK=>?_;simp(disch:=omega) only[kc,de,bj.a,aM,aa,aY,bU,bI,ac,bO,cq,ae,bV,bW,bs,noRefTV,bf,bQ,bM,aU,aO,aR,aX,aN,ab,aS,cw];apply hK)
  refine bJ rfl ?_
  (refine aL [⟨3,_,_,_,h1⟩,⟨4,_,_,_,h2⟩] fun K hK=>?_;simp(disch:=omega) only[kc,de,tZ,bj.a,aM,aa,aY,bU,bI,ac,bO,cq,ae,bV,bW,bs,noRefTV,bf,bQ,bM,ak,bo,ew,cU,bS,bD,cellsOf,ai,isPure,cQ,bu,bz,bx];apply hK)
  (refine bC ⟨.inr rfl,bF rfl ?_ rfl⟩;simp(disch:=omega) only[kc,cH,Tryz.results173,bH,bD,d4,packT,bS,cf,aa,ai,tZ])
 have h1:=pO (bT b) (bT a) (ce _) (ce _) (js (ce _) (dV _) (by rw[bN,bN];omega)) (by rw[bN,bN];omega) lb
 rw[bN,bN]at h1
 have h2:=gD nb (b-a)
 rw[z6 hs (by omega)]at h2
 have hc: ¬0<=ir a b:=fun h=>hle (hge.1 h)
 generalize ir a b=cv at*
 refine bG Tryz.func173 rfl (by kernel_rfl) ?_;rw[Tryz.ntmps173]
 (refine aL [] fun K hK=>?_;simp(disch:=omega) only[kc,aM,de,aa,aj,cy,bU,bI,cx,ab,cQ];apply hK)
 refine aP (bA ?_)
 (refine aL [] fun K hK=>?_;simp(disch:=omega) only[kc,aM,aa,aU,aO,aR,aX,aS,fV,hne];apply hK)
 refine bL rfl ?_
 (refine aL [⟨2,_,_,_,h0⟩] fun K hK=>?_;simp(disch:=omega) only[kc,de,bj.a,aM,aa,aY,bU,bI,ac,bO,cq,ae,bV,bW,bs,noRefTV,bf,bQ,bM,aU,aO,aR,aX,aN,ab,aS,cp];apply hK)
 refine bL rfl (bi ?_)
 show da _ _ _ _
 (refine aL [⟨3,_,_,_,h1⟩,⟨4,_,_,_,h2⟩] fun K hK=>?_;simp(disch:=omega) only[kc,de,tZ,bj.a,aM,aa,aY,bU,bI,ac,bO,cq,ae,bV,bW,bs,noRefTV,bf,bQ,bM,ak,bo,ew,cU,bS,bD,cellsOf,ai,isPure,cQ,bu,bz,bx];apply hK)
 (refine bC ⟨.inr rfl,bF rfl ?_ rfl⟩;simp(disch:=omega) only[kc,cH,Tryz.results173,bH,bD,d4,packT,bS,cf,aa,ai,tZ])
theorem J2 (a b:Int) (ha:Bh a) (hb:Bh b):CallC Tryz.prog 164 [tZ a,tZ b] ⟨[],tZ (a-b)⟩:=by
 have t1:=gk (bT a.natAbs) ha.bg.len
 have t2:=gk (bT b.natAbs) hb.bg.len
 rw[jh]at t1 t2
 have h:=vH (decide (a<0)) (!decide (b<0)) a.natAbs b.natAbs ha.len hb.len
 rw[vT,ER,<- Int.sub_eq_add_neg]at h
 refine bG Tryz.func164 rfl (by kernel_rfl) ?_;rw[Tryz.ntmps164]
 (refine aL [] fun K hK=>?_;simp(disch:=omega) only[kc,aM,aa,tZ,aj,dP,bU,bI,cellsOf,isPure,cQ,bD,af,cy,cx,ab,d4];apply hK)
 (refine cL cJ [⟨4,_,_,_,t1⟩,⟨10,_,_,_,t2⟩,⟨11,_,_,_,h⟩] [] (by kernel_rfl) (by simp) fun K hK=>?_;simp(disch:=omega) only[kc,de,tZ,bj.a,aM,aa,bY,aZ,dv,eI,az,bD,af,d4,packT,d6,df,dU,dG,aY,bU,bI,ac,bO,cq,ae,bV,bW,bs,noRefTV,bf,bQ,bM,dM,aU,fD,ak,bo,ew,cU,bS,cellsOf,ai,isPure,cQ,bu,bz,bx];apply hK)
 (refine bC ⟨.inr rfl,bF rfl ?_ rfl⟩;simp(disch:=omega) only[kc,cH,Tryz.results164,bH,bD,af,d4,packT,bS,cf,aa,ai,tZ])
theorem EA (a b:Int) (ha:Bh a) (hb:Bh b):CallC Tryz.prog 165 [tZ a,tZ b] ⟨[],tZ (a*b)⟩:=by
 have t1:=gk (bT a.natAbs) ha.bg.len
 have t2:=gk (bT b.natAbs) hb.bg.len
 rw[jh]at t1 t2
 have h:=CD (bT a.natAbs) (bT b.natAbs) (ce _) (ce _) ha.len hb.len
 rw[bN,bN]at h
 have h2:=gD (!(decide (a<0)==decide (b<0))) (a.natAbs*b.natAbs)
 rw[Bj]at h2
 refine bG Tryz.func165 rfl (by kernel_rfl) ?_;rw[Tryz.ntmps165]
 (refine aL [] fun K hK=>?_;simp(disch:=omega) only[kc,aM,aa,tZ,aj,dP,bU,bI,cellsOf,isPure,cQ,bD,af,cy,cx,ab,d4];apply hK)
 (refine cL cJ [⟨7,_,_,_,t1⟩,⟨10,_,_,_,t2⟩,⟨11,_,_,_,h⟩,⟨12,_,_,_,h2⟩] [] (by kernel_rfl) (by simp) fun K hK=>?_;simp(disch:=omega) only[kc,de,tZ,bj.a,aM,aa,bY,aZ,dv,eI,az,bD,af,d4,packT,d6,aU,aO,aR,aX,aS,fV,df,dU,dG,aY,bU,bI,ac,bO,cq,ae,bV,bW,bs,noRefTV,bf,bQ,bM,ak,bo,ew,cU,bS,cellsOf,ai,isPure,cQ,bu,bz,bx];apply hK)
 (refine bC ⟨.inr rfl,bF rfl ?_ rfl⟩;simp(disch:=omega) only[kc,cH,Tryz.results165,bH,bD,af,d4,packT,bS,cf,aa,ai,tZ])
theorem Le {U V L v1 high q : Nat} (hV : v1 * 4294967296 * L <= V) (hU : U < (high + 1) * 4294967296 * L) (hq : q * V <= U) (hL : 0 < L) : q * v1 <= high := by
  have h1 : q * (v1 * 4294967296 * L) <= q * V := Nat.mul_le_mul_left _ hV
  have h2 : (q * v1) * (4294967296 * L) < (high + 1) * (4294967296 * L) := by
    calc (q * v1) * (4294967296 * L) = q * (v1 * 4294967296 * L) := by grind
      _ <= q * V := h1
      _ <= U := hq
      _ < (high + 1) * 4294967296 * L := hU
      _ = (high + 1) * (4294967296 * L) := by grind
  have := Nat.lt_of_mul_lt_mul_right h2
  omega
theorem Ld {U V L v1 v2 u0 high g r q : Nat} (hV : (v1 * 4294967296 + v2) * L <= V) (hU : U < (high * 4294967296 + u0 + 1) * L) (hq : q * V <= U) (hg : g * v1 + r = high) (h : r * 4294967296 + u0 < g * v2) : q < g := by
  by_cases hc : q < g
  · exact hc
  · exfalso
    have h1 : g * ((v1 * 4294967296 + v2) * L) <= U := Nat.le_trans (Nat.mul_le_mul (Nat.le_of_not_lt hc) hV) hq
    have h2 : (g * (v1 * 4294967296 + v2)) * L < (high * 4294967296 + u0 + 1) * L := by
      calc (g * (v1 * 4294967296 + v2)) * L = g * ((v1 * 4294967296 + v2) * L) := by grind
        _ <= U := h1
        _ < _ := hU
    have h3 := Nat.lt_of_mul_lt_mul_right h2
    have h4 : g * (v1 * 4294967296 + v2) = g * v1 * 4294967296 + g * v2 := by grind
    have h5 : high * 4294967296 = g * v1 * 4294967296 + r * 4294967296 := by rw [<- hg]; grind
    omega
theorem Hx {U V L vl v1 v2 t3 g q : Nat} (hV : V = (v1 * 4294967296 + v2) * L + vl) (hvl : vl < L) (hU : t3 * L <= U) (hq : U < (q + 1) * V) (hg : g * (v1 * 4294967296 + v2) <= t3) (hB : g <= 4294967296) (hv1 : 1 <= v1) : g <= q + 1 := by
  have h1 : g * V <= U + g * vl := by
    calc g * V = (g * (v1 * 4294967296 + v2)) * L + g * vl := by rw [hV]; grind
      _ <= t3 * L + g * vl := Nat.add_le_add_right (Nat.mul_le_mul_right _ hg) _
      _ <= _ := Nat.add_le_add_right hU _
  have h2 : g * vl <= 4294967296 * L := Nat.mul_le_mul hB (Nat.le_of_lt hvl)
  have h3 : 4294967296 * L <= V := by
    rw [hV]
    have : 4294967296 * L <= (v1 * 4294967296 + v2) * L := Nat.mul_le_mul_right _ (by omega)
    omega
  have h4 : g * V < (q + 2) * V := by
    calc g * V <= U + V := by omega
      _ < (q + 1) * V + V := by omega
      _ = (q + 2) * V := by grind
  have := Nat.lt_of_mul_lt_mul_right h4
  omega
structure Gu (u v:List Nat) (g:Nat) where
 i:Nat
 us:List Nat
 c:Nat
 b:Nat
 hi:i<=v.length
 len:us.length=i
 lmb:Lmb us
 hc:c<4294967296
 hb:b<=1
 val:natV us+g*natV (v.take i)=natV (u.take i)+(c+b)*4294967296^i
def Gu.start (u v:List Nat) (g:Nat):Gu u v g:=⟨0,[],0,0,Nat.zero_le _,rfl,fun a h=>by simp at h,by omega,by omega,by simp[natV]⟩
theorem ns (l:List Nat) (a:Nat):natV (l++[a])=natV l+a*4294967296^l.length:=by
 rw[jr];simp[natV];grind
theorem mJ {l:List Nat} {a:Nat} (h:Lmb l) (ha:a<4294967296):Lmb (l++[a]):=fun x hx=>by
 rcases List.mem_append.1 hx with h1|h1
 ·exact h x h1
 simp at h1;omega
theorem xO {g x c:Nat} (hg:g<=4294967296) (hx:x<4294967296) (hc:c<4294967296):c+g*x<18446744073709551616/\(c+g*x)/4294967296<4294967296:=by
 have:g*x<=4294967296*4294967295:=Nat.mul_le_mul hg (by omega)
 omega
theorem HW {u v:List Nat} {g:Nat} (m:Gu u v g) {x y l b':Nat} (hg:g<=4294967296) (hx:v[m.i]?=some x) (hy:u[m.i]?=some y) (lv:Lmb v) (hl:l<4294967296) (hb':b'<=1)
  (ht:l+(m.c+g*x)%4294967296+m.b=y+b'*4294967296): ∃m':Gu u v g,m'.i=m.i+1/\m'.us=m.us++[l]/\m'.c=(m.c+g*x)/4294967296/\m'.b=b':=by
 have hx':=dY lv hx
 refine⟨⟨m.i+1,m.us++[l],(m.c+g*x)/4294967296,b',?_,by rw[List.length_append,m.len];rfl,mJ m.lmb hl,(xO hg hx' m.hc).2,hb',?_⟩,rfl,rfl,rfl,rfl⟩
 ·have:=(List.getElem?_eq_some_iff.1 hx).1;omega
 have hv:=m.val
 rw[ns,m.len,dq hx,dq hy,Nat.pow_succ]
 have hs:m.c+g*x=(m.c+g*x)%4294967296+4294967296*((m.c+g*x)/4294967296):=by omega
 generalize(m.c+g*x)%4294967296=lo at*
 generalize(m.c+g*x)/4294967296=hi' at*
 generalize 4294967296^m.i=p at*
 have h1:g*(natV (v.take m.i)+x*p)=g*natV (v.take m.i)+g*x*p:=by grind
 have h2:g*x=lo+4294967296*hi'-m.c:=by omega
 have h3:(l+lo+m.b)*p=(y+b'*4294967296)*p:=by rw[ht]
 have h4:(m.c+g*x)*p=(lo+4294967296*hi')*p:=by rw[hs]
 grind
structure Gz (u v:List Nat) where
 i:Nat
 us:List Nat
 c:Nat
 hi:i<=v.length
 len:us.length=i
 lmb:Lmb us
 hc:c<=1
 val:natV us+c*4294967296^i=natV (u.take i)+natV (v.take i)
def Gz.start (u v:List Nat):Gz u v:=⟨0,[],0,Nat.zero_le _,rfl,fun a h=>by simp at h,by omega,by simp[natV]⟩
theorem GP {u v:List Nat} (m:Gz u v) {x y:Nat} (hx:v[m.i]?=some x) (hy:u[m.i]?=some y) (lv:Lmb v) (lu:Lmb u):
  ∃m':Gz u v,m'.i=m.i+1/\m'.us=m.us++[(m.c+(y+x))%4294967296]/\m'.c=(m.c+(y+x))/4294967296:=by
 have hx':=dY lv hx
 have hy':=dY lu hy
 have hc:=m.hc
 refine⟨⟨m.i+1,m.us++[(m.c+(y+x))%4294967296],(m.c+(y+x))/4294967296,?_,by rw[List.length_append,m.len];rfl,mJ m.lmb (Nat.mod_lt _ (by omega)),by omega,?_⟩,rfl,rfl,rfl⟩
 ·have:=(List.getElem?_eq_some_iff.1 hx).1;omega
 have hv:=m.val
 rw[ns,m.len,dq hx,dq hy,Nat.pow_succ]
 have hs:m.c+(y+x)=(m.c+(y+x))%4294967296+4294967296*((m.c+(y+x))/4294967296):=by omega
 generalize(m.c+(y+x))%4294967296=lo at*
 generalize(m.c+(y+x))/4294967296=hi' at*
 generalize 4294967296^m.i=p at*
 have h4:(m.c+(y+x))*p=(lo+4294967296*hi')*p:=by rw[hs]
 grind
theorem EC {U V g q R:Nat} (hq:q=U/V) (hg:q<=g) (h:R+g*V=U) (hV:0<V):g=q/\R=U%V:=by
 have h1:g<=U/V:=(Nat.le_div_iff_mul_le hV).2 (by omega)
 have h2:g=q:=by omega
 refine⟨h2,?_⟩
 have:=Nat.div_add_mod U V
 rw[<- hq,<- h2,Nat.mul_comm]at this
 omega
theorem Hw {U V g q R T Bn c t W:Nat} (hq:q=U/V) (hg:g<=q+1) (h:R+g*V=U+4294967296*Bn) (hlt:U<g*V) (hV:0<V) (hVB:V<=Bn) (hW:W<Bn)
  (hR:R=T+t*Bn) (ht:W+c*Bn=T+V) (hc:c<=1) (htt:t<4294967296):g=q+1/\(t+c)%4294967296=0/\W=U%V:=by
 have h1:g=q+1:=by
  by_cases hh:g=q+1
  ·exact hh
  exfalso
  have:g*V<=(U/V)*V:=Nat.mul_le_mul_right _ (by omega)
  have:=Nat.div_mul_le_self U V
  omega
 have h2:=Nat.div_add_mod U V
 have h3:=Nat.mod_lt U hV
 rw[<- hq]at h2
 subst h1
 have h4:(q+1)*V=V*q+V:=by grind
 have h5:W+(t+c)*Bn=U%V+4294967296*Bn:=by
  have:(t+c)*Bn=t*Bn+c*Bn:=by grind
  omega
 have h6:t+c=4294967296:=by
  rcases Nat.lt_trichotomy (t+c) 4294967296 with hh|hh|hh
  ·exfalso
   have:(t+c)*Bn+Bn<=4294967296*Bn:=by
    have:=Nat.mul_le_mul_right Bn (show t+c+1<=4294967296 by omega)
    have e:(t+c+1)*Bn=(t+c)*Bn+Bn:=by grind
    omega
   omega
  ·exact hh
  omega
 refine⟨rfl,by rw[h6],?_⟩
 rw[h6]at h5
 omega
end Go.Proofs.YtfgeomlagfomgaaGreatDoor
