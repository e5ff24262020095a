/-
  Part 18 of a proof (walks and plain facts).
-/
import Derived.Test.YtfgeomlagfomgaaGreatDoorS16
set_option linter.all false
set_option maxRecDepth 100000
set_option maxHeartbeats 64000000
open Nat renaming reduceAdd → aa
open Nat renaming reduceEqDiff → ab
open Nat renaming le_refl → ac
open List renaming replicate → ae
open Nat renaming reduceBEq → af
open Int renaming reduceToNat → am
open List renaming getElem?_map → ay
open Nat renaming pow_le_pow_right → aC
namespace Go.Proofs.YtfgeomlagfomgaaGreatDoor
open Go.RowKit
theorem iD (u:Nat) (hu:u<18446744073709551616):CallC Tryz.prog 142 [.raw (.int .u64 u)] ⟨[],bF (aR u)⟩:=by
 have hlm:Lmb [u%4294967296,u/4294967296]:=by intro a ha;simp at ha;omega
 have ht:=dV [u%4294967296,u/4294967296] (by simp);rw[eB hlm,w8]at ht;have e1:IntKind.u32.wrap (u:Int)=((u%4294967296:Nat):Int):=by rw[IntKind.wrap_u32];omega
 have e2:IntKind.u32.wrap ((u:Int).fdiv (2^(min (32:Int).toNat IntKind.u64.bits)))=((u/4294967296:Nat):Int):=by
  rw[IntKind.wrap_u32];show(Int.fdiv (u:Int) 4294967296)%4294967296=_;rw[Int.fdiv_eq_ediv_of_nonneg _ (by omega)];omega
 simp only[am]at e2;refine aJ Tryz.func142 rfl (by kernel_rfl) ?_;rw[Tryz.ntmps142];refine aD fun _ K=>?_;simp only[kd,ae];apply K
 refine aG [⟨6,_,_,_,ht⟩] [] fun _ K=>?_;simp(disch:=omega) only[kd,bF,D2,aa,e1,Int.reduceLE,am,e2,Nat.reduceMul,Nat.reduceLeDiff];apply K
 (refine aI ⟨.inr rfl,aH rfl ?_ rfl⟩;simp(disch:=omega) only[kd,Tryz.results142,bF])
theorem pB (l:List Nat) (lm:Lmb l) (bl:l.length<=2):CallC Tryz.prog 161 [bF l] ⟨[],.raw (.int .u64 (natV l:Nat))⟩:=by
 refine aJ Tryz.func161 rfl (by kernel_rfl) ?_;rw[Tryz.ntmps161];refine aD fun _ K=>?_;simp only[kd,bF,ae];apply K
 refine aD fun _ K=>?_;simp only[kd];apply K
 refine aE (aD fun _ K=>?_);simp only[kd,aa];apply K;refine aT (G:=Pz l) (fun g=>⟨(jk::jk::jk::.raw (.int .u64 (g.u:Int))::jk::jk::bF l::rN l.length::rN g.i::j4 (j4 (j4 (jk::[])))),Hm []⟩) (fun g=>l.length-g.i) ⟨0,0,⟨by omega,by omega⟩,rfl⟩ ?_ ?_
 ·refine aF trivial ?_;simp[wk]
 rintro⟨i,u,hi,hu⟩;simp only;have hlt:=ff lm i;rw[<- hu]at hlt;by_cases hm:i<l.length
 ·obtain⟨a,ha⟩:=getElem?_of_lt hm;have ha':=cn lm ha;have hu2:=bM ha;rw[<- hu]at hu2;refine aD fun _ K=>?_;simp(disch:=omega) only[kd,bF];apply K
  refine bC rfl ?_;refine aE (aK ?_);refine aD fun _ K=>?_;simp(disch:=omega) only[kd,aa,ha];apply K
  have hi2:i=0\/i=1:=by omega
  rcases hi2 with rfl|rfl
  ·have e1:IntKind.u64.wrap ((a:Int)*2^min (32*((0:Nat):Int)).toNat IntKind.u64.bits)=(a:Int):=by
    rw[IntKind.wrap_u64];show((a:Int)*1)%_=_;omega
   have hu0:u=0:=by simpa[natV] using hu
   have e2:=x6 u a (by omega) (by omega);rw[hu0,Nat.zero_or,<- hu0]at e2;refine aM fun _ K=>?_;simp(disch:=omega) only[kd,aa,dn,aP,e1,e2];apply K
   show bs _ _ _ _;refine aM fun _ K=>?_;simp(disch:=omega) only[kd,aP];apply K
   refine⟨⟨1,a,⟨by omega,by omega⟩,by rw[hu2,hu0];simp⟩,by simp only;omega,aF trivial ?_⟩;simp[wk]
  have e1:IntKind.u64.wrap ((a:Int)*2^min (32*((1:Nat):Int)).toNat IntKind.u64.bits)=((a*4294967296:Nat):Int):=by
   rw[IntKind.wrap_u64];show((a:Int)*4294967296)%_=_;omega
  simp only[Nat.pow_one]at hlt;have e2:=x6 u (a*4294967296) (by omega) (by omega);rw[show a*4294967296=a*2^32 from rfl,si _ _ _ hlt,show a*2^32=a*4294967296 from rfl]at e2;refine aM fun _ K=>?_;simp(disch:=omega) only[kd,aa,dn,aP,e1,e2];apply K
  show bs _ _ _ _;refine aM fun _ K=>?_;simp(disch:=omega) only[kd,aP];apply K
  refine⟨⟨2,a*4294967296+u,⟨by omega,by omega⟩,by rw[hu2];omega⟩,by simp only;omega,aF trivial ?_⟩;simp[wk]
 have hfin:u=natV l:=by rw[hu,List.take_of_length_le (by omega)]
 rw[<- hfin];refine aD fun _ K=>?_;simp(disch:=omega) only[kd,bF];apply K
 refine bJ rfl ?_;show bs _ _ _ _;refine aD fun _ K=>?_;simp only[kd];apply K
 (refine aI ⟨.inr rfl,aH rfl ?_ rfl⟩;simp(disch:=omega) only[kd,Tryz.results161])
theorem tQ (n:Int) (h1: -9223372036854775808<=n) (h2:n<=9223372036854775807):CallC Tryz.prog 115 [.raw (.int .i64 n)] ⟨[],tZ n⟩:=by
 have hf:=iD n.natAbs (by omega);by_cases hn:n<0
 ·have ht:=eu true n.natAbs;have e1:IntKind.u64.wrap (0-IntKind.u64.wrap n)=((n.natAbs:Nat):Int):=by rw[IntKind.wrap_u64,IntKind.wrap_u64];omega
  rw[show f4 true n.natAbs=n by unfold f4;simp;omega]at ht;refine aJ Tryz.func115 rfl (by kernel_rfl) ?_;rw[Tryz.ntmps115];refine aD fun _ K=>?_;simp(disch:=omega) only[kd,ae,aa];apply K
  refine aE (aD fun _ K=>?_);simp(disch:=omega) only[kd];apply K;refine aS rfl ?_;refine aG [⟨3,_,_,_,hf⟩,⟨4,_,_,_,ht⟩] [] fun _ K=>?_;simp(disch:=omega) only[kd,bF,tZ,aa,e1,af];apply K
  (refine aI ⟨.inr rfl,aH rfl ?_ rfl⟩;simp(disch:=omega) only[kd,Tryz.results115,aa,tZ])
 have ht:=eu false n.natAbs;have e1:IntKind.u64.wrap n=((n.natAbs:Nat):Int):=by rw[IntKind.wrap_u64];omega
 rw[show f4 false n.natAbs=n by unfold f4;simp;omega]at ht;refine aJ Tryz.func115 rfl (by kernel_rfl) ?_;rw[Tryz.ntmps115];refine aD fun _ K=>?_;simp(disch:=omega) only[kd,ae,aa];apply K
 refine aE (aD fun _ K=>?_);simp(disch:=omega) only[kd];apply K;refine aO rfl (aL ?_);show bs _ _ _ _;refine aG [⟨2,_,_,_,hf⟩,⟨3,_,_,_,ht⟩] [] fun _ K=>?_;simp(disch:=omega) only[kd,bF,tZ,aa,e1,af];apply K
 (refine aI ⟨.inr rfl,aH rfl ?_ rfl⟩;simp(disch:=omega) only[kd,Tryz.results115,aa,tZ])
theorem pA (z:Int) (h:Bg z):CallC Tryz.prog 119 [tZ z] ⟨[],.raw (.int .i64 (sg z))⟩:=by
 have ht:=dV (aR z.natAbs) h.len;rw[fV]at ht;have hl:=fE (n:=z.natAbs);rcases Int.lt_trichotomy z 0 with hz|hz|hz
 ·have e:sg z= -1:=by simp[sg,hz]
  have hl':(aR z.natAbs).length≠0:=by omega
  rw[e];refine aJ Tryz.func119 rfl (by kernel_rfl) ?_;rw[Tryz.ntmps119];refine aD fun _ K=>?_;simp(disch:=omega) only[kd,tZ,ae,aa];apply K
  refine aE (aK ?_);refine aG [⟨2,_,_,_,ht⟩] [] fun _ K=>?_;simp(disch:=omega) only[kd,bF,aa];apply K
  refine aO rfl ?_;refine aD fun _ K=>?_;simp only[kd,aa];apply K
  refine aS rfl ?_;refine aD fun _ K=>?_;simp only[kd];apply K
  (refine aI ⟨.inr rfl,aH rfl ?_ rfl⟩;simp(disch:=omega) only[kd,Tryz.results119])
 ·subst hz;rw[show sg 0=0 from rfl];rw[Int.natAbs_zero,cj]at ht;rw[show tZ 0= .agg [.p (.raw (.bool false)),.p (.sl (ls fU []))]from by simp[tZ,cj]];refine aJ Tryz.func119 rfl (by kernel_rfl) ?_;rw[Tryz.ntmps119];refine aD fun _ K=>?_;simp(disch:=omega) only[kd,ae,aa];apply K
  refine aE (aK ?_);refine aG [⟨2,_,_,_,ht⟩] [] fun _ K=>?_;simp(disch:=omega) only[kd,bF,aa];apply K
  refine aS rfl ?_;refine aD fun _ K=>?_;simp only[kd];apply K
  (refine aI ⟨.inr rfl,aH rfl ?_ rfl⟩;simp(disch:=omega) only[kd,Tryz.results119])
 have e:sg z=1:=by unfold sg;rw[if_neg (by omega),if_neg (by omega)]
 have hl':(aR z.natAbs).length≠0:=by omega
 rw[e];refine aJ Tryz.func119 rfl (by kernel_rfl) ?_;rw[Tryz.ntmps119];refine aD fun _ K=>?_;simp(disch:=omega) only[kd,tZ,ae,aa];apply K
 refine aE (aK ?_);refine aG [⟨2,_,_,_,ht⟩] [] fun _ K=>?_;simp(disch:=omega) only[kd,bF,aa];apply K
 refine aO rfl ?_;refine aD fun _ K=>?_;simp only[kd,aa];apply K
 refine aO rfl (aL ?_);show bs _ _ _ _;refine aD fun _ K=>?_;simp only[kd];apply K
 (refine aI ⟨.inr rfl,aH rfl ?_ rfl⟩;simp(disch:=omega) only[kd,Tryz.results119])
theorem zI (z:Int) (h:Bg z):CallC Tryz.prog 140 [tZ z] ⟨[],iN z⟩:=by
 have ht:=dV (aR z.natAbs) h.len;rw[fV]at ht;have hl:=h.len;by_cases h2:2<(aR z.natAbs).length
 ·have hb:=tX h2;rw[show iN z= .tup [(false,[.p (.raw (.int .i64 0))]),(false,[.p (.raw (.bool false))])] by unfold iN;rw[if_neg (by omega)]];refine aJ Tryz.func140 rfl (by kernel_rfl) ?_;rw[Tryz.ntmps140];refine aD fun _ K=>?_;simp(disch:=omega) only[kd,aa,tZ,ae];apply K
  refine aG [⟨2,_,_,_,ht⟩] [] fun _ K=>?_;simp only[kd,bF,aa];apply K
  refine aE (aD fun _ K=>?_);simp(disch:=omega) only[kd,aa];apply K;refine aS rfl ?_;refine aD fun _ K=>?_;simp only[kd];apply K
  (refine aI ⟨.inr rfl,aH rfl ?_ rfl⟩;simp(disch:=omega) only[kd,Tryz.results140])
 have hb:=gH (n:=z.natAbs) (by omega);have hw:=pB (aR z.natAbs) (aW _) (by omega);rw[aQ]at hw;by_cases hz:z<0
 ·by_cases hz2:z.natAbs<=9223372036854775808
  ·have e1:IntKind.i64.wrap (IntKind.u64.wrap (0-(z.natAbs:Int)))=z:=by
    rw[IntKind.wrap_u64];have:(0-(z.natAbs:Int))%18446744073709551616=18446744073709551616+z:=by omega
    rw[this,IntKind.wrap_i64];omega
   rw[show iN z= .tup [(false,[.p (.raw (.int .i64 z))]),(false,[.p (.raw (.bool true))])] by unfold iN;rw[if_pos (by omega)]];refine aJ Tryz.func140 rfl (by kernel_rfl) ?_;rw[Tryz.ntmps140];refine aD fun _ K=>?_;simp(disch:=omega) only[kd,aa,tZ,ae];apply K
   refine aG [⟨2,_,_,_,ht⟩] [] fun _ K=>?_;simp only[kd,bF,aa];apply K
   refine aE (aD fun _ K=>?_);simp(disch:=omega) only[kd,aa];apply K;refine aO rfl (aL ?_);show bs _ _ _ _;refine aG [⟨1,_,_,_,hw⟩] [] fun _ K=>?_;simp only[kd,bF,aa];apply K
   refine aE (aK ?_);refine aD fun _ K=>?_;simp(disch:=omega) only[kd,aa];apply K
   refine aS rfl ?_;refine aD fun _ K=>?_;simp only[kd,aa,e1];apply K
   (refine aI ⟨.inr rfl,aH rfl ?_ rfl⟩;simp(disch:=omega) only[kd,Tryz.results140])
  rw[show iN z= .tup [(false,[.p (.raw (.int .i64 0))]),(false,[.p (.raw (.bool false))])] by unfold iN;rw[if_neg (by omega)]];refine aJ Tryz.func140 rfl (by kernel_rfl) ?_;rw[Tryz.ntmps140];refine aD fun _ K=>?_;simp(disch:=omega) only[kd,aa,tZ,ae];apply K
  refine aG [⟨2,_,_,_,ht⟩] [] fun _ K=>?_;simp only[kd,bF,aa];apply K
  refine aE (aD fun _ K=>?_);simp(disch:=omega) only[kd,aa];apply K;refine aO rfl (aL ?_);show bs _ _ _ _;refine aG [⟨1,_,_,_,hw⟩] [] fun _ K=>?_;simp only[kd,bF,aa];apply K
  refine aE (aK ?_);refine aD fun _ K=>?_;simp(disch:=omega) only[kd,aa];apply K
  refine aO rfl ?_;refine aD fun _ K=>?_;simp(disch:=omega) only[kd,aa];apply K
  refine aO rfl (aL ?_);show bs _ _ _ _;refine aD fun _ K=>?_;simp only[kd];apply K
  (refine aI ⟨.inr rfl,aH rfl ?_ rfl⟩;simp(disch:=omega) only[kd,Tryz.results140])
 by_cases hz2:z.natAbs<9223372036854775808
 ·have e1:IntKind.i64.wrap (z.natAbs:Int)=z:=by rw[IntKind.wrap_i64];omega
  rw[show iN z= .tup [(false,[.p (.raw (.int .i64 z))]),(false,[.p (.raw (.bool true))])] by unfold iN;rw[if_pos (by omega)]];refine aJ Tryz.func140 rfl (by kernel_rfl) ?_;rw[Tryz.ntmps140];refine aD fun _ K=>?_;simp(disch:=omega) only[kd,aa,tZ,ae];apply K
  refine aG [⟨2,_,_,_,ht⟩] [] fun _ K=>?_;simp only[kd,bF,aa];apply K
  refine aE (aD fun _ K=>?_);simp(disch:=omega) only[kd,aa];apply K;refine aO rfl (aL ?_);show bs _ _ _ _;refine aG [⟨1,_,_,_,hw⟩] [] fun _ K=>?_;simp only[kd,bF,aa];apply K
  refine aE (aK ?_);refine aD fun _ K=>?_;simp(disch:=omega) only[kd,aa];apply K
  refine aO rfl ?_;refine aD fun _ K=>?_;simp(disch:=omega) only[kd,aa];apply K
  refine aS rfl ?_;refine aD fun _ K=>?_;simp only[kd,aa,e1];apply K
  (refine aI ⟨.inr rfl,aH rfl ?_ rfl⟩;simp(disch:=omega) only[kd,Tryz.results140])
 rw[show iN z= .tup [(false,[.p (.raw (.int .i64 0))]),(false,[.p (.raw (.bool false))])] by unfold iN;rw[if_neg (by omega)]];refine aJ Tryz.func140 rfl (by kernel_rfl) ?_;rw[Tryz.ntmps140];refine aD fun _ K=>?_;simp(disch:=omega) only[kd,aa,tZ,ae];apply K
 refine aG [⟨2,_,_,_,ht⟩] [] fun _ K=>?_;simp only[kd,bF,aa];apply K
 refine aE (aD fun _ K=>?_);simp(disch:=omega) only[kd,aa];apply K;refine aO rfl (aL ?_);show bs _ _ _ _;refine aG [⟨1,_,_,_,hw⟩] [] fun _ K=>?_;simp only[kd,bF,aa];apply K
 refine aE (aK ?_);refine aD fun _ K=>?_;simp(disch:=omega) only[kd,aa];apply K
 refine aO rfl ?_;refine aD fun _ K=>?_;simp(disch:=omega) only[kd,aa];apply K
 refine aO rfl (aL ?_);show bs _ _ _ _;refine aD fun _ K=>?_;simp only[kd];apply K
 (refine aI ⟨.inr rfl,aH rfl ?_ rfl⟩;simp(disch:=omega) only[kd,Tryz.results140])
/-! Clone: a walk of the older kind, for it holds the slice against nil. -/
theorem tg (A:Option Addr) (c:Nat) (x:List Int) (w:World) (hx:RdI .u32 w A x) (hl:x.length*4<=140737488355328):
  Calls Tryz.prog 162 #[.slice A x.length c] w fun e w'=> ∃v,e= .returned v/\w'.ownsRow w.heap.size 79 1 v x.length (x.map (Value.int .u32))/\Ext w w':=by
 have hnil:=fun(w:World) (n c:Nat)=>Lib.run_eql_slice_nil (P:=Tryz.prog) w 40 79 A n c 0 0 Tryz.underlying40
 cases A with
 |none=>
  have hx0:x=[]:=by
   cases x with
   |nil=>rfl
   |cons a l=>obtain⟨_,_,h,_⟩:=hx (by simp);cases h
  subst hx0
  go_enter Tryz.func162,Tryz.ntmps162
  go_wp2_with fail
  go_ret
  exact⟨_,rfl,World.ownsRow_nil _ _ _ _,Ext.refl _⟩
 |some a=>
  go_enter Tryz.func162,Tryz.ntmps162
  go_wp2_with (at_builtin;refine rm _ rfl (.tmp 5) (.tmp 6) _ rfl w.heap.size 79 (.int .u32 0) 1 4 Tryz.underlying40 Tryz.inU32 rfl (by omega) _ 0 [] rfl (World.ownsRow_made w #[] 0 (ac _) (Nat.zero_le _) rfl) (some a) x.length c _ rfl (Rd.ext hx ((Ext.refl _).alloc _)) (by simp) x4 (by simp only[maxLen];omega) (by omega) (by simp) ?_;intro v1 w1 hown1 hg1 _)
  go_ret
  exact⟨_,rfl,by simpa using hown1,Fq hg1 (World.ownsRow_made w #[] 0 (ac _) (Nat.zero_le _) rfl:World.ownsRow _ w.heap.size 79 1 _ 0 []) ((Ext.refl w).alloc _) (ac _)⟩
theorem Ej {X:Nat->Prop} {w:World} {l:List Nat} {v:Value} (h:cu X w (.sl (ls fU l)) v): ∃A c,v= .slice A l.length c/\l.length<=c/\RdI .u32 w A (l.map fun n:Nat=>(n:Int)):=by
 generalize hx:PV.sl (ls fU l)=x at h;cases h with
 |raw v h=>cases hx
 |ptr b off cs f hX hb hc hr=>cases hx
 |nil a c=>
  injection hx with hx
  have hl:l=[]:=by simpa[ls] using hx
  subst hl;exact⟨a,c,rfl,Nat.zero_le _,RdI.nil _ _ _⟩
 |sl b off es cap xs f hX hb hes hcap hm hc hr=>
  injection hx with hx
  subst hx;rw[dW]at hcap hm;refine⟨some ⟨b,off,none⟩,cap,by rw[dW],hcap,fun hne=>⟨b,off,rfl,fun i x hx=>?_⟩⟩;rw[ay,ay]at hx;obtain⟨z',hz',rfl⟩:=Option.map_eq_some_iff.1 hx;obtain⟨z,hz,rfl⟩:=Option.map_eq_some_iff.1 hz';have h1:(ls fU l)[i]?=some (fU z):=by rw[fv,hz];rfl
  have he:es=1:=by rw[<- hes _ (List.mem_of_getElem? h1)];rfl
  subst he;have h2:=hc i _ 0 _ h1 rfl;have h3:=lT (hr i _ 0 _ h1 rfl);rw[h3,Nat.mul_one,Nat.add_zero]at h2;exact h2
theorem Ji {w':World} {k:Nat} {v:Value} {l:List Nat} {Y:Nat->Prop} (hY: ∀b,Y b->b<k) (hm:l.length<=9223372036854775807) (h:w'.ownsRow k 79 1 v l.length ((l.map fun n:Nat=>(n:Int)).map (Value.int .u32))):cu Y w' (.sl (ls fU l)) v:=by
 obtain⟨hl,h2⟩:=h;rcases h2 with⟨hv,hn⟩|⟨g,cap,cur,hv,hg,hh,hnc,hm2,hs,ht⟩
 ·have:l=[]:=List.eq_nil_of_length_eq_zero (by omega);subst this;rw[hv];exact cu.nil _ _
 rw[hv];have hcell: ∀(i:Nat) z,l[i]?=some z->cur[i]?=some (.int .u32 (z:Int)):=fun i z hz=>by
  have h3:((l.map fun n:Nat=>(n:Int)).map (Value.int .u32))[i]?=some (.int .u32 (z:Int)):=by rw[ay,ay,hz];rfl
  rw[<- ht,List.getElem?_take]at h3;split at h3
  ·simpa using h3
  cases h3
 have:=cu.sl (X:=Y) (w:=w') g 0 1 cap (ls fU l) (fun i _=>(cur[i]?).getD undef) (fun h=>absurd (hY _ h) (by omega)) (Array.getElem?_eq_some_iff.1 hh).1 (fun e he=>by
  obtain⟨z,_,rfl⟩:=List.mem_map.1 he;rfl) (by rw[dW];exact hnc) (by rw[dW];exact hm) (fun i e j x he hx=>by
  rw[fv]at he;obtain⟨z,hz,rfl⟩:=Option.map_eq_some_iff.1 he;cases j with
  |succ j=>simp[fU]at hx
  |zero=>
   rw[cell_of_row _ g _ cur _ _ hh,Nat.zero_add,Nat.mul_one,Nat.add_zero,hcell i z hz];rfl) (fun i e j x he hx=>by
  rw[fv]at he;obtain⟨z,hz,rfl⟩:=Option.map_eq_some_iff.1 he;cases j with
  |succ j=>simp[fU]at hx
  |zero=>
   simp[fU]at hx;subst hx;simp only[hcell i z hz,Option.getD_some];exact cu.raw _ rfl)
 rw[dW]at this;exact this
theorem tP (l:List Nat) (hl:l.length<=1073741824):CallC Tryz.prog 162 [bF l] ⟨[],bF l⟩:=by
 refine ta (by kernel_rfl) fun X w vs hX hvs ha=>?_
 obtain⟨v0,e0,r0⟩:=mv ha (j:=0) rfl;obtain⟨A,c,rfl,hc,hR⟩:=Ej r0;obtain rfl:vs= #[.slice A l.length c]:=by
  apply Array.ext_getElem?;intro j
  match j with
  |0=>exact e0
  |j+1=>rw[Array.getElem?_eq_none (by simp at hvs;omega)];rfl
 have hlen:(l.map fun n:Nat=>(n:Int)).length=l.length:=List.length_map _;have:=tg A c (l.map fun n:Nat=>(n:Int)) w hR (by rw[hlen];omega);rw[hlen]at this;refine this.mono fun e w' ⟨v,h1,h2,h3⟩=>⟨v,h1,fun ρ H Y hY=>Ji hY (by omega) h2,h3⟩
theorem px (z:Int) (h:Bg z):CallC Tryz.prog 148 [tZ z] ⟨[],tZ z⟩:=by
 have ht:=dV (aR z.natAbs) h.len;rw[fV]at ht;have hc:=tP (aR z.natAbs) h.len;have hb:=eu (decide (z<0)) z.natAbs;rw[xV]at hb;refine aJ Tryz.func148 rfl (by kernel_rfl) ?_;rw[Tryz.ntmps148];refine aD fun _ K=>?_;simp(disch:=omega) only[kd,tZ,ae,aa,ab];apply K
 refine bv aZ [⟨4,_,_,_,ht⟩,⟨5,_,_,_,hc⟩,⟨6,_,_,_,hb⟩] [] (by kernel_rfl) fun _ K=>?_;simp(disch:=omega) only[kd,bF,tZ,aa,ab,af];apply K
 (refine aI ⟨.inr rfl,aH rfl ?_ rfl⟩;simp(disch:=omega) only[kd,Tryz.results148,ab,aa,tZ])
theorem Ou (z:Int) (h:Bg z):CallC Tryz.prog 169 [tZ z] ⟨[],tZ (-z)⟩:=by
 have ht:=dV (aR z.natAbs) h.len;rw[fV]at ht;have hc:=tP (aR z.natAbs) h.len;have hb:=eu (!decide (z<0)) z.natAbs;rw[Ci]at hb;refine aJ Tryz.func169 rfl (by kernel_rfl) ?_;rw[Tryz.ntmps169];refine aD fun _ K=>?_;simp(disch:=omega) only[kd,tZ,ae,aa,ab];apply K
 refine bv aZ [⟨5,_,_,_,ht⟩,⟨6,_,_,_,hc⟩,⟨7,_,_,_,hb⟩] [] (by kernel_rfl) fun _ K=>?_;simp(disch:=omega) only[kd,bF,tZ,aa,ab,af];apply K
 (refine aI ⟨.inr rfl,aH rfl ?_ rfl⟩;simp(disch:=omega) only[kd,Tryz.results169,ab,aa,tZ])
theorem oY (o:List Nat) (k v:Nat):(o++ae (k+1) 0).set o.length v=(o++[v])++ae k 0:=by
 rw[List.set_append_right _ _ (ac _),Nat.sub_self,List.replicate_succ,List.set_cons_zero,List.append_assoc];rfl
theorem q9 (o:List Nat) (k:Nat):(o++ae (k+1) 0)[o.length]?=some 0:=by
 rw[List.getElem?_append_right (ac _),Nat.sub_self,List.replicate_succ];rfl
theorem oL (l m:List Nat) (ll:Lmb l) (lm:Lmb m) (cl:ov l) (cm:ov m) (bl:l.length<=1073741824) (bm:m.length<=1073741824):
  CallC Tryz.prog 144 [bF l,bF m] ⟨[],.raw (.int .i64 (fX (natV l) (natV m)))⟩:=by
 rcases Nat.lt_trichotomy l.length m.length with hlt|heq|hgt
 ·rw[nt (iH ll cm hlt)];refine aJ Tryz.func144 rfl (by kernel_rfl) ?_;rw[Tryz.ntmps144];refine aD fun _ K=>?_;simp only[kd,bF,aa,ae];apply K
  refine aE (aK ?_);refine aD fun _ K=>?_;simp(disch:=omega) only[kd,aa];apply K
  refine aS rfl ?_;refine aD fun _ K=>?_;simp only[kd];apply K
  (refine aI ⟨.inr rfl,aH rfl ?_ rfl⟩;simp(disch:=omega) only[kd,Tryz.results144])
 ·refine aJ Tryz.func144 rfl (by kernel_rfl) ?_;rw[Tryz.ntmps144];refine aD fun _ K=>?_;simp only[kd,bF,aa,ae];apply K
  refine aE (aK ?_);refine aD fun _ K=>?_;simp(disch:=omega) only[kd,aa];apply K
  refine aO rfl ?_;refine aD fun _ K=>?_;simp(disch:=omega) only[kd,aa];apply K
  refine aO rfl (aL ?_);show bs _ _ _ _;refine aE (aD fun _ K=>?_);simp(disch:=omega) only[kd,aa,aP];apply K;refine aT (G:={k:Nat//k<=l.length/\l.drop k=m.drop k}) (fun k=>⟨(bF l::bF m::jk::jk::jk::.raw (.int .i64 ((k.1:Int)-1))::j16 (j16 (j4 (jk::jk::jk::[])))),Hm []⟩) (fun k=>k.1) ⟨l.length,ac _,by rw[List.drop_length,heq,List.drop_length]⟩ ?_ ?_
  ·refine aF trivial ?_;simp[wk]
  rintro⟨k,hk,hd⟩;simp only;by_cases h0:0<k
  ·obtain⟨a,ha⟩:=getElem?_of_lt (l:=l) (k:=k-1) (by omega);obtain⟨b,hb⟩:=getElem?_of_lt (l:=m) (k:=k-1) (by omega);have e1:((k:Int)-1).toNat=k-1:=by omega
   have hd':l.drop (k-1+1)=m.drop (k-1+1):=by rw[show k-1+1=k by omega];exact hd
   refine aE (aD fun _ K=>?_);simp(disch:=omega) only[kd,bF];apply K;refine aS rfl (aL ?_);refine aE (aK ?_);refine aK ?_;rcases Nat.lt_trichotomy a b with hab|hab|hab
   ·rw[nt (lP ll ha hb hd' hab)];refine cK aZ (by kernel_rfl) fun _ K=>?_;simp(disch:=omega) only[kd,aa,e1,ha,hb];apply K
    refine aS rfl ?_;refine aD fun _ K=>?_;simp only[kd];apply K
    (refine aI ⟨.inr rfl,aH rfl ?_ rfl⟩;simp(disch:=omega) only[kd,Tryz.results144])
   ·subst hab;refine cK aZ (by kernel_rfl) fun _ K=>?_;simp(disch:=omega) only[kd,aa,e1,ha,hb];apply K
    refine aO rfl ?_;refine cK aZ (by kernel_rfl) fun _ K=>?_;simp(disch:=omega) only[kd,aa,e1,ha,hb];apply K
    refine aO rfl (aL ?_);show bs _ _ _ _;refine aM fun _ K=>?_;simp(disch:=omega) only[kd,aa,aP];apply K
    refine⟨⟨k-1,by omega,wh ha hb hd'⟩,by simp only;omega,aF trivial ?_⟩;have e2:((k-1:Nat):Int)=(k:Int)-1:=by omega
    simp[wk,e2]
   rw[r6 (lP lm hb ha hd'.symm hab)];refine cK aZ (by kernel_rfl) fun _ K=>?_;simp(disch:=omega) only[kd,aa,e1,ha,hb];apply K
   refine aO rfl ?_;refine cK aZ (by kernel_rfl) fun _ K=>?_;simp(disch:=omega) only[kd,aa,e1,ha,hb];apply K
   refine aS rfl ?_;refine aD fun _ K=>?_;simp only[kd];apply K
   (refine aI ⟨.inr rfl,aH rfl ?_ rfl⟩;simp(disch:=omega) only[kd,Tryz.results144])
  have hk0:k=0:=by omega
  subst hk0;have hlm:l=m:=by simpa using hd
  rw[show fX (natV l) (natV m)=0 by rw[hlm];simp[fX]];refine aE (aD fun _ K=>?_);simp(disch:=omega) only[kd,bF];apply K;refine aO rfl (bK ?_);show bs _ _ _ _;refine aD fun _ K=>?_;simp only[kd];apply K
  (refine aI ⟨.inr rfl,aH rfl ?_ rfl⟩;simp(disch:=omega) only[kd,Tryz.results144])
 rw[r6 (iH lm cl hgt)];refine aJ Tryz.func144 rfl (by kernel_rfl) ?_;rw[Tryz.ntmps144];refine aD fun _ K=>?_;simp only[kd,bF,aa,ae];apply K
 refine aE (aK ?_);refine aD fun _ K=>?_;simp(disch:=omega) only[kd,aa];apply K
 refine aO rfl ?_;refine aD fun _ K=>?_;simp(disch:=omega) only[kd,aa];apply K
 refine aS rfl ?_;refine aD fun _ K=>?_;simp only[kd];apply K
 (refine aI ⟨.inr rfl,aH rfl ?_ rfl⟩;simp(disch:=omega) only[kd,Tryz.results144])
structure Qj (m n:List Nat) (e:Nat) where
 i:Nat
 o:List Nat
 c:Nat
 hi:i<=e
 hc:c<=1
 ho:o.length=i
 h:o++sumL (m.drop i) (n.drop i) c=sumL m n 0
structure Qk (m n:List Nat) where
 j:Nat
 o:List Nat
 c:Nat
 hj:n.length+j<=m.length
 hc:c<=1
 ho:o.length=n.length+j
 h:o++sumL (m.drop (n.length+j)) [] c=sumL m n 0
theorem wn (m n:List Nat) (lm:Lmb m) (ln:Lmb n) (bm:m.length<=536870912) (bn:n.length<=536870912):
  CallC Tryz.prog 171 [bF m,bF n] ⟨[],bF (aR (natV m+natV n))⟩:=by
 refine aJ Tryz.func171 rfl (by kernel_rfl) ?_;rw[Tryz.ntmps171];refine aD fun _ K=>?_;simp only[kd,bF,aa,ae];apply K
 obtain⟨p,q,hpq,hle⟩: ∃p q:List Nat,((p=m/\q=n/\ ¬m.length<n.length)\/(p=n/\q=m/\m.length<n.length))/\q.length<=p.length:=by
  by_cases h:m.length<n.length
  ·exact⟨n,m,.inr ⟨rfl,rfl,h⟩,by omega⟩
  exact⟨m,n,.inl ⟨rfl,rfl,h⟩,by omega⟩
 refine aE (jI (S:=⟨(bF p::bF q::j16 (j16 (j16 (j16 (j16 (jk::[])))))),Hm []⟩) ?_ ?_)
 ·rcases hpq with⟨rfl,rfl,h⟩|⟨rfl,rfl,h⟩
  ·refine aD fun _ K=>?_;simp(disch:=omega) only[kd,aa];apply K
   refine bT rfl (fun h=>by simp at h<;>omega) (fun _=>aL (aF trivial ?_));simp[wk]
  refine aD fun _ K=>?_;simp(disch:=omega) only[kd,aa];apply K
  refine aS rfl ?_;refine aM fun _ K=>?_;simp only[kd,aa];apply K
  refine aF trivial ?_;simp[wk]
 have hsum:natV m+natV n=natV p+natV q:=by rcases hpq with⟨rfl,rfl,_⟩|⟨rfl,rfl,_⟩<;>omega
 have lp:Lmb p:=by rcases hpq with⟨rfl,rfl,_⟩|⟨rfl,rfl,_⟩<;>assumption
 have lq:Lmb q:=by rcases hpq with⟨rfl,rfl,_⟩|⟨rfl,rfl,_⟩<;>assumption
 have bp:p.length<=536870912:=by rcases hpq with⟨rfl,rfl,_⟩|⟨rfl,rfl,_⟩<;>assumption
 rw[hsum];clear hsum hpq lm ln bm bn;have ep:(p.length:Int)+1=((p.length+1:Nat):Int):=by omega
 refine aD fun _ K=>?_;simp(disch:=omega) only[kd,aa,bF,ep,aP,lJ];apply K
 refine aD fun _ K=>?_;simp only[kd];apply K
 refine aE (aD fun _ K=>?_);simp only[kd,aa];apply K;refine aT (G:=Qj p q q.length) (fun g=>⟨(bF p::bF q::jk::jk::jk::.one (.sl 19 0 0 (p.length+1))::.raw (.int .u64 (g.c:Int))::j4 (j4 (j4 (jk::jk::rN q.length::rN g.i::j16 (j16 (j16 (j4 (j4 (j4 ([])))))))))),Hm [(19,[⟨79,1,lc fU (g.o++ae (p.length+1-g.i) 0)⟩])]⟩) (fun g=>q.length-g.i) ⟨0,[],0,by omega,by omega,rfl,rfl⟩ ?_ ?_
 ·refine aF ⟨?_,trivial⟩ ?_
  ·simp[bj,Hm]
  simp[wk]
 rintro⟨i,o,c,hi,hc,ho,h⟩;simp only;by_cases hm:i<q.length
 ·obtain⟨a,ha⟩:=getElem?_of_lt (show i<p.length by omega);obtain⟨b,hb⟩:=getElem?_of_lt hm;have ha':=cn lp ha;have hb':=cn lq hb;have e1:IntKind.u32.wrap ((c:Int)+((a:Int)+(b:Int)))=(((c+a+b)%4294967296:Nat):Int):=by rw[<- sH];congr 1<;>omega
  have e2:Int.fdiv ((c:Int)+((a:Int)+(b:Int))) (2^(min 32 IntKind.u64.bits))=(((c+a+b)/4294967296:Nat):Int):=by rw[<- GL];congr 1<;>omega
  have hz:p.length+1-i=(p.length-i)+1:=by omega
  have hg:=q9 o (p.length-i);have hs:=oY o (p.length-i) ((c+a+b)%4294967296);rw[ho]at hg hs;rw[hz];refine aD fun _ K=>?_;simp(disch:=omega) only[kd,bF];apply K
  refine bC rfl ?_;refine aE (aK ?_);refine aD fun _ K=>?_;simp only[kd];apply K
  refine cK aZ (by kernel_rfl) fun _ K=>?_;simp(disch:=omega) only[kd,aa,ha,dn,hb];apply K
  refine aD fun _ K=>?_;simp(disch:=omega) only[kd,aa,e1,hg,dH,hs];apply K
  refine aM fun _ K=>?_;simp only[kd,aa,Int.reduceLE,am,e2];apply K
  show bs _ _ _ _;refine aM fun _ K=>?_;simp(disch:=omega) only[kd,aP];apply K
  refine⟨⟨i+1,o++[(c+a+b)%4294967296],(c+a+b)/4294967296,by omega,by omega,by simp[ho],?_⟩,by simp only;omega,aF ⟨?_,trivial⟩ ?_⟩
  ·rw[<- h,ea ha,ea hb,sumL,List.append_assoc];rfl
  ·show _=[(⟨_,_,lc fU ((o++[(c+a+b)%4294967296])++ae (p.length+1-(i+1)) 0)⟩:OObj)];rw[show p.length+1-(i+1)=p.length-i by omega];rfl
  simp[wk]
 have hin:i=q.length:=by omega
 subst hin;rw[dL (ac _)]at h;refine aD fun _ K=>?_;simp(disch:=omega) only[kd,bF];apply K
 refine bJ rfl ?_;show bs _ _ _ _;have es:(p.length:Int)-(q.length:Int)=((p.length-q.length:Nat):Int):=by omega
 refine aE (aD fun _ K=>?_);simp(disch:=omega) only[kd,aa,es,aP];apply K;refine aT (G:=Qk p q) (fun g=>⟨(bF p::bF q::jk::jk::jk::.one (.sl 19 0 0 (p.length+1))::.raw (.int .u64 (g.c:Int))::j16 (j16 (j4 (j4 (jk::jk::jk::.raw (.int .i64 ((p.length-q.length:Nat):Int))::rN g.j::j16 (j4 (j4 (j4 (jk::jk::jk::[]))))))))),Hm [(19,[⟨79,1,lc fU (g.o++ae (p.length+1-(q.length+g.j)) 0)⟩])]⟩) (fun g=>p.length-q.length-g.j) ⟨0,o,c,by omega,hc,ho,h⟩ ?_ ?_
 ·refine aF ⟨rfl,trivial⟩ ?_;simp[wk]
 clear h ho hc c o;rintro⟨j,o,c,hj,hc,ho,h⟩;simp only;have eNj:(q.length:Int)+(j:Int)=((q.length+j:Nat):Int):=by omega
 by_cases hm2:j<p.length-q.length
 ·obtain⟨a,ha⟩:=getElem?_of_lt (show q.length+j<p.length by omega);have ha':=cn lp ha;have e1:IntKind.u32.wrap ((c:Int)+(a:Int))=(((c+a)%4294967296:Nat):Int):=by rw[<- sH];congr 1<;>omega
  have e2:Int.fdiv ((c:Int)+(a:Int)) (2^(min 32 IntKind.u64.bits))=(((c+a)/4294967296:Nat):Int):=by rw[<- GL];congr 1<;>omega
  have hz:p.length+1-(q.length+j)=(p.length-(q.length+j))+1:=by omega
  have hg:=q9 o (p.length-(q.length+j));have hs:=oY o (p.length-(q.length+j)) ((c+a)%4294967296);rw[ho]at hg hs;rw[hz];refine aD fun _ K=>?_;simp(disch:=omega) only[kd,bF];apply K
  refine bC rfl ?_;refine aE (aK ?_);refine aD fun _ K=>?_;simp only[kd];apply K
  refine aD fun _ K=>?_;simp(disch:=omega) only[kd,aa,eNj,aP,ha,dn];apply K
  refine aD fun _ K=>?_;simp(disch:=omega) only[kd,aa,eNj,aP,e1,hg,dH,hs];apply K
  refine aM fun _ K=>?_;simp only[kd,aa,Int.reduceLE,am,e2];apply K
  show bs _ _ _ _;refine aM fun _ K=>?_;simp(disch:=omega) only[kd,aP];apply K
  refine⟨⟨j+1,o++[(c+a)%4294967296],(c+a)/4294967296,by omega,by omega,by simp[ho];omega,?_⟩,by simp only;omega,aF ⟨?_,trivial⟩ ?_⟩
  ·rw[<- h,ea ha,sumL,List.append_assoc];rfl
  ·show _=[(⟨_,_,lc fU ((o++[(c+a)%4294967296])++ae (p.length+1-(q.length+(j+1))) 0)⟩:OObj)];rw[show p.length+1-(q.length+(j+1))=p.length-(q.length+j) by omega];rfl
  simp[wk]
 have hje:q.length+j=p.length:=by omega
 rw[hje]at h ho;rw[dL (ac _),sumL]at h;have e1:IntKind.u32.wrap (c:Int)=(c:Int):=by rw[sH];omega
 have hz:p.length+1-(q.length+j)=0+1:=by omega
 have hg:=q9 o 0;have hs:=oY o 0 c;rw[ho]at hg hs;rw[List.replicate_zero,List.append_nil,h]at hs;have hsl:(sumL p q 0).length=p.length+1:=by rw[mY];omega
 have hlm:=mL p q 0 lp lq (by omega);have ht:=dV (sumL p q 0) (by omega);rw[eB hlm,kF,Nat.add_zero]at ht;rw[hz];generalize sumL p q 0=S at*
 refine aD fun _ K=>?_;simp(disch:=omega) only[kd,bF];apply K
 refine bJ rfl ?_;show bs _ _ _ _;refine aD fun _ K=>?_;simp(disch:=omega) only[kd,aa,e1,hg,dH,hs];apply K
 refine bs.weak ((bW 19 (cH rfl)).trans (aF (tm:=(j4 (jk::bF S::j16 (j16 (j16 (j16 (j4 (j4 (j4 (jk::[])))))))))) (l:=[]) trivial (by simp[wk,gW,fD,bj,Hm,gu,gP,List.take_of_length_le,hsl]))) ?_;refine aG [⟨1,_,_,_,ht⟩] [] fun _ K=>?_;simp only[kd,bF,aa];apply K
 (refine aI ⟨.inr rfl,aH rfl ?_ rfl⟩;simp(disch:=omega) only[kd,Tryz.results171,bF])
theorem qI (m n:List Nat) (lm:Lmb m) (ln:Lmb n) (hl:n.length<=m.length) (hle:natV n<=natV m) (bm:m.length<=536870912):
  CallC Tryz.prog 172 [bF m,bF n] ⟨[],bF (aR (natV m-natV n))⟩:=by
 refine aJ Tryz.func172 rfl (by kernel_rfl) ?_;rw[Tryz.ntmps172];refine aD fun _ K=>?_;simp only[kd,bF,aa,ae];apply K
 refine aD fun _ K=>?_;simp(disch:=omega) only[kd,aa,lJ];apply K
 refine aD fun _ K=>?_;simp only[kd];apply K
 refine aE (aD fun _ K=>?_);simp only[kd,aa];apply K;refine aT (G:=Pv m n) (fun g=>⟨(bF m::bF n::jk::jk::jk::.one (.sl 11 0 0 m.length)::.raw (.int .u64 (g.c:Int))::j4 (jk::jk::rN m.length::rN g.i::j16 (j4 (j4 (j4 (jk::jk::[])))))),Hm [(11,[⟨79,1,lc fU (g.o++ae (m.length-g.i) 0)⟩])]⟩) (fun g=>m.length-g.i) ⟨0,[],0,by omega,by omega,rfl,rfl⟩ ?_ ?_
 ·refine aF ⟨?_,trivial⟩ ?_
  ·simp[bj,Hm]
  simp[wk]
 rintro⟨i,o,c,hi,hc,ho,h⟩;simp only;by_cases hm:i<m.length
 ·obtain⟨a,ha⟩:=getElem?_of_lt hm;have ha':=cn lm ha;have hz:m.length-i=(m.length-i-1)+1:=by omega
  have hg:=q9 o (m.length-i-1);rw[ho]at hg;rw[hz];refine aD fun _ K=>?_;simp(disch:=omega) only[kd,bF];apply K
  refine bC rfl ?_;refine aE (aK ?_);refine aD fun _ K=>?_;simp only[kd];apply K
  refine aD fun _ K=>?_;simp(disch:=omega) only[kd,aa,ha,dn];apply K
  by_cases hn:i<n.length
  ·obtain⟨b,hb⟩:=getElem?_of_lt hn;have hb':=cn ln hb;have e1:IntKind.u32.wrap (IntKind.u64.wrap (IntKind.u64.wrap ((a:Int)-(c:Int))-(b:Int)))=(((a+8589934592-(c+b))%4294967296:Nat):Int):=by rw[IntKind.wrap_u32,IntKind.wrap_u64,IntKind.wrap_u64];omega
   have e2:Int.fdiv (IntKind.u64.wrap (IntKind.u64.wrap ((a:Int)-(c:Int))-(b:Int))) (2^(min 63 IntKind.u64.bits))=(((if a<c+b then 1 else 0):Nat):Int):=by
    rw[IntKind.wrap_u64,IntKind.wrap_u64];show Int.fdiv _ 9223372036854775808=_;rw[Int.fdiv_eq_ediv_of_nonneg _ (by omega)];split<;>omega
   have hs:=oY o (m.length-i-1) ((a+8589934592-(c+b))%4294967296);rw[ho]at hs;refine aE (aD fun _ K=>?_);simp(disch:=omega) only[kd,aa];apply K;refine aS rfl ?_;refine aM fun _ K=>?_;simp(disch:=omega) only[kd,aa,hb,dn];apply K
   show bs _ _ _ _;refine aD fun _ K=>?_;simp(disch:=omega) only[kd,aa,e1,hg,dH,hs];apply K
   refine aM fun _ K=>?_;simp only[kd,aa,Int.reduceLE,am,e2];apply K
   show bs _ _ _ _;refine aM fun _ K=>?_;simp(disch:=omega) only[kd,aP];apply K
   refine⟨⟨i+1,o++[(a+8589934592-(c+b))%4294967296],if a<c+b then 1 else 0,by omega,by split<;>omega,by simp[ho],?_⟩,by simp only;omega,aF ⟨?_,trivial⟩ ?_⟩
   ·rw[<- h,ea ha,ea hb,diffL,List.append_assoc];rfl
   ·show _=[(⟨_,_,lc fU ((o++[(a+8589934592-(c+b))%4294967296])++ae (m.length-(i+1)) 0)⟩:OObj)];rw[show m.length-(i+1)=m.length-i-1 by omega];rfl
   simp[wk]
  have e1:IntKind.u32.wrap (IntKind.u64.wrap ((a:Int)-(c:Int)))=(((a+8589934592-c)%4294967296:Nat):Int):=by rw[IntKind.wrap_u32,IntKind.wrap_u64];omega
  have e2:Int.fdiv (IntKind.u64.wrap ((a:Int)-(c:Int))) (2^(min 63 IntKind.u64.bits))=(((if a<c then 1 else 0):Nat):Int):=by
   rw[IntKind.wrap_u64];show Int.fdiv _ 9223372036854775808=_;rw[Int.fdiv_eq_ediv_of_nonneg _ (by omega)];split<;>omega
  have hs:=oY o (m.length-i-1) ((a+8589934592-c)%4294967296);rw[ho]at hs;refine aE (aD fun _ K=>?_);simp(disch:=omega) only[kd,aa];apply K;refine aO rfl (aL ?_);show bs _ _ _ _;refine aD fun _ K=>?_;simp(disch:=omega) only[kd,aa,e1,hg,dH,hs];apply K
  refine aM fun _ K=>?_;simp only[kd,aa,Int.reduceLE,am,e2];apply K
  show bs _ _ _ _;refine aM fun _ K=>?_;simp(disch:=omega) only[kd,aP];apply K
  refine⟨⟨i+1,o++[(a+8589934592-c)%4294967296],if a<c then 1 else 0,by omega,by split<;>omega,by simp[ho],?_⟩,by simp only;omega,aF ⟨?_,trivial⟩ ?_⟩
  ·rw[<- h,ea ha,dL (by omega:n.length<=i),dL (by omega:n.length<=i+1),diffL,List.append_assoc];rfl
  ·show _=[(⟨_,_,lc fU ((o++[(a+8589934592-c)%4294967296])++ae (m.length-(i+1)) 0)⟩:OObj)];rw[show m.length-(i+1)=m.length-i-1 by omega];rfl
  simp[wk]
 have hie:i=m.length:=by omega
 subst hie;rw[dL (ac _),diffL,List.append_nil]at h;rw[Nat.sub_self,List.replicate_zero,List.append_nil,h];have hsl:(diffL m n 0).length=m.length:=ja m n 0;have hlm:=jc m n 0;have hv:=ik m n 0 lm ln (by omega) hl (by omega);have ht:=dV (diffL m n 0) (by omega);rw[eB hlm,show natV (diffL m n 0)=natV m-natV n by omega]at ht;generalize diffL m n 0=S at*
 refine aD fun _ K=>?_;simp(disch:=omega) only[kd,bF];apply K
 refine bJ rfl ?_;show bs _ _ _ _;refine bs.weak ((bW 11 (cH rfl)).trans (aF (tm:=(j4 (jk::bF S::j16 (j16 (j4 (jk::jk::jk::[])))))) (l:=[]) trivial (by simp[wk,gW,fD,bj,Hm,gu,gP,List.take_of_length_le,hsl]))) ?_;refine aG [⟨1,_,_,_,ht⟩] [] fun _ K=>?_;simp only[kd,bF,aa];apply K
 (refine aI ⟨.inr rfl,aH rfl ?_ rfl⟩;simp(disch:=omega) only[kd,Tryz.results172,bF])
theorem FH {A B:List Nat} (g:EH A B) (h:A[g.i]?=some 0): ∃g':EH A B,g'.i=g.i+1/\g'.O=g.O:=by
 refine⟨⟨g.i+1,g.O,(List.getElem?_eq_some_iff.1 h).1,g.len,g.lmb,?_,fun k h1 h2=>g.zero k (by omega) h2⟩,rfl,rfl⟩;rw[bM h,g.val];simp
theorem Ft (A B:List Nat) (hlA:Lmb A) (hlB:Lmb B) (la:A.length<=536870912) (lb:B.length<=536870912):CallC Tryz.prog 174 [bF A,bF B] ⟨[],bF (aR (natV A*natV B))⟩:=by
 by_cases hsm:A.length<=1/\B.length<=1
 ·have hsm1:=hsm.1;have hsm2:=hsm.2;have w1:=pB A hlA (by omega);have w2:=pB B hlB (by omega);have b1:natV A<4294967296:=by
   have:=fJ hlA;exact Nat.lt_of_lt_of_le this (by have:=aC (n:=4294967296) (by omega) hsm1;simpa using this)
  have b2:natV B<4294967296:=by
   have:=fJ hlB;exact Nat.lt_of_lt_of_le this (by have:=aC (n:=4294967296) (by omega) hsm2;simpa using this)
  have hb:=nH b1 b2;have w3:=iD (natV A*natV B) (by omega);have e2:(natV A:Int)*(natV B:Int)=((natV A*natV B:Nat):Int):=by simp
  generalize natV A*natV B=p at*
  refine aJ Tryz.func174 rfl (by kernel_rfl) ?_;rw[Tryz.ntmps174];refine aD fun _ K=>?_;simp only[kd,bF,aa,ae];apply K
  refine aE (aD fun _ K=>?_);simp(disch:=omega) only[kd,aa];apply K;refine aS rfl ?_;refine aG [⟨1,_,_,_,w1⟩,⟨3,_,_,_,w2⟩,⟨5,_,_,_,w3⟩] [] fun _ K=>?_;simp(disch:=omega) only[kd,bF,aa,af,e2,dn];apply K
  (refine aI ⟨.inr rfl,aH rfl ?_ rfl⟩;simp(disch:=omega) only[kd,Tryz.results174,bF])
 have e0:((A.length:Int)+(B.length:Int)).toNat=A.length+B.length:=by omega
 refine aJ Tryz.func174 rfl (by kernel_rfl) ?_;rw[Tryz.ntmps174];refine aD fun _ K=>?_;simp only[kd,bF,aa,ae];apply K
 refine aE (jI (S:=⟨(bF A::bF B::j16 (j16 (j16 (j16 (j16 (j4 ([]))))))),Hm []⟩) ?_ ?_)
 ·by_cases h1:A.length<=1
  ·refine aD fun _ K=>?_;simp(disch:=omega) only[kd,aa];apply K
   refine bT rfl (fun h=>by simp at h<;>omega) (fun _=>aL (aF trivial ?_));simp[wk]
  refine aD fun _ K=>?_;simp(disch:=omega) only[kd,aa];apply K
  refine bT rfl (fun h=>by simp at h<;>omega) (fun _=>aL (aF trivial ?_));simp[wk]
 refine aD fun _ K=>?_;simp(disch:=omega) only[kd,aa,bF,aP,e0,lJ];apply K
 refine aE (aD fun _ K=>?_);simp only[kd,aa];apply K;refine aT (G:=EH A B) (fun g=>⟨(bF A::bF B::jk::jk::jk::.one (.sl 31 0 0 (A.length+B.length))::j16 (j4 (j4 (jk::jk::bF A::rN A.length::rN g.i::j16 (j16 (j16 (jk::jk::jk::[]))))))),Hm [(31,[⟨79,1,lc fU g.O⟩])]⟩) (fun g=>A.length-g.i) ⟨0,ae (A.length+B.length) 0,by omega,by simp,fun x hx=>by simp at hx;omega,by simp[ue,natV],fun k h1 h2=>by rw[List.getElem?_replicate,if_pos h2]⟩ ?_ ?_
 ·refine aF ⟨rfl,trivial⟩ ?_;simp[wk]
 rintro⟨i,O,hi,len,lmb,val,zero⟩;simp only;by_cases hm:i<A.length
 ·obtain⟨x,hx⟩:=getElem?_of_lt hm;have hx':=cn hlA hx;refine aD fun _ K=>?_;simp(disch:=omega) only[kd,bF];apply K
  refine bC rfl ?_;refine aE (aK ?_);refine aD fun _ K=>?_;simp(disch:=omega) only[kd,aa,hx];apply K
  by_cases hx0:x=0
  ·subst hx0;obtain⟨g',q1,q2⟩:=FH (⟨i,O,hi,len,lmb,val,zero⟩:EH A B) hx;simp only at q1 q2;refine aE (aD fun _ K=>?_);simp(disch:=omega) only[kd];apply K;refine aS rfl (bK ?_);show bs _ _ _ _;refine aM fun _ K=>?_;simp(disch:=omega) only[kd,aP];apply K
   refine⟨g',by omega,aF ⟨by rw[q2];rfl,trivial⟩ ?_⟩;simp[wk,q1]
  have es:(i:Int)+(B.length:Int)+1=((i+B.length+1:Nat):Int):=by omega
  have el:i+B.length+1-i=B.length+1:=by omega
  refine aE (aD fun _ K=>?_);simp(disch:=omega) only[kd];apply K;refine aO rfl (aL ?_);show bs _ _ _ _;refine aD fun _ K=>?_;simp(disch:=omega) only[kd,aa,aP,es,el];apply K
  refine aD fun _ K=>?_;simp only[kd];apply K
  refine aE (aD fun _ K=>?_);simp only[kd,aa];apply K;refine aT (G:=GW A B i x) (fun g=>⟨(bF A::bF B::jk::jk::jk::.one (.sl 31 0 0 (A.length+B.length))::jk::.raw (.int .u32 (x:Int))::.one (.sl 31 0 i (B.length+1))::.raw (.int .u64 (g.c:Int))::j16 (j4 (jk::jk::bF A::rN A.length::rN i::j4 (j4 (j4 (jk::jk::bF B::rN B.length::rN g.j::j16 (j16 (jk::jk::[])))))))),Hm [(31,[⟨79,1,lc fU g.O⟩])]⟩) (fun g=>B.length-g.j) ⟨0,O,0,by omega,len,lmb,by omega,by simpa[natV] using val,zero⟩ ?_ ?_
  ·refine aF ⟨rfl,trivial⟩ ?_;simp[wk]
  intro g;by_cases hn:g.j<B.length
  ·obtain⟨y,hy⟩:=getElem?_of_lt hn;have hy':=cn hlB hy;have hlen:=g.len;obtain⟨o,ho⟩:=getElem?_of_lt (show i+g.j<g.O.length by omega);have ho':=cn g.lmb ho;have hb:=nH hx' hy';have hgc:=g.hc;obtain⟨g',q1,q2,q3⟩:=wz g hy ho hm hx' hy';have e2:(x:Int)*(y:Int)=((x*y:Nat):Int):=by simp
   generalize hp:x*y=p at*
   have e3:IntKind.u32.wrap ((g.c:Int)+((p:Int)+(o:Int)))=(((g.c+(p+o))%4294967296:Nat):Int):=by rw[<- sH];congr 1<;>omega
   have e4:Int.fdiv ((g.c:Int)+((p:Int)+(o:Int))) (2^(min 32 IntKind.u64.bits))=(((g.c+(p+o))/4294967296:Nat):Int):=by rw[<- GL];congr 1<;>omega
   refine aD fun _ K=>?_;simp(disch:=omega) only[kd,bF];apply K
   refine bC rfl ?_;refine aE (aK ?_);refine aD fun _ K=>?_;simp(disch:=omega) only[kd,aa,hy];apply K
   refine aD fun _ K=>?_;simp(disch:=omega) only[kd,aa,dn,e2,ho];apply K
   refine aD fun _ K=>?_;simp(disch:=omega) only[kd,aa,e3,ho,dH];apply K
   refine aM fun _ K=>?_;simp only[kd,aa,Int.reduceLE,am,e4];apply K
   show bs _ _ _ _;refine aM fun _ K=>?_;simp(disch:=omega) only[kd,aP];apply K
   refine⟨g',by omega,aF ⟨by rw[q2];rfl,trivial⟩ ?_⟩;simp[wk,q1,q3]
  have hgj:=g.hj;have hgc:=g.hc;have hgl:=g.len;obtain⟨g',q1,q2⟩:=wy hx g hn;have e3:IntKind.u32.wrap (g.c:Int)=(g.c:Int):=by rw[sH];omega
  refine aD fun _ K=>?_;simp(disch:=omega) only[kd,bF];apply K
  refine bJ rfl ?_;show bs _ _ _ _;have hz:=g.zero (i+B.length) (ac _) (by omega);refine aM fun _ K=>?_;simp(disch:=omega) only[kd,aa,e3,hz,dH];apply K
  show bs _ _ _ _;refine aM fun _ K=>?_;simp(disch:=omega) only[kd,aP];apply K
  refine⟨g',by omega,aF ⟨by rw[q2];rfl,trivial⟩ ?_⟩;simp[wk,q1]
 have hfin:natV O=natV A*natV B:=by
  have:i=A.length:=by omega
  rw[val,this,List.take_length]
 have ht:=dV O (by omega);rw[eB lmb,hfin]at ht;refine aD fun _ K=>?_;simp(disch:=omega) only[kd,bF];apply K
 refine bJ rfl ?_;show bs _ _ _ _;refine bs.weak ((bW 31 (cH rfl)).trans (aF (tm:=(j4 (jk::bF O::j16 (j16 (j16 (j16 (j16 ([])))))))) (l:=[]) trivial (by simp[wk,gW,fD,bj,Hm,gu,gP,List.take_of_length_le,len]))) ?_;refine aG [⟨1,_,_,_,ht⟩] [] fun _ K=>?_;simp only[kd,bF,aa];apply K
 (refine aI ⟨.inr rfl,aH rfl ?_ rfl⟩;simp(disch:=omega) only[kd,Tryz.results174,bF])
/-! Signed numbers. -/
theorem Hw {a b:Nat}:0<=fX a b↔b<=a:=by unfold fX;split<;>(try split)<;>omega
theorem CL {na nb:Bool} {a b:Nat} (h:na≠nb) (hle:b<=a):f4 na (a-b)=f4 na a+f4 nb b:=by
 unfold f4;cases na<;>cases nb<;>simp at* <;>omega
theorem CM {na nb:Bool} {a b:Nat} (h:na≠nb) (hle:a<=b):f4 nb (b-a)=f4 na a+f4 nb b:=by
 unfold f4;cases na<;>cases nb<;>simp at* <;>omega
theorem MF (n:Bool) (a b:Nat):f4 n (a+b)=f4 n a+f4 n b:=by unfold f4;cases n<;>simp<;>omega
theorem xH (na nb:Bool) (a b:Nat) (la:(aR a).length<=536870912) (lb:(aR b).length<=536870912):CallC Tryz.prog 173 [.raw (.bool na),bF (aR a),.raw (.bool nb),bF (aR b)] ⟨[],tZ (f4 na a+f4 nb b)⟩:=by
 by_cases hs:na=nb
 ·subst hs;have h1:=wn (aR a) (aR b) (aW _) (aW _) la lb;rw[aQ,aQ]at h1;have h2:=eu na (a+b);rw[MF]at h2;refine aJ Tryz.func173 rfl (by kernel_rfl) ?_;rw[Tryz.ntmps173];refine aD fun _ K=>?_;simp(disch:=omega) only[kd,bF,aa,ae];apply K
  refine aE (aK ?_);refine aD fun _ K=>?_;simp only[kd,aa];apply K
  refine aS rfl ?_;refine aG [⟨3,_,_,_,h1⟩,⟨4,_,_,_,h2⟩] [] fun _ K=>?_;simp(disch:=omega) only[kd,bF,tZ,aa,af];apply K
  (refine aI ⟨.inr rfl,aH rfl ?_ rfl⟩;simp(disch:=omega) only[kd,Tryz.results173,aa,tZ])
 have hne:(na==nb)=false:=by simpa using hs
 have h0:=oL (aR a) (aR b) (aW _) (aW _) (cd _) (cd _) (by omega) (by omega);rw[aQ,aQ]at h0;have hge:=Hw (a:=a) (b:=b);by_cases hle:b<=a
 ·have h1:=qI (aR a) (aR b) (aW _) (aW _) (iG (aW _) (cd _) (by rw[aQ,aQ];exact hle)) (by rw[aQ,aQ];exact hle) la;rw[aQ,aQ]at h1;have h2:=eu na (a-b);rw[CL hs hle]at h2;have hc:0<=fX a b:=hge.2 hle;generalize fX a b=cv at*
  refine aJ Tryz.func173 rfl (by kernel_rfl) ?_;rw[Tryz.ntmps173];refine aD fun _ K=>?_;simp(disch:=omega) only[kd,bF,aa,ae];apply K
  refine aE (aK ?_);refine aD fun _ K=>?_;simp only[kd,aa,hne];apply K
  refine aO rfl ?_;refine aG [⟨2,_,_,_,h0⟩] [] fun _ K=>?_;simp(disch:=omega) only[kd,bF,aa];apply K
  refine aS rfl ?_;refine aG [⟨3,_,_,_,h1⟩,⟨4,_,_,_,h2⟩] [] fun _ K=>?_;simp(disch:=omega) only[kd,bF,tZ,aa,af];apply K
  (refine aI ⟨.inr rfl,aH rfl ?_ rfl⟩;simp(disch:=omega) only[kd,Tryz.results173,aa,tZ])
 have h1:=qI (aR b) (aR a) (aW _) (aW _) (iG (aW _) (cd _) (by rw[aQ,aQ];omega)) (by rw[aQ,aQ];omega) lb;rw[aQ,aQ]at h1;have h2:=eu nb (b-a);rw[CM hs (by omega)]at h2;have hc: ¬0<=fX a b:=fun h=>hle (hge.1 h)
 generalize fX a b=cv at*
 refine aJ Tryz.func173 rfl (by kernel_rfl) ?_;rw[Tryz.ntmps173];refine aD fun _ K=>?_;simp(disch:=omega) only[kd,bF,aa,ae];apply K
 refine aE (aK ?_);refine aD fun _ K=>?_;simp only[kd,aa,hne];apply K
 refine aO rfl ?_;refine aG [⟨2,_,_,_,h0⟩] [] fun _ K=>?_;simp(disch:=omega) only[kd,bF,aa];apply K
 refine aO rfl (aL ?_);show bs _ _ _ _;refine aG [⟨3,_,_,_,h1⟩,⟨4,_,_,_,h2⟩] [] fun _ K=>?_;simp(disch:=omega) only[kd,bF,tZ,aa,af];apply K
 (refine aI ⟨.inr rfl,aH rfl ?_ rfl⟩;simp(disch:=omega) only[kd,Tryz.results173,aa,tZ])
theorem Iw (a b:Int) (ha:Bh a) (hb:Bh b):CallC Tryz.prog 164 [tZ a,tZ b] ⟨[],tZ (a-b)⟩:=by
 have t1:=dV (aR a.natAbs) ha.bg.len;have t2:=dV (aR b.natAbs) hb.bg.len;rw[fV]at t1 t2;have h:=xH (decide (a<0)) (!decide (b<0)) a.natAbs b.natAbs ha.len hb.len;rw[xV,Ci,<- Int.sub_eq_add_neg]at h;refine aJ Tryz.func164 rfl (by kernel_rfl) ?_;rw[Tryz.ntmps164];refine aD fun _ K=>?_;simp(disch:=omega) only[kd,aa,tZ,ae,ab];apply K
 refine bv aZ [⟨4,_,_,_,t1⟩,⟨10,_,_,_,t2⟩,⟨11,_,_,_,h⟩] [] (by kernel_rfl) fun _ K=>?_;simp(disch:=omega) only[kd,bF,tZ,aa,ab,af];apply K
 (refine aI ⟨.inr rfl,aH rfl ?_ rfl⟩;simp(disch:=omega) only[kd,Tryz.results164,ab,aa,tZ])
theorem xI (a b:Int) (ha:Bh a) (hb:Bh b):CallC Tryz.prog 165 [tZ a,tZ b] ⟨[],tZ (a*b)⟩:=by
 have t1:=dV (aR a.natAbs) ha.bg.len;have t2:=dV (aR b.natAbs) hb.bg.len;rw[fV]at t1 t2;have h:=Ft (aR a.natAbs) (aR b.natAbs) (aW _) (aW _) ha.len hb.len;rw[aQ,aQ]at h;have h2:=eu (!(decide (a<0)==decide (b<0))) (a.natAbs*b.natAbs);rw[D5]at h2;refine aJ Tryz.func165 rfl (by kernel_rfl) ?_;rw[Tryz.ntmps165];refine aD fun _ K=>?_;simp(disch:=omega) only[kd,aa,tZ,ae,ab];apply K
 refine bv aZ [⟨7,_,_,_,t1⟩,⟨10,_,_,_,t2⟩,⟨11,_,_,_,h⟩,⟨12,_,_,_,h2⟩] [] (by kernel_rfl) fun _ K=>?_;simp(disch:=omega) only[kd,bF,tZ,aa,ab,af];apply K
 (refine aI ⟨.inr rfl,aH rfl ?_ rfl⟩;simp(disch:=omega) only[kd,Tryz.results165,ab,aa,tZ])
theorem PT {U V L v1 high q : Nat} (hV : v1 * 4294967296 * L <= V) (hU : U < (high + 1) * 4294967296 * L) (hq : q * V <= U) (hL : 0 < L) : q * v1 <= high := by
  have h1 : q * (v1 * 4294967296 * L) <= q * V := Nat.mul_le_mul_left _ hV;have h2 : (q * v1) * (4294967296 * L) < (high + 1) * (4294967296 * L) := by
    calc (q * v1) * (4294967296 * L) = q * (v1 * 4294967296 * L) := by grind
      _ <= q * V := h1
      _ <= U := hq
      _ < (high + 1) * 4294967296 * L := hU
      _ = (high + 1) * (4294967296 * L) := by grind
  have := Nat.lt_of_mul_lt_mul_right h2;omega
theorem PS {U V L v1 v2 u0 high g r q : Nat} (hV : (v1 * 4294967296 + v2) * L <= V) (hU : U < (high * 4294967296 + u0 + 1) * L) (hq : q * V <= U) (hg : g * v1 + r = high) (h : r * 4294967296 + u0 < g * v2) : q < g := by
  by_cases hc : q < g
  · exact hc
  · exfalso
    have h1 : g * ((v1 * 4294967296 + v2) * L) <= U := Nat.le_trans (Nat.mul_le_mul (Nat.le_of_not_lt hc) hV) hq;have h2 : (g * (v1 * 4294967296 + v2)) * L < (high * 4294967296 + u0 + 1) * L := by
      calc (g * (v1 * 4294967296 + v2)) * L = g * ((v1 * 4294967296 + v2) * L) := by grind
        _ <= U := h1
        _ < _ := hU
    have h3 := Nat.lt_of_mul_lt_mul_right h2;have h4 : g * (v1 * 4294967296 + v2) = g * v1 * 4294967296 + g * v2 := by grind
    have h5 : high * 4294967296 = g * v1 * 4294967296 + r * 4294967296 := by rw [<- hg]; grind
    omega
theorem LJ {U V L vl v1 v2 t3 g q : Nat} (hV : V = (v1 * 4294967296 + v2) * L + vl) (hvl : vl < L) (hU : t3 * L <= U) (hq : U < (q + 1) * V) (hg : g * (v1 * 4294967296 + v2) <= t3) (hB : g <= 4294967296) (hv1 : 1 <= v1) : g <= q + 1 := by
  have h1 : g * V <= U + g * vl := by
    calc g * V = (g * (v1 * 4294967296 + v2)) * L + g * vl := by rw [hV]; grind
      _ <= t3 * L + g * vl := Nat.add_le_add_right (Nat.mul_le_mul_right _ hg) _
      _ <= _ := Nat.add_le_add_right hU _
  have h2 : g * vl <= 4294967296 * L := Nat.mul_le_mul hB (Nat.le_of_lt hvl);have h3 : 4294967296 * L <= V := by
    rw [hV];have : 4294967296 * L <= (v1 * 4294967296 + v2) * L := Nat.mul_le_mul_right _ (by omega);omega
  have h4 : g * V < (q + 2) * V := by
    calc g * V <= U + V := by omega
      _ < (q + 1) * V + V := by omega
      _ = (q + 2) * V := by grind
  have := Nat.lt_of_mul_lt_mul_right h4;omega
structure KO (u v:List Nat) (g:Nat) where
 i:Nat
 us:List Nat
 c:Nat
 b:Nat
 hi:i<=v.length
 len:us.length=i
 lmb:Lmb us
 hc:c<4294967296
 hb:b<=1
 val:natV us+g*natV (v.take i)=natV (u.take i)+(c+b)*4294967296^i
def KO.start (u v:List Nat) (g:Nat):KO u v g:=⟨0,[],0,0,Nat.zero_le _,rfl,fun a h=>by simp at h,by omega,by omega,by simp[natV]⟩
theorem nI (l:List Nat) (a:Nat):natV (l++[a])=natV l+a*4294967296^l.length:=by
 rw[iF];simp[natV];grind
theorem mK {l:List Nat} {a:Nat} (h:Lmb l) (ha:a<4294967296):Lmb (l++[a]):=fun x hx=>by
 rcases List.mem_append.1 hx with h1|h1
 ·exact h x h1
 simp at h1;omega
theorem Ac {g x c:Nat} (hg:g<=4294967296) (hx:x<4294967296) (hc:c<4294967296):c+g*x<18446744073709551616/\(c+g*x)/4294967296<4294967296:=by
 have:g*x<=4294967296*4294967295:=Nat.mul_le_mul hg (by omega);omega
theorem LS {u v:List Nat} {g:Nat} (m:KO u v g) {x y l b':Nat} (hg:g<=4294967296) (hx:v[m.i]?=some x) (hy:u[m.i]?=some y) (lv:Lmb v) (hl:l<4294967296) (hb':b'<=1)
  (ht:l+(m.c+g*x)%4294967296+m.b=y+b'*4294967296): ∃m':KO u v g,m'.i=m.i+1/\m'.us=m.us++[l]/\m'.c=(m.c+g*x)/4294967296/\m'.b=b':=by
 have hx':=cn lv hx;refine⟨⟨m.i+1,m.us++[l],(m.c+g*x)/4294967296,b',?_,by rw[List.length_append,m.len];rfl,mK m.lmb hl,(Ac hg hx' m.hc).2,hb',?_⟩,rfl,rfl,rfl,rfl⟩
 ·have:=(List.getElem?_eq_some_iff.1 hx).1;omega
 have hv:=m.val;rw[nI,m.len,bM hx,bM hy,Nat.pow_succ];have hs:m.c+g*x=(m.c+g*x)%4294967296+4294967296*((m.c+g*x)/4294967296):=by omega
 generalize(m.c+g*x)%4294967296=lo at*
 generalize(m.c+g*x)/4294967296=hi' at*
 generalize 4294967296^m.i=p at*
 have h1:g*(natV (v.take m.i)+x*p)=g*natV (v.take m.i)+g*x*p:=by grind
 have h2:g*x=lo+4294967296*hi'-m.c:=by omega
 have h3:(l+lo+m.b)*p=(y+b'*4294967296)*p:=by rw[ht]
 have h4:(m.c+g*x)*p=(lo+4294967296*hi')*p:=by rw[hs]
 grind
structure KU (u v:List Nat) where
 i:Nat
 us:List Nat
 c:Nat
 hi:i<=v.length
 len:us.length=i
 lmb:Lmb us
 hc:c<=1
 val:natV us+c*4294967296^i=natV (u.take i)+natV (v.take i)
def KU.start (u v:List Nat):KU u v:=⟨0,[],0,Nat.zero_le _,rfl,fun a h=>by simp at h,by omega,by simp[natV]⟩
theorem K7 {u v:List Nat} (m:KU u v) {x y:Nat} (hx:v[m.i]?=some x) (hy:u[m.i]?=some y) (lv:Lmb v) (lu:Lmb u):
  ∃m':KU u v,m'.i=m.i+1/\m'.us=m.us++[(m.c+(y+x))%4294967296]/\m'.c=(m.c+(y+x))/4294967296:=by
 have hx':=cn lv hx;have hy':=cn lu hy;have hc:=m.hc;refine⟨⟨m.i+1,m.us++[(m.c+(y+x))%4294967296],(m.c+(y+x))/4294967296,?_,by rw[List.length_append,m.len];rfl,mK m.lmb (Nat.mod_lt _ (by omega)),by omega,?_⟩,rfl,rfl,rfl⟩
 ·have:=(List.getElem?_eq_some_iff.1 hx).1;omega
 have hv:=m.val;rw[nI,m.len,bM hx,bM hy,Nat.pow_succ];have hs:m.c+(y+x)=(m.c+(y+x))%4294967296+4294967296*((m.c+(y+x))/4294967296):=by omega
 generalize(m.c+(y+x))%4294967296=lo at*
 generalize(m.c+(y+x))/4294967296=hi' at*
 generalize 4294967296^m.i=p at*
 have h4:(m.c+(y+x))*p=(lo+4294967296*hi')*p:=by rw[hs]
 grind
theorem IA {U V g q R:Nat} (hq:q=U/V) (hg:q<=g) (h:R+g*V=U) (hV:0<V):g=q/\R=U%V:=by
 have h1:g<=U/V:=(Nat.le_div_iff_mul_le hV).2 (by omega);have h2:g=q:=by omega
 refine⟨h2,?_⟩;have:=Nat.div_add_mod U V;rw[<- hq,<- h2,Nat.mul_comm]at this;omega
theorem LI {U V g q R T Bn c t W:Nat} (hq:q=U/V) (hg:g<=q+1) (h:R+g*V=U+4294967296*Bn) (hlt:U<g*V) (hV:0<V) (hVB:V<=Bn) (hW:W<Bn)
  (hR:R=T+t*Bn) (ht:W+c*Bn=T+V) (hc:c<=1) (htt:t<4294967296):g=q+1/\(t+c)%4294967296=0/\W=U%V:=by
 have h1:g=q+1:=by
  by_cases hh:g=q+1
  ·exact hh
  exfalso;have:g*V<=(U/V)*V:=Nat.mul_le_mul_right _ (by omega);have:=Nat.div_mul_le_self U V;omega
 have h2:=Nat.div_add_mod U V;have h3:=Nat.mod_lt U hV;rw[<- hq]at h2;subst h1;have h4:(q+1)*V=V*q+V:=by grind
 have h5:W+(t+c)*Bn=U%V+4294967296*Bn:=by
  have:(t+c)*Bn=t*Bn+c*Bn:=by grind
  omega
 have h6:t+c=4294967296:=by
  rcases Nat.lt_trichotomy (t+c) 4294967296 with hh|hh|hh
  ·exfalso;have:(t+c)*Bn+Bn<=4294967296*Bn:=by
    have:=Nat.mul_le_mul_right Bn (show t+c+1<=4294967296 by omega);have e:(t+c+1)*Bn=(t+c)*Bn+Bn:=by grind
    omega
   omega
  ·exact hh
  omega
 refine⟨rfl,by rw[h6],?_⟩;rw[h6]at h5;omega
def bV:Nat->Nat->List Nat
 |0,_=>[]
 |n+1,x=>x%4294967296::bV n (x/4294967296)
theorem bQ: ∀n x,(bV n x).length=n
 |0,_=>rfl
 |n+1,x=>by simp[bV,bQ n]
theorem mJ: ∀n x,Lmb (bV n x)
 |0,_=>fun a h=>by simp[bV]at h
 |n+1,x=>by rw[bV,dM];exact⟨Nat.mod_lt _ (by omega),mJ n _⟩
theorem wE: ∀n x,natV (bV n x)=x%4294967296^n
 |0,x=>by simp[bV,natV,Nat.mod_one]
 |n+1,x=>by
  rw[bV,natV,wE n,Nat.pow_succ,Nat.mul_comm (4294967296^n),Nat.mod_mul]
theorem fK {n x:Nat} (h:x<4294967296^n):natV (bV n x)=x:=by rw[wE,Nat.mod_eq_of_lt h]
theorem DL: ∀{l:List Nat},Lmb l->l=bV l.length (natV l)
 |[],_=>rfl
 |a::l,h=>by
  rw[dM]at h;have h1:(a+4294967296*natV l)%4294967296=a:=by omega
  have h2:(a+4294967296*natV l)/4294967296=natV l:=by omega
  show a::l=bV (l.length+1) (natV (a::l));rw[bV,natV,h1,h2,<- DL h.2]
theorem zB {l:List Nat} {n x:Nat} (h:Lmb l) (hn:l.length=n) (hx:natV l=x):l=bV n x:=by
 subst hn hx;exact DL h
theorem fF: ∀{n x i:Nat},i<n->(bV n x)[i]?=some (x/4294967296^i%4294967296)
 |0,_,_,h=>by omega
 |n+1,x,0,_=>by simp[bV]
 |n+1,x,i+1,h=>by
  rw[bV,List.getElem?_cons_succ,fF (by omega),Nat.div_div_eq_div_mul,Nat.pow_succ,Nat.mul_comm 4294967296]
theorem rf {n x:Nat} (h:x<4294967296^n):dR (bV n x)=aR x:=by
 rw[eB (mJ _ _),fK h]
theorem pG {l:List Nat} {i a:Nat} (h:l[i]?=some a):natV (l.drop i)=a+4294967296*natV (l.drop (i+1)):=by rw[ea h,natV]
/-! Short division. -/
theorem JP {a b Y:Nat} (hb:0<b) (ha:a<4294967296):(a+4294967296*Y)/b%4294967296=(Y%b*4294967296+a)/b/\(a+4294967296*Y)/b/4294967296=Y/b/\(a+4294967296*Y)%b=(Y%b*4294967296+a)%b:=by
 have h1:=Nat.div_add_mod Y b;have h2:=Nat.mod_lt Y hb;generalize hq:Y/b=q at*
 generalize hr:Y%b=r at*
 have e:a+4294967296*Y=b*(4294967296*q)+(r*4294967296+a):=by rw[<- h1];grind
 have hlt:(r*4294967296+a)/b<4294967296:=by
  rw[Nat.div_lt_iff_lt_mul hb];have:(r+1)*4294967296<=b*4294967296:=Nat.mul_le_mul_right _ (by omega);omega
 rw[e,Nat.mul_add_div hb,Nat.mul_add_mod];generalize(r*4294967296+a)/b=t at*
 refine⟨by omega,by omega,Nat.mul_add_mod _ _ _⟩
theorem Mz {l:List Nat} {i a b n:Nat} (hn:l.length=n) (hi:i<n) (ha:l[i]?=some a) (ha':a<4294967296) (hb:0<b):
  (l.take (i+1)++bV (n-(i+1)) (natV (l.drop (i+1))/b)).set i ((natV (l.drop (i+1))%b*4294967296+a)/b)=l.take i++bV (n-i) (natV (l.drop i)/b)/\
  (natV (l.drop (i+1))%b*4294967296+a)%b=natV (l.drop i)%b:=by
 obtain⟨h1,h2,h3⟩:=JP (Y:=natV (l.drop (i+1))) hb ha';rw[pG ha];refine⟨?_,h3.symm⟩;rw[show n-i=n-(i+1)+1 by omega,bV,h1,h2,List.take_add_one,ha];simp only[Option.toList_some,List.append_assoc,List.singleton_append];rw[List.set_append_right _ _ (by simp;omega)];have e:i-(l.take i).length=0:=by simp;omega
 rw[e,List.set_cons_zero]
/-! Shifts. -/
theorem Am {s:Nat} (hs:s<32):2^s<=2147483648/\1<=2^s:=⟨by have:=aC (n:=2) (by omega) (show s<=31 by omega);simpa using this,Nat.one_le_two_pow⟩
theorem J6 {X Y s:Nat} (hs:s<=32):(X+18446744073709551616*Y)/2^s%4294967296=X/2^s%4294967296:=by
 have e:18446744073709551616*Y=2^s*(2^(32-s)*(4294967296*Y)):=by
  rw[<- Nat.mul_assoc,<- Nat.pow_add,show s+(32-s)=32 by omega];grind
 rw[e,Nat.add_mul_div_left _ _ (Nat.two_pow_pos s)];have e2:2^(32-s)*(4294967296*Y)=4294967296*(2^(32-s)*Y):=by grind
 rw[e2,Nat.add_mul_mod_self_left]
theorem P5 {l:List Nat} (hl:Lmb l) {i s:Nat} (hs:s<=32):natV l/2^s/4294967296^i%4294967296=(l.getD i 0+4294967296*l.getD (i+1) 0)/2^s%4294967296:=by
 have e:natV l/2^s/4294967296^i=natV (l.drop i)/2^s:=by
  rw[Nat.div_div_eq_div_mul,Nat.mul_comm,<- Nat.div_div_eq_div_mul]
  congr 1
  by_cases hi:i<=l.length
  ·have h1:natV l=natV (l.take i)+4294967296^i*natV (l.drop i):=by
    conv=>lhs;rw[<- List.take_append_drop i l]
    rw[iF,List.length_take,Nat.min_eq_left hi]
   have h2:=ff hl i;rw[h1,Nat.add_mul_div_left _ _ (Nat.pow_pos (by omega)),Nat.div_eq_of_lt h2,Nat.zero_add]
  rw[List.drop_eq_nil_iff.2 (by omega)];have h2:=fJ hl;have h3:4294967296^l.length<=4294967296^i:=aC (by omega) (by omega);rw[Nat.div_eq_of_lt (by omega)];rfl
 rw[e];have g: ∀j,natV (l.drop j)=l.getD j 0+4294967296*natV (l.drop (j+1)):=fun j=>by
  rw[List.getD_eq_getElem?_getD];cases h:l[j]? with
  |none=>
   rw[List.getElem?_eq_none_iff]at h;rw[List.drop_eq_nil_iff.2 h,List.drop_eq_nil_iff.2 (by omega)];rfl
  |some a=>exact pG h
 rw[g i,g (i+1)];have e2:l.getD i 0+4294967296*(l.getD (i+1) 0+4294967296*natV (l.drop (i+1+1)))=(l.getD i 0+4294967296*l.getD (i+1) 0)+18446744073709551616*natV (l.drop (i+1+1)):=by grind
 rw[e2,J6 hs]
theorem Eu {l:List Nat} (hl:Lmb l) {i s n v:Nat} (hs:s<=32) (hn:l.length=n) (hi:i<n) (hv:v=(l.getD i 0+4294967296*l.getD (i+1) 0)/2^s%4294967296):
  ((bV n (natV l/2^s)).take i++l.drop i).set i v=(bV n (natV l/2^s)).take (i+1)++l.drop (i+1):=by
 have hg:=fF (n:=n) (x:=natV l/2^s) hi;rw[P5 hl hs,<- hv]at hg;have hd:l.drop i=l[i]'(by omega)::l.drop (i+1):=List.drop_eq_getElem_cons (by omega);rw[List.set_append_right _ _ (by simp[bQ];omega),List.take_add_one,hg,hd];have e:i-((bV n (natV l/2^s)).take i).length=0:=by simp[bQ];omega
 rw[e,List.set_cons_zero]
 simp
def u5 (m:List Nat) (s i:Nat):Nat:=natV (m.take i)*2^s/4294967296^i
theorem OV {m:List Nat} (hm:Lmb m) (s i:Nat):u5 m s i<2^s:=by
 unfold u5;rw[Nat.div_lt_iff_lt_mul (Nat.pow_pos (by omega)),Nat.mul_comm];exact Nat.mul_lt_mul_of_pos_left (ff hm i) (Nat.two_pow_pos s)
theorem MJ {m:List Nat} {s i a:Nat} (ha:m[i]?=some a):u5 m s i+a*2^s=natV (m.take (i+1))*2^s/4294967296^i/\(u5 m s i+a*2^s)/4294967296=u5 m s (i+1):=by
 have h1:=bM ha;have e:natV (m.take (i+1))*2^s=natV (m.take i)*2^s+4294967296^i*(a*2^s):=by rw[h1];grind
 have h2:u5 m s i+a*2^s=natV (m.take (i+1))*2^s/4294967296^i:=by
  unfold u5;rw[e,Nat.add_mul_div_left _ _ (Nat.pow_pos (by omega))]
 refine⟨h2,?_⟩;rw[h2];unfold u5;rw[Nat.div_div_eq_div_mul,Nat.pow_succ]
theorem OW {m:List Nat} {s i j:Nat} (hj:j<i) (hi:i<=m.length):natV (m.take i)*2^s/4294967296^j%4294967296=natV m*2^s/4294967296^j%4294967296:=by
 have h1:natV m=natV (m.take i)+4294967296^i*natV (m.drop i):=by
  conv=>lhs;rw[<- List.take_append_drop i m]
  rw[iF,List.length_take,Nat.min_eq_left hi]
 obtain⟨d,rfl⟩: ∃d,i=j+1+d:=⟨i-(j+1),by omega⟩;have e:natV m*2^s=natV (m.take (j+1+d))*2^s+4294967296^j*(4294967296*(4294967296^d*natV (m.drop (j+1+d))*2^s)):=by
  rw[h1,Nat.pow_add,Nat.pow_add];grind
 rw[e,Nat.add_mul_div_left _ _ (Nat.pow_pos (by omega)),Nat.add_mul_mod_self_left]
theorem wL {n x:Nat}:bV (n+1) x=bV n x++[x/4294967296^n%4294967296]:=by
 apply List.ext_getElem?;intro i;rcases Nat.lt_trichotomy i n with h|h|h
 ·rw[fF (by omega),List.getElem?_append_left (by rw[bQ];exact h),fF h]
 ·subst h;rw[fF (by omega),List.getElem?_append_right (by rw[bQ];exact ac _),bQ,Nat.sub_self];rfl
 rw[List.getElem?_eq_none (by rw[bQ];omega),List.getElem?_eq_none (by simp[bQ];omega)]
end Go.Proofs.YtfgeomlagfomgaaGreatDoor
