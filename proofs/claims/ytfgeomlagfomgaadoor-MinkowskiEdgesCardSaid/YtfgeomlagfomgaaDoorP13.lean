/-
  Part 14 of a proof (walks and plain facts).
-/
import Derived.Test.YtfgeomlagfomgaaDoorP12
set_option linter.all false
set_option maxRecDepth 100000
set_option maxHeartbeats 64000000
open Nat renaming reduceAdd → aa
open Nat renaming reduceEqDiff → ab
open Nat renaming le_refl → ac
open List renaming replicate → ae
open Nat renaming reduceBEq → af
open Int renaming reduceToNat → am
open List renaming getElem?_map → ax
namespace Go.Proofs.YtfgeomlagfomgaaDoor
open Go.RowKit
theorem fA (u:Nat) (hu:u<18446744073709551616):CallC Tryd.prog 38 [.raw (.int .u64 u)] ⟨[],bN (aP u)⟩:=by
 have hlm:Lmb [u%4294967296,u/4294967296]:=by intro a ha;simp at ha;omega
 have ht:=da [u%4294967296,u/4294967296] (by simp);rw[gH hlm,Av]at ht;have e1:IntKind.u32.wrap (u:Int)=((u%4294967296:Nat):Int):=by rw[IntKind.wrap_u32];omega
 have e2:IntKind.u32.wrap ((u:Int).fdiv (2^(min (32:Int).toNat IntKind.u64.bits)))=((u/4294967296:Nat):Int):=by
  rw[IntKind.wrap_u32];show(Int.fdiv (u:Int) 4294967296)%4294967296=_;rw[Int.fdiv_eq_ediv_of_nonneg _ (by omega)];omega
 simp only[am]at e2;refine aN Tryd.func38 rfl (by kernel_rfl) ?_;rw[Tryd.ntmps38];refine aB fun _ K=>?_;simp only[kd,ae];apply K
 refine aK [⟨6,_,_,_,ht⟩] [] fun _ K=>?_;simp(disch:=omega) only[kd,bN,EM,aa,e1,Int.reduceLE,am,e2,Nat.reduceMul,Nat.reduceLeDiff];apply K
 (refine aM ⟨.inr rfl,aI rfl ?_ rfl⟩;simp(disch:=omega) only[kd,Tryd.results38,bN])
theorem nQ (l:List Nat) (lm:Lmb l) (bl:l.length<=2):CallC Tryd.prog 67 [bN l] ⟨[],.raw (.int .u64 (natV l:Nat))⟩:=by
 refine aN Tryd.func67 rfl (by kernel_rfl) ?_;rw[Tryd.ntmps67];refine aB fun _ K=>?_;simp only[kd,bN,ae];apply K
 refine aB fun _ K=>?_;simp only[kd];apply K
 refine aD (aB fun _ K=>?_);simp only[kd,aa];apply K;refine bx (G:=Jl l) (fun g=>⟨(jk::jk::jk::.raw (.int .u64 (g.u:Int))::jk::jk::bN l::rN l.length::rN g.i::j4 (j4 (j4 (jk::[])))),Hm []⟩) (fun g=>l.length-g.i) ⟨0,0,⟨by omega,by omega⟩,rfl⟩ ?_ ?_
 ·refine aC trivial ?_;simp[wk]
 rintro⟨i,u,hi,hu⟩;simp only;have hlt:=dT lm i;rw[<- hu]at hlt;by_cases hm:i<l.length
 ·obtain⟨a,ha⟩:=getElem?_of_lt hm;have ha':=cd lm ha;have hu2:=aZ ha;rw[<- hu]at hu2;refine aB fun _ K=>?_;simp(disch:=omega) only[kd,bN];apply K
  refine b8 rfl ?_;refine aD (aH ?_);refine aB fun _ K=>?_;simp(disch:=omega) only[kd,aa,ha];apply K
  have hi2:i=0\/i=1:=by omega
  rcases hi2 with rfl|rfl
  ·have e1:IntKind.u64.wrap ((a:Int)*2^min (32*((0:Nat):Int)).toNat IntKind.u64.bits)=(a:Int):=by
    rw[IntKind.wrap_u64];show((a:Int)*1)%_=_;omega
   have hu0:u=0:=by simpa[natV] using hu
   have e2:=wQ u a (by omega) (by omega);rw[hu0,Nat.zero_or,<- hu0]at e2;refine aR fun _ K=>?_;simp(disch:=omega) only[kd,aa,dj,aS,e1,e2];apply K
   show bH _ _ _ _;refine aR fun _ K=>?_;simp(disch:=omega) only[kd,aS];apply K
   refine⟨⟨1,a,⟨by omega,by omega⟩,by rw[hu2,hu0];simp⟩,by simp only;omega,aC trivial ?_⟩;simp[wk]
  have e1:IntKind.u64.wrap ((a:Int)*2^min (32*((1:Nat):Int)).toNat IntKind.u64.bits)=((a*4294967296:Nat):Int):=by
   rw[IntKind.wrap_u64];show((a:Int)*4294967296)%_=_;omega
  simp only[Nat.pow_one]at hlt;have e2:=wQ u (a*4294967296) (by omega) (by omega);rw[show a*4294967296=a*2^32 from rfl,sI _ _ _ hlt,show a*2^32=a*4294967296 from rfl]at e2;refine aR fun _ K=>?_;simp(disch:=omega) only[kd,aa,dj,aS,e1,e2];apply K
  show bH _ _ _ _;refine aR fun _ K=>?_;simp(disch:=omega) only[kd,aS];apply K
  refine⟨⟨2,a*4294967296+u,⟨by omega,by omega⟩,by rw[hu2];omega⟩,by simp only;omega,aC trivial ?_⟩;simp[wk]
 have hfin:u=natV l:=by rw[hu,List.take_of_length_le (by omega)]
 rw[<- hfin];refine aB fun _ K=>?_;simp(disch:=omega) only[kd,bN];apply K
 refine cn rfl ?_;show bH _ _ _ _;refine aB fun _ K=>?_;simp only[kd];apply K
 (refine aM ⟨.inr rfl,aI rfl ?_ rfl⟩;simp(disch:=omega) only[kd,Tryd.results67])
theorem tY (n:Int) (h1: -9223372036854775808<=n) (h2:n<=9223372036854775807):CallC Tryd.prog 21 [.raw (.int .i64 n)] ⟨[],tZ n⟩:=by
 have hf:=fA n.natAbs (by omega);by_cases hn:n<0
 ·have ht:=dp true n.natAbs;have e1:IntKind.u64.wrap (0-IntKind.u64.wrap n)=((n.natAbs:Nat):Int):=by rw[IntKind.wrap_u64,IntKind.wrap_u64];omega
  rw[show fN true n.natAbs=n by unfold fN;simp;omega]at ht;refine aN Tryd.func21 rfl (by kernel_rfl) ?_;rw[Tryd.ntmps21];refine aB fun _ K=>?_;simp(disch:=omega) only[kd,ae,aa];apply K
  refine aD (aB fun _ K=>?_);simp(disch:=omega) only[kd];apply K;refine bs rfl ?_;refine aK [⟨3,_,_,_,hf⟩,⟨4,_,_,_,ht⟩] [] fun _ K=>?_;simp(disch:=omega) only[kd,bN,tZ,aa,e1,af];apply K
  (refine aM ⟨.inr rfl,aI rfl ?_ rfl⟩;simp(disch:=omega) only[kd,Tryd.results21,aa,tZ])
 have ht:=dp false n.natAbs;have e1:IntKind.u64.wrap n=((n.natAbs:Nat):Int):=by rw[IntKind.wrap_u64];omega
 rw[show fN false n.natAbs=n by unfold fN;simp;omega]at ht;refine aN Tryd.func21 rfl (by kernel_rfl) ?_;rw[Tryd.ntmps21];refine aB fun _ K=>?_;simp(disch:=omega) only[kd,ae,aa];apply K
 refine aD (aB fun _ K=>?_);simp(disch:=omega) only[kd];apply K;refine a6 rfl (aT ?_);show bH _ _ _ _;refine aK [⟨2,_,_,_,hf⟩,⟨3,_,_,_,ht⟩] [] fun _ K=>?_;simp(disch:=omega) only[kd,bN,tZ,aa,e1,af];apply K
 (refine aM ⟨.inr rfl,aI rfl ?_ rfl⟩;simp(disch:=omega) only[kd,Tryd.results21,aa,tZ])
theorem nP (z:Int) (h:Bg z):CallC Tryd.prog 25 [tZ z] ⟨[],.raw (.int .i64 (sg z))⟩:=by
 have ht:=da (aP z.natAbs) h.len;rw[kp]at ht;have hl:=gn (n:=z.natAbs);rcases Int.lt_trichotomy z 0 with hz|hz|hz
 ·have e:sg z= -1:=by simp[sg,hz]
  have hl':(aP z.natAbs).length≠0:=by omega
  rw[e];refine aN Tryd.func25 rfl (by kernel_rfl) ?_;rw[Tryd.ntmps25];refine aB fun _ K=>?_;simp(disch:=omega) only[kd,tZ,ae,aa];apply K
  refine aD (aH ?_);refine aK [⟨2,_,_,_,ht⟩] [] fun _ K=>?_;simp(disch:=omega) only[kd,bN,aa];apply K
  refine a6 rfl ?_;refine aB fun _ K=>?_;simp only[kd,aa];apply K
  refine bs rfl ?_;refine aB fun _ K=>?_;simp only[kd];apply K
  (refine aM ⟨.inr rfl,aI rfl ?_ rfl⟩;simp(disch:=omega) only[kd,Tryd.results25])
 ·subst hz;rw[show sg 0=0 from rfl];rw[Int.natAbs_zero,cq]at ht;rw[show tZ 0= .agg [.p (.raw (.bool false)),.p (.sl (ls fU []))]from by simp[tZ,cq]];refine aN Tryd.func25 rfl (by kernel_rfl) ?_;rw[Tryd.ntmps25];refine aB fun _ K=>?_;simp(disch:=omega) only[kd,ae,aa];apply K
  refine aD (aH ?_);refine aK [⟨2,_,_,_,ht⟩] [] fun _ K=>?_;simp(disch:=omega) only[kd,bN,aa];apply K
  refine bs rfl ?_;refine aB fun _ K=>?_;simp only[kd];apply K
  (refine aM ⟨.inr rfl,aI rfl ?_ rfl⟩;simp(disch:=omega) only[kd,Tryd.results25])
 have e:sg z=1:=by unfold sg;rw[if_neg (by omega),if_neg (by omega)]
 have hl':(aP z.natAbs).length≠0:=by omega
 rw[e];refine aN Tryd.func25 rfl (by kernel_rfl) ?_;rw[Tryd.ntmps25];refine aB fun _ K=>?_;simp(disch:=omega) only[kd,tZ,ae,aa];apply K
 refine aD (aH ?_);refine aK [⟨2,_,_,_,ht⟩] [] fun _ K=>?_;simp(disch:=omega) only[kd,bN,aa];apply K
 refine a6 rfl ?_;refine aB fun _ K=>?_;simp only[kd,aa];apply K
 refine a6 rfl (aT ?_);show bH _ _ _ _;refine aB fun _ K=>?_;simp only[kd];apply K
 (refine aM ⟨.inr rfl,aI rfl ?_ rfl⟩;simp(disch:=omega) only[kd,Tryd.results25])
/-! Clone: a walk of the older kind, for it holds the slice against nil. -/
theorem oI (A:Option Addr) (c:Nat) (x:List Int) (w:World) (hx:RdI .u32 w A x) (hl:x.length*4<=140737488355328):
  Calls Tryd.prog 52 #[.slice A x.length c] w fun e w'=> ∃v,e= .returned v/\w'.ownsRow w.heap.size 86 1 v x.length (x.map (Value.int .u32))/\Ext w w':=by
 have hnil:=fun(w:World) (n c:Nat)=>Lib.run_eql_slice_nil (P:=Tryd.prog) w 50 86 A n c 0 0 Tryd.underlying50
 cases A with
 |none=>
  have hx0:x=[]:=by
   cases x with
   |nil=>rfl
   |cons a l=>obtain⟨_,_,h,_⟩:=hx (by simp);cases h
  subst hx0
  go_enter Tryd.func52,Tryd.ntmps52
  go_wp2_with fail
  go_ret
  exact⟨_,rfl,World.ownsRow_nil _ _ _ _,Ext.refl _⟩
 |some a=>
  go_enter Tryd.func52,Tryd.ntmps52
  go_wp2_with (at_builtin;refine nd _ rfl (.tmp 5) (.tmp 6) _ rfl w.heap.size 86 (.int .u32 0) 1 4 Tryd.underlying50 Tryd.inU32 rfl (by omega) _ 0 [] rfl (World.ownsRow_made w #[] 0 (ac _) (Nat.zero_le _) rfl) (some a) x.length c _ rfl (Rd.ext hx ((Ext.refl _).alloc _)) (by simp) sG (by simp only[maxLen];omega) (by omega) (by simp) ?_;intro v1 w1 hown1 hg1 _)
  go_ret
  exact⟨_,rfl,by simpa using hown1,zo hg1 (World.ownsRow_made w #[] 0 (ac _) (Nat.zero_le _) rfl:World.ownsRow _ w.heap.size 86 1 _ 0 []) ((Ext.refl w).alloc _) (ac _)⟩
theorem yp {X:Nat->Prop} {w:World} {l:List Nat} {v:Value} (h:bS X w (.sl (ls fU l)) v): ∃A c,v= .slice A l.length c/\l.length<=c/\RdI .u32 w A (l.map fun n:Nat=>(n:Int)):=by
 generalize hx:PV.sl (ls fU l)=x at h;cases h with
 |raw v h=>cases hx
 |ptr b off cs f hX hb hc hr=>cases hx
 |nil a c=>
  injection hx with hx
  have hl:l=[]:=by simpa[ls] using hx
  subst hl;exact⟨a,c,rfl,Nat.zero_le _,RdI.nil _ _ _⟩
 |sl b off es cap xs f hX hb hes hcap hm hc hr=>
  injection hx with hx
  subst hx;rw[fd]at hcap hm;refine⟨some ⟨b,off,none⟩,cap,by rw[fd],hcap,fun hne=>⟨b,off,rfl,fun i x hx=>?_⟩⟩;rw[ax,ax]at hx;obtain⟨z',hz',rfl⟩:=Option.map_eq_some_iff.1 hx;obtain⟨z,hz,rfl⟩:=Option.map_eq_some_iff.1 hz';have h1:(ls fU l)[i]?=some (fU z):=by rw[gp,hz];rfl
  have he:es=1:=by rw[<- hes _ (List.mem_of_getElem? h1)];rfl
  subst he;have h2:=hc i _ 0 _ h1 rfl;have h3:=n4 (hr i _ 0 _ h1 rfl);rw[h3,Nat.mul_one,Nat.add_zero]at h2;exact h2
theorem Ct {w':World} {k:Nat} {v:Value} {l:List Nat} {Y:Nat->Prop} (hY: ∀b,Y b->b<k) (hm:l.length<=9223372036854775807) (h:w'.ownsRow k 86 1 v l.length ((l.map fun n:Nat=>(n:Int)).map (Value.int .u32))):bS Y w' (.sl (ls fU l)) v:=by
 obtain⟨hl,h2⟩:=h;rcases h2 with⟨hv,hn⟩|⟨g,cap,cur,hv,hg,hh,hnc,hm2,hs,ht⟩
 ·have:l=[]:=List.eq_nil_of_length_eq_zero (by omega);subst this;rw[hv];exact bS.nil _ _
 rw[hv];have hcell: ∀(i:Nat) z,l[i]?=some z->cur[i]?=some (.int .u32 (z:Int)):=fun i z hz=>by
  have h3:((l.map fun n:Nat=>(n:Int)).map (Value.int .u32))[i]?=some (.int .u32 (z:Int)):=by rw[ax,ax,hz];rfl
  rw[<- ht,List.getElem?_take]at h3;split at h3
  ·simpa using h3
  cases h3
 have:=bS.sl (X:=Y) (w:=w') g 0 1 cap (ls fU l) (fun i _=>(cur[i]?).getD undef) (fun h=>absurd (hY _ h) (by omega)) (Array.getElem?_eq_some_iff.1 hh).1 (fun e he=>by
  obtain⟨z,_,rfl⟩:=List.mem_map.1 he;rfl) (by rw[fd];exact hnc) (by rw[fd];exact hm) (fun i e j x he hx=>by
  rw[gp]at he;obtain⟨z,hz,rfl⟩:=Option.map_eq_some_iff.1 he;cases j with
  |succ j=>simp[fU]at hx
  |zero=>
   rw[cell_of_row _ g _ cur _ _ hh,Nat.zero_add,Nat.mul_one,Nat.add_zero,hcell i z hz];rfl) (fun i e j x he hx=>by
  rw[gp]at he;obtain⟨z,hz,rfl⟩:=Option.map_eq_some_iff.1 he;cases j with
  |succ j=>simp[fU]at hx
  |zero=>
   simp[fU]at hx;subst hx;simp only[hcell i z hz,Option.getD_some];exact bS.raw _ rfl)
 rw[fd]at this;exact this
theorem tX (l:List Nat) (hl:l.length<=1073741824):CallC Tryd.prog 52 [bN l] ⟨[],bN l⟩:=by
 refine oD (by kernel_rfl) fun X w vs hX hvs ha=>?_
 obtain⟨v0,e0,r0⟩:=jx ha (j:=0) rfl;obtain⟨A,c,rfl,hc,hR⟩:=yp r0;obtain rfl:vs= #[.slice A l.length c]:=by
  apply Array.ext_getElem?;intro j
  match j with
  |0=>exact e0
  |j+1=>rw[Array.getElem?_eq_none (by simp at hvs;omega)];rfl
 have hlen:(l.map fun n:Nat=>(n:Int)).length=l.length:=List.length_map _;have:=oI A c (l.map fun n:Nat=>(n:Int)) w hR (by rw[hlen];omega);rw[hlen]at this;refine this.mono fun e w' ⟨v,h1,h2,h3⟩=>⟨v,h1,fun ρ H Y hY=>Ct hY (by omega) h2,h3⟩
theorem si (z:Int) (h:Bg z):CallC Tryd.prog 44 [tZ z] ⟨[],tZ z⟩:=by
 have ht:=da (aP z.natAbs) h.len;rw[kp]at ht;have hc:=tX (aP z.natAbs) h.len;have hb:=dp (decide (z<0)) z.natAbs;rw[yh]at hb;refine aN Tryd.func44 rfl (by kernel_rfl) ?_;rw[Tryd.ntmps44];refine aB fun _ K=>?_;simp(disch:=omega) only[kd,tZ,ae,aa,ab];apply K
 refine dn bE [⟨4,_,_,_,ht⟩,⟨5,_,_,_,hc⟩,⟨6,_,_,_,hb⟩] [] (by kernel_rfl) fun _ K=>?_;simp(disch:=omega) only[kd,bN,tZ,aa,ab,af];apply K
 (refine aM ⟨.inr rfl,aI rfl ?_ rfl⟩;simp(disch:=omega) only[kd,Tryd.results44,ab,aa,tZ])
theorem kX (o:List Nat) (k v:Nat):(o++ae (k+1) 0).set o.length v=(o++[v])++ae k 0:=by
 rw[List.set_append_right _ _ (ac _),Nat.sub_self,List.replicate_succ,List.set_cons_zero,List.append_assoc];rfl
theorem mY (o:List Nat) (k:Nat):(o++ae (k+1) 0)[o.length]?=some 0:=by
 rw[List.getElem?_append_right (ac _),Nat.sub_self,List.replicate_succ];rfl
theorem kN (l m:List Nat) (ll:Lmb l) (lm:Lmb m) (cl:ld l) (cm:ld m) (bl:l.length<=1073741824) (bm:m.length<=1073741824):
  CallC Tryd.prog 40 [bN l,bN m] ⟨[],.raw (.int .i64 (gg (natV l) (natV m)))⟩:=by
 rcases Nat.lt_trichotomy l.length m.length with hlt|heq|hgt
 ·rw[rZ (jK ll cm hlt)];refine aN Tryd.func40 rfl (by kernel_rfl) ?_;rw[Tryd.ntmps40];refine aB fun _ K=>?_;simp only[kd,bN,aa,ae];apply K
  refine aD (aH ?_);refine aB fun _ K=>?_;simp(disch:=omega) only[kd,aa];apply K
  refine bs rfl ?_;refine aB fun _ K=>?_;simp only[kd];apply K
  (refine aM ⟨.inr rfl,aI rfl ?_ rfl⟩;simp(disch:=omega) only[kd,Tryd.results40])
 ·refine aN Tryd.func40 rfl (by kernel_rfl) ?_;rw[Tryd.ntmps40];refine aB fun _ K=>?_;simp only[kd,bN,aa,ae];apply K
  refine aD (aH ?_);refine aB fun _ K=>?_;simp(disch:=omega) only[kd,aa];apply K
  refine a6 rfl ?_;refine aB fun _ K=>?_;simp(disch:=omega) only[kd,aa];apply K
  refine a6 rfl (aT ?_);show bH _ _ _ _;refine aD (aB fun _ K=>?_);simp(disch:=omega) only[kd,aa,aS];apply K;refine bx (G:={k:Nat//k<=l.length/\l.drop k=m.drop k}) (fun k=>⟨(bN l::bN m::jk::jk::jk::.raw (.int .i64 ((k.1:Int)-1))::j16 (j16 (j4 (jk::jk::jk::[])))),Hm []⟩) (fun k=>k.1) ⟨l.length,ac _,by rw[List.drop_length,heq,List.drop_length]⟩ ?_ ?_
  ·refine aC trivial ?_;simp[wk]
  rintro⟨k,hk,hd⟩;simp only;by_cases h0:0<k
  ·obtain⟨a,ha⟩:=getElem?_of_lt (l:=l) (k:=k-1) (by omega);obtain⟨b,hb⟩:=getElem?_of_lt (l:=m) (k:=k-1) (by omega);have e1:((k:Int)-1).toNat=k-1:=by omega
   have hd':l.drop (k-1+1)=m.drop (k-1+1):=by rw[show k-1+1=k by omega];exact hd
   refine aD (aB fun _ K=>?_);simp(disch:=omega) only[kd,bN];apply K;refine bs rfl (aT ?_);refine aD (aH ?_);refine aH ?_;rcases Nat.lt_trichotomy a b with hab|hab|hab
   ·rw[rZ (pa ll ha hb hd' hab)];refine eZ bE (by kernel_rfl) fun _ K=>?_;simp(disch:=omega) only[kd,aa,e1,ha,hb];apply K
    refine bs rfl ?_;refine aB fun _ K=>?_;simp only[kd];apply K
    (refine aM ⟨.inr rfl,aI rfl ?_ rfl⟩;simp(disch:=omega) only[kd,Tryd.results40])
   ·subst hab;refine eZ bE (by kernel_rfl) fun _ K=>?_;simp(disch:=omega) only[kd,aa,e1,ha,hb];apply K
    refine a6 rfl ?_;refine eZ bE (by kernel_rfl) fun _ K=>?_;simp(disch:=omega) only[kd,aa,e1,ha,hb];apply K
    refine a6 rfl (aT ?_);show bH _ _ _ _;refine aR fun _ K=>?_;simp(disch:=omega) only[kd,aa,aS];apply K
    refine⟨⟨k-1,by omega,ze ha hb hd'⟩,by simp only;omega,aC trivial ?_⟩;have e2:((k-1:Nat):Int)=(k:Int)-1:=by omega
    simp[wk,e2]
   rw[xK (pa lm hb ha hd'.symm hab)];refine eZ bE (by kernel_rfl) fun _ K=>?_;simp(disch:=omega) only[kd,aa,e1,ha,hb];apply K
   refine a6 rfl ?_;refine eZ bE (by kernel_rfl) fun _ K=>?_;simp(disch:=omega) only[kd,aa,e1,ha,hb];apply K
   refine bs rfl ?_;refine aB fun _ K=>?_;simp only[kd];apply K
   (refine aM ⟨.inr rfl,aI rfl ?_ rfl⟩;simp(disch:=omega) only[kd,Tryd.results40])
  have hk0:k=0:=by omega
  subst hk0;have hlm:l=m:=by simpa using hd
  rw[show gg (natV l) (natV m)=0 by rw[hlm];simp[gg]];refine aD (aB fun _ K=>?_);simp(disch:=omega) only[kd,bN];apply K;refine a6 rfl (dx ?_);show bH _ _ _ _;refine aB fun _ K=>?_;simp only[kd];apply K
  (refine aM ⟨.inr rfl,aI rfl ?_ rfl⟩;simp(disch:=omega) only[kd,Tryd.results40])
 rw[xK (jK lm cl hgt)];refine aN Tryd.func40 rfl (by kernel_rfl) ?_;rw[Tryd.ntmps40];refine aB fun _ K=>?_;simp only[kd,bN,aa,ae];apply K
 refine aD (aH ?_);refine aB fun _ K=>?_;simp(disch:=omega) only[kd,aa];apply K
 refine a6 rfl ?_;refine aB fun _ K=>?_;simp(disch:=omega) only[kd,aa];apply K
 refine bs rfl ?_;refine aB fun _ K=>?_;simp only[kd];apply K
 (refine aM ⟨.inr rfl,aI rfl ?_ rfl⟩;simp(disch:=omega) only[kd,Tryd.results40])
structure Je (m n:List Nat) (e:Nat) where
 i:Nat
 o:List Nat
 c:Nat
 hi:i<=e
 hc:c<=1
 ho:o.length=i
 h:o++sumL (m.drop i) (n.drop i) c=sumL m n 0
structure Jf (m n:List Nat) where
 j:Nat
 o:List Nat
 c:Nat
 hj:n.length+j<=m.length
 hc:c<=1
 ho:o.length=n.length+j
 h:o++sumL (m.drop (n.length+j)) [] c=sumL m n 0
theorem qS (m n:List Nat) (lm:Lmb m) (ln:Lmb n) (bm:m.length<=536870912) (bn:n.length<=536870912):
  CallC Tryd.prog 62 [bN m,bN n] ⟨[],bN (aP (natV m+natV n))⟩:=by
 refine aN Tryd.func62 rfl (by kernel_rfl) ?_;rw[Tryd.ntmps62];refine aB fun _ K=>?_;simp only[kd,bN,aa,ae];apply K
 obtain⟨p,q,hpq,hle⟩: ∃p q:List Nat,((p=m/\q=n/\ ¬m.length<n.length)\/(p=n/\q=m/\m.length<n.length))/\q.length<=p.length:=by
  by_cases h:m.length<n.length
  ·exact⟨n,m,.inr ⟨rfl,rfl,h⟩,by omega⟩
  exact⟨m,n,.inl ⟨rfl,rfl,h⟩,by omega⟩
 refine aD (rH (S:=⟨(bN p::bN q::j16 (j16 (j16 (j16 (j16 (jk::[])))))),Hm []⟩) ?_ ?_)
 ·rcases hpq with⟨rfl,rfl,h⟩|⟨rfl,rfl,h⟩
  ·refine aB fun _ K=>?_;simp(disch:=omega) only[kd,aa];apply K
   refine d4 rfl (fun h=>by simp at h<;>omega) (fun _=>aT (aC trivial ?_));simp[wk]
  refine aB fun _ K=>?_;simp(disch:=omega) only[kd,aa];apply K
  refine bs rfl ?_;refine aR fun _ K=>?_;simp only[kd,aa];apply K
  refine aC trivial ?_;simp[wk]
 have hsum:natV m+natV n=natV p+natV q:=by rcases hpq with⟨rfl,rfl,_⟩|⟨rfl,rfl,_⟩<;>omega
 have lp:Lmb p:=by rcases hpq with⟨rfl,rfl,_⟩|⟨rfl,rfl,_⟩<;>assumption
 have lq:Lmb q:=by rcases hpq with⟨rfl,rfl,_⟩|⟨rfl,rfl,_⟩<;>assumption
 have bp:p.length<=536870912:=by rcases hpq with⟨rfl,rfl,_⟩|⟨rfl,rfl,_⟩<;>assumption
 rw[hsum];clear hsum hpq lm ln bm bn;have ep:(p.length:Int)+1=((p.length+1:Nat):Int):=by omega
 refine aB fun _ K=>?_;simp(disch:=omega) only[kd,aa,bN,ep,aS,lK];apply K
 refine aB fun _ K=>?_;simp only[kd];apply K
 refine aD (aB fun _ K=>?_);simp only[kd,aa];apply K;refine bx (G:=Je p q q.length) (fun g=>⟨(bN p::bN q::jk::jk::jk::.one (.sl 19 0 0 (p.length+1))::.raw (.int .u64 (g.c:Int))::j4 (j4 (j4 (jk::jk::rN q.length::rN g.i::j16 (j16 (j16 (j4 (j4 (j4 ([])))))))))),Hm [(19,[⟨86,1,lc fU (g.o++ae (p.length+1-g.i) 0)⟩])]⟩) (fun g=>q.length-g.i) ⟨0,[],0,by omega,by omega,rfl,rfl⟩ ?_ ?_
 ·refine aC ⟨?_,trivial⟩ ?_
  ·simp[aO,Hm]
  simp[wk]
 rintro⟨i,o,c,hi,hc,ho,h⟩;simp only;by_cases hm:i<q.length
 ·obtain⟨a,ha⟩:=getElem?_of_lt (show i<p.length by omega);obtain⟨b,hb⟩:=getElem?_of_lt hm;have ha':=cd lp ha;have hb':=cd lq hb;have e1:IntKind.u32.wrap ((c:Int)+((a:Int)+(b:Int)))=(((c+a+b)%4294967296:Nat):Int):=by rw[<- yH];congr 1<;>omega
  have e2:Int.fdiv ((c:Int)+((a:Int)+(b:Int))) (2^(min 32 IntKind.u64.bits))=(((c+a+b)/4294967296:Nat):Int):=by rw[<- Gq];congr 1<;>omega
  have hz:p.length+1-i=(p.length-i)+1:=by omega
  have hg:=mY o (p.length-i);have hs:=kX o (p.length-i) ((c+a+b)%4294967296);rw[ho]at hg hs;rw[hz];refine aB fun _ K=>?_;simp(disch:=omega) only[kd,bN];apply K
  refine b8 rfl ?_;refine aD (aH ?_);refine aB fun _ K=>?_;simp only[kd];apply K
  refine eZ bE (by kernel_rfl) fun _ K=>?_;simp(disch:=omega) only[kd,aa,ha,dj,hb];apply K
  refine aB fun _ K=>?_;simp(disch:=omega) only[kd,aa,e1,hg,cQ,hs];apply K
  refine aR fun _ K=>?_;simp only[kd,aa,Int.reduceLE,am,e2];apply K
  show bH _ _ _ _;refine aR fun _ K=>?_;simp(disch:=omega) only[kd,aS];apply K
  refine⟨⟨i+1,o++[(c+a+b)%4294967296],(c+a+b)/4294967296,by omega,by omega,by simp[ho],?_⟩,by simp only;omega,aC ⟨?_,trivial⟩ ?_⟩
  ·rw[<- h,i9 ha,i9 hb,sumL,List.append_assoc];rfl
  ·show _=[(⟨_,_,lc fU ((o++[(c+a+b)%4294967296])++ae (p.length+1-(i+1)) 0)⟩:OObj)];rw[show p.length+1-(i+1)=p.length-i by omega];rfl
  simp[wk]
 have hin:i=q.length:=by omega
 subst hin;rw[jB (ac _)]at h;refine aB fun _ K=>?_;simp(disch:=omega) only[kd,bN];apply K
 refine cn rfl ?_;show bH _ _ _ _;have es:(p.length:Int)-(q.length:Int)=((p.length-q.length:Nat):Int):=by omega
 refine aD (aB fun _ K=>?_);simp(disch:=omega) only[kd,aa,es,aS];apply K;refine bx (G:=Jf p q) (fun g=>⟨(bN p::bN q::jk::jk::jk::.one (.sl 19 0 0 (p.length+1))::.raw (.int .u64 (g.c:Int))::j16 (j16 (j4 (j4 (jk::jk::jk::.raw (.int .i64 ((p.length-q.length:Nat):Int))::rN g.j::j16 (j4 (j4 (j4 (jk::jk::jk::[]))))))))),Hm [(19,[⟨86,1,lc fU (g.o++ae (p.length+1-(q.length+g.j)) 0)⟩])]⟩) (fun g=>p.length-q.length-g.j) ⟨0,o,c,by omega,hc,ho,h⟩ ?_ ?_
 ·refine aC ⟨rfl,trivial⟩ ?_;simp[wk]
 clear h ho hc c o;rintro⟨j,o,c,hj,hc,ho,h⟩;simp only;have eNj:(q.length:Int)+(j:Int)=((q.length+j:Nat):Int):=by omega
 by_cases hm2:j<p.length-q.length
 ·obtain⟨a,ha⟩:=getElem?_of_lt (show q.length+j<p.length by omega);have ha':=cd lp ha;have e1:IntKind.u32.wrap ((c:Int)+(a:Int))=(((c+a)%4294967296:Nat):Int):=by rw[<- yH];congr 1<;>omega
  have e2:Int.fdiv ((c:Int)+(a:Int)) (2^(min 32 IntKind.u64.bits))=(((c+a)/4294967296:Nat):Int):=by rw[<- Gq];congr 1<;>omega
  have hz:p.length+1-(q.length+j)=(p.length-(q.length+j))+1:=by omega
  have hg:=mY o (p.length-(q.length+j));have hs:=kX o (p.length-(q.length+j)) ((c+a)%4294967296);rw[ho]at hg hs;rw[hz];refine aB fun _ K=>?_;simp(disch:=omega) only[kd,bN];apply K
  refine b8 rfl ?_;refine aD (aH ?_);refine aB fun _ K=>?_;simp only[kd];apply K
  refine aB fun _ K=>?_;simp(disch:=omega) only[kd,aa,eNj,aS,ha,dj];apply K
  refine aB fun _ K=>?_;simp(disch:=omega) only[kd,aa,eNj,aS,e1,hg,cQ,hs];apply K
  refine aR fun _ K=>?_;simp only[kd,aa,Int.reduceLE,am,e2];apply K
  show bH _ _ _ _;refine aR fun _ K=>?_;simp(disch:=omega) only[kd,aS];apply K
  refine⟨⟨j+1,o++[(c+a)%4294967296],(c+a)/4294967296,by omega,by omega,by simp[ho];omega,?_⟩,by simp only;omega,aC ⟨?_,trivial⟩ ?_⟩
  ·rw[<- h,i9 ha,sumL,List.append_assoc];rfl
  ·show _=[(⟨_,_,lc fU ((o++[(c+a)%4294967296])++ae (p.length+1-(q.length+(j+1))) 0)⟩:OObj)];rw[show p.length+1-(q.length+(j+1))=p.length-(q.length+j) by omega];rfl
  simp[wk]
 have hje:q.length+j=p.length:=by omega
 rw[hje]at h ho;rw[jB (ac _),sumL]at h;have e1:IntKind.u32.wrap (c:Int)=(c:Int):=by rw[yH];omega
 have hz:p.length+1-(q.length+j)=0+1:=by omega
 have hg:=mY o 0;have hs:=kX o 0 c;rw[ho]at hg hs;rw[List.replicate_zero,List.append_nil,h]at hs;have hsl:(sumL p q 0).length=p.length+1:=by rw[mm];omega
 have hlm:=lL p q 0 lp lq (by omega);have ht:=da (sumL p q 0) (by omega);rw[gH hlm,ke,Nat.add_zero]at ht;rw[hz];generalize sumL p q 0=S at*
 refine aB fun _ K=>?_;simp(disch:=omega) only[kd,bN];apply K
 refine cn rfl ?_;show bH _ _ _ _;refine aB fun _ K=>?_;simp(disch:=omega) only[kd,aa,e1,hg,cQ,hs];apply K
 refine bH.weak ((dH 19 (fz rfl)).trans (aC (tm:=(j4 (jk::bN S::j16 (j16 (j16 (j16 (j4 (j4 (j4 (jk::[])))))))))) (l:=[]) trivial (by simp[wk,fV,eo,aO,Hm,fi,gm,List.take_of_length_le,hsl]))) ?_;refine aK [⟨1,_,_,_,ht⟩] [] fun _ K=>?_;simp only[kd,bN,aa];apply K
 (refine aM ⟨.inr rfl,aI rfl ?_ rfl⟩;simp(disch:=omega) only[kd,Tryd.results62,bN])
theorem mH (m n:List Nat) (lm:Lmb m) (ln:Lmb n) (hl:n.length<=m.length) (hle:natV n<=natV m) (bm:m.length<=536870912):
  CallC Tryd.prog 63 [bN m,bN n] ⟨[],bN (aP (natV m-natV n))⟩:=by
 refine aN Tryd.func63 rfl (by kernel_rfl) ?_;rw[Tryd.ntmps63];refine aB fun _ K=>?_;simp only[kd,bN,aa,ae];apply K
 refine aB fun _ K=>?_;simp(disch:=omega) only[kd,aa,lK];apply K
 refine aB fun _ K=>?_;simp only[kd];apply K
 refine aD (aB fun _ K=>?_);simp only[kd,aa];apply K;refine bx (G:=Ji m n) (fun g=>⟨(bN m::bN n::jk::jk::jk::.one (.sl 11 0 0 m.length)::.raw (.int .u64 (g.c:Int))::j4 (jk::jk::rN m.length::rN g.i::j16 (j4 (j4 (j4 (jk::jk::[])))))),Hm [(11,[⟨86,1,lc fU (g.o++ae (m.length-g.i) 0)⟩])]⟩) (fun g=>m.length-g.i) ⟨0,[],0,by omega,by omega,rfl,rfl⟩ ?_ ?_
 ·refine aC ⟨?_,trivial⟩ ?_
  ·simp[aO,Hm]
  simp[wk]
 rintro⟨i,o,c,hi,hc,ho,h⟩;simp only;by_cases hm:i<m.length
 ·obtain⟨a,ha⟩:=getElem?_of_lt hm;have ha':=cd lm ha;have hz:m.length-i=(m.length-i-1)+1:=by omega
  have hg:=mY o (m.length-i-1);rw[ho]at hg;rw[hz];refine aB fun _ K=>?_;simp(disch:=omega) only[kd,bN];apply K
  refine b8 rfl ?_;refine aD (aH ?_);refine aB fun _ K=>?_;simp only[kd];apply K
  refine aB fun _ K=>?_;simp(disch:=omega) only[kd,aa,ha,dj];apply K
  by_cases hn:i<n.length
  ·obtain⟨b,hb⟩:=getElem?_of_lt hn;have hb':=cd ln hb;have e1:IntKind.u32.wrap (IntKind.u64.wrap (IntKind.u64.wrap ((a:Int)-(c:Int))-(b:Int)))=(((a+8589934592-(c+b))%4294967296:Nat):Int):=by rw[IntKind.wrap_u32,IntKind.wrap_u64,IntKind.wrap_u64];omega
   have e2:Int.fdiv (IntKind.u64.wrap (IntKind.u64.wrap ((a:Int)-(c:Int))-(b:Int))) (2^(min 63 IntKind.u64.bits))=(((if a<c+b then 1 else 0):Nat):Int):=by
    rw[IntKind.wrap_u64,IntKind.wrap_u64];show Int.fdiv _ 9223372036854775808=_;rw[Int.fdiv_eq_ediv_of_nonneg _ (by omega)];split<;>omega
   have hs:=kX o (m.length-i-1) ((a+8589934592-(c+b))%4294967296);rw[ho]at hs;refine aD (aB fun _ K=>?_);simp(disch:=omega) only[kd,aa];apply K;refine bs rfl ?_;refine aR fun _ K=>?_;simp(disch:=omega) only[kd,aa,hb,dj];apply K
   show bH _ _ _ _;refine aB fun _ K=>?_;simp(disch:=omega) only[kd,aa,e1,hg,cQ,hs];apply K
   refine aR fun _ K=>?_;simp only[kd,aa,Int.reduceLE,am,e2];apply K
   show bH _ _ _ _;refine aR fun _ K=>?_;simp(disch:=omega) only[kd,aS];apply K
   refine⟨⟨i+1,o++[(a+8589934592-(c+b))%4294967296],if a<c+b then 1 else 0,by omega,by split<;>omega,by simp[ho],?_⟩,by simp only;omega,aC ⟨?_,trivial⟩ ?_⟩
   ·rw[<- h,i9 ha,i9 hb,diffL,List.append_assoc];rfl
   ·show _=[(⟨_,_,lc fU ((o++[(a+8589934592-(c+b))%4294967296])++ae (m.length-(i+1)) 0)⟩:OObj)];rw[show m.length-(i+1)=m.length-i-1 by omega];rfl
   simp[wk]
  have e1:IntKind.u32.wrap (IntKind.u64.wrap ((a:Int)-(c:Int)))=(((a+8589934592-c)%4294967296:Nat):Int):=by rw[IntKind.wrap_u32,IntKind.wrap_u64];omega
  have e2:Int.fdiv (IntKind.u64.wrap ((a:Int)-(c:Int))) (2^(min 63 IntKind.u64.bits))=(((if a<c then 1 else 0):Nat):Int):=by
   rw[IntKind.wrap_u64];show Int.fdiv _ 9223372036854775808=_;rw[Int.fdiv_eq_ediv_of_nonneg _ (by omega)];split<;>omega
  have hs:=kX o (m.length-i-1) ((a+8589934592-c)%4294967296);rw[ho]at hs;refine aD (aB fun _ K=>?_);simp(disch:=omega) only[kd,aa];apply K;refine a6 rfl (aT ?_);show bH _ _ _ _;refine aB fun _ K=>?_;simp(disch:=omega) only[kd,aa,e1,hg,cQ,hs];apply K
  refine aR fun _ K=>?_;simp only[kd,aa,Int.reduceLE,am,e2];apply K
  show bH _ _ _ _;refine aR fun _ K=>?_;simp(disch:=omega) only[kd,aS];apply K
  refine⟨⟨i+1,o++[(a+8589934592-c)%4294967296],if a<c then 1 else 0,by omega,by split<;>omega,by simp[ho],?_⟩,by simp only;omega,aC ⟨?_,trivial⟩ ?_⟩
  ·rw[<- h,i9 ha,jB (by omega:n.length<=i),jB (by omega:n.length<=i+1),diffL,List.append_assoc];rfl
  ·show _=[(⟨_,_,lc fU ((o++[(a+8589934592-c)%4294967296])++ae (m.length-(i+1)) 0)⟩:OObj)];rw[show m.length-(i+1)=m.length-i-1 by omega];rfl
  simp[wk]
 have hie:i=m.length:=by omega
 subst hie;rw[jB (ac _),diffL,List.append_nil]at h;rw[Nat.sub_self,List.replicate_zero,List.append_nil,h];have hsl:(diffL m n 0).length=m.length:=mB m n 0;have hlm:=mK m n 0;have hv:=kT m n 0 lm ln (by omega) hl (by omega);have ht:=da (diffL m n 0) (by omega);rw[gH hlm,show natV (diffL m n 0)=natV m-natV n by omega]at ht;generalize diffL m n 0=S at*
 refine aB fun _ K=>?_;simp(disch:=omega) only[kd,bN];apply K
 refine cn rfl ?_;show bH _ _ _ _;refine bH.weak ((dH 11 (fz rfl)).trans (aC (tm:=(j4 (jk::bN S::j16 (j16 (j4 (jk::jk::jk::[])))))) (l:=[]) trivial (by simp[wk,fV,eo,aO,Hm,fi,gm,List.take_of_length_le,hsl]))) ?_;refine aK [⟨1,_,_,_,ht⟩] [] fun _ K=>?_;simp only[kd,bN,aa];apply K
 (refine aM ⟨.inr rfl,aI rfl ?_ rfl⟩;simp(disch:=omega) only[kd,Tryd.results63,bN])
theorem zK {A B:List Nat} (g:AO A B) (h:A[g.i]?=some 0): ∃g':AO A B,g'.i=g.i+1/\g'.O=g.O:=by
 refine⟨⟨g.i+1,g.O,(List.getElem?_eq_some_iff.1 h).1,g.len,g.lmb,?_,fun k h1 h2=>g.zero k (by omega) h2⟩,rfl,rfl⟩;rw[aZ h,g.val];simp
theorem zt (A B:List Nat) (hlA:Lmb A) (hlB:Lmb B) (la:A.length<=536870912) (lb:B.length<=536870912):CallC Tryd.prog 65 [bN A,bN B] ⟨[],bN (aP (natV A*natV B))⟩:=by
 by_cases hsm:A.length<=1/\B.length<=1
 ·have hsm1:=hsm.1;have hsm2:=hsm.2;have w1:=nQ A hlA (by omega);have w2:=nQ B hlB (by omega);have b1:natV A<4294967296:=by
   have:=eL hlA;exact Nat.lt_of_lt_of_le this (by have:=Nat.pow_le_pow_right (n:=4294967296) (by omega) hsm1;simpa using this)
  have b2:natV B<4294967296:=by
   have:=eL hlB;exact Nat.lt_of_lt_of_le this (by have:=Nat.pow_le_pow_right (n:=4294967296) (by omega) hsm2;simpa using this)
  have hb:=mM b1 b2;have w3:=fA (natV A*natV B) (by omega);have e2:(natV A:Int)*(natV B:Int)=((natV A*natV B:Nat):Int):=by simp
  generalize natV A*natV B=p at*
  refine aN Tryd.func65 rfl (by kernel_rfl) ?_;rw[Tryd.ntmps65];refine aB fun _ K=>?_;simp only[kd,bN,aa,ae];apply K
  refine aD (aB fun _ K=>?_);simp(disch:=omega) only[kd,aa];apply K;refine bs rfl ?_;refine aK [⟨1,_,_,_,w1⟩,⟨3,_,_,_,w2⟩,⟨5,_,_,_,w3⟩] [] fun _ K=>?_;simp(disch:=omega) only[kd,bN,aa,af,e2,dj];apply K
  (refine aM ⟨.inr rfl,aI rfl ?_ rfl⟩;simp(disch:=omega) only[kd,Tryd.results65,bN])
 have e0:((A.length:Int)+(B.length:Int)).toNat=A.length+B.length:=by omega
 refine aN Tryd.func65 rfl (by kernel_rfl) ?_;rw[Tryd.ntmps65];refine aB fun _ K=>?_;simp only[kd,bN,aa,ae];apply K
 refine aD (rH (S:=⟨(bN A::bN B::j16 (j16 (j16 (j16 (j16 (j4 ([]))))))),Hm []⟩) ?_ ?_)
 ·by_cases h1:A.length<=1
  ·refine aB fun _ K=>?_;simp(disch:=omega) only[kd,aa];apply K
   refine d4 rfl (fun h=>by simp at h<;>omega) (fun _=>aT (aC trivial ?_));simp[wk]
  refine aB fun _ K=>?_;simp(disch:=omega) only[kd,aa];apply K
  refine d4 rfl (fun h=>by simp at h<;>omega) (fun _=>aT (aC trivial ?_));simp[wk]
 refine aB fun _ K=>?_;simp(disch:=omega) only[kd,aa,bN,aS,e0,lK];apply K
 refine aD (aB fun _ K=>?_);simp only[kd,aa];apply K;refine bx (G:=AO A B) (fun g=>⟨(bN A::bN B::jk::jk::jk::.one (.sl 31 0 0 (A.length+B.length))::j16 (j4 (j4 (jk::jk::bN A::rN A.length::rN g.i::j16 (j16 (j16 (jk::jk::jk::[]))))))),Hm [(31,[⟨86,1,lc fU g.O⟩])]⟩) (fun g=>A.length-g.i) ⟨0,ae (A.length+B.length) 0,by omega,by simp,fun x hx=>by simp at hx;omega,by simp[Cf,natV],fun k h1 h2=>by rw[List.getElem?_replicate,if_pos h2]⟩ ?_ ?_
 ·refine aC ⟨rfl,trivial⟩ ?_;simp[wk]
 rintro⟨i,O,hi,len,lmb,val,zero⟩;simp only;by_cases hm:i<A.length
 ·obtain⟨x,hx⟩:=getElem?_of_lt hm;have hx':=cd hlA hx;refine aB fun _ K=>?_;simp(disch:=omega) only[kd,bN];apply K
  refine b8 rfl ?_;refine aD (aH ?_);refine aB fun _ K=>?_;simp(disch:=omega) only[kd,aa,hx];apply K
  by_cases hx0:x=0
  ·subst hx0;obtain⟨g',q1,q2⟩:=zK (⟨i,O,hi,len,lmb,val,zero⟩:AO A B) hx;simp only at q1 q2;refine aD (aB fun _ K=>?_);simp(disch:=omega) only[kd];apply K;refine bs rfl (dx ?_);show bH _ _ _ _;refine aR fun _ K=>?_;simp(disch:=omega) only[kd,aS];apply K
   refine⟨g',by omega,aC ⟨by rw[q2];rfl,trivial⟩ ?_⟩;simp[wk,q1]
  have es:(i:Int)+(B.length:Int)+1=((i+B.length+1:Nat):Int):=by omega
  have el:i+B.length+1-i=B.length+1:=by omega
  refine aD (aB fun _ K=>?_);simp(disch:=omega) only[kd];apply K;refine a6 rfl (aT ?_);show bH _ _ _ _;refine aB fun _ K=>?_;simp(disch:=omega) only[kd,aa,aS,es,el];apply K
  refine aB fun _ K=>?_;simp only[kd];apply K
  refine aD (aB fun _ K=>?_);simp only[kd,aa];apply K;refine bx (G:=DX A B i x) (fun g=>⟨(bN A::bN B::jk::jk::jk::.one (.sl 31 0 0 (A.length+B.length))::jk::.raw (.int .u32 (x:Int))::.one (.sl 31 0 i (B.length+1))::.raw (.int .u64 (g.c:Int))::j16 (j4 (jk::jk::bN A::rN A.length::rN i::j4 (j4 (j4 (jk::jk::bN B::rN B.length::rN g.j::j16 (j16 (jk::jk::[])))))))),Hm [(31,[⟨86,1,lc fU g.O⟩])]⟩) (fun g=>B.length-g.j) ⟨0,O,0,by omega,len,lmb,by omega,by simpa[natV] using val,zero⟩ ?_ ?_
  ·refine aC ⟨rfl,trivial⟩ ?_;simp[wk]
  intro g;by_cases hn:g.j<B.length
  ·obtain⟨y,hy⟩:=getElem?_of_lt hn;have hy':=cd hlB hy;have hlen:=g.len;obtain⟨o,ho⟩:=getElem?_of_lt (show i+g.j<g.O.length by omega);have ho':=cd g.lmb ho;have hb:=mM hx' hy';have hgc:=g.hc;obtain⟨g',q1,q2,q3⟩:=zJ g hy ho hm hx' hy';have e2:(x:Int)*(y:Int)=((x*y:Nat):Int):=by simp
   generalize hp:x*y=p at*
   have e3:IntKind.u32.wrap ((g.c:Int)+((p:Int)+(o:Int)))=(((g.c+(p+o))%4294967296:Nat):Int):=by rw[<- yH];congr 1<;>omega
   have e4:Int.fdiv ((g.c:Int)+((p:Int)+(o:Int))) (2^(min 32 IntKind.u64.bits))=(((g.c+(p+o))/4294967296:Nat):Int):=by rw[<- Gq];congr 1<;>omega
   refine aB fun _ K=>?_;simp(disch:=omega) only[kd,bN];apply K
   refine b8 rfl ?_;refine aD (aH ?_);refine aB fun _ K=>?_;simp(disch:=omega) only[kd,aa,hy];apply K
   refine aB fun _ K=>?_;simp(disch:=omega) only[kd,aa,dj,e2,ho];apply K
   refine aB fun _ K=>?_;simp(disch:=omega) only[kd,aa,e3,ho,cQ];apply K
   refine aR fun _ K=>?_;simp only[kd,aa,Int.reduceLE,am,e4];apply K
   show bH _ _ _ _;refine aR fun _ K=>?_;simp(disch:=omega) only[kd,aS];apply K
   refine⟨g',by omega,aC ⟨by rw[q2];rfl,trivial⟩ ?_⟩;simp[wk,q1,q3]
  have hgj:=g.hj;have hgc:=g.hc;have hgl:=g.len;obtain⟨g',q1,q2⟩:=zI hx g hn;have e3:IntKind.u32.wrap (g.c:Int)=(g.c:Int):=by rw[yH];omega
  refine aB fun _ K=>?_;simp(disch:=omega) only[kd,bN];apply K
  refine cn rfl ?_;show bH _ _ _ _;have hz:=g.zero (i+B.length) (ac _) (by omega);refine aR fun _ K=>?_;simp(disch:=omega) only[kd,aa,e3,hz,cQ];apply K
  show bH _ _ _ _;refine aR fun _ K=>?_;simp(disch:=omega) only[kd,aS];apply K
  refine⟨g',by omega,aC ⟨by rw[q2];rfl,trivial⟩ ?_⟩;simp[wk,q1]
 have hfin:natV O=natV A*natV B:=by
  have:i=A.length:=by omega
  rw[val,this,List.take_length]
 have ht:=da O (by omega);rw[gH lmb,hfin]at ht;refine aB fun _ K=>?_;simp(disch:=omega) only[kd,bN];apply K
 refine cn rfl ?_;show bH _ _ _ _;refine bH.weak ((dH 31 (fz rfl)).trans (aC (tm:=(j4 (jk::bN O::j16 (j16 (j16 (j16 (j16 ([])))))))) (l:=[]) trivial (by simp[wk,fV,eo,aO,Hm,fi,gm,List.take_of_length_le,len]))) ?_;refine aK [⟨1,_,_,_,ht⟩] [] fun _ K=>?_;simp only[kd,bN,aa];apply K
 (refine aM ⟨.inr rfl,aI rfl ?_ rfl⟩;simp(disch:=omega) only[kd,Tryd.results65,bN])
/-! Signed numbers. -/
theorem Bs {a b:Nat}:0<=gg a b↔b<=a:=by unfold gg;split<;>(try split)<;>omega
theorem w6 {na nb:Bool} {a b:Nat} (h:na≠nb) (hle:b<=a):fN na (a-b)=fN na a+fN nb b:=by
 unfold fN;cases na<;>cases nb<;>simp at* <;>omega
theorem w7 {na nb:Bool} {a b:Nat} (h:na≠nb) (hle:a<=b):fN nb (b-a)=fN na a+fN nb b:=by
 unfold fN;cases na<;>cases nb<;>simp at* <;>omega
theorem FC (n:Bool) (a b:Nat):fN n (a+b)=fN n a+fN n b:=by unfold fN;cases n<;>simp<;>omega
theorem sh (na nb:Bool) (a b:Nat) (la:(aP a).length<=536870912) (lb:(aP b).length<=536870912):CallC Tryd.prog 64 [.raw (.bool na),bN (aP a),.raw (.bool nb),bN (aP b)] ⟨[],tZ (fN na a+fN nb b)⟩:=by
 by_cases hs:na=nb
 ·subst hs;have h1:=qS (aP a) (aP b) (be _) (be _) la lb;rw[aQ,aQ]at h1;have h2:=dp na (a+b);rw[FC]at h2;refine aN Tryd.func64 rfl (by kernel_rfl) ?_;rw[Tryd.ntmps64];refine aB fun _ K=>?_;simp(disch:=omega) only[kd,bN,aa,ae];apply K
  refine aD (aH ?_);refine aB fun _ K=>?_;simp only[kd,aa];apply K
  refine bs rfl ?_;refine aK [⟨3,_,_,_,h1⟩,⟨4,_,_,_,h2⟩] [] fun _ K=>?_;simp(disch:=omega) only[kd,bN,tZ,aa,af];apply K
  (refine aM ⟨.inr rfl,aI rfl ?_ rfl⟩;simp(disch:=omega) only[kd,Tryd.results64,aa,tZ])
 have hne:(na==nb)=false:=by simpa using hs
 have h0:=kN (aP a) (aP b) (be _) (be _) (cE _) (cE _) (by omega) (by omega);rw[aQ,aQ]at h0;have hge:=Bs (a:=a) (b:=b);by_cases hle:b<=a
 ·have h1:=mH (aP a) (aP b) (be _) (be _) (jJ (be _) (cE _) (by rw[aQ,aQ];exact hle)) (by rw[aQ,aQ];exact hle) la;rw[aQ,aQ]at h1;have h2:=dp na (a-b);rw[w6 hs hle]at h2;have hc:0<=gg a b:=hge.2 hle;generalize gg a b=cv at*
  refine aN Tryd.func64 rfl (by kernel_rfl) ?_;rw[Tryd.ntmps64];refine aB fun _ K=>?_;simp(disch:=omega) only[kd,bN,aa,ae];apply K
  refine aD (aH ?_);refine aB fun _ K=>?_;simp only[kd,aa,hne];apply K
  refine a6 rfl ?_;refine aK [⟨2,_,_,_,h0⟩] [] fun _ K=>?_;simp(disch:=omega) only[kd,bN,aa];apply K
  refine bs rfl ?_;refine aK [⟨3,_,_,_,h1⟩,⟨4,_,_,_,h2⟩] [] fun _ K=>?_;simp(disch:=omega) only[kd,bN,tZ,aa,af];apply K
  (refine aM ⟨.inr rfl,aI rfl ?_ rfl⟩;simp(disch:=omega) only[kd,Tryd.results64,aa,tZ])
 have h1:=mH (aP b) (aP a) (be _) (be _) (jJ (be _) (cE _) (by rw[aQ,aQ];omega)) (by rw[aQ,aQ];omega) lb;rw[aQ,aQ]at h1;have h2:=dp nb (b-a);rw[w7 hs (by omega)]at h2;have hc: ¬0<=gg a b:=fun h=>hle (hge.1 h)
 generalize gg a b=cv at*
 refine aN Tryd.func64 rfl (by kernel_rfl) ?_;rw[Tryd.ntmps64];refine aB fun _ K=>?_;simp(disch:=omega) only[kd,bN,aa,ae];apply K
 refine aD (aH ?_);refine aB fun _ K=>?_;simp only[kd,aa,hne];apply K
 refine a6 rfl ?_;refine aK [⟨2,_,_,_,h0⟩] [] fun _ K=>?_;simp(disch:=omega) only[kd,bN,aa];apply K
 refine a6 rfl (aT ?_);show bH _ _ _ _;refine aK [⟨3,_,_,_,h1⟩,⟨4,_,_,_,h2⟩] [] fun _ K=>?_;simp(disch:=omega) only[kd,bN,tZ,aa,af];apply K
 (refine aM ⟨.inr rfl,aI rfl ?_ rfl⟩;simp(disch:=omega) only[kd,Tryd.results64,aa,tZ])
theorem He (a b:Int) (ha:Bh a) (hb:Bh b):CallC Tryd.prog 54 [tZ a,tZ b] ⟨[],tZ (a-b)⟩:=by
 have t1:=da (aP a.natAbs) ha.bg.len;have t2:=da (aP b.natAbs) hb.bg.len;rw[kp]at t1 t2;have h:=sh (decide (a<0)) (!decide (b<0)) a.natAbs b.natAbs ha.len hb.len;rw[yh,Hk,<- Int.sub_eq_add_neg]at h;refine aN Tryd.func54 rfl (by kernel_rfl) ?_;rw[Tryd.ntmps54];refine aB fun _ K=>?_;simp(disch:=omega) only[kd,aa,tZ,ae,ab];apply K
 refine dn bE [⟨4,_,_,_,t1⟩,⟨10,_,_,_,t2⟩,⟨11,_,_,_,h⟩] [] (by kernel_rfl) fun _ K=>?_;simp(disch:=omega) only[kd,bN,tZ,aa,ab,af];apply K
 (refine aM ⟨.inr rfl,aI rfl ?_ rfl⟩;simp(disch:=omega) only[kd,Tryd.results54,ab,aa,tZ])
theorem BT (a b:Int) (ha:Bh a) (hb:Bh b):CallC Tryd.prog 55 [tZ a,tZ b] ⟨[],tZ (a*b)⟩:=by
 have t1:=da (aP a.natAbs) ha.bg.len;have t2:=da (aP b.natAbs) hb.bg.len;rw[kp]at t1 t2;have h:=zt (aP a.natAbs) (aP b.natAbs) (be _) (be _) ha.len hb.len;rw[aQ,aQ]at h;have h2:=dp (!(decide (a<0)==decide (b<0))) (a.natAbs*b.natAbs);rw[ES]at h2;refine aN Tryd.func55 rfl (by kernel_rfl) ?_;rw[Tryd.ntmps55];refine aB fun _ K=>?_;simp(disch:=omega) only[kd,aa,tZ,ae,ab];apply K
 refine dn bE [⟨7,_,_,_,t1⟩,⟨10,_,_,_,t2⟩,⟨11,_,_,_,h⟩,⟨12,_,_,_,h2⟩] [] (by kernel_rfl) fun _ K=>?_;simp(disch:=omega) only[kd,bN,tZ,aa,ab,af];apply K
 (refine aM ⟨.inr rfl,aI rfl ?_ rfl⟩;simp(disch:=omega) only[kd,Tryd.results55,ab,aa,tZ])
theorem qf {a s:Nat} (h:a*2^s<18446744073709551616) (hs:s<=64):IntKind.u64.wrap ((a:Int)*2^(min s IntKind.u64.bits))=((a*2^s:Nat):Int):=by
 rw[show min s IntKind.u64.bits=s from Nat.min_eq_left hs,IntKind.wrap_u64];have e:(a:Int)*2^s=((a*2^s:Nat):Int):=by simp
 rw[e];omega
theorem xp {a s:Nat} (hs:s<=64):Int.fdiv (a:Int) (2^(min s IntKind.u64.bits))=((a/2^s:Nat):Int):=by
 rw[show min s IntKind.u64.bits=s from Nat.min_eq_left hs];have e:(2:Int)^s=((2^s:Nat):Int):=by simp
 rw[e,Int.fdiv_eq_ediv_of_nonneg _ (Int.natCast_nonneg _)]
 simp
theorem lI (m:List Nat) (s:Nat) (lm:Lmb m) (hs:s<32) (bm:m.length<=536870912):CallC Tryd.prog 70 [bN m,.raw (.int .i64 (s:Int))] ⟨[⟨86,1,lc fU (bf (m.length+1) (natV m*2^s))⟩],.one (.sl 0 0 0 (m.length+1))⟩:=by
 have hp:=uQ hs;have ep:(m.length:Int)+1=((m.length+1:Nat):Int):=by omega
 refine aN Tryd.func70 rfl (by kernel_rfl) ?_;rw[Tryd.ntmps70];refine aB fun _ K=>?_;simp only[kd,bN,aa,ae];apply K
 refine aB fun _ K=>?_;simp(disch:=omega) only[kd,aa,ep,aS,lK];apply K
 refine aB fun _ K=>?_;simp only[kd];apply K
 refine aD (aB fun _ K=>?_);simp only[kd,aa];apply K;refine bx (G:=rE m.length) (fun g=>⟨(bN m::rN s::jk::jk::jk::.one (.sl 12 0 0 (m.length+1))::.raw (.int .u64 (pX m s g.i:Nat))::j4 (jk::jk::bN m::rN m.length::rN g.i::j16 (j4 (j4 (jk::[]))))),Hm [(12,[⟨86,1,lc fU (bf g.i (natV m*2^s)++ae (m.length+1-g.i) 0)⟩])]⟩) (fun g=>m.length-g.i) ⟨0,by omega⟩ ?_ ?_
 ·refine aC ⟨?_,trivial⟩ ?_
  ·simp[aO,Hm,bf]
  simp[wk,pX,natV]
 rintro⟨i,hi⟩;simp only;have hcl:=H9 lm s i;by_cases hm:i<m.length
 ·obtain⟨a,ha⟩:=getElem?_of_lt hm;have ha':=cd lm ha;obtain⟨k1,k2⟩:=FH (s:=s) ha;have hlow:=Ia (m:=m) (s:=s) (i:=i+1) (j:=i) (by omega) (by omega);rw[<- k1]at hlow;have hmul:a*2^s<=4294967295*2147483648:=Nat.mul_le_mul (by omega) hp.1;have e1:=qf (a:=a) (s:=s) (by omega) (by omega);have e2:=wQ (pX m s i) (a*2^s) (by omega) (by omega);rw[sI a (pX m s i) s hcl]at e2;have e3:IntKind.u32.wrap ((a*2^s+pX m s i:Nat):Int)=((natV m*2^s/4294967296^i%4294967296:Nat):Int):=by rw[yH,Nat.add_comm,hlow]
  have e4:Int.fdiv ((a*2^s+pX m s i:Nat):Int) (2^(min 32 IntKind.u64.bits))=((pX m s (i+1):Nat):Int):=by rw[Gq,Nat.add_comm,k2]
  have hz:m.length+1-i=(m.length-i)+1:=by omega
  have hg:=mY (bf i (natV m*2^s)) (m.length-i);have hset:=kX (bf i (natV m*2^s)) (m.length-i) (natV m*2^s/4294967296^i%4294967296);rw[a7]at hg hset;rw[<- ri]at hset;rw[hz];obtain⟨c1,hc1⟩: ∃c1,c1=pX m s (i+1):=⟨_,rfl⟩;obtain⟨P1,hP1⟩: ∃P1,P1=bf (i+1) (natV m*2^s):=⟨_,rfl⟩;rw[<- hc1]at e4;rw[<- hP1]at hset;clear k1 k2 hlow;generalize pX m s i=c0 at*
  generalize natV m*2^s/4294967296^i%4294967296=dg at*
  generalize bf i (natV m*2^s)=P0 at*
  generalize hal:a*2^s=al at*
  refine aB fun _ K=>?_;simp(disch:=omega) only[kd,bN];apply K
  refine b8 rfl ?_;refine aD (aH ?_);refine aB fun _ K=>?_;simp(disch:=omega) only[kd,aa,ha];apply K
  refine aB fun _ K=>?_;simp(disch:=omega) only[kd,aa,dj,e1,e2];apply K
  refine aB fun _ K=>?_;simp(disch:=omega) only[kd,aa,e3,hg,cQ,hset];apply K
  refine aR fun _ K=>?_;simp only[kd,aa,Int.reduceLE,am,e4];apply K
  show bH _ _ _ _;refine aR fun _ K=>?_;simp(disch:=omega) only[kd,aS];apply K
  refine⟨⟨i+1,by omega⟩,by simp only;omega,aC ⟨?_,trivial⟩ ?_⟩
  ·show _=[(⟨_,_,lc fU (bf (i+1) (natV m*2^s)++ae (m.length+1-(i+1)) 0)⟩:OObj)];rw[show m.length+1-(i+1)=m.length-i by omega,<- hP1];rfl
  simp[wk,hc1]
 have hie:i=m.length:=by omega
 subst hie;have hc:pX m s m.length=natV m*2^s/4294967296^m.length:=by unfold pX;rw[List.take_length]
 have hd:pX m s m.length%4294967296=pX m s m.length:=Nat.mod_eq_of_lt (by omega);have e3:IntKind.u32.wrap ((pX m s m.length:Nat):Int)=((natV m*2^s/4294967296^m.length%4294967296:Nat):Int):=by rw[yH,hc]
 have hz:m.length+1-m.length=0+1:=by omega
 have hg:=mY (bf m.length (natV m*2^s)) 0;have hset:=kX (bf m.length (natV m*2^s)) 0 (natV m*2^s/4294967296^m.length%4294967296);rw[a7]at hg hset;rw[<- ri,List.replicate_zero,List.append_nil]at hset;rw[hz];clear hc hd;generalize bf (m.length+1) (natV m*2^s)=R at*
 generalize bf m.length (natV m*2^s)=P0 at*
 generalize natV m*2^s/4294967296^m.length%4294967296=dg at*
 generalize pX m s m.length=c0 at*
 refine aB fun _ K=>?_;simp(disch:=omega) only[kd,bN];apply K
 refine cn rfl ?_;show bH _ _ _ _;refine aB fun _ K=>?_;simp(disch:=omega) only[kd,aa,e3,hg,cQ,hset];apply K
 refine aB fun _ K=>?_;simp only[kd];apply K
 refine aM ⟨.inr rfl,_,bX.refl _,?_⟩;refine⟨.one (.sl 12 0 0 (m.length+1)),12,?_,rfl,?_,rfl⟩
 ·simp(disch:=omega) only[kd,Tryd.results70]
 show _=[_];simp[renO,sq]
def Am (l:List Nat) (b i:Nat):List Nat:=l.take i++bf (l.length-i) (natV (l.drop i)/b)
theorem Ft (l:List Nat) (b:Nat) {i:Nat} (h:i<=l.length):(Am l b i).length=l.length:=by simp[Am,a7];omega
theorem nI (l:List Nat) (b:Nat) (ll:Lmb l) (hb:0<b) (hb':b<4294967296) (hl:0<l.length) (bl:l.length<=536870912):
  ni Tryd.prog 68 [.undef,.raw (.int .u32 (b:Int))] 0 0 l.length ⟨86,1,lc fU l⟩ ⟨86,1,lc fU (bf l.length (natV l/b))⟩ (.raw (.int .u32 ((natV l%b:Nat):Int))):=by
 refine oG Tryd.func68 rfl (by kernel_rfl) (by simp) hl (by simp[lc]) (de _ _) rfl (by simp[lc,a7]) (de _ _) rfl ?_;rw[Tryd.ntmps68];refine aG (by kernel_rfl) fun _ K=>?_;simp only[kd,aa,ae];apply K
 refine aG (by kernel_rfl) fun _ K=>?_;simp only[kd];apply K
 have e0:(l.length:Int)-1=(l.length:Int)-1:=rfl;refine bI (aG (by kernel_rfl) fun _ K=>?_);simp(disch:=omega) only[kd,aa,aS];apply K;refine eH (G:=rE l.length) (fun g=>⟨(.one (.sl 0 0 0 l.length)::.raw (.int .u32 (b:Int))::jk::jk::jk::.raw (.int .u64 ((natV (l.drop g.i)%b:Nat):Int))::.raw (.int .i64 ((g.i:Int)-1))::j16 (j4 (j4 (j4 (jk::[]))))),Hm [(0,[⟨86,1,lc fU (Am l b g.i)⟩])]⟩) (fun g=>g.i) ⟨l.length,by omega⟩ ?_ ?_
 ·refine aC ⟨?_,trivial⟩ ?_
  ·simp[Am,bf,famH]
  simp[wk,natV]
 rintro⟨i,hi⟩;simp only;by_cases h0:0<i
 ·obtain⟨j,rfl⟩: ∃j,i=j+1:=⟨i-1,by omega⟩;obtain⟨a,ha⟩:=getElem?_of_lt (l:=l) (k:=j) (by omega);have ha':=cd ll ha;have ej:((j+1:Nat):Int)-1=(j:Int):=by omega
  obtain⟨q1,q2⟩:=Fu (b:=b) rfl (show j<l.length by omega) ha ha' hb;have hlen:=Ft l b hi;have hget:(Am l b (j+1))[j]?=some a:=by
   unfold Am;rw[List.getElem?_append_left (by simp;omega),List.getElem?_take,if_pos (by omega),ha]
  change (Am l b (j+1)).set j _=Am l b j at q1
  have hr:=Nat.mod_lt (natV (l.drop (j+1))) hb;generalize natV (l.drop (j+1))%b=r at*
  obtain⟨r',hr'⟩: ∃r',r'=natV (l.drop j)%b:=⟨_,rfl⟩;rw[<- hr']at q2;have hcast:((natV (l.drop j):Nat):Int)%(b:Int)=(r':Int):=by rw[hr'];simp
  have e1:=qf (a:=r) (s:=32) (by omega) (by omega);have e2:=wQ (r*2^32) a (by omega) (by omega);rw[sJ r a 32 (by omega),show r*2^32+a=r*4294967296+a from rfl]at e2;have e3:Int.tdiv ((r*4294967296+a:Nat):Int) (b:Int)=(((r*4294967296+a)/b:Nat):Int):=(Int.ofNat_tdiv _ _).symm;have e4:Int.tmod ((r*4294967296+a:Nat):Int) (b:Int)=(r':Int):=by rw[<- q2];exact(Int.ofNat_tmod _ _).symm
  have hq:(r*4294967296+a)/b<4294967296:=by
   rw[Nat.div_lt_iff_lt_mul hb];have:(r+1)*4294967296<=b*4294967296:=Nat.mul_le_mul_right _ (by omega);omega
  generalize(r*4294967296+a)/b=qd at*
  have e5:IntKind.u64.wrap (qd:Int)=(qd:Int):=by rw[IntKind.wrap_u64];omega
  have e6:IntKind.u32.wrap (qd:Int)=(qd:Int):=by rw[IntKind.wrap_u32];omega
  generalize Am l b (j+1)=S at*
  obtain⟨S',hS'⟩: ∃S',S'=Am l b j:=⟨_,rfl⟩;rw[<- hS']at q1;refine bI (aG (by kernel_rfl) fun _ K=>?_);simp(disch:=omega) only[kd,ej];apply K;refine ic rfl (d7 ?_);refine bI (dC ?_);refine aG (by kernel_rfl) fun _ K=>?_;simp(disch:=omega) only[kd,aa,Int.reduceLE,am,e1,hget,dj,e2];apply K
  refine aG (by kernel_rfl) fun _ K=>?_;simp(disch:=omega) only[kd,aa,dj,e3,e5,e6,hget,cQ,q1];apply K
  refine ch (by kernel_rfl) fun _ K=>?_;simp(disch:=omega) only[kd,aa,dj,e4];apply K
  show dF _ _ _ _ _;refine ch (by kernel_rfl) fun _ K=>?_;simp(disch:=omega) only[kd,aa,aS];apply K
  refine⟨⟨j,by omega⟩,by simp only;omega,aC ⟨?_,trivial⟩ ?_⟩
  ·show _=[(⟨_,_,lc fU (Am l b j)⟩:OObj)];rw[<- hS'];rfl
  simp[wk,hcast]
 have hi0:i=0:=by omega
 subst hi0;have hr:natV l%b<4294967296:=Nat.lt_trans (Nat.mod_lt _ hb) hb';have hS:Am l b 0=bf l.length (natV l/b):=by simp[Am]
 rw[hS,List.drop_zero];generalize natV l%b=r at*
 generalize bf l.length (natV l/b)=S at*
 have e6:IntKind.u32.wrap (r:Int)=(r:Int):=by rw[IntKind.wrap_u32];omega
 refine bI (aG (by kernel_rfl) fun _ K=>?_);simp(disch:=omega) only[kd];apply K;refine fJ rfl (d6 ?_);show dF _ _ _ _ _;refine aG (by kernel_rfl) fun _ K=>?_;simp only[kd,aa,e6];apply K
 refine nN ⟨.inr rfl,_,bX.refl _,rfl,kL _,?_⟩;simp(disch:=omega) only[kd,Tryd.results68]
def vo (l:List Nat) (s i:Nat):List Nat:=(bf l.length (natV l/2^s)).take i++l.drop i
theorem FI (l:List Nat) (s:Nat) {i:Nat} (h:i<=l.length):(vo l s i).length=l.length:=by simp[vo,a7];omega
theorem yy {l:List Nat} {s i j a:Nat} (hi:i<=j) (h:l[j]?=some a):(vo l s i)[j]?=some a:=by
 have hj:=(List.getElem?_eq_some_iff.1 h).1;unfold vo;have e:((bf l.length (natV l/2^s)).take i).length=i:=by simp[a7];omega
 rw[List.getElem?_append_right (by omega),e,List.getElem?_drop,show i+(j-i)=j by omega,h]
theorem qm (l:List Nat) (s:Nat) (ll:Lmb l) (hs:s<32) (hl:0<l.length) (bl:l.length<=536870912):
  ni Tryd.prog 72 [.undef,.raw (.int .i64 (s:Int))] 0 0 l.length ⟨86,1,lc fU l⟩ ⟨86,1,lc fU (bf l.length (natV l/2^s))⟩ (.tup []):=by
 refine oG Tryd.func72 rfl (by kernel_rfl) (by simp) hl (by simp[lc]) (de _ _) rfl (by simp[lc,a7]) (de _ _) rfl ?_;rw[Tryd.ntmps72];refine aG (by kernel_rfl) fun _ K=>?_;simp only[kd,aa,ae];apply K
 refine eH (G:=rE l.length) (fun g=>⟨(.one (.sl 0 0 0 l.length)::rN s::j4 (jk::rN l.length::rN g.i::j16 (j4 (j4 (j4 (jk::[])))))),Hm [(0,[⟨86,1,lc fU (vo l s g.i)⟩])]⟩) (fun g=>l.length-g.i) ⟨0,by omega⟩ ?_ ?_
 ·refine aC ⟨?_,trivial⟩ ?_
  ·simp[vo,famH]
  simp[wk]
 rintro⟨i,hi⟩;simp only;have hlen:=FI l s hi;by_cases hm:i<l.length
 ·obtain⟨a,ha⟩:=getElem?_of_lt hm;have ha':=cd ll ha;have hget:=yy (s:=s) (ac i) ha;have hga:l.getD i 0=a:=by rw[List.getD_eq_getElem?_getD,ha];rfl
  have ei:(i:Int)+1=((i+1:Nat):Int):=by omega
  obtain⟨S',hS'⟩: ∃S',S'=vo l s (i+1):=⟨_,rfl⟩;by_cases hm2:i+1<l.length
  ·obtain⟨b,hb⟩:=getElem?_of_lt hm2;have hb':=cd ll hb;have hget2:=yy (s:=s) (show i<=i+1 by omega) hb;have hgb:l.getD (i+1) 0=b:=by rw[List.getD_eq_getElem?_getD,hb];rfl
   have hset:=yz (v:=(b*4294967296+a)/2^s%4294967296) ll (show s<=32 by omega) rfl hm (by rw[hga,hgb,Nat.add_comm,Nat.mul_comm])
   change (vo l s i).set i _=vo l s (i+1)at hset
   rw[<- hS']at hset;have e1:=qf (a:=b) (s:=32) (by omega) (by omega);have e2:=wQ a (b*2^32) (by omega) (by omega);rw[sI b a 32 (by omega),show b*2^32+a=b*4294967296+a from rfl]at e2;have e3:=xp (a:=b*4294967296+a) (s:=s) (by omega);have e4:=yH ((b*4294967296+a)/2^s);generalize(b*4294967296+a)/2^s=qd at*
   generalize vo l s i=S at*
   refine aG (by kernel_rfl) fun _ K=>?_;simp(disch:=omega) only[kd];apply K
   refine rJ rfl ?_;refine bI (dC ?_);refine aG (by kernel_rfl) fun _ K=>?_;simp only[kd];apply K
   refine aG (by kernel_rfl) fun _ K=>?_;simp(disch:=omega) only[kd,aa,hget,dj];apply K
   refine bI (aG (by kernel_rfl) fun _ K=>?_);simp(disch:=omega) only[kd,aa,ei,aS];apply K;refine ic rfl ?_;refine ch (by kernel_rfl) fun _ K=>?_;simp(disch:=omega) only[kd,aa,ei,aS,hget2,dj,Int.reduceLE,am,e1,e2];apply K
   show dF _ _ _ _ _;refine ch (by kernel_rfl) fun _ K=>?_;simp(disch:=omega) only[kd,aa,e3,e4,hget,cQ,hset];apply K
   show dF _ _ _ _ _;refine ch (by kernel_rfl) fun _ K=>?_;simp(disch:=omega) only[kd,aS];apply K
   refine⟨⟨i+1,by omega⟩,by simp only;omega,aC ⟨?_,trivial⟩ ?_⟩
   ·show _=[(⟨_,_,lc fU (vo l s (i+1))⟩:OObj)];rw[<- hS'];rfl
   simp[wk]
  have hgb:l.getD (i+1) 0=0:=by rw[List.getD_eq_getElem?_getD,List.getElem?_eq_none (by omega)];rfl
  have hset:=yz (v:=a/2^s%4294967296) ll (show s<=32 by omega) rfl hm (by rw[hga,hgb];rfl)
  change (vo l s i).set i _=vo l s (i+1)at hset
  rw[<- hS']at hset;have e3:=xp (a:=a) (s:=s) (by omega);have e4:=yH (a/2^s);generalize a/2^s=qd at*
  generalize vo l s i=S at*
  refine aG (by kernel_rfl) fun _ K=>?_;simp(disch:=omega) only[kd];apply K
  refine rJ rfl ?_;refine bI (dC ?_);refine aG (by kernel_rfl) fun _ K=>?_;simp only[kd];apply K
  refine aG (by kernel_rfl) fun _ K=>?_;simp(disch:=omega) only[kd,aa,hget,dj];apply K
  refine bI (aG (by kernel_rfl) fun _ K=>?_);simp(disch:=omega) only[kd,aa,ei,aS];apply K;refine fJ rfl (d7 ?_);show dF _ _ _ _ _;refine ch (by kernel_rfl) fun _ K=>?_;simp(disch:=omega) only[kd,aa,e3,e4,hget,cQ,hset];apply K
  show dF _ _ _ _ _;refine ch (by kernel_rfl) fun _ K=>?_;simp(disch:=omega) only[kd,aS];apply K
  refine⟨⟨i+1,by omega⟩,by simp only;omega,aC ⟨?_,trivial⟩ ?_⟩
  ·show _=[(⟨_,_,lc fU (vo l s (i+1))⟩:OObj)];rw[<- hS'];rfl
  simp[wk]
 have hie:i=l.length:=by omega
 subst hie;have hS:vo l s l.length=bf l.length (natV l/2^s):=by
  unfold vo;rw[List.drop_length,List.append_nil,List.take_of_length_le (by rw[a7];exact ac _)]
 rw[hS];generalize bf l.length (natV l/2^s)=S at*
 refine aG (by kernel_rfl) fun _ K=>?_;simp(disch:=omega) only[kd];apply K
 refine rI rfl ?_;refine⟨.inl rfl,_,bX.refl _,rfl,kL _,?_⟩;simp(disch:=omega) only[kd,Tryd.results72]
end Go.Proofs.YtfgeomlagfomgaaDoor
