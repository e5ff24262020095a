/-
  Part 20 of a proof (walks and plain facts).
-/
import Derived.Test.YtiollbhgpiiodaaGreatDoorQ18
import Derived.ProofKit
import Derived.LaidMore
import Derived.LaidLaws
import Derived.LaidHandle
import Derived.OpenShut
set_option linter.all false
set_option maxRecDepth 100000
set_option maxHeartbeats 64000000
open Nat renaming reduceAdd → aa
open Nat renaming le_refl → ac
open List renaming replicate → ae
namespace Go.Proofs.YtiollbhgpiiodaaGreatDoor
open Go.RowKit
def a4 (c:Nat->Int):List AV:=[.p (.raw (.int .i64 (c 0))),.p (.raw (.int .i64 (c 1))),.p (.raw (.int .i64 (c 2))),.p (.raw (.int .i64 (c 3)))]
theorem dZ (c:Nat->Int):(a4 c).length=4:=rfl
theorem j6 (c:Nat->Int):(a4 c).all f7=true:=rfl
theorem pB (c:Nat->Int) (d:Nat):(a4 c).map (dq d)=a4 c:=rfl
theorem fY (c:Nat->Int):(a4 c).all isPure=true:=rfl
theorem iq (c:Nat->Int):(a4 c).take 4=a4 c:=rfl
theorem nj (c:Nat->Int):(a4 c).drop 4=[]:=rfl
theorem yU (c:Nat->Int) {i:Nat} (h:i<4):(a4 c).drop (i*1)= .p (.raw (.int .i64 (c i)))::(a4 c).drop (i+1):=by
 match i,h with
 |0,_=>rfl
 |1,_=>rfl
 |2,_=>rfl
 |3,_=>rfl
def T4 (c:Nat->Int) (i:Nat) (v:Int):Nat->Int:=fun j=>if j=i then v else c j
theorem yV (c:Nat->Int) {i:Nat} (v:Int) (h:i<4):(a4 c).take (i*1)++[.p (.raw (.int .i64 v))]++(a4 c).drop (i*1+1)=a4 (T4 c i v):=by
 match i,h with
 |0,_=>rfl
 |1,_=>rfl
 |2,_=>rfl
 |3,_=>rfl
theorem qo {c c':Nat->Int} (h: ∀j,j<4->c j=c' j):a4 c=a4 c':=by
 unfold a4;rw[h 0 (by omega),h 1 (by omega),h 2 (by omega),h 3 (by omega)]
abbrev Dr (c:Nat->Int):List OObj:=[⟨92,4,[a4 c]⟩]
abbrev tC (c:Nat->Int):TV:= .agg (a4 c)
structure Wd (i code:Nat) where
 j:Nat
 hj:j<=i
def OZ (code j:Nat):Nat->Int:=fun l=>if l<j then dg code l else 0
theorem KZ (code:Nat):a4 (OZ code 0)=a4 (fun _=>0):=qo fun j _=>if_neg (by omega)
theorem KY (code j:Nat):a4 (T4 (OZ code j) j (dg code j))=a4 (OZ code (j+1)):=qo fun l _=>by
 unfold T4 OZ;by_cases h:l=j
 ·subst h;simp
 by_cases h2:l<j
 ·simp[h,h2,show l<j+1 by omega]
 simp[h,h2,show ¬l<j+1 by omega]
theorem O0 (code i:Nat):a4 (T4 (OZ code i) i 1)=a4 (mY i code):=qo fun l _=>by
 unfold T4 OZ mY;by_cases h:l=i
 ·subst h;simp
 by_cases h2:l<i<;>simp[h,h2]
theorem zT (i code:Nat) (hi:i<4) (hcode:code<1000):CallC Tryz.prog 120 [.raw (.int .i64 (i:Int)),.raw (.int .i64 (code:Int))] ⟨[],tC (mY i code)⟩:=by
 refine aS Tryz.func120 rfl Tryz.ntmps120 (aT (k:=aK (k:=aF (bC (k:=?_)))));refine aO (G:=Wd i code) (fun g=>⟨(.raw (.int .i64 (i:Int))::.raw (.int .i64 ((code/3^g.j:Nat):Int))::jk::jk::.one (.ptr 4 0 0 0)::.one (.ptr 5 0 0 0)::jk::rN i::rN g.j::j4 (j4 (j4 (jk::[])))),Hm [(4,Dr fun _=>0),(5,Dr (OZ code g.j))]⟩) (fun g=>i-g.j) ⟨0,by omega⟩ ?_ ?_
 ·rw[Nat.pow_zero,Nat.div_one];refine aE ⟨rfl,?_,trivial⟩ ?_
  ·show _=[_];rw[KZ];rfl
  simp[wk]
 rintro⟨j,hj⟩;simp only;by_cases hm:j<i
 ·have hj4:j<4:=by omega
  obtain⟨q,hq⟩: ∃q,q=code/3^j:=⟨_,rfl⟩;have hq3:code/3^(j+1)=q/3:=by rw[Nat.pow_succ,hq,Nat.div_div_eq_div_mul]
  have hdg:dg code j=((q%3:Nat):Int)-1:=by rw[hq];rfl
  have hqle:q<=code:=by rw[hq];exact Nat.div_le_self _ _
  rw[<- hq];have e1:Int.tmod (q:Int) 3=((q%3:Nat):Int):=(Int.ofNat_tmod q 3).symm;have e2:IntKind.i64.wrap (Int.tdiv (q:Int) 3)=((q/3:Nat):Int):=by
   rw[Int.tdiv_eq_ediv_of_nonneg (by omega),IntKind.wrap_i64];omega
  have e3:IntKind.i64.wrap (((q%3:Nat):Int)-1)=dg code j:=by rw[hdg,IntKind.wrap_i64];omega
  have a1:=yV (OZ code j) (dg code j) hj4;rw[KY]at a1;refine aK (k:=bv rfl (aF (aG (bC (k:=aX (aP e1 (aP e3 (aP hj4 (aP @dZ a1)))) (k:=fc e2 (k:=bW (k:=?_))))))));refine⟨⟨j+1,by omega⟩,by simp only;omega,aE ⟨rfl,rfl,trivial⟩ ?_⟩;rw[hq3];simp[wk]
 have hji:j=i:=by omega
 subst hji;have a1:=yV (OZ code j) 1 hi;rw[O0]at a1;refine aK (k:=bE rfl (aX (aP hi (aP @dZ a1)) (k:=aX (aP @dZ (aP @iq (aP @fY @nj))) (k:=aV (aP @Tryz.results120 (aP @dZ (aP @iq @tC.eq_1)))))))
def RE (f:FF) (c:Nat->Int) (a b:Nat):Int:=f a b*c a*c b
def nS (n:Nat) (f:FF) (c:Nat->Int) (i j:Nat):Int:=smF (fun a=>smF (RE f c a) n) i+smF (RE f c i) j
theorem Ti (n:Nat) (f:FF) (c:Nat->Int) (i:Nat):nS n f c i n=nS n f c (i+1) 0:=by
 unfold nS;rw[smF,smF,Int.add_zero]
theorem Th (n:Nat) (f:FF) (c:Nat->Int):nS n f c n 0=nrm n f c:=by
 unfold nS nrm BF;rw[smF,Int.add_zero];refine aI n fun i _=>?_
 rw[<- bH];exact aI n fun j _=>by unfold RE;grind
theorem rH {x c B:Int} (hc: -1<=c/\c<=1) (hx: -B<=x/\x<=B): -B<=x*c/\x*c<=B:=by
 have:c= -1\/c=0\/c=1:=by omega
 rcases this with rfl|rfl|rfl
 ·rw[Int.mul_neg,Int.mul_one];omega
 ·rw[Int.mul_zero];omega
 rw[Int.mul_one];exact hx
theorem RD {n:Nat} {f:FF} {c:Nat->Int} {B:Int} (hf: ∀i j,i<n->j<n-> -B<=f i j/\f i j<=B) (hc: ∀j,-1<=c j/\c j<=1) {i j:Nat} (hi:i<n) (hj:j<=n):
  -(((i:Int)+1)*((n:Int)*B))<=nS n f c i j/\nS n f c i j<=((i:Int)+1)*((n:Int)*B):=by
 have hB:0<=B:=by have:=hf i i hi hi;omega
 have ht: ∀a b,a<n->b<n-> -B<=RE f c a b/\RE f c a b<=B:=fun a b ha hb=>rH (hc b) (rH (hc a) (hf a b ha hb))
 have h1:=AC (F:=fun a=>smF (RE f c a) n) (B:=(n:Int)*B) i fun p hp=>AC n fun b hb=>ht p b (by omega) hb
 have h2:=AC (F:=RE f c i) (B:=B) j fun b hb=>ht i b hi (by omega)
 have h3:(j:Int)*B<=(n:Int)*B:=Int.mul_le_mul_of_nonneg_right (by omega) hB;unfold nS;rw[Int.add_mul,Int.one_mul];omega
theorem GJ (n:Nat) (f:FF) (c:Nat->Int) (hn1:1<=n) (hn:n<=4) (hf: ∀i j,i<n->j<n-> -1125899906842624<=f i j/\f i j<=1125899906842624) (hc: ∀j,-1<=c j/\c j<=1):
  CallC Tryz.prog 121 [dj (bi n n f),tC c] ⟨[],.raw (.int .i64 (nrm n f c))⟩:=by
 have hml:=aW n n f;refine aS Tryz.func121 rfl Tryz.ntmps121 (pC (aP @tC.eq_1 (aP @fY @dZ)) (k:=bC (k:=aF (il hml (k:=?_)))));refine aO (G:=iJ n) (fun g=>⟨(jk::jk::jk::.one (.ptr 3 0 0 0)::jk::.raw (.int .i64 (nS n f c g.i 0))::j4 (dj (bi n n f)::rN n::rN g.i::j16 (j4 (j4 (jk::[]))))),Hm [(3,Dr c)]⟩) (fun g=>n-g.i) ⟨0,by omega⟩ ?_ ?_
 ·refine aE ⟨rfl,trivial⟩ ?_;simp[wk,nS,smF]
 rintro⟨i,hi⟩;simp only;by_cases hm:i<n
 ·have hr:=bx n f hm;have hi4:i<4:=by omega
  have hrl:=bf n (f i);refine aK (k:=bv rfl (aF (aG (aX hr (k:=il hrl (k:=?_))))));refine aO (G:=iJ n) (fun g=>⟨(jk::jk::jk::.one (.ptr 3 0 0 0)::jk::.raw (.int .i64 (nS n f c i g.i))::rN i::jk::jk::jk::dj (bi n n f)::rN n::rN i::j4 (.one (.p (.sl (ls fI (bj n (f i)))))::rN n::rN g.i::j16 (jk::jk::[]))),Hm [(3,Dr c)]⟩) (fun g=>n-g.i) ⟨0,by omega⟩ ?_ ?_
  ·refine aE ⟨rfl,trivial⟩ ?_;simp[wk]
  rintro⟨j,hj⟩;simp only;by_cases hjn:j<n
  ·have hg:=aQ (f i) hjn;have hj4:j<4:=by omega
   have b1:=hf i j hm hjn;have b2:=rH (hc i) b1;have b3:=rH (hc j) b2;have b4:=RD hf hc hm hj;have b5:=RD hf hc hm (j:=j+1) (by omega);have e1:IntKind.i64.wrap (f i j*c i)=f i j*c i:=bu (by omega) (by omega);have e2:IntKind.i64.wrap (f i j*c i*c j)=f i j*c i*c j:=bu (by omega) (by omega);have e4:nS n f c i j+f i j*c i*c j=nS n f c i (j+1):=by
    unfold nS;rw[smF,show RE f c i j=f i j*c i*c j from rfl,Int.add_assoc]
   have hb:((i:Int)+1)*((n:Int)*1125899906842624)<=18014398509481984:=by
    have:((i:Int)+1)*((n:Int)*1125899906842624)<=4*((n:Int)*1125899906842624):=Int.mul_le_mul_of_nonneg_right (by omega) (by omega);omega
   have e3:IntKind.i64.wrap (nS n f c i (j+1))=nS n f c i (j+1):=bu (by omega) (by omega);have d1:=yU c hi4;have d2:=yU c hj4;refine aK (k:=bv rfl (aF (aG (aX hg (k:=nk (aP hi4 (aP d1 (aP e1 (aP hj4 (aP d2 (aP e2 (aP e4 e3))))))) (k:=bW (k:=?_)))))));refine⟨⟨j+1,by omega⟩,by simp only;omega,aE ⟨rfl,trivial⟩ ?_⟩;simp[wk]
  have hjn:j=n:=by omega
  subst hjn;refine aK (k:=bE rfl (bW (k:=?_)));refine⟨⟨i+1,by omega⟩,by simp only;omega,aE ⟨rfl,trivial⟩ ?_⟩;rw[Ti];simp[wk]
 have hin:i=n:=by omega
 subst hin;refine aK (k:=bE rfl ?_);show bL _ _ _ _;rw[Th];refine bC (k:=aV @Tryz.results121)
theorem Lq {n:Nat} {f:FF} (hf: ∀i j,i<n->j<n->Sz (f i j) 1024): ∀k,k<n->(∀t,t<k->dk f (t+1)≠0)-> ∃s,s+1<=1025*2^k/\ ∀i j,i<n-k->j<n-k->Sz (elF f k i j) s
 |0,_,_=>⟨1024,by omega,fun i j hi hj=>by
  show Sz (bk f 0 (0+i) (0+j)) 1024;rw[dz,Nat.zero_add,Nat.zero_add];exact hf i j (by omega) (by omega)⟩
 |k+1,hk,nz=>by
  obtain⟨s,h1,h2⟩:=Lq hf k (by omega) (fun t ht=>nz t (by omega));refine⟨2*s+1,by rw[Nat.pow_succ];omega,fun i j hi hj=>?_⟩;rw[<- vy (fun t ht=>nz t (by omega))];exact((((h2 0 0 (by omega) (by omega)).mul (h2 (i+1) (j+1) (by omega) (by omega))).sub ((h2 (i+1) 0 (by omega) (by omega)).mul (h2 0 (j+1) (by omega) (by omega)))).ediv _).mono (by omega)
theorem QG {n k i:Nat} (f:FF) (h:i<k):(Dt n f k)[i]?=some (Lr n f i):=by
 unfold Dt;rw[List.getElem?_map,List.getElem?_range h];rfl
structure Ws (n:Nat) (f:FF) where
 i:Nat
 hi:i<=n
 ok: ∀a,a<i->0<dk f (a+1)
theorem Cs (n:Nat) (f:FF) (hn1:1<=n) (hn:n<=16) (hf: ∀i j,i<n->j<n->Sz (f i j) 1024) (r:Bool) (hr:r=true↔PD f n):CallC Tryz.prog 99 [dV (bi n n f)] ⟨[],.raw (.bool r)⟩:=by
 have hQ:=yq n f hn1 hn;have hS:=Kq n f hn1 hn hf;have hml:=aW n n f;refine aS Tryz.func99 rfl Tryz.ntmps99 (aT (k:=cb [⟨1,_,_,_,hQ⟩] (k:=aF (bC (k:=aJ rfl (aH (aF (bC (k:=?_)))))))));refine aO (G:=VY n f) (fun g=>⟨(dV (bi n n f)::jk::.raw (.bool false)::j4 (j4 (j4 (jk::jk::rN n::rN g.i::j16 (j16 (j4 (j4 (j4 (jk::[]))))))))),Hm []⟩) (fun g=>n-g.i) ⟨0,by omega,fun a ha=>by omega⟩ ?_ ?_
 ·refine aE trivial ?_;simp[wk]
 rintro⟨i,hi,ok⟩;simp only;by_cases hm:i<n
 ·refine aK (k:=bv rfl (aF (aG (bC (k:=bC (k:=?_))))));refine aO (G:=VZ n i f) (fun g=>⟨(dV (bi n n f)::jk::.raw (.bool false)::jk::jk::rN i::j4 (j4 (jk::jk::jk::rN n::rN i::jk::jk::rN i::rN g.j::j16 (j16 (j4 (j4 (jk::[]))))))),Hm []⟩) (fun g=>i-g.j) ⟨0,by omega,fun a ha=>by omega⟩ ?_ ?_
  ·refine aE trivial ?_;simp[wk]
  rintro⟨j,hj,okj⟩;simp only;by_cases hm2:j<i
  ·have a1:=bx n f hm;have a2:=bx n f (show j<n by omega);have a3:=aQ (f i) (show j<n by omega);have a4:=aQ (f j) hm;have c1:=S6 (f i j) (f j i) ((hf i j hm (by omega)).mono (by omega)) ((hf j i (by omega) hm).mono (by omega));by_cases he:f i j=f j i
   ·rw[he,xS]at c1;rw[he]at a3;refine aK (k:=bv rfl (aF (aG (bC (k:=d6 [⟨14,_,_,_,c1⟩] (aP a1 (aP a3 (aP a2 a4))) (k:=aJ rfl (aH (bW (k:=?_)))))))));refine⟨⟨j+1,by omega,fun b hb=>?_⟩,by simp only;omega,aE trivial ?_⟩
    ·by_cases e:b=j
     ·subst e;exact he
     exact okj b (by omega)
    simp[wk]
   have hr0:r=false:=by
    cases r with
    |false=>rfl
    |true=>exact absurd ((hr.1 rfl).1 i hm j (by omega)) he
   subst hr0;have hne:=By he;refine aK (k:=bv rfl (aF (aG (bC (k:=d6 [⟨14,_,_,_,c1⟩] (aP a1 (aP a3 (aP a2 a4))) (k:=aR rfl (bC (k:=aV @Tryz.results99))))))))
  refine aK (k:=bE rfl (bW (k:=?_)));refine⟨⟨i+1,by omega,fun a ha b hb=>?_⟩,by simp only;omega,aE trivial ?_⟩
  ·by_cases e:a=i
   ·subst e;exact okj b (by omega)
   exact ok a (by omega) b hb
  simp[wk]
 have hsym:SymF f n:=fun a ha b hb=>by
  rcases Nat.lt_trichotomy a b with h|h|h
  ·exact(ok b (by omega) a h).symm
  ·rw[h]
  exact ok a (by omega) b h
 refine aK (k:=bE rfl ?_);show bL _ _ _ _;by_cases hnz:Ub n f
 ·rw[C7 hnz]at hS;have hln:=AG n f n;refine cb [⟨1,_,_,_,hS⟩] (k:=aF (bC (k:=aJ rfl (aH (aF (il hln (k:=?_)))))));refine aO (G:=Ws n f) (fun g=>⟨(jk::jk::.raw (.bool false)::j16 (j16 (j4 (j4 (j4 (jk::jk::jk::.one (.p (.sl (ls fM (Dt n f n))))::rN n::rN g.i::j4 (j4 (jk::jk::jk::[])))))))),Hm []⟩) (fun g=>n-g.i) ⟨0,by omega,fun a ha=>by omega⟩ ?_ ?_
  ·refine aE trivial ?_;simp[wk]
  rintro⟨k,hk,okk⟩;simp only;by_cases hkn:k<n
  ·have g1:=QG (n:=n) (k:=n) f hkn;have q1:=bx (n-k) (elF f k) (show 0<n-k by omega);have q2:=aQ (elF f k 0) (show 0<n-k by omega);obtain⟨s,hs1,hs2⟩:=Lq hf k hkn (fun t ht=>hnz t (by omega));have h2k:=jU (k:=k) (by omega);have hSg:=t8 (elF f k 0 0) ((hs2 0 0 (by omega) (by omega)).mono (by omega));rw[nw]at hSg q2;refine aK (k:=bv rfl (aF (aG (aX (aP g1 @fM.eq_1) (k:=?_)))));by_cases hp:0<dk f (k+1)
   ·rw[E5 hp]at hSg;refine dr [⟨5,_,_,_,hSg⟩] (aP q1 q2) (k:=aJ rfl (aH (bW (k:=?_))));refine⟨⟨k+1,by omega,fun a ha=>?_⟩,by simp only;omega,aE trivial ?_⟩
    ·by_cases e:a=k
     ·subst e;exact hp
     exact okk a (by omega)
    simp[wk]
   have hr0:r=false:=by
    cases r with
    |false=>rfl
    |true=>exact absurd ((hr.1 rfl).2 k hkn) hp
   subst hr0;have hle:=Hc hp;refine dr [⟨5,_,_,_,hSg⟩] (aP q1 q2) (k:=aR rfl (bC (k:=aV @Tryz.results99)))
  have hr1:r=true:=hr.2 ⟨hsym,fun a ha=>okk a (by omega)⟩;subst hr1;refine aK (k:=bE rfl (bC (k:=aV @Tryz.results99)))
 rw[Hn hnz]at hS;have hr0:r=false:=by
  cases r with
  |false=>rfl
  |true=>exact absurd (fun t ht=>by have:=(hr.1 rfl).2 t (by omega);omega) hnz
 subst hr0;refine cb [⟨1,_,_,_,hS⟩] (k:=aF (bC (k:=aR rfl (bC (k:=aV @Tryz.results99)))))
/-! isForm -/
def RwOk (n:Nat) (r:List Int):Prop:=r.length=n/\ ∀x∈r,-1125899906842624<=x/\x<=1125899906842624
def AW (M:List (List Int)):Prop:=(1<=M.length/\M.length<=4)/\(∀r∈M,RwOk M.length r)/\PD (ent M) M.length
structure Wm (M:List (List Int)) where
 i:Nat
 hi:i<=M.length
 ok: ∀a,a<i-> ∀r,M[a]?=some r->RwOk M.length r
structure Wn (r:List Int) where
 j:Nat
 hj:j<=r.length
 ok: ∀b,b<j-> ∀x,r[b]?=some x-> -1125899906842624<=x/\x<=1125899906842624
theorem AW.entB {M:List (List Int)} (h:AW M) {i j:Nat} (hi:i<M.length) (hj:j<M.length): -1125899906842624<=ent M i j/\ent M i j<=1125899906842624:=by
 have hr:=h.2.1 M[i] (List.getElem_mem hi);have e:ent M i j=M[i][j]'(by rw[hr.1];exact hj):=by
  unfold ent;simp[List.getD,hi,hr.1,hj]
 rw[e];exact hr.2 _ (List.getElem_mem _)
theorem Sx {x:Int} (h: -1125899906842624<=x/\x<=1125899906842624):Sz x 1024:=by
 have:Sz x 2:=by unfold Sz;omega
 exact this.mono (by omega)
theorem JD {M:List (List Int)} {i:Nat} {r:List Int} (h:M[i]?=some r):r∈M:=List.mem_of_getElem? h
theorem yb (M:List (List Int)) (r:Bool) (hr:r=true↔AW M):CallC Tryz.prog 65 [dj M] ⟨[],.raw (.bool r)⟩:=by
 by_cases hlen:1<=M.length/\M.length<=4
 ·refine aS Tryz.func65 rfl Tryz.ntmps65 (aT (k:=aF (aK (k:=aJ rfl (aH (aF (bC (k:=?_))))))));refine aO (G:=Wm M) (fun g=>⟨(dj M::jk::.raw (.bool false)::j4 (j4 (j4 (jk::jk::dj M::rN M.length::rN g.i::j16 (j4 (j4 (j4 (jk::[])))))))),Hm []⟩) (fun g=>M.length-g.i) ⟨0,by omega,fun a ha=>by omega⟩ ?_ ?_
  ·refine aE trivial ?_;simp[wk]
  rintro⟨i,hi,ok⟩;simp only;by_cases hm:i<M.length
  ·obtain⟨q,hq⟩: ∃q,M[i]?=some q:=⟨M[i],List.getElem?_eq_getElem hm⟩;have hqm:=JD hq;refine aK (k:=bv rfl (aF (aG (aX hq (k:=?_)))));by_cases hql:q.length=M.length
   ·refine aF (aX hql (k:=aJ rfl (aH (il hql (k:=?_)))));refine aO (G:=Wn q) (fun g=>⟨(dj M::jk::.raw (.bool false)::jk::.one (.p (.sl (ls fI q)))::j4 (j4 (j4 (dj M::rN M.length::rN i::j4 (j4 (.one (.p (.sl (ls fI q)))::rN M.length::rN g.j::j16 (jk::jk::[]))))))),Hm []⟩) (fun g=>q.length-g.j) ⟨0,by omega,fun a ha=>by omega⟩ ?_ ?_
    ·refine aE trivial ?_;simp[wk]
    rintro⟨j,hj,okj⟩;simp only;by_cases hm2:j<q.length
    ·obtain⟨x,hx⟩: ∃x,q[j]?=some x:=⟨q[j],List.getElem?_eq_getElem hm2⟩;refine aK (k:=bv rfl (aF (aG (aX hx (k:=?_)))));by_cases hlo:x< -1125899906842624
     ·have hr0:r=false:=by
       cases r with
       |false=>rfl
       |true=>have:=((hr.1 rfl).2.1 q hqm).2 x (List.mem_of_getElem? hx);omega
      subst hr0;refine aK (k:=aR rfl (bC (k:=aV @Tryz.results65)))
     by_cases hhi:1125899906842624<x
     ·have hr0:r=false:=by
       cases r with
       |false=>rfl
       |true=>have:=((hr.1 rfl).2.1 q hqm).2 x (List.mem_of_getElem? hx);omega
      subst hr0;refine aK (k:=aR rfl (bC (k:=aV @Tryz.results65)))
     refine aK (k:=aJ rfl (aH (bW (k:=?_))));refine⟨⟨j+1,by omega,fun b hb y hy=>?_⟩,by simp only;omega,aE trivial ?_⟩
     ·by_cases e:b=j
      ·subst e;rw[hx]at hy;injection hy with hy
       omega
      exact okj b (by omega) y hy
     simp[wk]
    refine aK (k:=bE rfl (bW (k:=?_)));refine⟨⟨i+1,by omega,fun a ha q' hq'=>?_⟩,by simp only;omega,aE trivial ?_⟩
    ·by_cases e:a=i
     ·subst e;rw[hq]at hq';injection hq' with hq'
      subst hq';refine⟨hql,fun x hx=>?_⟩;obtain⟨b,hb⟩:=List.mem_iff_getElem?.1 hx;exact okj b (by have:=(List.getElem?_eq_some_iff.1 hb).1;omega) x hb
     exact ok a (by omega) q' hq'
    simp[wk]
   have hr0:r=false:=by
    cases r with
    |false=>rfl
    |true=>exact absurd ((hr.1 rfl).2.1 q hqm).1 hql
   subst hr0;refine aF (aK (k:=aR rfl (bC (k:=aV @Tryz.results65))))
  have hall: ∀q∈M,RwOk M.length q:=fun q hq=>by
   obtain⟨a,ha⟩:=List.mem_iff_getElem?.1 hq;exact ok a (by have:=(List.getElem?_eq_some_iff.1 ha).1;omega) q ha
  have eM:=zW (M:=M) (m:=M.length) fun q hq=>(hall q hq).1
  have hb: ∀i j,i<M.length->j<M.length-> -1125899906842624<=ent M i j/\ent M i j<=1125899906842624:=fun i j hi hj=>by
   have hrw:=hall M[i] (List.getElem_mem hi);have e:ent M i j=M[i][j]'(by rw[hrw.1];exact hj):=by
    unfold ent;simp[List.getD,hi,hrw.1,hj]
   rw[e];exact hrw.2 _ (List.getElem_mem _)
  have hF:=Ct M.length M.length (ent M) hlen.1 (by omega) hlen.1 (by omega) (fun i j hi hj=>by have:=hb i j hi hj;omega);have hD:=Cs M.length (ent M) hlen.1 (by omega) (fun i j hi hj=>Sx (hb i j hi hj)) r ⟨fun h=>(hr.1 h).2.2,fun h=>hr.2 ⟨hlen,hall,h⟩⟩;rw[<- eM]at hF hD;refine aK (k:=bE rfl (fw [⟨1,_,_,_,hF⟩] @Po.eq_1 (k:=cb [⟨1,_,_,_,hD⟩] (k:=aV @Tryz.results65))))
 have hr0:r=false:=by
  cases r with
  |false=>rfl
  |true=>exact absurd (hr.1 rfl).1 hlen
 subst hr0;by_cases h1:M.length<1
 ·refine aS Tryz.func65 rfl Tryz.ntmps65 (aT (k:=aF (aK (k:=aR rfl (bC (k:=aV @Tryz.results65))))))
 refine aS Tryz.func65 rfl Tryz.ntmps65 (aT (k:=aF (aK (k:=aR rfl (bC (k:=aV @Tryz.results65))))))
theorem M9 (k:Nat->Nat->Bool) (R:List (List Int)):(R.map kG).map (iz k)=R.map kG:=by
 rw[List.map_map];exact List.map_congr_left fun r _=>by simp[iz,kG,zQ]
def Ue (d n c:Nat) (f:FF) (i j:Nat):List OObj:=⟨34,1,gL d (ae i c)++[.sl d (i+1) 0 (j+1)]::ae (n-i-1) pX⟩::((bi i c f).map kG++[kG (bj (j+1) (f i))])
def Vj (d n c:Nat) (f:FF) (i:Nat):Nat->List OObj
 |0=>kI d n c i f
 |j+1=>Ue d n c f i j
theorem S5 {d n c i:Nat} (f:FF) (hc:1<=c) (hi:i<n):Vj d n c f i c=kI d n c (i+1) f:=by
 obtain⟨j,rfl⟩: ∃j,c=j+1:=⟨c-1,by omega⟩;show Ue d n (j+1) f i j=_;unfold Ue kI;rw[vV,List.replicate_succ' (n:=i),og,List.length_replicate];simp[Nat.sub_sub]
theorem Ps {d n c i:Nat} (f:FF) (hi:i<n):kI d n c i f=⟨34,1,gL d (ae i c)++pX::ae (n-i-1) pX⟩::(bi i c f).map kG:=by
 unfold kI;rw[show n-i=n-i-1+1 by omega,List.replicate_succ];rfl
structure Vw (n:Nat) (p:Nat->Prop) where
 i:Nat
 hi:i<=n
 h: ∀a,a<i->p a
theorem zC {l:List (List Int)} {i:Nat} (h:i<l.length):l[i]?=some (l.getD i []):=by
 obtain⟨x,hx⟩:=getElem?_of_lt h;rw[List.getD_eq_getElem?_getD,hx];rfl
def Er (f:FF) (i j:Nat):Nat->Nat->Int:=fun a b=>if(a<i/\b<i)\/(a=i/\b<j)\/(b=i/\a<j)then f a b else 0
theorem LE {f:FF} {i j:Nat} {v:Int} (h1:f i j=v) (h2:f j i=v) (a b:Nat):upd (upd (Er f i j) i j v) j i v a b=Er f i (j+1) a b:=by
 by_cases c1:a=j/\b=i
 ·obtain⟨rfl,rfl⟩:=c1;rw[AM,<- h2];exact(if_pos (.inr (.inr ⟨rfl,by omega⟩))).symm
 rw[qf (by omega)];by_cases c2:a=i/\b=j
 ·obtain⟨rfl,rfl⟩:=c2;rw[AM,<- h1];exact(if_pos (.inr (.inl ⟨rfl,by omega⟩))).symm
 rw[qf (by omega)];unfold Er;have:((a<i/\b<i)\/(a=i/\b<j)\/(b=i/\a<j))↔((a<i/\b<i)\/(a=i/\b<j+1)\/(b=i/\a<j+1)):=by omega
 simp only[this]
theorem Pr (f:FF) (i a b:Nat):Er f i (i+1) a b=Er f (i+1) 0 a b:=by
 unfold Er;have:((a<i/\b<i)\/(a=i/\b<i+1)\/(b=i/\a<i+1))↔((a<i+1/\b<i+1)\/(a=i+1/\b<0)\/(b=i+1/\a<0)):=by omega
 simp only[this]
theorem Pq {f:FF} {n a b:Nat} (ha:a<n) (hb:b<n):Er f n 0 a b=f a b:=if_pos (.inl ⟨ha,hb⟩)
theorem LF (f:FF) (a b:Nat):Er f 0 0 a b=0:=if_neg (by omega)
theorem fC (n:Nat) (h t:FF) (a b:Nat):cngF n h t a b=BF n h (fun i=>t i a) (fun j=>t j b):=by
 unfold cngF BF;rw[jj,aI n (G:=fun p=>smF (fun q=>t q a*h q p*t p b) n) (fun p _=>by rw[jj,<- jr];rfl),
  aI n (F:=fun i=>t i a*_) (G:=fun q=>smF (fun p=>t q a*h q p*t p b) n) (fun q _=>by rw[<- bH];exact aI n fun p _=>by grind)]
 exact eQ _ _ _
def Uz (M:List (List Int)):Prop:=Dp M/\(M.headD []).length=M.length/\M.length<=8/\(dk (ent M) M.length).natAbs=1
theorem Uz.eq {M:List (List Int)} (h:Uz M):M=bi M.length M.length (ent M):=by
 have:=FK h.1;rwa[h.2.1]at this
theorem qT {n c:Nat} (f:FF) {i:Nat} (hi:i<n):(bi n c f).getD i []=bj c (f i):=by
 rw[List.getD_eq_getElem?_getD,bx _ _ hi];rfl
theorem yx {c:Nat} (f:Nat->Int) {j:Nat} (hj:j<c):(bj c f).getD j 0=f j:=by
 rw[List.getD_eq_getElem?_getD,aQ _ hj];rfl
section
variable {n:Nat}
def mV (n:Nat) (t:FF) (x:Nat->Int):Nat->Int:=fun i=>smF (fun a=>x a*t i a) n
theorem FE (h t:FF) (x y:Nat->Int): ∀m,BF n h (fun i=>smF (fun a=>x a*t i a) m) y=smF (fun a=>x a*BF n h (fun i=>t i a) y) m
 |0=>jE fun _ _=>rfl
 |m+1=>by
  have h1:=iW (n:=n) h (fun i=>smF (fun a=>x a*t i a) m) (fun i=>t i m) y (x m);rw[FE h t x y m]at h1;exact h1
theorem FG (h t:FF) (x y:Nat->Int): ∀m,BF n h x (fun i=>smF (fun a=>y a*t i a) m)=smF (fun a=>y a*BF n h x (fun i=>t i a)) m
 |0=>by
  show BF n h x (fun _=>0)=0;unfold BF;rw[aI n (G:=fun _=>0) (fun i _=>by rw[aI n (G:=fun _=>0) (fun j _=>Int.mul_zero _),cX,Int.mul_zero]),cX]
 |m+1=>by
  have h1:=gP (n:=n) h x (fun i=>smF (fun a=>y a*t i a) m) (fun i=>t i m) (y m);rw[FG h t x y m]at h1;exact h1
theorem rL (h t:FF) (x y:Nat->Int):BF n h (mV n t x) (mV n t y)=BF n (cngF n h t) x y:=by
 unfold mV;rw[FE];unfold BF;refine aI n fun a _=>?_
 congr 1
 have h1:=FG (n:=n) h t (fun i=>t i a) y n;unfold BF at h1;rw[h1];refine aI n fun b _=>?_
 have h2:=fC n h t a b;unfold BF at h2;rw[h2,Int.mul_comm]
theorem PD.cng {h t:FF} (hr:PD h n) (hd:dk t n≠0):PD (cngF n h t) n:=by
 refine Jw (fun i _ j _=>by rw[fC,fC];exact pr hr.1 _ _) fun x ⟨i,hi,hx⟩=>?_
 rw[<- rL];obtain⟨h1,h2⟩:=hr.pos (mV n t x);rcases Int.lt_or_le 0 (BF n h (mV n t x) (mV n t x))with hl|hl
 ·exact hl
 exfalso;have h3:=h2.1 (by omega);refine hx (vF hd (fun i hi=>?_) i hi);have:=h3 i hi;unfold mV at this;rw[<- this];exact aI n fun j _=>Int.mul_comm _ _
theorem tp {t:FF} {i:Nat} (hi:i<n) (c:Nat->Int): ∀m,m<=n->dk (dH t i (fun r=>smF (fun j=>c j*t r j) m)) n=if i<m then c i*dk t n else 0
 |0,_=>by rw[if_neg (by omega)];exact Gm hi fun _ _=>rfl
 |m+1,hm=>by
  have h:=r6 (R:=t) hi 1 (c m) (fun r=>smF (fun j=>c j*t r j) m) (fun r=>t r m);rw[tp hi c m (by omega)]at h;have e:(fun r=>smF (fun j=>c j*t r j) (m+1))=fun r=>1*smF (fun j=>c j*t r j) m+c m*t r m:=by
   funext r;rw[smF,Int.one_mul]
  rw[e,h];by_cases hmi:m=i
  ·subst hmi;rw[oF,if_neg (by omega),if_pos (by omega)];omega
  rw[vp hi (show m<n by omega) (Ne.symm hmi),Int.mul_zero,Int.add_zero,Int.one_mul];have:i<m+1↔i<m:=by omega
  simp only[this]
theorem Gk {t:FF} {i:Nat} (hi:i<n) (c:Nat->Int):dk (dH t i (mV n t c)) n=c i*dk t n:=by
 have:=tp hi c n (ac n) (t:=t);rwa[if_pos hi]at this
theorem K6 {h t:FF} {i:Nat} (c:Nat->Int):cngF n h (dH t i (mV n t c)) i i=nrm n (cngF n h t) c:=by
 rw[fC];unfold nrm;rw[<- rL];exact dY (fun _ _ _ _=>rfl) (fun r _=>if_pos rfl) (fun r _=>if_pos rfl)
theorem BA {h t:FF} {i a b:Nat} (S:Nat->Int) (ha:a≠i) (hb:b≠i):cngF n h (dH t i S) a b=cngF n h t a b:=by
 rw[fC,fC];exact dY (fun _ _ _ _=>rfl) (fun r _=>if_neg ha) (fun r _=>if_neg hb)
theorem PD.ent {f:FF} (hr:PD f n) {i j:Nat} (hi:i<n) (hj:j<n):f i j*f i j<=f i i*f j j:=by
 have e: ∀a b,a<n->b<n->BF n f (eC a) (eC b)=f a b:=fun a b ha hb=>by
  have e1: ∀(F:Nat->Int) a,a<n->smF (fun j=>F j*eC a j) n=F a:=fun F a ha=>by
   rw[gU ha (fun p _ hne=>by unfold eC;rw[if_neg hne,Int.mul_zero])];unfold eC;rw[if_pos rfl,Int.mul_one]
  unfold BF;rw[aI n (G:=fun k=>f k b*eC a k) (fun k _=>by rw[e1 (f k) b hb];exact Int.mul_comm _ _),e1 (fun k=>f k b) a ha]
 have:=hr.schwarz (eC i) (eC j);rwa[e i j hi hj,e i i hi hi,e j j hj hj]at this
theorem PD.diag {f:FF} (hr:PD f n) {i:Nat} (hi:i<n):0<f i i:=by
 have h:=hr.pos (eC i);have e:=km (f:=f) hi;unfold nrm at e;rw[e]at h;rcases Int.lt_or_le 0 (f i i)with hl|hl
 ·exact hl
 have:=h.2.1 (by omega) i hi;simp[eC]at this
end
section
variable {n:Nat}
def insB (N:(Nat->Int)->Int) (B:FF):Nat->Nat->Nat->Int
 |0=>B
 |j+1=>if N (B (j+1))<N (B j)then insB N (swp (j+1) j B) j else B
theorem Fh {p k:Nat} {B:FF}:swp p k B p=if p=k then B p else B k:=by
 unfold swp;by_cases h:p=k<;>simp[h]
theorem Fi {p k:Nat} {B:FF}:swp p k B k=B p:=by
 unfold swp;by_cases h:k=p
 ·subst h;simp
 simp[h]
theorem sZ {p k a:Nat} {B:FF} (h1:a≠p) (h2:a≠k):swp p k B a=B a:=by unfold swp;simp[h1,h2]
theorem qP (N:(Nat->Int)->Int): ∀j B a,j<a->insB N B j a=B a
 |0,_,_,_=>rfl
 |j+1,B,a,h=>by
  rw[insB];split
  ·rw[qP N j _ a (by omega),sZ (by omega) (by omega)]
  rfl
theorem vJ (N:(Nat->Int)->Int) {Q:(Nat->Int)->Prop}: ∀j B,(∀a,a<=j->Q (B a))-> ∀a,a<=j->Q (insB N B j a)
 |0,_,h,a,ha=>h a ha
 |j+1,B,h,a,ha=>by
  rw[insB];split
  ·by_cases e:a<=j
   ·refine vJ N j _ (fun c hc=>?_) a e;by_cases ec:c=j
    ·subst ec;rw[Fi];exact h _ (by omega)
    rw[sZ (by omega) ec];exact h c (by omega)
   rw[qP N j _ a (by omega)];obtain rfl:a=j+1:=by omega
   rw[Fh,if_neg (by omega)];exact h j (by omega)
  exact h a ha
def A5 (N:(Nat->Int)->Int) (B:FF) (i:Nat):Prop:= ∀a,a+1<i->N (B a)<=N (B (a+1))
theorem A5.le {N:(Nat->Int)->Int} {B:FF} {i:Nat} (h:A5 N B i) {b:Nat} (hb:b<i): ∀a,a<=b->N (B a)<=N (B b):=fun a ha=>by
 obtain⟨m,rfl⟩: ∃m,b=a+m:=⟨b-a,by omega⟩
 induction m with
 |zero=>exact Int.le_refl _
 |succ m ih=>
  have:=ih (by omega) (by omega);have h2:=h (a+m) (by omega);rw[<- Nat.add_assoc];omega
theorem BQ (N:(Nat->Int)->Int): ∀j B,A5 N B j->A5 N (insB N B j) (j+1)
 |0,_,_=>fun a ha=>by omega
 |j+1,B,h=>by
  intro a ha;rw[insB];by_cases hl:N (B (j+1))<N (B j)
  ·rw[if_pos hl];have h':A5 N (swp (j+1) j B) j:=fun c hc=>by
    rw[sZ (by omega) (by omega),sZ (by omega) (by omega)];exact h c (by omega)
   by_cases e:a+1<j+1
   ·exact BQ N j _ h' a e
   obtain rfl:a=j:=by omega
   rw[qP N a _ (a+1) (by omega),Fh,if_neg (by omega)];refine vJ N (Q:=fun x=>N x<=N (B a)) a _ (fun c hc=>?_) a (ac _);by_cases ec:c=a
   ·subst ec;rw[Fi];omega
   rw[sZ (by omega) ec];exact h.le (by omega) c hc
  rw[if_neg hl];by_cases e:a+1<j+1
  ·exact h a e
  obtain rfl:a=j:=by omega
  omega
theorem NO {B:FF} {p k:Nat}:trF (swp p k B)=fun i c=>if c=p then trF B i k else if c=k then trF B i p else trF B i c:=by
 funext i c;unfold trF swp;split
 ·rfl
 split<;>rfl
theorem Gx (N:(Nat->Int)->Int): ∀j B,j<n->(dk (trF (insB N B j)) n).natAbs=(dk (trF B) n).natAbs
 |0,_,_=>rfl
 |j+1,B,h=>by
  rw[insB];split
  ·rw[Gx N j _ (by omega),NO,vo h (by omega) (by omega),Int.natAbs_neg]
  rfl
def Ds (N:(Nat->Int)->Int) (B:FF) (n:Nat):Int:=smF (fun a=>N (B a)) n
theorem Hg (F:Nat->Int) {j:Nat}: ∀{m},j+1<m->smF F m=smF (fun a=>if a=j then F (j+1)else if a=j+1 then F j else F a) m
 |m+1,h=>by
  rw[smF,smF];by_cases e:j+1<m
  ·rw[Hg F e,if_neg (by omega),if_neg (by omega)]
  obtain rfl:m=j+1:=by omega
  rw[if_neg (by omega),if_pos rfl,smF,smF,if_pos rfl,aI j (F:=fun a=>if a=j then _ else _) (G:=F) (fun p hp=>by rw[if_neg (by omega),if_neg (by omega)])];omega
theorem BS (N:(Nat->Int)->Int): ∀j B,j<n->Ds N (insB N B j) n=Ds N B n
 |0,_,_=>rfl
 |j+1,B,h=>by
  rw[insB];split
  ·rw[BS N j _ (by omega)];unfold Ds;rw[Hg (fun a=>N (B a)) h];refine aI n fun a _=>?_
   by_cases e1:a=j
   ·subst e1;rw[if_pos rfl,Fi]
   by_cases e2:a=j+1
   ·subst e2;rw[if_neg e1,if_pos rfl,Fh,if_neg (by omega)]
   rw[if_neg e1,if_neg e2,sZ e2 e1]
  rfl
def lW (N:(Nat->Int)->Int) (B:FF):Nat->Nat->Nat->Int
 |0=>B
 |i+1=>insB N (lW N B i) i
theorem C5 (N:(Nat->Int)->Int) (B:FF): ∀i,A5 N (lW N B i) i
 |0=>fun a ha=>by omega
 |i+1=>BQ N i _ (C5 N B i)
theorem ry (N:(Nat->Int)->Int) {Q:(Nat->Int)->Prop} {B:FF} (h: ∀a,a<n->Q (B a)): ∀i,i<=n-> ∀a,a<n->Q (lW N B i a)
 |0,_=>h
 |i+1,hi=>fun a ha=>by
  rw[lW];by_cases e:a<=i
  ·exact vJ N i _ (fun c hc=>ry N h i (by omega) c (by omega)) a e
  rw[qP N i _ a (by omega)];exact ry N h i (by omega) a ha
theorem Hl (N:(Nat->Int)->Int) (B:FF): ∀i,i<=n->(dk (trF (lW N B i)) n).natAbs=(dk (trF B) n).natAbs
 |0,_=>rfl
 |i+1,hi=>by rw[lW,Gx N i _ (by omega),Hl N B i (by omega)]
theorem wS (N:(Nat->Int)->Int) (B:FF): ∀i,i<=n->Ds N (lW N B i) n=Ds N B n
 |0,_=>rfl
 |i+1,hi=>by rw[lW,BS N i _ (by omega),wS N B i (by omega)]
end
section
variable {n:Nat}
def gmB (n:Nat) (h B:FF):Nat->Nat->Int:=fun a b=>BF n h (B a) (B b)
theorem tY (h B:FF):gmB n h B=cngF n h (trF B):=by
 funext a b;rw[fC];rfl
open Classical in
noncomputable def s9 (n:Nat) (f:FF):Nat->Nat->Option Nat
 |0,_=>none
 |m+1,i=>if VioP n f i then some i else s9 n f m (i+1)
noncomputable def tM (n:Nat) (f:FF):Option Nat:=s9 n f n 0
theorem jY {f:FF}: ∀m i r,s9 n f m i=some r->i<=r/\r<i+m/\VioP n f r/\ ∀a,i<=a->a<r-> ¬VioP n f a
 |0,_,_,h=>by cases h
 |m+1,i,r,h=>by
  rw[s9]at h;split at h
  ·rename_i hv;injection h with h
   subst h;exact⟨ac _,by omega,hv,fun a h1 h2=>by omega⟩
  rename_i hv;obtain⟨h1,h2,h3,h4⟩:=jY m (i+1) r h;refine⟨by omega,by omega,h3,fun a ha hb=>?_⟩;by_cases e:a=i
  ·subst e;exact hv
  exact h4 a (by omega) hb
theorem ta {f:FF}: ∀m i,s9 n f m i=none-> ∀a,i<=a->a<i+m-> ¬VioP n f a
 |0,_,_=>fun a h1 h2=>by omega
 |m+1,i,h=>by
  rw[s9]at h;split at h
  ·cases h
  rename_i hv;intro a h1 h2;by_cases e:a=i
  ·subst e;exact hv
  exact ta m (i+1) h a (by omega) (by omega)
def nR (n:Nat) (h B:FF):Nat->Nat->Int:=lW (nrm n h) B n
def kp (n:Nat) (h S:FF) (i:Nat):Nat->Nat->Int:=fun k=>if k=i then mV n (trF S) (lB n (gmB n h S) i (3^i))else S k
inductive RchB (n:Nat) (h:FF):(Nat->Nat->Int)->(Nat->Nat->Int)->Prop
 |done (B:FF):tM n (gmB n h (nR n h B))=none->RchB n h B (nR n h B)
 |step (B R:FF) (i:Nat):tM n (gmB n h (nR n h B))=some i->RchB n h (kp n h (nR n h B) i) R->RchB n h B R
structure InB2 (n:Nat) (h:FF) (W:Int) (B:FF):Prop where
 nr: ∀a,a<n->nrm n h (B a)<=W
 dt:(dk (trF B) n).natAbs=1
theorem InB2.ord {h B:FF} {W:Int} (hB:InB2 n h W B):InB2 n h W (nR n h B):=
 ⟨ry _ (Q:=fun x=>nrm n h x<=W) hB.nr n (ac n),by unfold nR;rw[Hl _ _ n (ac n)];exact hB.dt⟩
theorem NA {F G:Nat->Int} {i:Nat}: ∀{m},i<m->(∀a,a<m->a≠i->F a=G a)->F i<G i->smF F m<smF G m
 |m+1,hi,h,hl=>by
  rw[smF,smF];by_cases e:i=m
  ·subst e;rw[aI i fun p hp=>h p (by omega) (by omega)];omega
  have:=NA (m:=m) (by omega) (fun a ha hne=>h a (by omega) hne) hl;rw[h m (by omega) (Ne.symm e)];omega
theorem kv {F:Nat->Int}: ∀m,(∀a,a<m->0<=F a)->0<=smF F m
 |0,_=>by simp[smF]
 |m+1,h=>by
  have:=kv m fun a ha=>h a (by omega)
  have:=h m (by omega);rw[smF];omega
theorem CI {h S:FF} {i:Nat}:nrm n h (kp n h S i i)=nrm n (gmB n h S) (lB n (gmB n h S) i (3^i)):=by
 unfold kp;rw[if_pos rfl];unfold nrm;rw[rL,<- tY]
theorem CJ {h S:FF} {i:Nat} (hi:i<n) (hv:VioP n (gmB n h S) i):Ds (nrm n h) (kp n h S i) n<Ds (nrm n h) S n:=by
 refine NA hi (fun a _ hne=>?_) ?_
 ·show nrm n h (kp n h S i a)=_;unfold kp;rw[if_neg hne]
 show nrm n h (kp n h S i i)<nrm n h (S i);rw[CI];exact E8 hi hv
theorem NN {h S:FF} {i:Nat}:trF (kp n h S i)=dH (trF S) i (mV n (trF S) (lB n (gmB n h S) i (3^i))):=by
 funext r c;unfold trF kp dH;split<;>rfl
theorem InB2.rep {h S:FF} {W:Int} {i:Nat} (hS:InB2 n h W S) (hi:i<n) (hv:VioP n (gmB n h S) i):InB2 n h W (kp n h S i):=by
 refine⟨fun a ha=>?_,?_⟩
 ·by_cases e:a=i
  ·subst e;rw[CI];have h1:=E8 hi hv;have h2:=hS.nr a hi;have h3:gmB n h S a a=nrm n h (S a):=rfl;omega
  unfold kp;rw[if_neg e];exact hS.nr a ha
 rw[NN,Gk hi,(wP n (gmB n h S) i (3^i)).1,Int.one_mul];exact hS.dt
theorem CG {h:FF} (hp:PD h n) {W:Int}: ∀(m:Nat) (B:FF),(Ds (nrm n h) B n).toNat=m->InB2 n h W B-> ∃R,RchB n h B R:=fun m=>by
 induction m using Nat.strongRecOn with
 |_ m ih=>
  intro B hm hB;cases hv:tM n (gmB n h (nR n h B))with
  |none=>exact⟨_,.done B hv⟩
  |some i=>
   obtain⟨_,h1,h2,_⟩:=jY n 0 i hv;have hi:i<n:=by omega
   have hO:=hB.ord;have hsum:=CJ hi h2;have hso:Ds (nrm n h) (nR n h B) n=Ds (nrm n h) B n:=wS _ _ n (ac n);have hnn: ∀B',0<=Ds (nrm n h) B' n:=fun B'=>kv n fun a _=>(hp.pos (B' a)).1
   have h3:=hnn (kp n h (nR n h B) i);have h4:=hnn B;obtain⟨R,hR⟩:=ih (Ds (nrm n h) (kp n h (nR n h B) i) n).toNat (by omega) _ rfl (hO.rep hi h2);exact⟨R,.step B R i hv hR⟩
theorem CF {h B R:FF} {W:Int} (hr:RchB n h B R) (hB:InB2 n h W B):InB2 n h W R/\A5 (nrm n h) R n/\ ∀i,i<n-> ¬VioP n (gmB n h R) i:=by
 induction hr with
 |done B hv=>exact⟨hB.ord,C5 _ _ n,fun i hi=>ta n 0 hv i (by omega) (by omega)⟩
 |step B R i hv _ ih=>
  obtain⟨_,h1,h2,_⟩:=jY n 0 i hv;exact ih (hB.ord.rep (by omega) h2)
/-! Signs. -/
def mG (g:FF):Nat->Int
 |0=>1
 |i+1=>if mG g i*g i (i+1)<0 then -1 else 1
theorem mH (g:FF): ∀i,mG g i=1\/mG g i= -1
 |0=> .inl rfl
 |i+1=>by rw[mG];split<;>simp
theorem TC (g:FF) (i:Nat):0<=mG g i*mG g (i+1)*g i (i+1):=by
 have e:mG g i*mG g (i+1)*g i (i+1)=mG g (i+1)*(mG g i*g i (i+1)):=by grind
 rw[e,mG];split
 ·omega
 omega
def uv (g B:FF):Nat->Nat->Int:=fun k j=>mG g k*B k j
theorem LG (h g B:FF):gmB n h (uv g B)=Ow (mG g) (gmB n h B):=by
 funext a b;unfold gmB uv Ow BF;rw[<- bH];refine aI n fun i _=>?_
 rw[aI n (G:=fun j=>mG g b*(h i j*B b j)) (fun j _=>by grind),bH];grind
theorem Nt {g B:FF}: ∀m,m<=n->(dk (trF fun k j=>if k<m then mG g k*B k j else B k j) n).natAbs=(dk (trF B) n).natAbs
 |0,_=>by simp
 |m+1,hm=>by
  rw[<- Nt (g:=g) (B:=B) m (by omega)];have h1:=r6 (R:=trF fun k j=>if k<m then mG g k*B k j else B k j) (n:=n) (a:=m) (by omega) (mG g m) 0 (fun i=>B m i) (fun i=>B m i);have e1:dH (trF fun k j=>if k<m then mG g k*B k j else B k j) m (fun i=>mG g m*B m i+0*B m i)=trF fun k j=>if k<m+1 then mG g k*B k j else B k j:=by
   funext r c;unfold dH trF;by_cases e:c=m
   ·subst e;rw[if_pos rfl];show mG g c*B c r+0*B c r=if c<c+1 then mG g c*B c r else B c r
    rw[if_pos (by omega)];omega
   have:c<m+1↔c<m:=by omega
   rw[if_neg e];simp only[this]
  have e2:dH (trF fun k j=>if k<m then mG g k*B k j else B k j) m (fun i=>B m i)=trF fun k j=>if k<m then mG g k*B k j else B k j:=by
   funext r c;unfold dH trF;by_cases e:c=m
   ·subst e;rw[if_pos rfl];show B c r=if c<c then mG g c*B c r else B c r
    rw[if_neg (by omega)]
   rw[if_neg e]
  rw[e1,e2]at h1;rw[h1];rcases mH g m with e|e<;>rw[e]<;>simp
theorem L9 {h R:FF} (hs:A5 (nrm n h) R n) (hv: ∀i,i<n-> ¬VioP n (gmB n h R) i):MinkP (gmB n h (uv (gmB n h R) R)) n:=by
 rw[LG];refine⟨fun i hi=>⟨?_,TC _ _⟩,fun i hi hw=>hv i hi (Rg (mH _) hi hw)⟩;have h1:=hs i hi;have e: ∀k,Ow (mG (gmB n h R)) (gmB n h R) k k=nrm n h (R k):=fun k=>by
  unfold Ow gmB nrm;rcases mH (gmB n h R) k with e|e
  ·unfold gmB at e;rw[e];omega
  unfold gmB at e;rw[e];omega
 rw[e,e];exact h1
end
abbrev ir:List PV:=[.raw (.int .i64 1),.raw (.int .i64 3),.raw (.int .i64 9),.raw (.int .i64 27)]
theorem SL (i code j:Nat): -1<=mY i code j/\mY i code j<=1:=by
 unfold mY;split
 ·exact Lg code j
 split<;>omega
theorem RQ {i:Nat}:a4 (T4 (fun _=>0) i 1)=a4 (eC i):=qo fun j _=>by unfold T4 eC;rfl
theorem Lv {c c':Nat->Int} {b:Bool} (h:b=true↔ ∀j,j<4->c j=c' j):Em (a4 c) (a4 c')=some b:=by
 have e:Em (a4 c) (a4 c')=some (decide (c 0=c' 0)&&(decide (c 1=c' 1)&&(decide (c 2=c' 2)&&(decide (c 3=c' 3)&&true)))):=rfl;rw[e]
 congr 1
 apply Bool.eq_iff_iff.2;rw[h];simp only[Bool.and_eq_true,decide_eq_true_eq,and_true];constructor
 ·rintro⟨h0,h1,h2,h3⟩ j hj
  match j,hj with
  |0,_=>exact h0
  |1,_=>exact h1
  |2,_=>exact h2
  |3,_=>exact h3
 exact fun h=>⟨h 0 (by omega),h 1 (by omega),h 2 (by omega),h 3 (by omega)⟩
theorem D2:packT Tryz.prog 3 [.raw (.int .i64 1),.raw (.int .i64 3),.raw (.int .i64 9),.raw (.int .i64 27)]=some (.raw (.int .i64 1)):=by kernel_rfl
theorem D3:packT Tryz.prog 3 [.raw (.int .i64 3),.raw (.int .i64 9),.raw (.int .i64 27)]=some (.raw (.int .i64 3)):=by kernel_rfl
theorem D4:packT Tryz.prog 3 [.raw (.int .i64 9),.raw (.int .i64 27)]=some (.raw (.int .i64 9)):=by kernel_rfl
theorem D5:packT Tryz.prog 3 [.raw (.int .i64 27)]=some (.raw (.int .i64 27)):=by kernel_rfl
theorem Ix {i:Nat} (h:i<4):packT Tryz.prog 3 ((ir.drop i).map AV.p)=some (.raw (.int .i64 ((3^i:Nat):Int))):=by
 match i,h with
 |0,_=>exact D2
 |1,_=>exact D3
 |2,_=>exact D4
 |3,_=>exact D5
structure VE (i:Nat) where
 k:Nat
 hk:k<=3^i
theorem Ce (n:Nat) (f:FF) (i:Nat) (hi:i<n) (hn:n<=4) (hf: ∀i j,i<n->j<n-> -1125899906842624<=f i j/\f i j<=1125899906842624):
  CallG Tryz.prog 0 162 91 [dj (bi n n f),.raw (.int .i64 (i:Int))] ir ⟨[],tC (lB n f i (3^i))⟩:=by
 have hi4:i<4:=by omega
 have h3i:3^i<=27:=Nat.le_trans (Nat.pow_le_pow_right (by omega) (show i<=3 by omega)) (by decide);have a1:=yV (fun _=>0) 1 hi4;rw[RQ]at a1;refine gf Tryz.func91 rfl (by kernel_rfl) ?_;rw[Tryz.ntmps91];refine pj (k:=dn (k:=?_));refine dS.weak (aE (tm:=(dj (bi n n f)::rN i::jk::jk::.one (.ptr 4 0 0 0)::.one (.ptr 5 0 0 0)::j16 (j4 (jk::jk::jk::[])))) (l:=[(4,Dr fun _=>0),(5,Dr fun _=>0)]) ⟨rfl,rfl,trivial⟩ (by simp[wk])) ?_;refine gC (aP hi4 (aP @dZ a1)) (k:=bM (If 2 i 12 (.raw (.int .i64 ((3^i:Nat):Int))) [] [] (by simp[wk]) (by decide) fun K hK=>?_));simp(disch:=omega) only[kd,hi4];apply hK;clear hK K;refine⟨⟨⟨_,_,_,rfl,rfl,rfl,rfl,by simp[AS.ev],?_⟩⟩,by simp[wk],?_⟩
 ·exact Ix hi4
 intro K hK;simp only[kd,aa];apply hK;clear hK K;refine eH (G:=VE i) (fun g=>⟨(dj (bi n n f)::rN i::jk::jk::.one (.ptr 4 0 0 0)::.one (.ptr 5 0 0 0)::j4 (jk::jk::.raw (.int .i64 ((3^i:Nat):Int))::rN g.k::j4 (j4 (j4 (jk::jk::jk::[]))))),Hm [(4,Dr fun _=>0),(5,Dr (lB n f i g.k))]⟩) (fun _=>ir) (fun g=>3^i-g.k) ⟨0,Nat.zero_le _⟩ ?_ rfl ?_
 ·refine aE ⟨rfl,rfl,trivial⟩ ?_;simp[wk]
 rintro⟨k,hk⟩;simp only;by_cases hm:k<3^i
 ·have hC:=zT i k hi4 (by omega);have hN1:=GJ n f (mY i k) (by omega) hn hf (SL i k);have hN2:=GJ n f (lB n f i k) (by omega) hn hf (wP n f i k).2.2;refine dn (k:=io rfl (bM (cY (dn (k:=yZ [⟨2,_,_,_,hC⟩] (aP @tC.eq_1 (aP @j6 (aP @pB (aP @dZ @fY)))) (k:=?_))))));by_cases hlt:nrm n f (mY i k)<nrm n f (lB n f i k)
  ·have es:lB n f i (k+1)=mY i k:=by rw[lB,if_pos hlt]
   refine y4 [⟨2,_,_,_,hN1⟩,⟨5,_,_,_,hN2⟩] (aP @tC.eq_1 (aP @dZ (aP @iq @fY))) (k:=j1 rfl (uV (aP @dZ (aP @iq (aP @fY @nj))) (k:=rU (k:=?_))));refine⟨⟨k+1,by omega⟩,by simp only;omega,aE ⟨rfl,?_,trivial⟩ ?_,rfl⟩
   ·show _=Dr (lB n f i (k+1));rw[es];rfl
   simp[wk]
  have es:lB n f i (k+1)=lB n f i k:=by rw[lB,if_neg hlt]
  refine y4 [⟨2,_,_,_,hN1⟩,⟨5,_,_,_,hN2⟩] (aP @tC.eq_1 (aP @dZ (aP @iq @fY))) (k:=jt rfl (fJ (rU (k:=?_))));refine⟨⟨k+1,by omega⟩,by simp only;omega,aE ⟨rfl,?_,trivial⟩ ?_,rfl⟩
  ·show _=Dr (lB n f i (k+1));rw[es];rfl
  simp[wk]
 have hke:k=3^i:=by omega
 subst hke;refine dn (k:=j5 rfl (gC (aP @dZ (aP @iq (aP @fY @nj))) (k:=?_)))
 (refine fg ⟨.inr rfl,rfl,cd rfl ?_ rfl⟩;simp(disch:=omega) only[kd,Tryz.results91,Nat.reduceEqDiff,dZ,iq,tC])
noncomputable def qg (n:Nat) (f:FF):TV:=match tM n f with
 |some i=> .tup [(false,[.p (.raw (.int .i64 (i:Int)))]),(true,a4 (lB n f i (3^i))),(false,[.p (.raw (.bool true))])]
 |none=> .tup [(false,[.p (.raw (.int .i64 0))]),(true,a4 fun _=>0),(false,[.p (.raw (.bool false))])]
theorem Hu {n:Nat} {f:FF} (i:Nat) (hi:i<n) (h: ∀a,a<i-> ¬VioP n f a) (hv:VioP n f i): ∀m j,j<=i->i<j+m->s9 n f m j=some i
 |0,j,h1,h2=>by omega
 |m+1,j,h1,h2=>by
  rw[s9];by_cases e:j=i
  ·subst e;rw[if_pos hv]
  rw[if_neg (h j (by omega))];exact Hu i hi h hv m (j+1) (by omega) (by omega)
theorem Hv {n:Nat} {f:FF} (h: ∀a,a<n-> ¬VioP n f a): ∀m j,j+m<=n->s9 n f m j=none
 |0,_,_=>rfl
 |m+1,j,h2=>by rw[s9,if_neg (h j (by omega))];exact Hv h m (j+1) (by omega)
structure WD (n:Nat) (f:FF) where
 i:Nat
 hi:i<=n
 ok: ∀a,a<i-> ¬VioP n f a
theorem nL (n:Nat) (f:FF) (hn1:1<=n) (hn:n<=4) (hf: ∀i j,i<n->j<n-> -1125899906842624<=f i j/\f i j<=1125899906842624):
  CallG Tryz.prog 0 162 56 [dj (bi n n f)] ir ⟨[],qg n f⟩:=by
 have hml:=aW n n f;refine gf Tryz.func56 rfl (by kernel_rfl) ?_;rw[Tryz.ntmps56];refine pj (k:=bM (gC hml (k:=?_)));refine eH (G:=WD n f) (fun g=>⟨(dj (bi n n f)::jk::.raw (.int .i64 0)::.one (.ptr 3 0 0 0)::.raw (.bool false)::j4 (.raw (.int .i64 (n:Int))::rN g.i::j4 (j4 (j4 (jk::jk::[]))))),Hm [(3,Dr fun _=>0)]⟩) (fun _=>ir) (fun g=>n-g.i) ⟨0,by omega,fun a ha=>by omega⟩ ?_ rfl ?_
 ·refine aE ⟨rfl,trivial⟩ ?_;simp[wk]
 rintro⟨i,hi,ok⟩;simp only;by_cases hm:i<n
 ·have hi4:i<4:=by omega
  have hS:=Ce n f i hm hn hf;have a1:=yV (fun _=>0) 1 hi4;rw[RQ]at a1;have h4:(∀j,j<4->lB n f i (3^i) j=eC i j)↔ ¬VioP n f i:=by
   rw[<- QC hm];refine⟨fun h j hj=>h j (by omega),fun h j hj=>?_⟩;rcases Nat.lt_trichotomy j i with h1|h1|h1
   ·exact h j (by omega)
   ·exact h j (by omega)
   rw[(wP n f i (3^i)).2.1 j h1];unfold eC;rw[if_neg (by omega)]
  refine dn (k:=io rfl (bM (cY (dn (k:=dn (k:=?_))))));refine dS.weak (aE (tm:=(dj (bi n n f)::jk::.raw (.int .i64 0)::.one (.ptr 3 0 0 0)::.raw (.bool false)::rN i::.one (.ptr 6 0 0 0)::jk::jk::rN n::rN i::j4 (j4 (j4 (jk::jk::[]))))) (l:=[(3,Dr fun _=>0),(6,Dr fun _=>0)]) ⟨rfl,rfl,trivial⟩ (by simp[wk])) ?_;refine gC (aP hi4 (aP @dZ a1)) (k:=?_);refine dy [⟨2,_,_,_,hS,rfl⟩] [] [] fun _ K=>?_;simp(disch:=omega) only[kd,dj,tC,fv.a,aa,j6,pB,Nat.reduceEqDiff,dZ,fY];apply K
  by_cases hv:VioP n f i
  ·have hE:Em (a4 (lB n f i (3^i))) (a4 (eC i))=some false:=Lv ⟨fun h=>(by cases h),fun h=>absurd (h4.1 h) (by simpa using hv)⟩;have hvi:tM n f=some i:=Hu i hm ok hv n 0 (by omega) (by omega);have eT:qg n f= .tup [(false,[.p (.raw (.int .i64 (i:Int)))]),(true,a4 (lB n f i (3^i))),(false,[.p (.raw (.bool true))])]:=by unfold qg;rw[hvi]
   rw[eT];refine gC (aP @dZ (aP @iq hE)) (k:=j1 rfl (yY (aP @dZ (aP @iq (aP @fY @nj))) (k:=?_)))
   (refine fg ⟨.inr rfl,rfl,cd rfl ?_ rfl⟩;simp(disch:=omega) only[kd,Tryz.results56,Nat.reduceEqDiff,dZ,iq])
  have hE:Em (a4 (lB n f i (3^i))) (a4 (eC i))=some true:=Lv ⟨fun _=>h4.2 hv,fun _=>rfl⟩;refine gC (aP @dZ (aP @iq hE)) (k:=jt rfl (fJ (rU (k:=?_))));refine⟨⟨i+1,by omega,fun a ha=>?_⟩,by simp only;omega,aE ⟨rfl,trivial⟩ ?_,rfl⟩
  ·by_cases e:a=i
   ·subst e;exact hv
   exact ok a (by omega)
  simp[wk]
 have hin:i=n:=by omega
 have hvi:tM n f=none:=Hv (fun a ha=>ok a (by omega)) n 0 (by omega);have eT:qg n f= .tup [(false,[.p (.raw (.int .i64 0))]),(true,a4 fun _=>0),(false,[.p (.raw (.bool false))])]:=by unfold qg;rw[hvi]
 rw[eT];subst hin;refine dn (k:=j5 rfl (gC (aP @dZ @nj) (k:=?_)))
 (refine fg ⟨.inr rfl,rfl,cd rfl ?_ rfl⟩;simp(disch:=omega) only[kd,Tryz.results56,aa,a4])
def Us (M:List (List Int)):Prop:=AW M/\MinkP (ent M) M.length
structure Wq (M:List (List Int)) where
 i:Nat
 hi:i+1<=M.length
 ok: ∀a,a<i->ent M a a<=ent M (a+1) (a+1)/\0<=ent M a (a+1)
theorem zU (M:List (List Int)) (r:Bool) (hr:r=true↔Us M):
  CallG Tryz.prog 0 162 33 [dj M] ir ⟨[],.raw (.bool r)⟩:=by
 by_cases hF:AW M
 ·have hI:=yb M true (by simp[hF]);have hn1:=hF.1.1;have hn4:=hF.1.2;have eM:M=bi M.length M.length (ent M):=zW (M:=M) (m:=M.length) fun q hq=>(hF.2.1 q hq).1
  have hV:=nL M.length (ent M) hn1 hn4 fun i j hi hj=>hF.entB hi hj
  rw[<- eM]at hV;refine gf Tryz.func33 rfl (by kernel_rfl) ?_;rw[Tryz.ntmps33];refine pj (k:=bM (KD [⟨1,_,_,_,hI⟩] (k:=jt rfl (fJ (bM (dn (k:=?_)))))));have en:(M.length:Int)-1=((M.length-1:Nat):Int):=by omega
  refine eH (G:=Wq M) (fun g=>⟨(dj M::jk::.raw (.bool false)::j4 (j4 (jk::.raw (.int .i64 ((M.length-1:Nat):Int))::rN g.i::j16 (j16 (j4 (jk::jk::jk::[])))))),Hm []⟩) (fun _=>ir) (fun g=>M.length-g.i) ⟨0,hn1,fun a ha=>by omega⟩ ?_ rfl ?_
  ·refine aE trivial ?_;simp[wk,en]
  rintro⟨i,hi,ok⟩;simp only;by_cases hm:i+1<M.length
  ·have m1:=bx M.length (ent M) (show i<M.length by omega);have m2:=bx M.length (ent M) hm;rw[<- eM]at m1 m2;have c1:=aQ (ent M i) (show i<M.length by omega);have c2:=aQ (ent M (i+1)) hm;have c3:=aQ (ent M i) hm;have e1:((i:Int)+1).toNat=i+1:=by omega
   by_cases hd:ent M (i+1) (i+1)<ent M i i
   ·have hr0:r=false:=by
     cases r with
     |false=>rfl
     |true=>have:=((hr.1 rfl).2.1 i hm).1;omega
    subst hr0;refine dn (k:=io rfl (bM (cY (dn (k:=yY (aP m1 (aP c1 (aP e1 (aP m2 c2)))) (k:=j1 rfl (dn (k:=?_))))))))
    (refine fg ⟨.inr rfl,rfl,cd rfl ?_ rfl⟩;simp(disch:=omega) only[kd,Tryz.results33])
   by_cases hs:ent M i (i+1)<0
   ·have hr0:r=false:=by
     cases r with
     |false=>rfl
     |true=>have:=((hr.1 rfl).2.1 i hm).2;omega
    subst hr0;refine dn (k:=io rfl (bM (cY (dn (k:=yY (aP m1 (aP c1 (aP e1 (aP m2 (aP c2 c3))))) (k:=j1 rfl (dn (k:=?_))))))))
    (refine fg ⟨.inr rfl,rfl,cd rfl ?_ rfl⟩;simp(disch:=omega) only[kd,Tryz.results33])
   refine dn (k:=io rfl (bM (cY (dn (k:=yY (aP m1 (aP c1 (aP e1 (aP m2 (aP c2 c3))))) (k:=jt rfl (fJ (rU (k:=?_)))))))));refine⟨⟨i+1,by omega,fun a ha=>?_⟩,by simp only;omega,aE trivial ?_,rfl⟩
   ·by_cases e:a=i
    ·subst e;exact⟨by omega,by omega⟩
    exact ok a (by omega)
   simp[wk]
  refine dn (k:=j5 rfl ?_);show dS _ _ _ _ _ _ _;cases hv:tM M.length (ent M)with
  |none=>
   have hr1:r=true:=hr.2 ⟨hF,fun a ha=>ok a (by omega),fun a ha=>ta _ 0 hv a (by omega) (by omega)⟩;subst hr1;have eT:qg M.length (ent M)= .tup [(false,[.p (.raw (.int .i64 0))]),(true,a4 fun _=>0),(false,[.p (.raw (.bool false))])]:=by unfold qg;rw[hv]
   rw[eT]at hV;refine dy [⟨1,_,_,_,hV,rfl⟩] [] [] fun _ K=>?_;simp(disch:=omega) only[kd,dj,fv.a,aa,j6,pB,dZ,fY];apply K
   refine dn (k:=?_)
   (refine fg ⟨.inr rfl,rfl,cd rfl ?_ rfl⟩;simp(disch:=omega) only[kd,Tryz.results33])
  |some k=>
   obtain⟨_,k1,k2,_⟩:=jY _ 0 k hv;have hr0:r=false:=by
    cases r with
    |false=>rfl
    |true=>exact absurd k2 ((hr.1 rfl).2.2 k (by omega))
   subst hr0;have eT:qg M.length (ent M)= .tup [(false,[.p (.raw (.int .i64 (k:Int)))]),(true,a4 (lB M.length (ent M) k (3^k))),(false,[.p (.raw (.bool true))])]:=by unfold qg;rw[hv]
   rw[eT]at hV;refine dy [⟨1,_,_,_,hV,rfl⟩] [] [] fun _ K=>?_;simp(disch:=omega) only[kd,dj,fv.a,aa,j6,pB,dZ,fY];apply K
   refine dn (k:=?_)
   (refine fg ⟨.inr rfl,rfl,cd rfl ?_ rfl⟩;simp(disch:=omega) only[kd,Tryz.results33])
 have hr0:r=false:=by
  cases r with
  |false=>rfl
  |true=>exact absurd (hr.1 rfl).1 hF
 subst hr0;have hI:=yb M false (by simp[hF]);refine gf Tryz.func33 rfl (by kernel_rfl) ?_;rw[Tryz.ntmps33];refine pj (k:=bM (KD [⟨1,_,_,_,hI⟩] (k:=j1 rfl (dn (k:=?_)))))
 (refine fg ⟨.inr rfl,rfl,cd rfl ?_ rfl⟩;simp(disch:=omega) only[kd,Tryz.results33])
section
open Go.ChangeShapes Go.WideShapes Go.ChangeAt Go.WideMaps Go.WideElems Go.RowKit
theorem UP : Tryz.prog.globalNamed "quadform/minkowski.conditions" = some 0 := by kernel_rfl
theorem U5:(Tryz.prog.globals[0]?).map (·.type)=some 162:=by kernel_rfl
abbrev BX : List (String × DataW Unit) := [("quadform/minkowski.conditions", Rows.laid_quadform_minkowski_conditions)]
theorem Bv {W:World} (h:laidMetH Tryz.prog BX W):uA 0 162 ir W:=by
 rw[MakeChecks.laidMetH_plain _ _ _ (by kernel_rfl)]at h;obtain⟨ps,⟨g0,t0,cs0,f0,p0,q0,hg0,ht0,hv0,hd0,_,_⟩,_,_⟩:=h;obtain rfl:=Option.some.inj (UP.symm.trans hg0);obtain rfl:=Option.some.inj (U5.symm.trans ht0);obtain⟨xs,m1,rfl,hx1,hlen,hn3,hel⟩:=DataW.trod_array Tryz.underlying162 hd0;have c3:Tryz.prog.cellsOf 3=1:=by kernel_rfl
 have c4:Tryz.prog.cellsOf 162=4:=by kernel_rfl
 rw[c4]at hlen;have hcell: ∀i,i<4-> ∃k:Int,cs0[i]?=some (.int .i64 k)/\(xs[i]?).map (·.1)=some (.lit (.int .i64 k)):=fun i hi=>by
  have h1:=hel i hi;rw[c3,Nat.mul_one]at h1;obtain⟨y,hy⟩: ∃y,xs[i]?=some y:=⟨xs[i]'(by omega),List.getElem?_eq_getElem (by omega)⟩;rw[hy]at h1;obtain⟨k,e1,e2,_⟩:=DataW.trod_int Tryz.underlying3 h1;refine⟨k,?_,by rw[hy,e2];rfl⟩;have h2:=congrArg (fun l=>l[0]?) e1;simp only[List.getElem?_take,List.getElem?_drop,Nat.add_zero]at h2;simpa using h2
 have hx:xs.map (·.1)=[.lit (.int .i64 1),.lit (.int .i64 3),.lit (.int .i64 9),.lit (.int .i64 27)]:=by
  simp only[Prod.mk.injEq,Rows.laid_quadform_minkowski_conditions,DataW.agg.injEq]at hx1;exact hx1.1.symm
 have hat: ∀(i:Nat) (k:Int),i<4->(xs.map (·.1))[i]?=some (.lit (.int .i64 k))->W.cell? ⟨0,i,none⟩=some (.int .i64 k):=fun i k hi hk=>by
  obtain⟨k',h1,h2⟩:=hcell i hi;rw[List.getElem?_map,h2]at hk;have:k'=k:=by simpa using hk
  subst this;rw[World.var?_cell hg0 hv0 i,h1]
 rw[hx]at hat;have a0:=hat 0 1 (by omega) rfl;have a1:=hat 1 3 (by omega) rfl;have a2:=hat 2 9 (by omega) rfl;have a3:=hat 3 27 (by omega) rfl;refine⟨oC a0,fun j x hx=>?_⟩
 match j,hx with
 |0,hx=>simp at hx;exact⟨_,hx.symm,a0,rfl⟩
 |1,hx=>simp at hx;exact⟨_,hx.symm,a1,rfl⟩
 |2,hx=>simp at hx;exact⟨_,hx.symm,a2,rfl⟩
 |3,hx=>simp at hx;exact⟨_,hx.symm,a3,rfl⟩
 |j+4,hx=>simp at hx
theorem Ll (os:Os) (args:Array Value):laidMetH Tryz.prog BX ((World.doorLaid Tryz.prog 400 os).forCall (fun _ _=>0) ⟨#[],args,[]⟩).memory:=
 laidMetH_of_parts3 (fuel:=8) (laidMet_of_run' 8 (by kernel_rfl) (by kernel_rfl)) (by kernel_rfl) (by kernel_rfl)
theorem CallG.law {P:Program} {b:Nat} {ty:TypeId} {f:FuncId} {args:List TV} {cs:List PV} {r:Bool} (h:CallG P b ty f args cs ⟨[],.raw (.bool r)⟩) {w:World} (hb:uA b ty cs w) {vs:Array Value} (hvs:vs.size=args.length)
  (ha: ∀(j:Nat) t,args[j]?=some t-> ∃v:Value,vs[j]?=some v/\t.rel (fun _ _=>none) (fun _=>[]) (fun _=>False) w v):Calls P f vs w fun e w'=>e= .returned (.bool r)/\Ext w w':=
 ((h.2 w hb).2 (fun _=>False) vs (fun b h=>h.elim) hvs ha).mono fun e w' ⟨v,h1,ρ,h2,h3⟩=>⟨by rw[h1,mD h3],BV h2.keep⟩
end
section
variable {n:Nat}
theorem RO {x:Int} {A:Nat} (h:x*x<=(A:Int)*(A:Int)): -(A:Int)<=x/\x<=(A:Int):=by
 have h1:x.natAbs*x.natAbs<=A*A:=by
  have e:((x.natAbs*x.natAbs:Nat):Int)=x*x:=Int.natAbs_mul_self;have:((x.natAbs*x.natAbs:Nat):Int)<=((A*A:Nat):Int):=by rw[e,Int.natCast_mul];exact h
  exact Int.ofNat_le.1 this
 have h2:x.natAbs<=A:=by
  rcases Nat.lt_or_ge A x.natAbs with hl|hl
  ·have:=Nat.mul_lt_mul'' hl hl;omega
  exact hl
 omega
theorem EW {h:FF} (hn1:1<=n) (hn:n<=4) (hr:RedR h n) {x:Nat->Int} (hx:nrm n h x<=262144): ∀j,j<n-> -549755813888<=x j/\x j<=549755813888:=fun j hj=>by
 have h1:=K8 (B:=262144) hr.pd hj (fun a b ha hb=>by have:=iP hn1 (by omega) hr a ha b hb;omega) x hx;have h2:(n*262144)^(n-1)<=1048576^3:=by
  have:n*262144<=1048576:=by omega
  exact Nat.le_trans (Nat.pow_le_pow_left this _) (Nat.pow_le_pow_right (by omega) (by omega))
 have h3:(((n*262144)^(n-1):Nat):Int)<=1152921504606846976:=by
  have e:1048576^3=1152921504606846976:=by decide
  rw[e]at h2;omega
 refine RO (A:=549755813888) ?_;generalize(((n*262144)^(n-1):Nat):Int)=q at*
 omega
theorem nC {h B:FF} {W:Int} (hp:PD h n) (hB:InB2 n h W B) {a b:Nat} (ha:a<n) (hb:b<n) (A:Nat) (hW:W<=(A:Int)): -(A:Int)<=gmB n h B a b/\gmB n h B a b<=(A:Int):=by
 refine RO ?_;have h1:=hp.schwarz (B a) (B b);have h2:=hB.nr a ha;have h3:=hB.nr b hb;have h4:=(hp.pos (B a)).1;have h5:=(hp.pos (B b)).1;unfold nrm at h2 h3;unfold gmB;have h6:BF n h (B a) (B a)*BF n h (B b) (B b)<=(A:Int)*(A:Int):=Int.mul_le_mul (by omega) (by omega) h5 (by omega);omega
theorem InB2.one {h:FF} (hn1:1<=n) (hn:n<=8) (hr:RedR h n):InB2 n h 262144 (fun a b=>if a=b then 1 else 0):=by
 refine⟨fun a ha=>?_,?_⟩
 ·have e:(fun b=>if a=b then(1:Int)else 0)=eC a:=by funext b;unfold eC;by_cases h:a=b<;>simp[h,eq_comm]<;>omega
  show nrm n h (fun b=>if a=b then 1 else 0)<=_;rw[e,km ha];have:=iP hn1 hn hr a ha a ha;omega
 have e:trF (fun a b=>if a=b then(1:Int)else 0)=fun i j=>if i=j then 1 else 0:=by
  funext i j;unfold trF;by_cases h:i=j<;>simp[h,eq_comm]<;>omega
 rw[e,SW];rfl
theorem InB2.sg {h B:FF} {W:Int} (g:FF) (hB:InB2 n h W B):InB2 n h W (uv g B):=by
 refine⟨fun a ha=>?_,?_⟩
 ·have:=hB.nr a ha;have e:nrm n h (uv g B a)=nrm n h (B a):=by
   have h1:gmB n h (uv g B) a a=gmB n h B a a:=by
    rw[LG];unfold Ow;rcases mH g a with e|e<;>rw[e]<;>omega
   exact h1
  rw[e];exact this
 have h1:=Nt (g:=g) (B:=B) n (ac n);rw[<- hB.dt,<- h1]
 congr 1
 exact iu fun i j _ hj=>by show mG g j*B j i=if j<n then _ else _;rw[if_pos hj]
theorem Ci {h:FF} (hn1:1<=n) (hn:n<=4) (hr:RedR h n): ∃R,RchB n h (fun a b=>if a=b then 1 else 0) R/\InB2 n h 262144 R/\InB2 n h 262144 (uv (gmB n h R) R)/\MinkP (gmB n h (uv (gmB n h R) R)) n:=by
 have h1:=InB2.one hn1 (by omega) hr;obtain⟨R,hR⟩:=CG hr.pd _ _ rfl h1;obtain⟨e1,e2,e3⟩:=CF hR h1;exact⟨R,hR,e1,e1.sg _,L9 e2 e3⟩
theorem InB2.pd {h B:FF} {W:Int} (hp:PD h n) (hB:InB2 n h W B):PD (gmB n h B) n:=by
 rw[tY];exact hp.cng (by have:=hB.dt;omega)
end
section
variable {n:Nat}
def Vi (n:Nat) (a:FF) (i:Nat):Nat->Nat->Option Nat
 |0,_=>none
 |m+1,c=>if nrm n a (mY i c)<a i i then some c else Vi n a i m (c+1)
def S2 (n:Nat) (a:FF) (i:Nat):Option Nat:=Vi n a i (3^i) 0
theorem BK {a:FF} {i:Nat}: ∀m c r,Vi n a i m c=some r->c<=r/\r<c+m/\nrm n a (mY i r)<a i i
 |0,_,_,h=>by cases h
 |m+1,c,r,h=>by
  rw[Vi]at h;split at h
  ·rename_i hl;injection h with h
   subst h;exact⟨ac _,by omega,hl⟩
  obtain⟨h1,h2,h3⟩:=BK m (c+1) r h;exact⟨by omega,by omega,h3⟩
inductive Rr where
 |swp (i:Nat)
 |rep (i c:Nat)
 |neg (i:Nat)
def G9 (n:Nat) (a:FF):Nat->Nat->Option Rr
 |0,_=>none
 |m+1,i=>if 0<i/\a i i<a (i-1) (i-1)then some (.swp i)else match S2 n a i with
  |some c=>some (.rep i c)
  |none=>if 0<i/\a (i-1) i<0 then some (.neg i)else G9 n a m (i+1)
def RH (n:Nat) (t:FF):Rr->Nat->Nat->Int
 | .swp i=>fun r c=>if c=i then t r (i-1)else if c=i-1 then t r i else t r c
 | .rep i c=>dH t i (mV n t (mY i c))
 | .neg i=>dH t i (fun r=> - t r i)
def Rr.i:Rr->Nat
 | .swp i=>i
 | .rep i _=>i
 | .neg i=>i
theorem O6 {h t u:FF} {a b:Nat}:cngF n (cngF n h t) u a b=cngF n h (im n t u) a b:=by
 rw[fC,fC,<- rL];refine dY (fun _ _ _ _=>rfl) (fun i _=>?_) (fun i _=>?_)<;>
 ·unfold mV;rw[jj];exact aI n fun p _=>Int.mul_comm _ _
/-! What the operations do to the Gram matrix. -/
theorem mI {F G:Nat->Int} {i:Nat}: ∀{m},i<m->(∀a,a<m->a≠i->F a=G a)->smF G m=smF F m+(G i-F i)
 |m+1,hi,h=>by
  rw[smF,smF];by_cases e:i=m
  ·subst e;rw[aI i (F:=G) (G:=F) fun p hp=>(h p (by omega) (by omega)).symm];omega
  rw[mI (m:=m) (by omega) (fun a ha hne=>h a (by omega) hne),h m (by omega) (Ne.symm e)];omega
theorem yO (h:FF) (x y:Nat->Int):BF n h x (fun r=> - y r)= - BF n h x y:=by
 have h1:=gP (n:=n) h x y y (-2);have e:(fun i=>y i+ -2*y i)=fun r=> - y r:=by funext i;omega
 rw[e]at h1;rw[h1];omega
theorem tO (h:FF) (x y:Nat->Int):BF n h (fun r=> - x r) y= - BF n h x y:=by
 have h1:=iW (n:=n) h x x y (-2);have e:(fun i=>x i+ -2*x i)=fun r=> - x r:=by funext i;omega
 rw[e]at h1;rw[h1];omega
end
section
variable {n:Nat}
theorem O7 (h t:FF) (i a b:Nat):cngF n h (RH n t (.neg i)) a b=(if a=i then -1 else 1)*(if b=i then -1 else 1)*cngF n h t a b:=by
 have e: ∀c,(fun r=>RH n t (.neg i) r c)=if c=i then fun r=> - t r i else fun r=>t r c:=fun c=>by
  by_cases e1:c=i
  ·subst e1;funext r;simp[RH,dH]
  funext r;simp[RH,dH,e1]
 rw[fC,e,e,fC];by_cases ha:a=i
 ·subst ha;by_cases hb:b=a
  ·subst hb;simp only[if_true];rw[tO,yO];omega
  simp only[if_true,if_neg hb];rw[tO];omega
 by_cases hb:b=i
 ·subst hb;simp only[if_true,if_neg ha];rw[yO];omega
 simp only[if_neg ha,if_neg hb];omega
theorem wL {a:FF}: ∀m i op,G9 n a m i=some op->i<=op.i/\op.i<i+m/\(match op with
  | .swp j=>0<j/\a j j<a (j-1) (j-1)
  | .rep j c=>c<3^j/\nrm n a (mY j c)<a j j
  | .neg j=>0<j/\a (j-1) j<0)
 |0,_,_,h=>by cases h
 |m+1,i,op,h=>by
  rw[G9]at h;split at h
  ·rename_i hc;injection h with h
   subst h;exact⟨ac _,by show i<i+(m+1);omega,hc⟩
  split at h
  ·rename_i c hc;injection h with h
   subst h;obtain⟨_,h1,h2⟩:=BK _ _ _ hc;exact⟨ac _,by show i<i+(m+1);omega,by omega,h2⟩
  split at h
  ·rename_i hc;injection h with h
   subst h;exact⟨ac _,by show i<i+(m+1);omega,hc⟩
  obtain⟨h1,h2,h3⟩:=wL m (i+1) op h;exact⟨by omega,by omega,h3⟩
structure Sb (n:Nat) (h:FF) (W:Int) (t:FF):Prop where
 nr: ∀a,a<n->cngF n h t a a<=W
 dt:(dk t n).natAbs=1
theorem Sb.op {h t:FF} {W:Int} (ht:Sb n h W t) {op:Rr} (ho:G9 n (cngF n h t) n 0=some op):Sb n h W (RH n t op):=by
 obtain⟨_,h1,h2⟩:=wL n 0 op ho;cases op with
 |swp i=>
  have hi:i<n:=by simpa[Rr.i] using h1
  obtain⟨h0,_⟩:=h2;refine⟨fun a ha=>?_,?_⟩
  ·have e2:(fun r=>RH n t (.swp i) r a)=if a=i then fun r=>t r (i-1)else if a=i-1 then fun r=>t r i else fun r=>t r a:=by
    by_cases e1:a=i
    ·subst e1;simp[RH]
    by_cases e3:a=i-1
    ·rw[if_neg e1,if_pos e3];funext r;exact(if_neg e1).trans (if_pos e3)
    simp[RH,e1,e3]
   rw[fC,e2];split
   ·rw[<- fC];exact ht.nr _ (by omega)
   split
   ·rw[<- fC];exact ht.nr _ hi
   rw[<- fC];exact ht.nr _ ha
  have:=vo (R:=t) (n:=n) (a:=i) (b:=i-1) hi (by omega) (by omega);show(dk (fun r c=>if c=i then t r (i-1)else if c=i-1 then t r i else t r c) n).natAbs=1;rw[this,Int.natAbs_neg];exact ht.dt
 |rep i c=>
  have hi:i<n:=by simpa[Rr.i] using h1
  obtain⟨_,h3⟩:=h2;refine⟨fun a ha=>?_,?_⟩
  ·by_cases e:a=i
   ·subst e;show cngF n h (dH t a (mV n t (mY a c))) a a<=W;rw[K6];have:=ht.nr a ha;omega
   show cngF n h (dH t i (mV n t (mY i c))) a a<=W;rw[BA _ e e];exact ht.nr a ha
  show(dk (dH t i (mV n t (mY i c))) n).natAbs=1;rw[Gk hi,show mY i c i=1 by simp[mY],Int.one_mul];exact ht.dt
 |neg i=>
  have hi:i<n:=by simpa[Rr.i] using h1
  refine⟨fun a ha=>?_,?_⟩
  ·rw[O7];have:=ht.nr a ha;split<;>omega
  show(dk (dH t i (fun r=> - t r i)) n).natAbs=1;rw[xV hi,Int.natAbs_neg];exact ht.dt
end
section
variable {n:Nat}
theorem sY {f:FF} (hs:SymF f n) (hp: ∀k,k<n->0<dk f (k+1)) (x:Nat->Int) {k:Nat} (hk:k<n):
  dk f k*BF n (bk f (k+1)) x x=dk f (k+1)*BF n (bk f k) x x-smF (fun j=>bk f k k j*x j) n*smF (fun j=>bk f k k j*x j) n:=by
 have hne: ∀t,t<n->dk f (t+1)≠0:=fun t ht=>by have:=hp t ht;omega
 have e0:dk f k*BF n (bk f (k+1)) x x=BF n (fun i j=>dk f k*bk f (k+1) i j+0*bk f k i j) x x:=by rw[tN];omega
 rw[e0,dY (f':=fun i j=>dk f (k+1)*bk f k i j+(-1)*(bk f k k i*bk f k k j)) (fun i j hi hj=>by
  have:=sylv f k (fun t ht=>hne t (by omega)) i j;have e:=ju hs k (by omega) (fun t ht=>hne t (by omega)) i k hi (by omega);rw[e]at this;omega) (fun _ _=>rfl) (fun _ _=>rfl),tN,FD,aI n (F:=fun i=>x i*bk f k k i) (G:=fun j=>bk f k k j*x j) (fun i _=>Int.mul_comm _ _)]
 omega
end
end Go.Proofs.YtiollbhgpiiodaaGreatDoor
