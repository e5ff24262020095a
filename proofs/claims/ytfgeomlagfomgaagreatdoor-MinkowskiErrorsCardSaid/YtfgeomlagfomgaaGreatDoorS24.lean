/-
  Part 25 of a proof (walks and plain facts).
-/
import Derived.Test.YtfgeomlagfomgaaGreatDoorS23
set_option linter.all false
set_option maxRecDepth 100000
set_option maxHeartbeats 64000000
open Nat renaming reduceAdd → aa
open List renaming replicate → ae
open Nat renaming reduceBEq → af
namespace Go.Proofs.YtfgeomlagfomgaaGreatDoor
open Go.RowKit
/-! Congruence of the conditions. -/
theorem MinkP.congr {f g:FF} {n:Nat} (h: ∀i j,i<n->j<n->f i j=g i j) (hm:MinkP f n):MinkP g n:=by
 refine⟨fun i hi=>?_,fun i hi hv=>hm.2 i hi ?_⟩
 ·rw[<- h i i (by omega) (by omega),<- h (i+1) (i+1) hi hi,<- h i (i+1) (by omega) hi];exact hm.1 i hi
 obtain⟨c,h1,h2⟩:=hv;refine⟨c,h1,?_⟩;rw[h i i hi hi];have e:nrm n f (cnd i c)=nrm n g (cnd i c):=eG h (fun _ _=>rfl) (fun _ _=>rfl);rw[e];exact h2
theorem PD.congr {f g:FF} {n:Nat} (h: ∀i j,i<n->j<n->f i j=g i j) (hp:PD f n):PD g n:=by
 refine⟨fun i hi j hj=>?_,fun k hk=>?_⟩
 ·rw[<- h i j hi hj,<- h j i hj hi];exact hp.1 i hi j hj
 rw[<- gN (f:=f) fun i j hi hj=>h i j (by omega) (by omega)];exact hp.2 k hk
theorem IQ {g:FF} {n:Nat} (hn1:1<=n) (hn:n<=4) (hb: ∀i j,i<n->j<n-> -1125899906842624<=g i j/\g i j<=1125899906842624) (hp:PD g n) (hm:MinkP g n):pe (bu n n g):=by
 have hl:=aV n n g;have he: ∀i j,i<n->j<n->g i j=ent (bu n n g) i j:=fun i j hi hj=>(lD g hi hj).symm
 refine⟨⟨by omega,fun q hq=>?_,by rw[hl];exact hp.congr he⟩,by rw[hl];exact hm.congr he⟩;rw[hl];obtain⟨i,hi,rfl⟩:=List.mem_map.1 hq;have hin:=List.mem_range.1 hi;refine⟨bz _ _,fun x hx=>?_⟩;obtain⟨j,hj,rfl⟩:=List.mem_map.1 hx;exact hb i j hin (List.mem_range.1 hj)
def Pm (M t:List (List Int)):Prop:=t.length=M.length/\mf t/\Pj M (jp t)
def Np (M Rm t:List (List Int)):Prop:=Pm M t/\pe Rm/\bu t.length t.length (vG M (jp t))=Rm
open Classical in
noncomputable def yP (M Rm t:List (List Int)):Int:=
 if bA M=true then(if M.length<=4 then(if og Rm M.length/\og t M.length then(if Np M Rm t then 0 else 10)else 3)else 7)else 6
theorem Gr {M t:List (List Int)} (h:Pm M t):AU M t=⟨de 0 t.length t.length (vG M (jp t)),lE t.length true⟩:=by
 rw[re ⟨h.1,h.2.1⟩,nA h.2.2,wb]
theorem Gq {M t:List (List Int)} (h: ¬Pm M t): ∃F,AU M t=⟨de 0 0 0 F,lE 0 false⟩:=by
 by_cases h1:t.length=M.length/\mf t
 ·rw[re h1,tN fun h2=>h ⟨h1.1,h1.2,h2⟩];exact⟨_,rfl⟩
 rw[vh h1];exact⟨_,rfl⟩
theorem FA (M Rm t:List (List Int)) (ht:MI t) (hb1:Rm.length<=1000000) (hb2:t.length<=1000000):
  CallG Tryz.prog 0 138 33 [bi M,bi Rm,bi t] fi ⟨[],.raw (.int .i64 (yP M Rm t))⟩:=by
 have c1:=gR M;by_cases h1:bA M=true
 ·rw[h1]at c1;by_cases h2:M.length<=4
  ·by_cases h3:og Rm M.length
   ·have q1:=jQ Rm M.length true (by simp[h3]) hb1;by_cases h4:og t M.length
    ·have q2:=jQ t M.length true (by simp[h4]) hb2;have cT:=x8 M t ht;have cMR:=fun(b:Bool) (hb:b=true↔pe Rm)=>pE Rm b hb
     have cE:=fun F (b:Bool) (hb:b=true↔F=Rm)=>zC F Rm b hb
     have eY:Np M Rm t->yP M Rm t=0:=fun h=>by
      unfold yP;rw[if_pos h1,if_pos h2,if_pos ⟨h3,h4⟩,if_pos h]
     have eN: ¬Np M Rm t->yP M Rm t=10:=fun h=>by
      unfold yP;rw[if_pos h1,if_pos h2,if_pos ⟨h3,h4⟩,if_neg h]
     refine cY Tryz.func33 rfl (by kernel_rfl) ?_;rw[Tryz.ntmps33];refine aN fun _ K=>?_;simp only[kd,bi,aa,ae];apply K
     refine bx (bU ?_);refine cX [⟨1,_,_,_,c1⟩] [] fun _ K=>?_;simp only[kd,bi,aa];apply K
     refine dp rfl ?_;refine aN fun _ K=>?_;simp(disch:=omega) only[kd,aa];apply K
     refine dp rfl ?_;refine bx (cX [⟨3,_,_,_,q1⟩] [] fun _ K=>?_);simp only[kd,bi,aa];apply K;refine dp rfl ?_;refine sW [⟨3,_,_,_,q2⟩] [] fun _ K=>?_;simp only[kd,bi,aa];apply K
     show dy _ _ _ _ _ _ _;refine dp rfl (dC ?_);show dy _ _ _ _ _ _ _;by_cases h5:Pm M t
     ·rw[Gr h5]at cT;obtain⟨n,hn⟩: ∃n,n=t.length:=⟨_,rfl⟩;obtain⟨F,hF⟩: ∃F,F=vG M (jp t):=⟨_,rfl⟩;rw[<- hn,<- hF]at cT;have eP:Np M Rm t↔pe Rm/\bu n n F=Rm:=by
       unfold Np;rw[<- hn,<- hF];simp[h5]
      refine cX [⟨2,_,_,_,cT⟩] [] fun _ K=>?_;simp only[kd,bi,lE,aa];apply K
      refine dy.weak (aF (tm:=(jk::bi Rm::j4 (jk::.one (.sl 31 0 0 n)::.raw (.bool true)::j16 (j16 (j4 (jk::jk::[])))))) (l:=[(31,de 31 n n F)]) ⟨cx 0 31 _ _ _,trivial⟩ (by simp[wk])) ?_;refine dy.weak ((bW 31 (dj (d:=31) (n:=n) (c:=n) (f:=F) rfl)).trans (aF (tm:=(jk::bi Rm::j4 (jk::bi (bu n n F)::.raw (.bool true)::j16 (j16 (j4 (jk::jk::[])))))) (l:=[]) trivial (by
       simp[wk]
       (repeat' apply And.intro)<;>first|rfl|exact(ky (H:=Hm [(31,de 31 n n F)]) (d:=31) (n:=n) (c:=n) (f:=F) rfl).symm))) ?_
      have fl:=aV n n F;have fr: ∀p∈bu n n F,p.length<=1000000:=fun p hp=>by
       obtain⟨i,_,rfl⟩:=List.mem_map.1 hp;rw[bz];omega
      generalize bu n n F=FM at*
      by_cases h6:pe Rm
      ·have cI:=cMR true (by simp[h6]);by_cases h7:FM=Rm
       ·rw[eY (eP.2 ⟨h6,h7⟩)];have cQ:=cE FM true (by simp[h7]) (by omega) fr;refine bx (bN [⟨4,_,_,_,cI,rfl⟩] [⟨10,_,_,_,cQ⟩] [] fun _ K=>?_);simp(disch:=omega) only[kd,bi,di.a,aa,af];apply K;refine dp rfl (dC ?_);show dy _ _ _ _ _ _ _;refine aN fun _ K=>?_;simp only[kd];apply K
        (refine cz ⟨.inr rfl,rfl,aH rfl ?_ rfl⟩;simp(disch:=omega) only[kd,Tryz.results33])
       rw[eN fun h=>h7 (eP.1 h).2];have cQ:=cE FM false (by simp[h7]) (by omega) fr;refine bx (bN [⟨4,_,_,_,cI,rfl⟩] [⟨10,_,_,_,cQ⟩] [] fun _ K=>?_);simp(disch:=omega) only[kd,bi,di.a,aa,af];apply K;refine dJ rfl ?_;refine aN fun _ K=>?_;simp only[kd];apply K
       (refine cz ⟨.inr rfl,rfl,aH rfl ?_ rfl⟩;simp(disch:=omega) only[kd,Tryz.results33])
      rw[eN fun h=>h6 (eP.1 h).1];have cI:=cMR false (by simp[h6]);refine bx (bN [⟨4,_,_,_,cI,rfl⟩] [] [] fun _ K=>?_);simp(disch:=omega) only[kd,bi,di.a,aa,reduceCtorEq,af];apply K;refine dJ rfl ?_;refine aN fun _ K=>?_;simp only[kd];apply K
      (refine cz ⟨.inr rfl,rfl,aH rfl ?_ rfl⟩;simp(disch:=omega) only[kd,Tryz.results33])
     obtain⟨F,hF⟩:=Gq h5;rw[hF]at cT;rw[eN fun h=>h5 h.1];refine cX [⟨2,_,_,_,cT⟩] [] fun _ K=>?_;simp only[kd,bi,lE,aa];apply K
     refine dy.weak (aF (tm:=(jk::bi Rm::j4 (jk::jk::.raw (.bool false)::j16 (j16 (j4 (jk::jk::[])))))) (l:=[]) trivial (by simp[wk])) ?_;refine bx (aN fun _ K=>?_);simp only[kd,aa,bi,reduceCtorEq];apply K;refine dJ rfl ?_;refine aN fun _ K=>?_;simp only[kd];apply K
     (refine cz ⟨.inr rfl,rfl,aH rfl ?_ rfl⟩;simp(disch:=omega) only[kd,Tryz.results33])
    have q2:=jQ t M.length false (by simp[h4]) hb2;have eV:yP M Rm t=3:=by
     unfold yP;rw[if_pos h1,if_pos h2,if_neg fun h=>h4 h.2]
    rw[eV];refine cY Tryz.func33 rfl (by kernel_rfl) ?_;rw[Tryz.ntmps33];refine aN fun _ K=>?_;simp only[kd,bi,aa,ae];apply K
    refine bx (bU ?_);refine cX [⟨1,_,_,_,c1⟩] [] fun _ K=>?_;simp only[kd,bi,aa];apply K
    refine dp rfl ?_;refine aN fun _ K=>?_;simp(disch:=omega) only[kd,aa];apply K
    refine dp rfl ?_;refine bx (cX [⟨3,_,_,_,q1⟩] [] fun _ K=>?_);simp only[kd,bi,aa];apply K;refine dp rfl ?_;refine sW [⟨3,_,_,_,q2⟩] [] fun _ K=>?_;simp only[kd,bi,aa];apply K
    show dy _ _ _ _ _ _ _;refine dJ rfl ?_;refine aN fun _ K=>?_;simp only[kd];apply K
    (refine cz ⟨.inr rfl,rfl,aH rfl ?_ rfl⟩;simp(disch:=omega) only[kd,Tryz.results33])
   have q1:=jQ Rm M.length false (by simp[h3]) hb1;have eV:yP M Rm t=3:=by
    unfold yP;rw[if_pos h1,if_pos h2,if_neg fun h=>h3 h.1]
   rw[eV];refine cY Tryz.func33 rfl (by kernel_rfl) ?_;rw[Tryz.ntmps33];refine aN fun _ K=>?_;simp only[kd,bi,aa,ae];apply K
   refine bx (bU ?_);refine cX [⟨1,_,_,_,c1⟩] [] fun _ K=>?_;simp only[kd,bi,aa];apply K
   refine dp rfl ?_;refine aN fun _ K=>?_;simp(disch:=omega) only[kd,aa];apply K
   refine dp rfl ?_;refine bx (cX [⟨3,_,_,_,q1⟩] [] fun _ K=>?_);simp only[kd,bi,aa];apply K;refine dJ rfl (dC ?_);show dy _ _ _ _ _ _ _;refine dJ rfl ?_;refine aN fun _ K=>?_;simp only[kd];apply K
   (refine cz ⟨.inr rfl,rfl,aH rfl ?_ rfl⟩;simp(disch:=omega) only[kd,Tryz.results33])
  have eV:yP M Rm t=7:=by
   unfold yP;rw[if_pos h1,if_neg h2]
  rw[eV];have h2':(4:Int)<(M.length:Int):=by omega
  refine cY Tryz.func33 rfl (by kernel_rfl) ?_;rw[Tryz.ntmps33];refine aN fun _ K=>?_;simp only[kd,bi,aa,ae];apply K
  refine bx (bU ?_);refine cX [⟨1,_,_,_,c1⟩] [] fun _ K=>?_;simp only[kd,bi,aa];apply K
  refine dp rfl ?_;refine aN fun _ K=>?_;simp(disch:=omega) only[kd,aa];apply K
  refine dJ rfl ?_;refine aN fun _ K=>?_;simp only[kd];apply K
  (refine cz ⟨.inr rfl,rfl,aH rfl ?_ rfl⟩;simp(disch:=omega) only[kd,Tryz.results33])
 have eV:yP M Rm t=6:=by unfold yP;rw[if_neg h1]
 rw[eV];rw[show bA M=false by simpa using h1]at c1;refine cY Tryz.func33 rfl (by kernel_rfl) ?_;rw[Tryz.ntmps33];refine aN fun _ K=>?_;simp only[kd,bi,aa,ae];apply K
 refine bx (bU ?_);refine cX [⟨1,_,_,_,c1⟩] [] fun _ K=>?_;simp only[kd,bi,aa];apply K
 refine dJ rfl ?_;refine aN fun _ K=>?_;simp only[kd];apply K
 (refine cz ⟨.inr rfl,rfl,aH rfl ?_ rfl⟩;simp(disch:=omega) only[kd,Tryz.results33])
section
structure mo (n:Nat) (h:FF) (Q:FF):Prop where
 n1:1<=n
 n4:n<=4
 red:RedR h n
 inb:InB2 n h 262144 Q
 mink:MinkP (gmB n h Q) n
theorem rL {n:Nat} {h:FF} (hn1:1<=n) (hn:n<=4) (hr:RedR h n): ∃R,mo n h (uX (gmB n h R) R)/\RchB n h idF R/\
  CallG Tryz.prog 0 138 18 [bi (bu n n h)] fi ⟨[],yM (bu n n (gmB n h (uX (gmB n h R) R))) (bu n n (trF (uX (gmB n h R) R))) 0⟩:=by
 obtain⟨R,h1,h2,h3,h4⟩:=Ab hn1 hn hr;exact⟨R,⟨hn1,hn,hr,h3,h4⟩,h1,Ce n h R hn1 hn hr h1⟩
section
variable {n:Nat} {h Q:FF}
theorem mo.gb (k:mo n h Q) {i j:Nat} (hi:i<n) (hj:j<n): -262144<=gmB n h Q i j/\gmB n h Q i j<=262144:=mF k.red.pd k.inb hi hj 262144 (by decide)
theorem mo.mred (k:mo n h Q):pe (bu n n (gmB n h Q)):=
 IQ k.n1 k.n4 (fun i j hi hj=>by have:=k.gb hi hj;omega) (k.inb.pd k.red.pd) k.mink
theorem mo.ent (k:mo n h Q) {i j:Nat} (hi:i<n) (hj:j<n): -1099511627776<=Q i j/\Q i j<=1099511627776:=
 (show GdR n h (Q i)from k.inb.nr i hi).co k.n1 k.n4 k.red j hj
theorem mo.mi (k:mo n h Q):MI (bu n n (trF Q)):=fun r hr z hz=>by
 obtain⟨i,hi,rfl⟩:=List.mem_map.1 hr;obtain⟨j,hj,rfl⟩:=List.mem_map.1 hz;have:=k.ent (List.mem_range.1 hj) (List.mem_range.1 hi);have e:trF Q i j=Q j i:=rfl;constructor<;>omega
theorem Dy (n:Nat) (Q:FF):jp (bu n n (trF Q))=bu n n Q:=by
 unfold jp;rw[aV];exact fp fun i j hi hj=>by
  show Go.Proofs.YtfgeomlagfomgaaGreatDoor.ent _ j i=_;rw[lD _ hj hi];rfl
theorem mo.trp (k:mo n h Q):Pm (bu n n h) (bu n n (trF Q)):=by
 refine⟨by rw[aV,aV],(sQ _ k.n1 (by have:=k.n4;omega)).2 k.inb.dt,?_⟩;rw[Dy];exact DR k.n1 k.n4 k.red k.inb
theorem mo.form (k:mo n h Q):bu n n (vG (bu n n h) (jp (bu n n (trF Q))))=bu n n (gmB n h Q):=by
 rw[Dy];exact fp fun i j hi hj=>yF k.n1 k.n4 k.red k.inb.nr hi hj
theorem Es (n:Nat) (f:FF):og (bu n n f) n:=⟨aV _ _ _,fun q hq=>by
 obtain⟨i,_,rfl⟩:=List.mem_map.1 hq;exact bz _ _⟩
theorem mo.vf (k:mo n h Q):yP (bu n n h) (bu n n (gmB n h Q)) (bu n n (trF Q))=0:=by
 unfold yP;have h4:=k.n4;rw[if_pos (pT k.n1 (by omega) k.red),aV,if_pos h4,if_pos ⟨Es _ _,Es _ _⟩,if_pos];refine⟨k.trp,k.mred,?_⟩;rw[aV];exact k.form
end
end
def Ps (M:List (List Int)):Prop:=(1<=M.length/\M.length<=4)/\ ∀r∈M,RwOk M.length r
theorem tK {M:List (List Int)}:vM M↔Ps M/\PD (ent M) M.length:=⟨fun h=>⟨⟨h.1,h.2.1⟩,h.2.2⟩,fun h=>⟨h.1.1,h.1.2,h.2⟩⟩
theorem Ps.entB {M:List (List Int)} (h:Ps M) {i j:Nat} (hi:i<M.length) (hj:j<M.length): -1125899906842624<=ent M i j/\ent M i j<=1125899906842624:=by
 have hr:=h.2 M[i] (List.getElem_mem hi);have e:ent M i j=M[i][j]'(by rw[hr.1];exact hj):=by
  unfold ent;simp[List.getD,hi,hr.1,hj]
 rw[e];exact hr.2 _ (List.getElem_mem _)
theorem Ct {f:FF} {n:Nat}:PD f n↔SymF f n/\xd f n:=
 ⟨fun h=>⟨h.1,fun k hk=>by rw[ny h.2 k hk];exact h.2 k hk⟩,fun h=>⟨h.1,fun k hk=>(uy h.2 k hk).1⟩⟩
theorem uD (M:List (List Int)) (r:Bool) (hr:r=true↔Ps M):CallC Tryz.prog 37 [bi M] ⟨[],.raw (.bool r)⟩:=by
 by_cases hlen:1<=M.length/\M.length<=4
 ·refine aJ Tryz.func37 rfl (by kernel_rfl) ?_;rw[Tryz.ntmps37];refine aD fun _ K=>?_;simp only[kd,bi,ae];apply K
  refine aE (aD fun _ K=>?_);simp(disch:=omega) only[kd,aa];apply K;refine aO rfl (aL ?_);show bs _ _ _ _;refine aE (aD fun _ K=>?_);simp only[kd,aa];apply K;refine aT (G:=QN M) (fun g=>⟨(bi M::jk::.raw (.bool false)::j4 (j4 (j4 (bi M::rN M.length::rN g.i::j16 (j4 (jk::jk::[])))))),Hm []⟩) (fun g=>M.length-g.i) ⟨0,by omega,fun a ha=>by omega⟩ ?_ ?_
  ·refine aF trivial ?_;simp[wk]
  rintro⟨i,hi,ok⟩;simp only;by_cases hm:i<M.length
  ·obtain⟨q,hq⟩: ∃q,M[i]?=some q:=⟨M[i],List.getElem?_eq_getElem hm⟩;have hqm:=wR hq;refine aD fun _ K=>?_;simp(disch:=omega) only[kd,bi];apply K
   refine bC rfl ?_;refine aE (aK ?_);refine aD fun _ K=>?_;simp(disch:=omega) only[kd,aa,hq,fR];apply K
   by_cases hql:q.length=M.length
   ·refine aE (aD fun _ K=>?_);simp(disch:=omega) only[kd,aa,hql];apply K;refine aO rfl (aL ?_);show bs _ _ _ _;refine aD fun _ K=>?_;simp only[kd,aa,hql];apply K
    refine aT (G:=QO q) (fun g=>⟨(bi M::jk::.raw (.bool false)::jk::.one (.p (.sl (ls fI q)))::j4 (j4 (jk::jk::bi M::rN M.length::rN i::j4 (j4 (.one (.p (.sl (ls fI q)))::rN M.length::rN g.j::j4 (j4 (jk::jk::jk::[]))))))),Hm []⟩) (fun g=>q.length-g.j) ⟨0,by omega,fun a ha=>by omega⟩ ?_ ?_
    ·refine aF trivial ?_;simp[wk]
    rintro⟨j,hj,okj⟩;simp only;by_cases hm2:j<q.length
    ·obtain⟨x,hx⟩: ∃x,q[j]?=some x:=⟨q[j],List.getElem?_eq_getElem hm2⟩;refine aD fun _ K=>?_;simp(disch:=omega) only[kd,bi];apply K
     refine bC rfl ?_;refine aE (aK ?_);refine aD fun _ K=>?_;simp(disch:=omega) only[kd,aa,hx];apply K
     by_cases hlo:x< -1125899906842624
     ·have hr0:r=false:=by
       cases r with
       |false=>rfl
       |true=>have:=((hr.1 rfl).2 q hqm).2 x (List.mem_of_getElem? hx);omega
      subst hr0;refine aD fun _ K=>?_;simp(disch:=omega) only[kd,aa,reduceCtorEq];apply K
      refine aS rfl ?_;refine aD fun _ K=>?_;simp only[kd];apply K
      (refine aI ⟨.inr rfl,aH rfl ?_ rfl⟩;simp(disch:=omega) only[kd,Tryz.results37])
     by_cases hhi:1125899906842624<x
     ·have hr0:r=false:=by
       cases r with
       |false=>rfl
       |true=>have:=((hr.1 rfl).2 q hqm).2 x (List.mem_of_getElem? hx);omega
      subst hr0;refine aD fun _ K=>?_;simp(disch:=omega) only[kd,aa];apply K
      refine aS rfl ?_;refine aD fun _ K=>?_;simp only[kd];apply K
      (refine aI ⟨.inr rfl,aH rfl ?_ rfl⟩;simp(disch:=omega) only[kd,Tryz.results37])
     refine aD fun _ K=>?_;simp(disch:=omega) only[kd,aa];apply K
     refine aO rfl (aL ?_);show bs _ _ _ _;refine aM fun _ K=>?_;simp(disch:=omega) only[kd,aP];apply K
     refine⟨⟨j+1,by omega,fun b hb y hy=>?_⟩,by simp only;omega,aF trivial ?_⟩
     ·by_cases e:b=j
      ·subst e;rw[hx]at hy;injection hy with hy
       omega
      exact okj b (by omega) y hy
     simp[wk]
    refine aD fun _ K=>?_;simp(disch:=omega) only[kd,bi];apply K
    refine bJ rfl ?_;show bs _ _ _ _;refine aM fun _ K=>?_;simp(disch:=omega) only[kd,aP];apply K
    refine⟨⟨i+1,by omega,fun a ha q' hq'=>?_⟩,by simp only;omega,aF trivial ?_⟩
    ·by_cases e:a=i
     ·subst e;rw[hq]at hq';injection hq' with hq'
      subst hq';refine⟨hql,fun x hx=>?_⟩;obtain⟨b,hb⟩:=List.mem_iff_getElem?.1 hx;exact okj b (by have:=(List.getElem?_eq_some_iff.1 hb).1;omega) x hb
     exact ok a (by omega) q' hq'
    simp[wk]
   have hr0:r=false:=by
    cases r with
    |false=>rfl
    |true=>exact absurd ((hr.1 rfl).2 q hqm).1 hql
   subst hr0;refine aE (aD fun _ K=>?_);simp(disch:=omega) only[kd,aa];apply K;refine aS rfl ?_;refine aD fun _ K=>?_;simp only[kd];apply K
   (refine aI ⟨.inr rfl,aH rfl ?_ rfl⟩;simp(disch:=omega) only[kd,Tryz.results37])
  have hall: ∀q∈M,RwOk M.length q:=fun q hq=>by
   obtain⟨a,ha⟩:=List.mem_iff_getElem?.1 hq;exact ok a (by have:=(List.getElem?_eq_some_iff.1 ha).1;omega) q ha
  have hr1:r=true:=hr.2 ⟨hlen,hall⟩;subst hr1;refine aD fun _ K=>?_;simp(disch:=omega) only[kd,bi];apply K
  refine bJ rfl ?_;show bs _ _ _ _;refine aD fun _ K=>?_;simp only[kd];apply K
  (refine aI ⟨.inr rfl,aH rfl ?_ rfl⟩;simp(disch:=omega) only[kd,Tryz.results37])
 have hr0:r=false:=by
  cases r with
  |false=>rfl
  |true=>exact absurd (hr.1 rfl).1 hlen
 subst hr0;by_cases h1:M.length<1
 ·refine aJ Tryz.func37 rfl (by kernel_rfl) ?_;rw[Tryz.ntmps37];refine aD fun _ K=>?_;simp only[kd,bi,ae];apply K
  refine aE (aD fun _ K=>?_);simp(disch:=omega) only[kd,aa,reduceCtorEq];apply K;refine aS rfl ?_;refine aD fun _ K=>?_;simp only[kd];apply K
  (refine aI ⟨.inr rfl,aH rfl ?_ rfl⟩;simp(disch:=omega) only[kd,Tryz.results37])
 refine aJ Tryz.func37 rfl (by kernel_rfl) ?_;rw[Tryz.ntmps37];refine aD fun _ K=>?_;simp only[kd,bi,ae];apply K
 refine aE (aD fun _ K=>?_);simp(disch:=omega) only[kd,aa];apply K;refine aS rfl ?_;refine aD fun _ K=>?_;simp only[kd];apply K
 (refine aI ⟨.inr rfl,aH rfl ?_ rfl⟩;simp(disch:=omega) only[kd,Tryz.results37])
/-! The gF of a row of small coefficients. -/
theorem Mg (n:Nat) (f:FF) (c:Nat->Int) (hn1:1<=n) (hn:n<=4) (hf: ∀i j,i<n->j<n-> -1125899906842624<=f i j/\f i j<=1125899906842624) (hc: ∀j,-1<=c j/\c j<=1):
  CallC Tryz.prog 82 [bi (bu n n f),iU (bG n c)] ⟨[],.raw (.int .i64 (nrm n f c))⟩:=by
 have hcl:=bz n c;refine aJ Tryz.func82 rfl (by kernel_rfl) ?_;rw[Tryz.ntmps82];refine aD fun _ K=>?_;simp only[kd,bi,iU,aa,ae];apply K
 refine aD fun _ K=>?_;simp only[kd];apply K
 refine aE (aD fun _ K=>?_);simp only[kd,aa,hcl];apply K;refine aT (G:=jD n) (fun g=>⟨(bi (bu n n f)::iU (bG n c)::jk::jk::jk::.raw (.int .i64 (nS n f c g.i 0))::jk::jk::jk::rN n::rN g.i::j16 (j4 (j4 (j4 (jk::[]))))),Hm []⟩) (fun g=>n-g.i) ⟨0,by omega⟩ ?_ ?_
 ·refine aF trivial ?_;simp[wk,nS,cP]
 rintro⟨i,hi⟩;simp only;by_cases hm:i<n
 ·have hr:=bD n f hm;have hci:=aU c hm;refine aD fun _ K=>?_;simp(disch:=omega) only[kd,bi,iU];apply K
  refine bC rfl ?_;refine aE (aK ?_);refine aD fun _ K=>?_;simp only[kd];apply K
  refine aD fun _ K=>?_;simp only[kd,aa,hcl];apply K
  refine aT (G:=jD n) (fun g=>⟨(bi (bu n n f)::iU (bG n c)::jk::jk::jk::.raw (.int .i64 (nS n f c i g.i))::rN i::jk::jk::rN n::rN i::jk::jk::jk::rN n::rN g.i::j16 (j4 (j4 ([])))),Hm []⟩) (fun g=>n-g.i) ⟨0,by omega⟩ ?_ ?_
  ·refine aF trivial ?_;simp[wk]
  rintro⟨j,hj⟩;simp only;by_cases hjn:j<n
  ·have hg:=aU (f i) hjn;have hcj:=aU c hjn;have b1:=hf i j hm hjn;have b2:=jB (hc i) b1;have b3:=jB (hc j) b2;have b4:=D7 hf hc hm hj;have b5:=D7 hf hc hm (j:=j+1) (by omega);have b6:=jB (hc j) (show -1<=c i/\c i<=1 from hc i);have e1:IntKind.i64.wrap (c i*c j)=c i*c j:=aP (by omega) (by omega);have e0:c i*c j*f i j=f i j*c i*c j:=by grind
   have e2:IntKind.i64.wrap (c i*c j*f i j)=f i j*c i*c j:=by rw[e0];exact aP (by omega) (by omega)
   have e4:nS n f c i j+f i j*c i*c j=nS n f c i (j+1):=by
    unfold nS;rw[cP,show LU f c i j=f i j*c i*c j from rfl,Int.add_assoc]
   have hb:((i:Int)+1)*((n:Int)*1125899906842624)<=18014398509481984:=by
    have:((i:Int)+1)*((n:Int)*1125899906842624)<=4*((n:Int)*1125899906842624):=Int.mul_le_mul_of_nonneg_right (by omega) (by omega);omega
   have e3:IntKind.i64.wrap (nS n f c i (j+1))=nS n f c i (j+1):=aP (by omega) (by omega);refine aD fun _ K=>?_;simp(disch:=omega) only[kd,bi,iU];apply K
   refine bC rfl ?_;refine aE (aK ?_);refine aD fun _ K=>?_;simp only[kd];apply K
   refine gz aZ (by kernel_rfl) fun _ K=>?_;simp(disch:=omega) only[kd,aa,hci,hcj,e1,hr,fR,hg,e2,e4,e3];apply K
   show bs _ _ _ _;refine aM fun _ K=>?_;simp(disch:=omega) only[kd,aP];apply K
   refine⟨⟨j+1,by omega⟩,by simp only;omega,aF trivial ?_⟩;simp[wk]
  have hjn:j=n:=by omega
  subst hjn;refine aD fun _ K=>?_;simp(disch:=omega) only[kd,bi,iU];apply K
  refine bJ rfl ?_;show bs _ _ _ _;refine aM fun _ K=>?_;simp(disch:=omega) only[kd,aP];apply K
  refine⟨⟨i+1,by omega⟩,by simp only;omega,aF trivial ?_⟩;rw[IV];simp[wk]
 have hin:i=n:=by omega
 subst hin;refine aD fun _ K=>?_;simp(disch:=omega) only[kd,bi,iU];apply K
 refine bJ rfl ?_;show bs _ _ _ _;rw[IU];refine aD fun _ K=>?_;simp only[kd];apply K
 (refine aI ⟨.inr rfl,aH rfl ?_ rfl⟩;simp(disch:=omega) only[kd,Tryz.results82])
/-! The next list of coefficients. -/
theorem Fz {c j:Nat} (h:c%3^j=3^j-1):c+1=3^j*(c/3^j+1):=by
 have h1:=Nat.div_add_mod c (3^j);have h2:0<3^j:=Nat.pow_pos (by omega);rw[Nat.mul_add,Nat.mul_one];omega
theorem Ls {c j:Nat} (h:c%3^j=3^j-1) (hd:dg c j<1) (b:Nat):dg (c+1) b=if b<j then -1 else if b=j then dg c j+1 else dg c b:=by
 have hs:=Fz h;have hp: ∀k,0<3^k:=fun k=>Nat.pow_pos (by omega)
 have hd2:c/3^j%3<2:=by unfold dg at hd;omega
 unfold dg;split
 ·rename_i hb;obtain⟨m,rfl⟩: ∃m,j=b+1+m:=⟨j-b-1,by omega⟩;rw[hs,Nat.pow_add,Nat.pow_succ,show 3^b*3*3^m*(c/(3^b*3*3^m)+1)=3^b*(3*(3^m*(c/(3^b*3*3^m)+1))) by grind,Nat.mul_div_cancel_left _ (hp b),Nat.mul_mod_right];rfl
 split
 ·rename_i hb;subst hb;rw[hs,Nat.mul_div_cancel_left _ (hp b)];omega
 rename_i hb1 hb2;obtain⟨m,rfl⟩: ∃m,b=j+1+m:=⟨b-j-1,by omega⟩;have e1: ∀x,x/3^(j+1+m)=x/3^j/3/3^m:=fun x=>by rw[Nat.pow_add,Nat.pow_succ,<- Nat.div_div_eq_div_mul,<- Nat.div_div_eq_div_mul]
 rw[e1,e1,hs,Nat.mul_div_cancel_left _ (hp j),show(c/3^j+1)/3=c/3^j/3 by omega]
theorem II {c j:Nat} (h:c%3^j=3^j-1) (hd: ¬dg c j<1):c%3^(j+1)=3^(j+1)-1:=by
 have hd2:c/3^j%3=2:=by
  have:=Nat.mod_lt (c/3^j) (show 0<3 by omega);unfold dg at hd;omega
 have h2:0<3^j:=Nat.pow_pos (by omega);rw[Nat.pow_succ,Nat.mod_mul,h,hd2];omega
def Po (i c:Nat):Nat->Int:=if c+1<3^i then cnd i (c+1)else fun b=>if b<i then -1 else cnd i c b
def Cq (i c j:Nat):Nat->Int:=fun b=>if b<j then -1 else cnd i c b
theorem Jc (i c:Nat):Cq i c 0=cnd i c:=by funext b;unfold Cq;rw[if_neg (by omega)]
theorem OE {i c j:Nat} (hj:j<i):Cq i c j j=dg c j:=by unfold Cq cnd;rw[if_neg (by omega),if_pos hj]
theorem Jb (i c j:Nat):(fun b=>if b=j then -1 else Cq i c j b)=Cq i c (j+1):=by
 funext b;unfold Cq;by_cases h:b=j
 ·subst h;rw[if_pos rfl,if_pos (by omega)]
 by_cases h2:b<j
 ·rw[if_neg h,if_pos h2,if_pos (by omega)]
 rw[if_neg h,if_neg h2,if_neg (by omega)]
theorem L1 {i c j:Nat} (h:c%3^j=3^j-1) (hd:dg c j<1) (hj:j<i):(fun b=>if b=j then dg c j+1 else Cq i c j b)=cnd i (c+1):=by
 funext b;have:=Ls h hd b;unfold Cq cnd;by_cases h1:b<i
 ·rw[if_pos h1,if_pos h1,this];by_cases h2:b<j
  ·rw[if_neg (by omega),if_pos h2,if_pos h2]
  rw[if_neg h2,if_neg h2]
 rw[if_neg h1,if_neg h1,if_neg (by omega),if_neg (by omega)]
theorem Ke {c i:Nat} (h:c%3^i=3^i-1) (hc:c<3^i): ¬c+1<3^i:=by
 rw[Nat.mod_eq_of_lt hc]at h;have h2:0<3^i:=Nat.pow_pos (by omega);omega
theorem Iv {c i j:Nat} (hj:j<i) (hc:c<3^i) (hd:dg c j<1):c+1<3^i:=by
 refine Nat.lt_of_not_le fun hle=>?_
 have e:c+1=3^i:=by omega
 obtain⟨m,rfl⟩: ∃m,i=j+1+m:=⟨i-j-1,by omega⟩;have hp:0<3^j:=Nat.pow_pos (by omega);have hp2:0<3^m:=Nat.pow_pos (by omega);have e2:c=3^j*(3*3^m-1)+(3^j-1):=by
  have:3^(j+1+m)=3^j*(3*3^m):=by rw[Nat.pow_add,Nat.pow_succ,Nat.mul_assoc]
  obtain⟨z,hz⟩: ∃z,3*3^m=z+1:=⟨3*3^m-1,by omega⟩;rw[this,hz]at e;rw[hz,Nat.add_sub_cancel];rw[Nat.mul_add,Nat.mul_one]at e;omega
 have e3:c/3^j=3*3^m-1:=by
  rw[e2,Nat.mul_add_div hp,Nat.div_eq_of_lt (by omega),Nat.add_zero]
 unfold dg at hd;rw[e3]at hd;omega
structure Ra (i c:Nat) where
 j:Nat
 hj:j<=i
 lo:c%3^j=3^j-1
theorem Mf (n i c:Nat) (h0:0<i) (hi:i<n) (hn:n<=4) (hc:c<3^i):
  pb Tryz.prog 81 [.undef] 0 0 i ⟨2,1,lc fI (bG n (cnd i c))⟩ ⟨2,1,lc fI (bG n (Po i c))⟩ (.raw (.bool (decide (c+1<3^i)))):=by
 refine po Tryz.func81 rfl (by kernel_rfl) (by simp) h0 (by simp[lc,bz];omega) (dD _ _) rfl (by simp[lc,bz]) (dD _ _) rfl ?_;rw[Tryz.ntmps81];refine aX (by kernel_rfl) fun _ K=>?_;simp only[kd,ae];apply K
 refine bY (aX (by kernel_rfl) fun _ K=>?_);simp only[kd,aa];apply K;refine f9 (G:=Ra i c) (fun g=>⟨(.one (.sl 0 0 0 i)::jk::jk::jk::.one (.sl 0 0 0 i)::rN i::rN g.j::j16 (jk::[])),Hm [(0,[⟨2,1,lc fI (bG n (Cq i c g.j))⟩])]⟩) (fun g=>i-g.j) ⟨0,by omega,by simp;omega⟩ ?_ ?_
 ·refine aF ⟨?_,trivial⟩ ?_
  ·simp[Jc,famH]
  simp[wk]
 rintro⟨j,hj,lo⟩;simp only;by_cases hm:j<i
 ·have g1:=aU (m:=n) (Cq i c j) (j:=j) (by omega);rw[OE hm]at g1;have hb:=DC c j;by_cases hd:dg c j<1
  ·have hlt:=Iv hm hc hd;have e1:IntKind.i64.wrap (dg c j+1)=dg c j+1:=aP (by omega) (by omega);have s1:=nE n j (Cq i c j) (dg c j+1);rw[L1 lo hd hm]at s1;have eR:Po i c=cnd i (c+1):=if_pos hlt;rw[decide_eq_true hlt,eR];generalize dg c j=d at*
   generalize cnd i (c+1)=X at*
   refine aX (by kernel_rfl) fun _ K=>?_;simp(disch:=omega) only[kd];apply K
   refine qw rfl ?_;refine bY (eh ?_);refine aX (by kernel_rfl) fun _ K=>?_;simp only[kd];apply K
   refine bY (aX (by kernel_rfl) fun _ K=>?_);simp(disch:=omega) only[kd,aa,g1];apply K;refine ji rfl ?_;refine aX (by kernel_rfl) fun _ K=>?_;simp(disch:=omega) only[kd,aa,g1,e1,s1];apply K
   refine fc.weak (aF (tm:=(.one (.sl 0 0 0 i)::j16 (j4 (jk::jk::jk::[])))) (l:=[(0,[⟨2,1,lc fI (bG n X)⟩])]) ⟨rfl,trivial⟩ (by simp[wk])) ?_;refine aX (by kernel_rfl) fun _ K=>?_;simp only[kd];apply K
   refine nj ⟨.inr rfl,_,ca.refl _,rfl,lG _,?_⟩;simp(disch:=omega) only[kd,Tryz.results81]
  have s1:=nE n j (Cq i c j) (-1);rw[Jb]at s1;refine aX (by kernel_rfl) fun _ K=>?_;simp(disch:=omega) only[kd];apply K
  refine qw rfl ?_;refine bY (eh ?_);refine aX (by kernel_rfl) fun _ K=>?_;simp only[kd];apply K
  refine bY (aX (by kernel_rfl) fun _ K=>?_);simp(disch:=omega) only[kd,aa,g1];apply K;refine ia rfl (fC ?_);show fc _ _ _ _ _;refine dz (by kernel_rfl) fun _ K=>?_;simp(disch:=omega) only[kd,aa,g1,s1];apply K
  show fc _ _ _ _ _;refine dz (by kernel_rfl) fun _ K=>?_;simp(disch:=omega) only[kd,aP];apply K
  refine⟨⟨j+1,by omega,II lo hd⟩,by simp only;omega,aF ⟨rfl,trivial⟩ ?_⟩;simp[wk]
 have hji:j=i:=by omega
 subst hji;have hnlt:=Ke lo hc;have eR:Po j c=Cq j c j:=if_neg hnlt;rw[decide_eq_false hnlt,eR];generalize Cq j c j=X at*
 refine aX (by kernel_rfl) fun _ K=>?_;simp(disch:=omega) only[kd];apply K
 refine sX rfl ?_;show fc _ _ _ _ _;refine aX (by kernel_rfl) fun _ K=>?_;simp only[kd];apply K
 refine nj ⟨.inr rfl,_,ca.refl _,rfl,lG _,?_⟩;simp(disch:=omega) only[kd,Tryz.results81]
theorem F8:CallC Tryz.prog 81 [.one (.p (.sl []))] ⟨[],.raw (.bool false)⟩:=by
 refine aJ Tryz.func81 rfl (by kernel_rfl) ?_;rw[Tryz.ntmps81];refine aD fun _ K=>?_;simp only[kd,ae];apply K
 refine aE (aD fun _ K=>?_);simp only[kd,aa];apply K;refine aT (G:=Unit) (fun g=>⟨(j4 (jk::.raw (.int .i64 0)::.raw (.int .i64 0)::j16 (jk::[]))),Hm []⟩) (fun g=>0) () ?_ ?_
 ·refine aF trivial ?_;simp[wk]
 intro _;refine aD fun _ K=>?_;simp(disch:=omega) only[kd];apply K
 refine bJ rfl ?_;show bs _ _ _ _;refine aD fun _ K=>?_;simp only[kd];apply K
 (refine aI ⟨.inr rfl,aH rfl ?_ rfl⟩;simp(disch:=omega) only[kd,Tryz.results81])
theorem Ik {n:Nat} {a:FF} {i c:Nat} (hc:nrm n a (cnd i c)<a i i): ∀m c0,c0<=c->c<c0+m->(∀r,c0<=r->r<c-> ¬nrm n a (cnd i r)<a i i)->KQ n a i m c0=some c
 |0,c0,h1,h2,_=>by omega
 |m+1,c0,h1,h2,h=>by
  rw[KQ];by_cases e:c0=c
  ·subst e;rw[if_pos hc]
  rw[if_neg (h c0 (Nat.le_refl _) (by omega))];exact Ik hc m (c0+1) (by omega) (by omega) fun r h3 h4=>h r (by omega) h4
theorem Il {n:Nat} {a:FF} {i:Nat}: ∀m c0,(∀r,c0<=r->r<c0+m-> ¬nrm n a (cnd i r)<a i i)->KQ n a i m c0=none
 |0,c0,_=>rfl
 |m+1,c0,h=>by
  rw[KQ,if_neg (h c0 (Nat.le_refl _) (by omega))];exact Il m (c0+1) fun r h3 h4=>h r (by omega) (by omega)
theorem tJ {n:Nat} {a:FF} {i c:Nat} (h:mD n a i=some c):VioP n a i:=by
 obtain⟨_,h2,h3⟩:=tG _ _ _ h;exact⟨c,by omega,h3⟩
def vJ (n:Nat) (f:FF) (i:Nat):TV:=match mD n f i with
 |some c=> .one (.p (.sl (ls fI (bG n (cnd i c)))))
 |none=> .raw (.slice none 0 0)
def P4 (i:Nat):Nat->Nat->Int
 |0=>cnd i 0
 |c+1=>Po i c
theorem OT {i c:Nat} (h:c<3^i):P4 i c=cnd i c:=by
 cases c with
 |zero=>rfl
 |succ c=>rw[P4,Po,if_pos h]
def GK (j:Nat):Nat->Int:=fun b=>if b<j then -1 else 0
theorem IN (j:Nat):(fun b=>if b=j then -1 else GK j b)=GK (j+1):=by
 funext b;unfold GK;by_cases h:b=j
 ·subst h;rw[if_pos rfl,if_pos (by omega)]
 by_cases h2:b<j
 ·rw[if_neg h,if_pos h2,if_pos (by omega)]
 rw[if_neg h,if_neg h2,if_neg (by omega)]
theorem LR (i:Nat):(fun b=>if b=i then 1 else GK i b)=cnd i 0:=by
 funext b;unfold GK cnd;by_cases h:b=i
 ·subst h;rw[if_pos rfl,if_neg (by omega),if_pos rfl]
 by_cases h2:b<i
 ·rw[if_neg h,if_pos h2,if_pos h2];unfold dg;rw[Nat.zero_div];rfl
 rw[if_neg h,if_neg h2,if_neg h2,if_neg h]
structure Qv (n:Nat) (f:FF) (i:Nat) where
 c:Nat
 hc:c<=3^i
 ok: ∀r,r<c-> ¬nrm n f (cnd i r)<f i i
theorem Lj (i c j:Nat): -1<=cnd i c j/\cnd i c j<=1:=Hz i c j
theorem Cz (n:Nat) (f:FF) (i:Nat) (hi:i<n) (hn:n<=4) (hf: ∀i j,i<n->j<n-> -1125899906842624<=f i j/\f i j<=1125899906842624):
  CallC Tryz.prog 39 [bi (bu n n f),.raw (.int .i64 (i:Int))] ⟨[],vJ n f i⟩:=by
 have hml:=aV n n f;have hri:=bD n f hi;have hii:=aU (f i) hi;refine aJ Tryz.func39 rfl (by kernel_rfl) ?_;rw[Tryz.ntmps39];refine aD fun _ K=>?_;simp only[kd,bi,aa,ae];apply K
 refine aD fun _ K=>?_;simp(disch:=omega) only[kd,aa,hml];apply K
 refine bs.weak (aF (tm:=(bi (bu n n f)::rN i::jk::jk::jk::.one (.sl 10 0 0 n)::j16 (j16 (jk::[])))) (l:=[(10,[⟨2,1,lc fI (bG n (GK 0))⟩])]) ⟨?_,trivial⟩ (by simp[wk])) ?_
 ·rw[PZ (X:=GK 0) fun j _=>if_neg (by omega)];rfl
 refine aE (aD fun _ K=>?_);simp only[kd,bi];apply K;refine aT (G:=jD i) (fun g=>⟨(bi (bu n n f)::rN i::jk::jk::jk::.one (.sl 10 0 0 n)::rN g.i::j16 (j16 ([]))),Hm [(10,[⟨2,1,lc fI (bG n (GK g.i))⟩])]⟩) (fun g=>i-g.i) ⟨0,by omega⟩ ?_ ?_
 ·refine aF ⟨rfl,trivial⟩ ?_;simp[wk]
 rintro⟨j,hj⟩;simp only;by_cases hm:j<i
 ·have g1:=aU (m:=n) (GK j) (j:=j) (by omega);have s1:=nE n j (GK j) (-1);rw[IN]at s1;have e1:IntKind.i64.wrap ((j:Int)+1)=((j+1:Nat):Int):=by rw[show(j:Int)+1=((j+1:Nat):Int) by omega];exact aP (by omega) (by omega)
  refine aE (aD fun _ K=>?_);simp(disch:=omega) only[kd,aa,bi];apply K;refine aS rfl (aL ?_);refine aE (aK ?_);refine aM fun _ K=>?_;simp(disch:=omega) only[kd,aa,g1,s1];apply K
  show bs _ _ _ _;refine aM fun _ K=>?_;simp only[kd,aa,e1];apply K
  refine⟨⟨j+1,by omega⟩,by simp only;omega,aF ⟨rfl,trivial⟩ ?_⟩;simp[wk]
 have hji:j=i:=by omega
 subst hji;have g1:=aU (m:=n) (GK j) (j:=j) (by omega);have s1:=nE n j (GK j) 1;rw[LR]at s1;refine aE (aD fun _ K=>?_);simp(disch:=omega) only[kd,aa,bi];apply K;refine aO rfl (bK ?_);show bs _ _ _ _;refine aD fun _ K=>?_;simp(disch:=omega) only[kd,aa,g1,s1];apply K
 refine aE (aD fun _ K=>?_);simp only[kd];apply K;refine aT (G:=Qv n f j) (fun g=>⟨(bi (bu n n f)::rN j::jk::jk::jk::.one (.sl 10 0 0 n)::jk::.raw (.bool (decide (g.c<3^j)))::j16 (j4 (j4 (j4 (jk::jk::jk::[]))))),Hm [(10,[⟨2,1,lc fI (bG n (P4 j g.c))⟩])]⟩) (fun g=>3^j-g.c) ⟨0,Nat.zero_le _,fun r hr=>by omega⟩ ?_ ?_
 ·have h3:0<3^j:=Nat.pow_pos (by omega);refine aF ⟨rfl,trivial⟩ ?_;simp[wk,h3]
 rintro⟨c,hc,ok⟩;simp only;by_cases hlt:c<3^j
 ·have hN:=Mg n f (cnd j c) (by omega) hn hf (Lj j c);rw[OT hlt,decide_eq_true hlt];by_cases hv:nrm n f (cnd j c)<f j j
  ·have hF:mD n f j=some c:=Ik hv _ 0 (by omega) (by omega) fun r _ hr=>ok r hr
   have eR:vJ n f j= .one (.p (.sl (ls fI (bG n (cnd j c))))):=by unfold vJ;rw[hF]
   rw[eR];refine aE (aD fun _ K=>?_);simp only[kd,bi];apply K;refine aS rfl (aL ?_);refine aE (aK ?_);refine bv aZ [⟨2,_,_,_,hN⟩] [] (by kernel_rfl) fun _ K=>?_;simp(disch:=omega) only[kd,bi,iU,aa,io,hri,fR,hii];apply K
   refine aS rfl ?_;refine aD fun _ K=>?_;simp only[kd];apply K
   refine aI ⟨.inr rfl,jz 10 (cH rfl) ?_ rfl⟩;simp(disch:=omega) only[kd,Tryz.results39,io]
  have hW:=fun h0:0<j=>Mf n j c h0 hi hn hlt
  refine aE (aD fun _ K=>?_);simp only[kd,bi];apply K;refine aS rfl (aL ?_);refine aE (aK ?_);refine bv aZ [⟨2,_,_,_,hN⟩] [] (by kernel_rfl) fun _ K=>?_;simp(disch:=omega) only[kd,bi,iU,aa,io,hri,fR,hii];apply K
  refine aO rfl (aL ?_);show bs _ _ _ _;have hok: ∀r,r<c+1-> ¬nrm n f (cnd j r)<f j j:=fun r hr=>by
   by_cases e:r=c
   ·subst e;exact hv
   exact ok r (by omega)
  by_cases h0:0<j
  ·have hw:=hW h0
   ((refine sS 3 hw 10 0 [] [] (by simp[wk]) (by omega) (lS rfl) (dD _ _) (by simp[wk]) (by decide) fun K hK=>?_);simp(disch:=omega) only[kd,aa];apply hK;refine⟨⟨rfl,rfl⟩,by simp,?_⟩;intro K hK;simp only[kd,aa,GJ,cwD];apply hK)
   refine⟨⟨c+1,by omega,hok⟩,by simp only;omega,aF ⟨rfl,trivial⟩ ?_⟩;simp[wk]
  have hj0:j=0:=by omega
  subst hj0;have hc0:c=0:=by simpa using hlt
  subst hc0;have hw:=F8;refine kp [⟨3,_,_,_,hw⟩] [] fun _ K=>?_;simp(disch:=omega) only[kd,aa];apply K
  refine⟨⟨1,by simp,hok⟩,by simp,aF ⟨?_,trivial⟩ ?_⟩
  ·have e:P4 0 1=cnd 0 0:=by
    funext b;simp[P4,Po]
   rw[e];rfl
  simp[wk]
 have hF:mD n f j=none:=Il _ 0 fun r _ hr=>ok r (by omega)
 have eR:vJ n f j= .raw (.slice none 0 0):=by unfold vJ;rw[hF]
 rw[eR,decide_eq_false hlt];refine aE (aD fun _ K=>?_);simp only[kd,bi];apply K;refine aO rfl (bK ?_);show bs _ _ _ _;refine aD fun _ K=>?_;simp only[kd];apply K
 (refine aI ⟨.inr rfl,aH rfl ?_ rfl⟩;simp(disch:=omega) only[kd,Tryz.results39])
structure Rf (M:List (List Int)) where
 i:Nat
 hi:i<=M.length
 ok: ∀a,a<i-> ¬VioP M.length (ent M) a
 ok2: ∀a,a+1<i->ent M a a<=ent M (a+1) (a+1)/\0<=ent M a (a+1)
theorem pP (M:List (List Int)) (r:Bool) (hr:r=true↔pe M):CallC Tryz.prog 15 [bi M] ⟨[],.raw (.bool r)⟩:=by
 by_cases hB:Ps M
 ·have cB:=uD M true (by simp[hB]);have hn1:=hB.1.1;have hn4:=hB.1.2;have eM:M=bu M.length M.length (ent M):=iZ (M:=M) (m:=M.length) fun q hq=>(hB.2 q hq).1
  have cO:=EJ M.length M.length (ent M) hn1 (by omega) hn1 (by omega) fun i j hi hj=>by have:=hB.entB hi hj;omega
  obtain⟨e,he,cV⟩:=kX M.length M.length (ent M) hn1 (by omega) hn1 (by omega) fun i j hi hj=>Ho (hB.entB hi hj)
  rw[<- eM]at cO cV;by_cases hP:PD (ent M) M.length
  ·have he0:e=0:=he.2 ⟨rfl,by omega,(Ct.1 hP).1,(Ct.1 hP).2⟩;subst he0;refine aJ Tryz.func15 rfl (by kernel_rfl) ?_;rw[Tryz.ntmps15];refine aD fun _ K=>?_;simp only[kd,bi,ae];apply K
   refine aE (aG [⟨1,_,_,_,cB⟩,⟨5,_,_,_,cO⟩,⟨6,_,_,_,cV⟩] [] fun _ K=>?_);simp(disch:=omega) only[kd,bi,aa,af];apply K;refine aO rfl (aL ?_);show bs _ _ _ _;refine aE (aD fun _ K=>?_);simp only[kd,aa];apply K;refine aT (G:=Rf M) (fun g=>⟨(bi M::j4 (j4 (j4 (jk::rN M.length::rN g.i::j16 (j16 (j4 (j4 (jk::[])))))))),Hm []⟩) (fun g=>M.length-g.i) ⟨0,by omega,fun a ha=>by omega,fun a ha=>by omega⟩ ?_ ?_
   ·refine aF trivial ?_;simp[wk]
   rintro⟨i,hi,ok,ok2⟩;simp only;by_cases hm:i<M.length
   ·have cS:=Cz M.length (ent M) i hm hn4 fun i j hi hj=>hB.entB hi hj
    rw[<- eM]at cS;have key: ∀z:TV,vJ M.length (ent M) i=z->CallC Tryz.prog 39 [bi M,.raw (.int .i64 (i:Int))] ⟨[],z⟩:=fun z hz=>hz▸cS
    cases i with
    |zero=>
     cases hF:mD M.length (ent M) 0 with
     |some c=>
      have hr0:r=false:=by
       cases r with
       |false=>rfl
       |true=>exact absurd (tJ hF) ((hr.1 rfl).2.2 0 hm)
      subst hr0;obtain⟨q,hq⟩: ∃q,q=bG M.length (cnd 0 c):=⟨_,rfl⟩;have cS:=key (.one (.p (.sl (ls fI q)))) (by unfold vJ;rw[hF,hq]);obtain⟨y,l,hyl⟩: ∃y l,q=y::l:=by
       cases q with
       |nil=>have:=congrArg List.length hq;rw[bz]at this;simp at this;omega
       |cons y l=>exact⟨y,l,rfl⟩
      rw[hyl,show ls fI (y::l)=fI y::ls fI l from rfl]at cS;refine aD fun _ K=>?_;simp(disch:=omega) only[kd,bi];apply K
      refine bC rfl ?_;refine aE (aK ?_);refine aD fun _ K=>?_;simp only[kd];apply K
      refine bv aZ [⟨35,_,_,_,cS⟩] [] (by kernel_rfl) fun _ K=>?_;simp(disch:=omega) only[kd,bi,aa];apply K
      refine aS rfl ?_;refine aD fun _ K=>?_;simp only[kd];apply K
      (refine aI ⟨.inr rfl,aH rfl ?_ rfl⟩;simp(disch:=omega) only[kd,Tryz.results15])
     |none=>
      have cS:=key (.raw (.slice none 0 0)) (by unfold vJ;rw[hF]);have hnv:=rC hF;refine aD fun _ K=>?_;simp(disch:=omega) only[kd,bi];apply K
      refine bC rfl ?_;refine aE (aK ?_);refine aD fun _ K=>?_;simp only[kd];apply K
      refine bv aZ [⟨35,_,_,_,cS⟩] [] (by kernel_rfl) fun _ K=>?_;simp(disch:=omega) only[kd,bi,aa];apply K
      refine aO rfl (aL ?_);show bs _ _ _ _;refine aM fun _ K=>?_;simp(disch:=omega) only[kd,aP];apply K
      refine⟨⟨1,by omega,fun a ha=>?_,fun a ha=>by omega⟩,by simp only;omega,aF trivial ?_⟩
      ·have:a=0:=by omega
       subst this;exact hnv
      simp[wk]
    |succ i=>
     have gt:(0:Int)<((i+1:Nat):Int):=by omega
     have e0:IntKind.i64.wrap (((i+1:Nat):Int)-1)=(i:Int):=by rw[show((i+1:Nat):Int)-1=(i:Int) by omega];exact aP (by omega) (by omega)
     have m1:=bD M.length (ent M) (show i<M.length by omega);have m2:=bD M.length (ent M) hm;rw[<- eM]at m1 m2;have q1:=aU (ent M i) (show i<M.length by omega);have q2:=aU (ent M (i+1)) hm;have q3:=aU (ent M i) hm;by_cases hd:ent M (i+1) (i+1)<ent M i i
     ·have hr0:r=false:=by
       cases r with
       |false=>rfl
       |true=>have:=((hr.1 rfl).2.1 i hm).1;omega
      subst hr0;refine aD fun _ K=>?_;simp(disch:=omega) only[kd,bi];apply K
      refine bC rfl ?_;refine aE (aK ?_);refine aD fun _ K=>?_;simp only[kd];apply K
      refine cK aZ (by kernel_rfl) fun _ K=>?_;simp(disch:=omega) only[kd,aa,gt,m2,fR,q2,e0,m1,q1,hd,reduceCtorEq];apply K
      refine aS rfl ?_;refine aD fun _ K=>?_;simp only[kd];apply K
      (refine aI ⟨.inr rfl,aH rfl ?_ rfl⟩;simp(disch:=omega) only[kd,Tryz.results15])
     by_cases hs:ent M i (i+1)<0
     ·have hr0:r=false:=by
       cases r with
       |false=>rfl
       |true=>have:=((hr.1 rfl).2.1 i hm).2;omega
      subst hr0;refine aD fun _ K=>?_;simp(disch:=omega) only[kd,bi];apply K
      refine bC rfl ?_;refine aE (aK ?_);refine aD fun _ K=>?_;simp only[kd];apply K
      refine cK aZ (by kernel_rfl) fun _ K=>?_;simp(disch:=omega) only[kd,aa,gt,m2,fR,q2,e0,m1,q1,hd,q3,hs,reduceCtorEq];apply K
      refine aS rfl ?_;refine aD fun _ K=>?_;simp only[kd];apply K
      (refine aI ⟨.inr rfl,aH rfl ?_ rfl⟩;simp(disch:=omega) only[kd,Tryz.results15])
     cases hF:mD M.length (ent M) (i+1)with
     |some c=>
      have hr0:r=false:=by
       cases r with
       |false=>rfl
       |true=>exact absurd (tJ hF) ((hr.1 rfl).2.2 (i+1) hm)
      subst hr0;obtain⟨q,hq⟩: ∃q,q=bG M.length (cnd (i+1) c):=⟨_,rfl⟩;have cS:=key (.one (.p (.sl (ls fI q)))) (by unfold vJ;rw[hF,hq]);obtain⟨y,l,hyl⟩: ∃y l,q=y::l:=by
       cases q with
       |nil=>have:=congrArg List.length hq;rw[bz]at this;simp at this;omega
       |cons y l=>exact⟨y,l,rfl⟩
      rw[hyl,show ls fI (y::l)=fI y::ls fI l from rfl]at cS;refine aD fun _ K=>?_;simp(disch:=omega) only[kd,bi];apply K
      refine bC rfl ?_;refine aE (aK ?_);refine aD fun _ K=>?_;simp only[kd];apply K
      refine bv aZ [⟨35,_,_,_,cS⟩] [] (by kernel_rfl) fun _ K=>?_;simp(disch:=omega) only[kd,bi,aa,gt,m2,fR,q2,e0,m1,q1,hd,q3,hs];apply K
      refine aS rfl ?_;refine aD fun _ K=>?_;simp only[kd];apply K
      (refine aI ⟨.inr rfl,aH rfl ?_ rfl⟩;simp(disch:=omega) only[kd,Tryz.results15])
     |none=>
      have cS:=key (.raw (.slice none 0 0)) (by unfold vJ;rw[hF]);have hnv:=rC hF;refine aD fun _ K=>?_;simp(disch:=omega) only[kd,bi];apply K
      refine bC rfl ?_;refine aE (aK ?_);refine aD fun _ K=>?_;simp only[kd];apply K
      refine bv aZ [⟨35,_,_,_,cS⟩] [] (by kernel_rfl) fun _ K=>?_;simp(disch:=omega) only[kd,bi,aa,gt,m2,fR,q2,e0,m1,q1,hd,q3,hs];apply K
      refine aO rfl (aL ?_);show bs _ _ _ _;refine aM fun _ K=>?_;simp(disch:=omega) only[kd,aP];apply K
      refine⟨⟨i+1+1,by omega,fun a ha=>?_,fun a ha=>?_⟩,by simp only;omega,aF trivial ?_⟩
      ·by_cases e:a=i+1
       ·subst e;exact hnv
       exact ok a (by omega)
      ·by_cases e:a=i
       ·subst e;exact⟨by omega,by omega⟩
       exact ok2 a (by omega)
      simp[wk]
   have hr1:r=true:=hr.2 ⟨tK.2 ⟨hB,hP⟩,fun a ha=>ok2 a (by omega),fun a ha=>ok a (by omega)⟩;subst hr1;refine aD fun _ K=>?_;simp(disch:=omega) only[kd,bi];apply K
   refine bJ rfl ?_;show bs _ _ _ _;refine aD fun _ K=>?_;simp only[kd];apply K
   (refine aI ⟨.inr rfl,aH rfl ?_ rfl⟩;simp(disch:=omega) only[kd,Tryz.results15])
  have he0:e≠0:=fun h=>hP (Ct.2 ⟨(he.1 h).2.2.1,(he.1 h).2.2.2⟩)
  have hr0:r=false:=by
   cases r with
   |false=>rfl
   |true=>exact absurd (tK.1 (hr.1 rfl).1).2 hP
  subst hr0;refine aJ Tryz.func15 rfl (by kernel_rfl) ?_;rw[Tryz.ntmps15];refine aD fun _ K=>?_;simp only[kd,bi,ae];apply K
  refine aE (aG [⟨1,_,_,_,cB⟩,⟨5,_,_,_,cO⟩,⟨6,_,_,_,cV⟩] [] fun _ K=>?_);simp(disch:=omega) only[kd,bi,aa,af,he0];apply K;refine aS rfl ?_;refine aD fun _ K=>?_;simp only[kd];apply K
  (refine aI ⟨.inr rfl,aH rfl ?_ rfl⟩;simp(disch:=omega) only[kd,Tryz.results15])
 have hr0:r=false:=by
  cases r with
  |false=>rfl
  |true=>exact absurd (tK.1 (hr.1 rfl).1).1 hB
 subst hr0;have cB:=uD M false (by simp[hB]);refine aJ Tryz.func15 rfl (by kernel_rfl) ?_;rw[Tryz.ntmps15];refine aD fun _ K=>?_;simp only[kd,bi,ae];apply K
 refine aE (aG [⟨1,_,_,_,cB⟩] [] fun _ K=>?_);simp(disch:=omega) only[kd,bi,aa,reduceCtorEq,af];apply K;refine aS rfl ?_;refine aD fun _ K=>?_;simp only[kd];apply K
 (refine aI ⟨.inr rfl,aH rfl ?_ rfl⟩;simp(disch:=omega) only[kd,Tryz.results15])
/-! Both say the same. -/
theorem Pf {M Rm t:List (List Int)} (hM:bA M=true) (h4:M.length<=4) (hR:og Rm M.length) (hT:og t M.length):
  Np M Rm t↔pe Rm/\mf t/\ ∀i j,i<M.length->j<M.length->cngF M.length (ent M) (ent t) i j=ent Rm i j:=by
 obtain⟨h1,h8,hsq,hr⟩:=(dw M).1 hM;have eC:jp t=bu M.length M.length (trF (ent t)):=by unfold jp;rw[hT.1]
 have eR:Rm=bu M.length M.length (ent Rm):=by
  have:=iZ (M:=Rm) (m:=M.length) hR.2;rwa[hR.1]at this
 unfold Np Pm;rw[eC,hT.1];generalize ent t=g at*
 have hgd: ∀i,i<M.length->(bu M.length M.length (trF g)).getD i []=bG M.length (trF g i):=fun i hi=>jv _ hi
 have hlen:=aV M.length M.length (trF g);constructor
 ·rintro⟨⟨_,hu,hg⟩,hm,he⟩;refine⟨hm,hu,fun i j hi hj=>?_⟩;have pg:=hg.2 i (by rw[hlen];exact hi) j (by rw[hlen];exact hj);have hx:=pg.x;have hy:=pg.y;rw[hgd i hi]at hx;rw[hgd j hj]at hy;rw[<- EC hM rfl hi hj hx hy,<- he,lD _ hi hj]
 rintro⟨hm,hu,hc⟩;have hb:=fun i j (hi:i<M.length) (hj:j<M.length)=>hm.1.entB (i:=i) (j:=j) (by rw[hR.1];exact hi) (by rw[hR.1];exact hj)
 have hfit: ∀i,i<M.length->FitB M.length (bG M.length (trF g i))=true:=fun i hi=>js fun j hj=>by
  have hN:BF M.length (ent M) (trF g i) (trF g i)<=1125899906842624:=by
   have e:BF M.length (ent M) (trF g i) (trF g i)=cngF M.length (ent M) g i i:=(gB _ _ _ _ _).symm;rw[e,hc i i hi hi];exact(hb i i hi hi).2
  have hp:((2^M.length:Nat):Int)<=16:=by
   have:2^M.length<=2^4:=Nat.pow_le_pow_right (by omega) h4;omega
  have hk:=Fc hr (trF g i) (N:=1125899906842624) (by omega) hN (M:=134217728) (by omega) (M.length-j-1) j (by omega);have hq:2^(M.length-j-1)<=2^3:=Nat.pow_le_pow_right (by omega) (by omega);have:134217728*2^(M.length-j-1)<=134217728*2^3:=Nat.mul_le_mul_left _ hq;omega
 have hv: ∀i j,i<M.length->j<M.length->vG M (bu M.length M.length (trF g)) i j=ent Rm i j:=fun i j hi hj=>by
  rw[EC hM rfl hi hj (hfit i hi) (hfit j hj),hc i j hi hj]
 refine⟨⟨rfl,hu,hM,fun i hi j hj=>?_⟩,hm,?_⟩
 ·rw[hlen]at hi hj;have:=hb i j hi hj;exact⟨by rw[hgd i hi];exact hfit i hi,by rw[hgd j hj];exact hfit j hj,by rw[hv i j hi hj];omega,by rw[hv i j hi hj];omega⟩
 rw[fp hv];exact eR.symm
open Classical in
noncomputable def CE (M Rm t:List (List Int)):Int:=
 if bA M=true then(if M.length<=4 then(if og Rm M.length/\og t M.length then(if pe Rm/\mf t/\(∀i j,i<M.length->j<M.length->cngF M.length (ent M) (ent t) i j=ent Rm i j)then 0 else 10)else 3)else 7)else 6
theorem KE (M Rm t:List (List Int)):yP M Rm t=CE M Rm t:=by
 unfold yP CE;by_cases h1:bA M=true
 ·rw[if_pos h1,if_pos h1];by_cases h2:M.length<=4
  ·rw[if_pos h2,if_pos h2];by_cases h3:og Rm M.length/\og t M.length
   ·rw[if_pos h3,if_pos h3];have:=Pf h1 h2 h3.1 h3.2;by_cases h4:Np M Rm t
    ·rw[if_pos h4,if_pos (this.1 h4)]
    rw[if_neg h4,if_neg fun h=>h4 (this.2 h)]
   rw[if_neg h3,if_neg h3]
  rw[if_neg h2,if_neg h2]
 rw[if_neg h1,if_neg h1]
/-! Matrices of the reference that are equal. -/
structure QY (n:Nat) (f g:FF) where
 i:Nat
 hi:i<=n
 ok: ∀a,a<i-> ∀b,b<n->f a b=g a b
structure QZ (n i:Nat) (f g:FF) where
 j:Nat
 hj:j<=n
 ok: ∀b,b<j->f i b=g i b
theorem Jx (n:Nat) (f g:FF) (hn1:1<=n) (hn:n<=16) (hf: ∀i j,i<n->j<n->Sz (f i j) 1024) (hg: ∀i j,i<n->j<n->Sz (g i j) 1024) (r:Bool) (hr:r=true↔ ∀i j,i<n->j<n->f i j=g i j):
  CallC Tryz.prog 51 [bE (bu n n f),bE (bu n n g)] ⟨[],.raw (.bool r)⟩:=by
 have hS1:=nd (bu n n f);have hS2:=nd (bu n n g);rw[fP (iu f hn1 hn hn1 hn),aV,eI f hn1]at hS1;rw[fP (iu g hn1 hn hn1 hn),aV,eI g hn1]at hS2;have hml:=aV n n f;refine aJ Tryz.func51 rfl (by kernel_rfl) ?_;rw[Tryz.ntmps51];refine aD fun _ K=>?_;simp only[kd,bE,aa,ae];apply K
 refine aG [⟨1,_,_,_,hS1⟩] [] fun _ K=>?_;simp only[kd,bE,aa];apply K
 refine aG [⟨1,_,_,_,hS2⟩] [] fun _ K=>?_;simp only[kd,bE,aa];apply K
 refine aE (aD fun _ K=>?_);simp(disch:=omega) only[kd,aa];apply K;refine aO rfl (aL ?_);show bs _ _ _ _;refine aE (aD fun _ K=>?_);simp only[kd,aa,hml];apply K;refine aT (G:=QY n f g) (fun q=>⟨(bE (bu n n f)::bE (bu n n g)::j16 (j16 (j4 (j4 (.raw (.int .i64 (n:Int))::rN q.i::j16 (j4 (j4 (j4 ([]))))))))),Hm []⟩) (fun q=>n-q.i) ⟨0,by omega,fun a ha=>by omega⟩ ?_ ?_
 ·refine aF trivial ?_;simp[wk]
 rintro⟨i,hi,ok⟩;simp only;by_cases hm:i<n
 ·have a1:=bD n f hm;have a2:=bD n g hm;have l1:=bz n (f i);refine aD fun _ K=>?_;simp(disch:=omega) only[kd,bE];apply K
  refine bC rfl ?_;refine aE (aK ?_);refine aD fun _ K=>?_;simp only[kd];apply K
  refine aD fun _ K=>?_;simp(disch:=omega) only[kd,aa,a1,fR,l1];apply K
  refine aT (G:=QZ n i f g) (fun q=>⟨(bE (bu n n f)::bE (bu n n g)::j4 (j4 (jk::rN i::j16 (j4 (j4 (j4 (jk::jk::rN n::rN i::j4 (jk::jk::rN n::rN q.j::j16 (j4 ([])))))))))),Hm []⟩) (fun q=>n-q.j) ⟨0,by omega,fun a ha=>by omega⟩ ?_ ?_
  ·refine aF trivial ?_;simp[wk]
  rintro⟨j,hj,okj⟩;simp only;by_cases hm2:j<n
  ·have a3:=aU (f i) hm2;have a4:=aU (g i) hm2;have c1:=sI (f i j) (g i j) ((hf i j hm hm2).mono (by omega)) ((hg i j hm hm2).mono (by omega));by_cases he:f i j=g i j
   ·rw[he,qC]at c1;rw[he]at a3;refine aD fun _ K=>?_;simp(disch:=omega) only[kd,bE];apply K
    refine bC rfl ?_;refine aE (aK ?_);refine aD fun _ K=>?_;simp only[kd];apply K
    refine bv aZ [⟨14,_,_,_,c1⟩] [] (by kernel_rfl) fun _ K=>?_;simp(disch:=omega) only[kd,tZ,aa,a1,fR,a3,fZ,a2,a4];apply K
    refine aO rfl (aL ?_);show bs _ _ _ _;refine aM fun _ K=>?_;simp(disch:=omega) only[kd,aP];apply K
    refine⟨⟨j+1,by omega,fun b hb=>?_⟩,by simp only;omega,aF trivial ?_⟩
    ·by_cases e:b=j
     ·subst e;exact he
     exact okj b (by omega)
    simp[wk]
   have hr0:r=false:=by
    cases r with
    |false=>rfl
    |true=>exact absurd (hr.1 rfl i j hm hm2) he
   subst hr0;have hne:=tj he;refine aD fun _ K=>?_;simp(disch:=omega) only[kd,bE];apply K
   refine bC rfl ?_;refine aE (aK ?_);refine aD fun _ K=>?_;simp only[kd];apply K
   refine bv aZ [⟨14,_,_,_,c1⟩] [] (by kernel_rfl) fun _ K=>?_;simp(disch:=omega) only[kd,tZ,aa,a1,fR,a3,fZ,a2,a4];apply K
   refine aS rfl ?_;refine aD fun _ K=>?_;simp only[kd];apply K
   (refine aI ⟨.inr rfl,aH rfl ?_ rfl⟩;simp(disch:=omega) only[kd,Tryz.results51])
  refine aD fun _ K=>?_;simp(disch:=omega) only[kd,bE];apply K
  refine bJ rfl ?_;show bs _ _ _ _;refine aM fun _ K=>?_;simp(disch:=omega) only[kd,aP];apply K
  refine⟨⟨i+1,by omega,fun a ha b hb=>?_⟩,by simp only;omega,aF trivial ?_⟩
  ·by_cases e:a=i
   ·subst e;exact okj b (by omega)
   exact ok a (by omega) b hb
  simp[wk]
 have hr1:r=true:=hr.2 fun a b ha hb=>ok a (by omega) b hb
 subst hr1;refine aD fun _ K=>?_;simp(disch:=omega) only[kd,bE];apply K
 refine bJ rfl ?_;show bs _ _ _ _;refine aD fun _ K=>?_;simp only[kd];apply K
 (refine aI ⟨.inr rfl,aH rfl ?_ rfl⟩;simp(disch:=omega) only[kd,Tryz.results51])
theorem nT (M:List (List Int)) (n:Nat) (hn:n<=1000000) (r:Bool) (hr:r=true↔og M n):CallC Tryz.prog 49 [bi M,.raw (.int .i64 (n:Int))] ⟨[],.raw (.bool r)⟩:=by
 by_cases hl:M.length=n
 ·have hl':(M.length:Int)=(n:Int):=by omega
  refine aJ Tryz.func49 rfl (by kernel_rfl) ?_;rw[Tryz.ntmps49];refine aD fun _ K=>?_;simp only[kd,bi,aa,ae];apply K
  refine aE (aD fun _ K=>?_);simp(disch:=omega) only[kd,aa,hl'];apply K;refine aO rfl (aL ?_);show bs _ _ _ _;refine aE (aD fun _ K=>?_);simp only[kd,aa];apply K;refine aT (G:=PE M n) (fun g=>⟨(jk::rN n::j4 (j4 (jk::bi M::rN M.length::rN g.i::j4 (j4 ([]))))),Hm []⟩) (fun g=>M.length-g.i) ⟨0,by omega,fun a ha=>by omega⟩ ?_ ?_
  ·refine aF trivial ?_;simp[wk]
  rintro⟨i,hi,ok⟩;simp only;by_cases hm:i<M.length
  ·obtain⟨q,hq⟩: ∃q,M[i]?=some q:=⟨M[i],List.getElem?_eq_getElem hm⟩;refine aD fun _ K=>?_;simp(disch:=omega) only[kd,bi];apply K
   refine bC rfl ?_;refine aE (aK ?_);refine aD fun _ K=>?_;simp(disch:=omega) only[kd,aa,hq,fR];apply K
   by_cases hql:q.length=n
   ·refine aD fun _ K=>?_;simp(disch:=omega) only[kd,aa,hql];apply K
    refine aO rfl (aL ?_);show bs _ _ _ _;refine aM fun _ K=>?_;simp(disch:=omega) only[kd,aP];apply K
    refine⟨⟨i+1,by omega,fun a ha q' hq'=>?_⟩,by simp only;omega,aF trivial ?_⟩
    ·by_cases e:a=i
     ·subst e;rw[hq]at hq';injection hq' with hq'
      rw[<- hq'];exact hql
     exact ok a (by omega) q' hq'
    simp[wk]
   have hr0:r=false:=by
    cases r with
    |false=>rfl
    |true=>exact absurd ((hr.1 rfl).2 q (List.mem_of_getElem? hq)) hql
   subst hr0;refine aD fun _ K=>?_;simp(disch:=omega) only[kd,aa];apply K
   refine aS rfl ?_;refine aD fun _ K=>?_;simp only[kd];apply K
   (refine aI ⟨.inr rfl,aH rfl ?_ rfl⟩;simp(disch:=omega) only[kd,Tryz.results49])
  have hr1:r=true:=hr.2 ⟨hl,J4 fun a ha=>ok a (by omega)⟩;subst hr1;refine aD fun _ K=>?_;simp(disch:=omega) only[kd,bi];apply K
  refine bJ rfl ?_;show bs _ _ _ _;refine aD fun _ K=>?_;simp only[kd];apply K
  (refine aI ⟨.inr rfl,aH rfl ?_ rfl⟩;simp(disch:=omega) only[kd,Tryz.results49])
 have hr0:r=false:=by
  cases r with
  |false=>rfl
  |true=>exact absurd (hr.1 rfl).1 hl
 subst hr0;have hl': ¬(M.length:Int)=(n:Int):=by omega
 refine aJ Tryz.func49 rfl (by kernel_rfl) ?_;rw[Tryz.ntmps49];refine aD fun _ K=>?_;simp only[kd,bi,aa,ae];apply K
 refine aE (aD fun _ K=>?_);simp only[kd,aa,hl'];apply K;refine aS rfl ?_;refine aD fun _ K=>?_;simp only[kd];apply K
 (refine aI ⟨.inr rfl,aH rfl ?_ rfl⟩;simp(disch:=omega) only[kd,Tryz.results49])
theorem wO (M Rm t:List (List Int)) (hM:MI M) (hR:MI Rm) (ht:MI t):
  CallC Tryz.prog 19 [bi M,bi Rm,bi t] ⟨[],.raw (.int .i64 (CE M Rm t))⟩:=by
 have c1:=rt M hM;by_cases h1:bA M=true
 ·rw[h1]at c1;by_cases h2:M.length<=4
  ·obtain⟨r1,r8,_,_⟩:=(dw M).1 h1;by_cases h3:og Rm M.length
   ·have q1:=nT Rm M.length (by omega) true (by simp[h3]);by_cases h4:og t M.length
    ·have q2:=nT t M.length (by omega) true (by simp[h4]);have hMs:og M M.length:=by
      obtain⟨_,_,hsq,_⟩:=(dw M).1 h1;exact⟨rfl,fun q hq=>by
       obtain⟨i,hi⟩:=List.mem_iff_getElem?.1 hq;have:=(eH h1).2.2.1 i (List.getElem?_eq_some_iff.1 hi).1;rw[List.getD_eq_getElem?_getD,hi]at this;exact this⟩
     have eY:(pe Rm/\mf t/\ ∀i j,i<M.length->j<M.length->cngF M.length (ent M) (ent t) i j=ent Rm i j)->CE M Rm t=0:=fun h=>by
      unfold CE;rw[if_pos h1,if_pos h2,if_pos ⟨h3,h4⟩,if_pos h]
     have eN: ¬(pe Rm/\mf t/\ ∀i j,i<M.length->j<M.length->cngF M.length (ent M) (ent t) i j=ent Rm i j)->CE M Rm t=10:=fun h=>by
      unfold CE;rw[if_pos h1,if_pos h2,if_pos ⟨h3,h4⟩,if_neg h]
     have e1:=iZ (M:=M) (m:=M.length) hMs.2;have e2:=iZ (M:=Rm) (m:=M.length) h3.2;have e3:=iZ (M:=t) (m:=M.length) h4.2;rw[h3.1]at e2;rw[h4.1]at e3;have b1:=fun i j=>hM.ent i j
     have b2:=fun i j=>hR.ent i j
     have b3:=fun i j=>ht.ent i j
     have cO1:=EJ M.length M.length (ent M) r1 (by omega) r1 (by omega) fun i j _ _=>b1 i j
     have cO2:=EJ M.length M.length (ent Rm) r1 (by omega) r1 (by omega) fun i j _ _=>b2 i j
     have cO3:=EJ M.length M.length (ent t) r1 (by omega) r1 (by omega) fun i j _ _=>b3 i j
     have cC:=rq M.length (ent M) (ent t) r1 (by omega) (fun i j _ _=>(b1 i j).sz (by omega)) (fun i j _ _=>(b3 i j).sz (by omega));have csz: ∀i j:Nat,i<M.length->j<M.length->Sz (cngF M.length (ent M) (ent t) i j) 1024:=fun i j _ _=>
      (xW (b:=2+2+M.length) (c:=2) (fun p hp=>xW (b:=2) (c:=2) (fun q _=>(b3 q i).sz (by omega)) (fun q _=>(b1 q p).sz (by omega))) (fun p _=>(b3 p j).sz (by omega))).mono (by omega)
     have cE:=fun(b:Bool) (hb:b=true↔ ∀i j,i<M.length->j<M.length->cngF M.length (ent M) (ent t) i j=ent Rm i j)=>Jx M.length _ _ r1 (by omega) csz (fun i j _ _=>(b2 i j).sz (by omega)) b hb
     have cU:=OM t ht;rw[<- e1]at cO1;rw[<- e2]at cO2;rw[<- e3]at cO3;rw[<- e1,<- e3]at cC;refine aJ Tryz.func19 rfl (by kernel_rfl) ?_;rw[Tryz.ntmps19];refine aD fun _ K=>?_;simp only[kd,bi,aa,ae];apply K
     refine aE (aG [⟨1,_,_,_,c1⟩] [] fun _ K=>?_);simp only[kd,bi,aa];apply K;refine aO rfl (aL ?_);show bs _ _ _ _;refine aE (aD fun _ K=>?_);simp(disch:=omega) only[kd,aa];apply K;refine aO rfl (aL ?_);show bs _ _ _ _;refine aE (aG [⟨3,_,_,_,q1⟩,⟨9,_,_,_,q2⟩] [] fun _ K=>?_);simp(disch:=omega) only[kd,bi,aa,af];apply K;refine aO rfl (aL ?_);show bs _ _ _ _;by_cases h5:pe Rm
     ·have cI:=pP Rm true (by simp[h5]);by_cases h6:mf t
      ·rw[vo h6]at cU;by_cases h7: ∀i j,i<M.length->j<M.length->cngF M.length (ent M) (ent t) i j=ent Rm i j
       ·have cQ:=cE true ⟨fun _=>h7,fun _=>rfl⟩;rw[<- e2]at cQ;rw[eY ⟨h5,h6,h7⟩];refine aE (aG [⟨1,_,_,_,cI⟩,⟨5,_,_,_,cU⟩,⟨10,_,_,_,cO1⟩,⟨12,_,_,_,cO3⟩,⟨13,_,_,_,cC⟩,⟨15,_,_,_,cO2⟩,⟨16,_,_,_,cQ⟩] [] fun _ K=>?_);simp(disch:=omega) only[kd,bi,bE,aa,af];apply K;refine aO rfl (aL ?_);show bs _ _ _ _;refine aD fun _ K=>?_;simp only[kd];apply K
        (refine aI ⟨.inr rfl,aH rfl ?_ rfl⟩;simp(disch:=omega) only[kd,Tryz.results19])
       have cQ:=cE false ⟨fun h=>(by cases h),fun h=>absurd h h7⟩;rw[<- e2]at cQ;rw[eN fun h=>h7 h.2.2];refine aE (aG [⟨1,_,_,_,cI⟩,⟨5,_,_,_,cU⟩,⟨10,_,_,_,cO1⟩,⟨12,_,_,_,cO3⟩,⟨13,_,_,_,cC⟩,⟨15,_,_,_,cO2⟩,⟨16,_,_,_,cQ⟩] [] fun _ K=>?_);simp(disch:=omega) only[kd,bi,bE,aa,af];apply K;refine aS rfl ?_;refine aD fun _ K=>?_;simp only[kd];apply K
       (refine aI ⟨.inr rfl,aH rfl ?_ rfl⟩;simp(disch:=omega) only[kd,Tryz.results19])
      rw[l7 h6]at cU;rw[eN fun h=>h6 h.2.1];refine aE (aG [⟨1,_,_,_,cI⟩,⟨5,_,_,_,cU⟩] [] fun _ K=>?_);simp(disch:=omega) only[kd,bi,aa,af,reduceCtorEq];apply K;refine aS rfl ?_;refine aD fun _ K=>?_;simp only[kd];apply K
      (refine aI ⟨.inr rfl,aH rfl ?_ rfl⟩;simp(disch:=omega) only[kd,Tryz.results19])
     have cI:=pP Rm false (by simp[h5]);rw[eN fun h=>h5 h.1];refine aE (aG [⟨1,_,_,_,cI⟩] [] fun _ K=>?_);simp only[kd,bi,aa,reduceCtorEq,af];apply K;refine aS rfl ?_;refine aD fun _ K=>?_;simp only[kd];apply K
     (refine aI ⟨.inr rfl,aH rfl ?_ rfl⟩;simp(disch:=omega) only[kd,Tryz.results19])
    have q2:=nT t M.length (by omega) false (by simp[h4]);have eV:CE M Rm t=3:=by unfold CE;rw[if_pos h1,if_pos h2,if_neg fun h=>h4 h.2]
    rw[eV];refine aJ Tryz.func19 rfl (by kernel_rfl) ?_;rw[Tryz.ntmps19];refine aD fun _ K=>?_;simp only[kd,bi,aa,ae];apply K
    refine aE (aG [⟨1,_,_,_,c1⟩] [] fun _ K=>?_);simp only[kd,bi,aa];apply K;refine aO rfl (aL ?_);show bs _ _ _ _;refine aE (aD fun _ K=>?_);simp(disch:=omega) only[kd,aa];apply K;refine aO rfl (aL ?_);show bs _ _ _ _;refine aE (aG [⟨3,_,_,_,q1⟩,⟨9,_,_,_,q2⟩] [] fun _ K=>?_);simp(disch:=omega) only[kd,bi,aa,af];apply K;refine aS rfl ?_;refine aD fun _ K=>?_;simp only[kd];apply K
    (refine aI ⟨.inr rfl,aH rfl ?_ rfl⟩;simp(disch:=omega) only[kd,Tryz.results19])
   have q1:=nT Rm M.length (by omega) false (by simp[h3]);have eV:CE M Rm t=3:=by unfold CE;rw[if_pos h1,if_pos h2,if_neg fun h=>h3 h.1]
   rw[eV];refine aJ Tryz.func19 rfl (by kernel_rfl) ?_;rw[Tryz.ntmps19];refine aD fun _ K=>?_;simp only[kd,bi,aa,ae];apply K
   refine aE (aG [⟨1,_,_,_,c1⟩] [] fun _ K=>?_);simp only[kd,bi,aa];apply K;refine aO rfl (aL ?_);show bs _ _ _ _;refine aE (aD fun _ K=>?_);simp(disch:=omega) only[kd,aa];apply K;refine aO rfl (aL ?_);show bs _ _ _ _;refine aE (aG [⟨3,_,_,_,q1⟩] [] fun _ K=>?_);simp only[kd,bi,aa,reduceCtorEq,af];apply K;refine aS rfl ?_;refine aD fun _ K=>?_;simp only[kd];apply K
   (refine aI ⟨.inr rfl,aH rfl ?_ rfl⟩;simp(disch:=omega) only[kd,Tryz.results19])
  have eV:CE M Rm t=7:=by unfold CE;rw[if_pos h1,if_neg h2]
  rw[eV];have h2':(4:Int)<(M.length:Int):=by omega
  refine aJ Tryz.func19 rfl (by kernel_rfl) ?_;rw[Tryz.ntmps19];refine aD fun _ K=>?_;simp only[kd,bi,aa,ae];apply K
  refine aE (aG [⟨1,_,_,_,c1⟩] [] fun _ K=>?_);simp only[kd,bi,aa];apply K;refine aO rfl (aL ?_);show bs _ _ _ _;refine aE (aD fun _ K=>?_);simp(disch:=omega) only[kd,aa];apply K;refine aS rfl ?_;refine aD fun _ K=>?_;simp only[kd];apply K
  (refine aI ⟨.inr rfl,aH rfl ?_ rfl⟩;simp(disch:=omega) only[kd,Tryz.results19])
 have eV:CE M Rm t=6:=by unfold CE;rw[if_neg h1]
 rw[eV];rw[show bA M=false by simpa using h1]at c1;refine aJ Tryz.func19 rfl (by kernel_rfl) ?_;rw[Tryz.ntmps19];refine aD fun _ K=>?_;simp only[kd,bi,aa,ae];apply K
 refine aE (aG [⟨1,_,_,_,c1⟩] [] fun _ K=>?_);simp only[kd,bi,aa];apply K;refine aS rfl ?_;refine aD fun _ K=>?_;simp only[kd];apply K
 (refine aI ⟨.inr rfl,aH rfl ?_ rfl⟩;simp(disch:=omega) only[kd,Tryz.results19])
end Go.Proofs.YtfgeomlagfomgaaGreatDoor
