/-
  Part 11 of a proof (walks and plain facts).
-/
import Derived.Test.YtpgghglbpcabkaaGreatQ09
set_option linter.all false
set_option maxRecDepth 100000
set_option maxHeartbeats 64000000
namespace Go.Proofs.YtpgghglbpcabkaaGreat
open Go.RowKit
theorem iV {P:Program} {c z:Code} {Q:Exit->AS->Prop} {s S:AS} (h1:bT P c (lJ (fun s'=>dG s' S) Q) s) (h2:bT P z Q S):bT P c (lJ (bT P z Q) Q) s:=h1.mono fun e s' h=>by
 cases e with
 |normal=>exact bT.weak h h2
 |_=>exact h
theorem Sz.mul {a b:Int} {k l:Nat} (ha:Sz a k) (hb:Sz b l):Sz (a*b) (k+l):=by
 unfold Sz at*;rw[Int.natAbs_mul,Nat.pow_add];exact Nat.mul_lt_mul'' ha hb
theorem Sz.sub {a b:Int} {k:Nat} (ha:Sz a k) (hb:Sz b k):Sz (a-b) (k+1):=by
 unfold Sz at*
 have:=Int.natAbs_sub_le a b
 rw[Nat.pow_succ]
 generalize 4294967296^k=p at*
 omega
theorem Sz.add {a b:Int} {k:Nat} (ha:Sz a k) (hb:Sz b k):Sz (a+b) (k+1):=by
 unfold Sz at*
 have:=Int.natAbs_add_le a b
 rw[Nat.pow_succ]
 generalize 4294967296^k=p at*
 omega
theorem Sz.ediv {a:Int} {k:Nat} (ha:Sz a k) (b:Int):Sz (a/b) k:=ha.le (Int.natAbs_ediv_le_natAbs a b)
theorem zU {f:Nat->Nat->Int} {n k:Nat}: ∀m p,n-p=m->piv f n k p<n->p<=piv f n k p/\f (piv f n k p) k≠0
 |0,p,hm,h=>by rw[mS (by omega)]at h;omega
 |m+1,p,hm,h=>by
  by_cases h0:f p k=0
  ·rw[pS (by omega) h0]at h⊢
   have:=zU m (p+1) (by omega) h
   exact⟨by omega,this.2⟩
  ·rw[pR (by omega) h0]at h⊢
   exact⟨by omega,h0⟩
theorem wc {f:Nat->Nat->Int} {n k:Nat}: ∀m p,n-p=m->piv f n k p<=n
 |0,p,hm=>by rw[mS (by omega)];omega
 |m+1,p,hm=>by
  by_cases h0:f p k=0
  ·rw[pS (by omega) h0];exact wc m (p+1) (by omega)
  ·rw[pR (by omega) h0];omega
def eO (k:Nat) (last:Int) (g:Nat->Nat->Int) (i j:Nat):Nat->Nat->Int:=fun a b=>if k<a/\k<b/\(a<i\/(a=i/\b<j))then(g k k*g a b-g a k*g k b)/last else g a b
theorem Bl {k i j:Nat} (last:Int) (g:Nat->Nat->Int) (hi:k<i) (hj:k<j) (a b:Nat):upd (eO k last g i j) i j ((g k k*g i j-g i k*g k j)/last) a b=eO k last g i (j+1) a b:=by
 unfold upd eO
 by_cases h1:a=i
 ·subst h1
  by_cases h2:b=j
  ·subst h2;simp[hi,hj]
  ·have:b<j+1↔b<j:=by omega
   simp[h2,this]
 ·simp[h1]
theorem EX {k n:Nat} (last:Int) (g:Nat->Nat->Int) (i a b:Nat) (hb:b<n):eO k last g i n a b=eO k last g (i+1) (k+1) a b:=by
 unfold eO
 have:(k<a/\k<b/\(a<i\/a=i/\b<n))↔(k<a/\k<b/\(a<i+1\/a=i+1/\b<k+1)):=by omega
 simp only[this]
theorem Bm (k:Nat) (last:Int) (g:Nat->Nat->Int):eO k last g (k+1) (k+1)=g:=by
 funext a b
 unfold eO
 rw[if_neg (by omega)]
theorem EW {k n:Nat} (last:Int) (g:Nat->Nat->Int) (a b:Nat) (ha:a<n):eO k last g n (k+1) a b=EY k last g a b:=by
 unfold eO EY
 have:(k<a/\k<b/\(a<n\/a=n/\b<k+1))↔(k<a/\k<b):=by omega
 simp only[this]
theorem iC {k i j a b:Nat} (last:Int) (g:Nat->Nat->Int) (h: ¬(k<a/\k<b/\(a<i\/(a=i/\b<j)))):eO k last g i j a b=g a b:=by
 unfold eO;rw[if_neg h]
theorem vX {d n p k:Nat} (g:Nat->Nat->Int) (hp:p<n) (hk:k<n) (hne:k≠p) (r:Nat):(gV d n n (swp p k g))[r]?=
  (((⟨91,1,((gY d (List.replicate n n)).set p [.sl d (k+1) 0 n]).set k [.sl d (p+1) 0 n]⟩::(cd n n g).map lN:List OObj))[sw (p+1) (k+1) r]?).map (BD d (p+1) (k+1)):=by
 cases r with
 |zero=>
  rw[show sw (p+1) (k+1) 0=0 by simp[sw]]
  simp only[List.getElem?_cons_zero,Option.map_some,BD]
  congr 2
  apply List.ext_getElem?
  intro i
  rw[List.getElem?_map,List.getElem?_set,List.getElem?_set,List.length_set,dN,List.length_replicate]
  by_cases hi:i<n
  ·rw[cX d n hi]
   by_cases h1:k=i
   ·subst h1
    simp[hi,mZ,qO,sw]
   ·by_cases h2:p=i
    ·subst h2
     simp[h1,hi,mZ,qO,sw]
    ·have h1': ¬i=k:=fun e=>h1 e.symm
     have h2': ¬i=p:=fun e=>h2 e.symm
     simp[h1,h2,h1',h2',mZ,qO,sw]
  ·have h1: ¬k=i:=by omega
   have h2: ¬p=i:=by omega
   rw[if_neg h1,if_neg h2,List.getElem?_eq_none (by rw[dN,List.length_replicate];omega)];rfl
 |succ r=>
  have hsw:sw (p+1) (k+1) (r+1)=sw p k r+1:=by
   unfold sw
   by_cases h1:r=p
   ·simp[h1]
   ·by_cases h2:r=k
    ·simp[h1,h2,hne]
    ·simp[h1,h2]
  have hO: ∀l:List Int,BD d (p+1) (k+1) (lN l)=lN l:=fun l=>by
   simp only[BD,lN,lc,List.map_map]
   congr 1
  rw[hsw,List.getElem?_cons_succ,List.getElem?_cons_succ,List.getElem?_map,List.getElem?_map]
  by_cases hr:r<n
  ·have hs:sw p k r<n:=by unfold sw;split<;>(try split)<;>omega
   rw[cS _ _ hr,cS _ _ hs]
   simp only[Option.map_some,hO]
   congr 3
   unfold swp sw
   by_cases h1:r=p
   ·simp[h1]
   ·by_cases h2:r=k
    ·simp[h1,h2,hne]
    ·simp[h1,h2]
  ·have hs: ¬sw p k r<n:=by unfold sw;rw[if_neg (by omega),if_neg (by omega)];exact hr
   rw[List.getElem?_eq_none (by rw[bQ];omega),List.getElem?_eq_none (by rw[bQ];omega)];rfl
structure KP (n:Nat) (f:Nat->Nat->Int) where
 k:Nat
 g:Nat->Nat->Int
 last:Int
 neg:Bool
 b:Nat
 hk:k<=n
 hv:detG n k g last neg=detF n f
 hl:last≠0
 hb:b+1<=1025*2^k
 sg: ∀i j,i<n->j<n->Sz (g i j) b
 sl:Sz last b
structure KQ (n k:Nat) (g:Nat->Nat->Int) where
 p:Nat
 hkp:k<=p
 hp:p<=n
 hv:piv g n k p=piv g n k k
structure Ks (n k:Nat) where
 i:Nat
 hk:k+1<=i
 hi:i<=n
abbrev vr (v:Int):List OObj:=wQ (decide (v<0)) (be v.natAbs)
theorem wz:sg 0=0:=rfl
theorem FD {z:Int} (h:z≠0):sg z≠0:=by unfold sg;split<;>simp[h]
theorem kw {k:Nat} (h:k<=16):2^k<=65536:=Nat.pow_le_pow_right (n:=2) (by omega) h
theorem gF (n:Nat) (f:Nat->Nat->Int) (hn1:1<=n) (hn:n<=16) (hf: ∀i j,i<n->j<n->Sz (f i j) 1024):
  CallC Tryz.prog 93 [ci (cd n n f)] ⟨[],tZ (detF n f)⟩:=by
 have hC:=Du n n f (by omega) hn1 (by omega) (fun i j hi hj=>(hf i j hi hj).mono (by omega))
 have hS:=gB 1 (by omega) (by omega)
 refine ax Tryz.func93 rfl (by kernel_rfl) ?_;rw[Tryz.ntmps93]
 (refine aa [] fun K hK=>?_;simp(disch:=omega) only[kc,ab,ci,List.replicate,bu,aN,aC,bi,Value.oneCell',Nat.reduceAdd,bH];apply hK)
 (refine aa [⟨1,_,_,_,hC⟩] fun K hK=>?_;simp(disch:=omega) only[kc,ci,ar.a,ab,Nat.reduceAdd,ai,aN,aC,List.find?_cons,aD,aX,CallRes.plain,List.isEmpty_cons,aF,aH,ap,Bool.not_false,noRefTV,am,Bool.or_false,aG,aE,dm,aJ,Nat.reduceEqDiff];apply hK)
 (refine aa [] fun K hK=>?_;simp(disch:=omega) only[kc,ab,Nat.reduceAdd,aw,au,aZ];apply hK)
 (refine aa [⟨0,_,_,_,hS⟩] fun K hK=>?_;simp(disch:=omega) only[kc,tZ,bf,ar.a,ab,Nat.reduceAdd,ai,aN,aC,List.find?_cons,aD,ac,Value.oneCell',aX,CallRes.plain,aF,aH,ap,noRefTV,am,aG,aE,bu,bi,bH,aJ,Nat.reduceEqDiff,cP,az,df,bJ,aM,cellsOf,Nat.le_refl,isPure,putCells,aS,aT];apply hK)
 (refine ae (aa [] fun K hK=>?_);simp(disch:=omega) only[kc,ab,ac,Value.oneCell'];apply hK)
 refine bD (G:=KP n f) (fun g=>⟨[jk,jk,.one (.ptr 2 0 0 0),.one (.sl 12 0 0 n),.raw (.int .i64 (n:Int)),.one (.ptr 5 0 0 0),.raw (.bool g.neg),.raw (.int .i64 (g.k:Int)),jk,jk,jk,jk,jk,jk,jk,jk,jk,jk,jk,jk,jk,jk,jk,jk,jk,jk,jk,jk,jk,jk,jk,jk,jk,jk,jk,jk,jk,jk,jk,jk,jk,jk,jk,jk,jk,jk,jk,jk,jk,jk,jk,jk,jk,jk,jk,jk,jk,jk,jk,jk,jk,jk,jk,jk,jk,jk,jk,jk,jk,jk,jk,jk,jk,jk,jk,jk,jk,jk,jk,jk,jk,jk,jk,jk,jk,jk,jk,jk,jk,jk,jk,jk,jk,jk,jk,jk,jk,jk,jk,jk,jk,jk,jk,jk,jk,jk,jk,jk,jk,jk,jk,jk,jk,jk,jk,jk,jk,jk,jk,jk,jk,jk,jk,jk,jk],Hm [(2,qp),(5,vr g.last),(12,gV 12 n n g.g)]⟩) (fun g=>n-g.k) ⟨0,f,1,false,1024,by omega,rfl,by omega,by omega,hf,mr (by omega)⟩ ?_ ?_
 ·refine aj ⟨rfl,rfl,?_,trivial⟩ ?_
  ·exact gM 0 12 n n f
  ·simp[b9,bo,bj]
 ·rintro⟨k,g,last,neg,b,hk,hv,hl,hb,sgz,slz⟩
  simp only
  by_cases hm:k<n
  ·have h2k:=kw (k:=k) (by omega)
   have hbb:b<=67174400:=by omega
   have hvk:detG n k g last neg=if piv g n k k=n then 0 else detG n (k+1) (EY k last (Gd n k g)) (Gd n k g k k) (neg !=decide (k<piv g n k k)):=by rw[detG,if_pos hm]
   (refine ae (aa [] fun K hK=>?_);simp(disch:=omega) only[kc,ab,Nat.reduceAdd,Hm,ak,ah,bA];apply hK)
   refine af rfl (fun _=>aq ?_) (fun h=>by simp at h<;>omega)
   refine ae (aI ?_)
   (refine aa [] fun K hK=>?_;simp(disch:=omega) only[kc,ab];apply hK)
   refine ae (iV (S:=⟨[jk,jk,.one (.ptr 2 0 0 0),.one (.sl 12 0 0 n),.raw (.int .i64 (n:Int)),.one (.ptr 5 0 0 0),.raw (.bool neg),.raw (.int .i64 (k:Int)),.raw (.int .i64 ((piv g n k k:Nat):Int)),jk,jk,jk,jk,jk,jk,jk,jk,jk,jk,jk,jk,jk,jk,jk,jk,jk,jk,jk,jk,jk,jk,jk,jk,jk,jk,jk,jk,jk,jk,jk,jk,jk,jk,jk,jk,jk,jk,jk,jk,jk,jk,jk,jk,jk,jk,jk,jk,jk,jk,jk,jk,jk,jk,jk,jk,jk,jk,jk,jk,jk,jk,jk,jk,jk,jk,jk,jk,jk,jk,jk,jk,jk,jk,jk,jk,jk,jk,jk,jk,jk,jk,jk,jk,jk,jk,jk,jk,jk,jk,jk,jk,jk,jk,jk,jk,jk,jk,jk,jk,jk,jk,jk,jk,jk,jk,jk,jk,jk,jk,jk,jk,jk,jk,jk,jk],Hm [(2,qp),(5,vr last),(12,gV 12 n n g)]⟩) ?_ ?_)
   ·refine bD (G:=KQ n k g) (fun q=>⟨[jk,jk,.one (.ptr 2 0 0 0),.one (.sl 12 0 0 n),.raw (.int .i64 (n:Int)),.one (.ptr 5 0 0 0),.raw (.bool neg),.raw (.int .i64 (k:Int)),.raw (.int .i64 (q.p:Int)),jk,jk,jk,jk,jk,jk,jk,jk,jk,jk,jk,jk,jk,jk,jk,jk,jk,jk,jk,jk,jk,jk,jk,jk,jk,jk,jk,jk,jk,jk,jk,jk,jk,jk,jk,jk,jk,jk,jk,jk,jk,jk,jk,jk,jk,jk,jk,jk,jk,jk,jk,jk,jk,jk,jk,jk,jk,jk,jk,jk,jk,jk,jk,jk,jk,jk,jk,jk,jk,jk,jk,jk,jk,jk,jk,jk,jk,jk,jk,jk,jk,jk,jk,jk,jk,jk,jk,jk,jk,jk,jk,jk,jk,jk,jk,jk,jk,jk,jk,jk,jk,jk,jk,jk,jk,jk,jk,jk,jk,jk,jk,jk,jk,jk,jk,jk],Hm [(2,qp),(5,vr last),(12,gV 12 n n g)]⟩) (fun q=>n-q.p) ⟨k,by omega,by omega,rfl⟩ ?_ ?_
    ·refine aj ⟨rfl,rfl,rfl,trivial⟩ ?_
     simp[b9,bo,bj]
    ·rintro⟨p,hkp,hp,hpv⟩
     simp only
     by_cases hpn:p<n
     ·have g1:=cX (n:=n) (i:=p) 12 n hpn
      have g2:=eY n g hpn
      have g3:=bK (g p) hm
      have hSg:=mj (g p k) ((sgz p k hpn hm).mono (by omega))
      by_cases h0:g p k=0
      ·rw[h0]at hSg g3
       (refine ae (aa [⟨11,_,_,_,hSg⟩] fun K hK=>?_);simp(disch:=omega) only[kc,tZ,bf,wz,ar.a,ab,Nat.reduceAdd,Hm,ak,ah,bA,aB,ag,au,ao,aZ,Nat.reduceEqDiff,bH,cP,cw,g1,aA,cu,bL,g2,aM,cb,fZ,g3,aW,Nat.le_refl,ai,aN,aC,List.find?_cons,aD,aX,CallRes.plain,aF,aH,ap,isPure,noRefTV,am,aG,aE,ac,Value.oneCell',aQ];apply hK)
       refine af rfl (fun _=>aq ?_) (fun h=>by simp at h)
       refine aI ?_
       ((refine aU [] [] (by simp) fun K hK=>?_);simp(disch:=omega) only[kc,ab,Nat.reduceAdd,ak,ac,Value.oneCell',ah,bC];apply hK)
       refine⟨⟨p+1,by omega,by omega,?_⟩,by simp only;omega,aj ⟨rfl,rfl,rfl,trivial⟩ ?_⟩
       ·rw[<- hpv,pS hpn h0]
       ·simp[b9,bo,bj]
      ·have hs0:=FD h0
       (refine ae (aa [⟨11,_,_,_,hSg⟩] fun K hK=>?_);simp(disch:=omega) only[kc,tZ,ar.a,ab,Nat.reduceAdd,Hm,ak,ah,bA,aB,ag,au,ao,aZ,Nat.reduceEqDiff,bH,cP,cw,g1,aA,cu,bL,g2,aM,cb,fZ,g3,aW,Nat.le_refl,ai,aN,aC,List.find?_cons,aD,aX,CallRes.plain,aF,aH,ap,isPure,noRefTV,am,aG,aE,ac,Value.oneCell',bf,aQ];apply hK)
       refine af rfl (fun h=>by simp at h<;>omega) (fun _=>bv ?_)
       show dG _ _
       have hpe:piv g n k k=p:=by rw[<- hpv,pR hpn h0]
       refine aj ⟨rfl,rfl,rfl,trivial⟩ ?_
       simp[b9,bo,bj,hpe]
     ·have hpe:piv g n k k=p:=by rw[<- hpv,mS hpn];omega
      (refine ae (aa [] fun K hK=>?_);simp(disch:=omega) only[kc,ab,Nat.reduceAdd,Hm,ak,ah,bf,aB,ag,au,Option.map_none,ai,aN,aC,List.find?_nil,aD,ac,Value.oneCell',aQ];apply hK)
      refine af rfl (fun h=>by simp at h) (fun _=>bv ?_)
      show dG _ _
      refine aj ⟨rfl,rfl,rfl,trivial⟩ ?_
      simp[b9,bo,bj,hpe]
   ·have hpl:=wc (f:=g) (n:=n) (k:=k) (n-k) k rfl
    have hpn':=zU (f:=g) (n:=n) (k:=k) (n-k) k rfl
    generalize hpp:piv g n k k=p at*
    by_cases hpn:p=n
    ·rw[if_pos hpn]at hvk
     (refine ae (aa [] fun K hK=>?_);simp(disch:=omega) only[kc,ab,Nat.reduceAdd,Hm,ak,ah,bA];apply hK)
     refine af rfl (fun _=>?_) (fun h=>by simp at h<;>omega)
     (refine aa [] fun K hK=>?_;simp(disch:=omega) only[kc,ab,eC,au,bi,fO,Value.oneCell',fm,az,df,bJ,aM,Nat.reduceEqDiff,cP,cellsOf,Nat.reduceAdd,Nat.le_refl,isPure,bH,putCells,aS,aT];apply hK)
     refine bT.weak (gL 2) ?_
     refine ay ⟨.inr rfl,aO rfl ?_ rfl⟩
     rw[<- hv,hvk]
     simp(disch:=omega) only[kc,bE,Tryz.results93,aP,zH,aJ,Nat.reduceEqDiff,cP,bH,zO,yA,yE,aA,aM,aW,Nat.reduceAdd,Nat.le_refl,tZ,bf]
     simp[dx,ls]
    ·rw[if_neg hpn]at hvk
     obtain⟨hkp,hpk0⟩:=hpn' (by omega)
     (refine ae (aa [] fun K hK=>?_);simp(disch:=omega) only[kc,ab,Nat.reduceAdd,Hm,ak,ah,bf];apply hK)
     refine af rfl (fun h=>by simp at h<;>omega) (fun _=>aq ?_)
     show bT _ _ _ _
     (refine ae (aa [] fun K hK=>?_);simp(disch:=omega) only[kc,ab,Nat.reduceAdd,ak,ah];apply hK)
     refine iV (S:=⟨[jk,jk,.one (.ptr 2 0 0 0),.one (.sl 12 0 0 n),.raw (.int .i64 (n:Int)),.one (.ptr 5 0 0 0),.raw (.bool (neg !=decide (k<p))),.raw (.int .i64 (k:Int)),jk,jk,jk,jk,jk,jk,jk,jk,jk,jk,jk,jk,jk,jk,jk,jk,jk,jk,jk,jk,jk,jk,jk,jk,jk,jk,jk,jk,jk,jk,jk,jk,jk,jk,jk,jk,jk,jk,jk,jk,jk,jk,jk,jk,jk,jk,jk,jk,jk,jk,jk,jk,jk,jk,jk,jk,jk,jk,jk,jk,jk,jk,jk,jk,jk,jk,jk,jk,jk,jk,jk,jk,jk,jk,jk,jk,jk,jk,jk,jk,jk,jk,jk,jk,jk,jk,jk,jk,jk,jk,jk,jk,jk,jk,jk,jk,jk,jk,jk,jk,jk,jk,jk,jk,jk,jk,jk,jk,jk,jk,jk,jk,jk,jk,jk,jk,jk],Hm [(2,qp),(5,vr last),(12,gV 12 n n (swp p k g))]⟩) ?_ ?_
     ·by_cases hlt:k<p
      ·have g1:=cX (n:=n) (i:=p) 12 n (by omega)
       have g2:=cX (n:=n) (i:=k) 12 n (by omega)
       refine af rfl (fun _=>?_) (fun h=>by simp at h<;>omega)
       have g4:((gY 12 (List.replicate n n)).set p [.sl 12 (k+1) 0 n])[k]?=some [.sl 12 (k+1) 0 n]:=by
        rw[List.getElem?_set_ne (by omega),g2]
       (refine bS bY [] [] (by kernel_rfl) (by simp) fun K hK=>?_;simp(disch:=omega) only[kc,ab,Nat.reduceAdd,bA,ag,au,ao,aZ,Nat.reduceEqDiff,cP,cw,bH,g2,aA,cu,g1,az,df,bJ,putCells,aS,aT,aJ,g4,reduceCtorEq,false_and,List.length_map];apply hK)
       ((refine aU [] [] (by simp) fun K hK=>?_);simp(disch:=omega) only[kc,ab,Nat.reduceAdd,bW,ak,dc];apply hK)
       refine(vh 12 (p+1) (k+1) (gV 12 n n (swp p k g)) (vX g (by omega) hm (by omega))).trans (aj ⟨rfl,rfl,rfl,trivial⟩ ?_)
       simp[b9,bo,bj,FN,mZ,qO,sw,hlt]
      ·have hpk:p=k:=by omega
       subst hpk
       refine af rfl (fun h=>by simp at h<;>omega) (fun _=>aq ?_)
       show dG _ _
       rw[po]
       refine aj ⟨rfl,rfl,rfl,trivial⟩ ?_
       simp[b9,bo,bj]
     ·rw[Gd,hpp]at hvk
      have hkk:swp p k g k k≠0:=by
       unfold swp
       by_cases h:k=p
       ·subst h;rw[if_pos rfl];exact hpk0
       ·rw[if_neg h,if_pos rfl];exact hpk0
      have hsz: ∀i j,i<n->j<n->Sz (swp p k g i j) b:=fun i j hi hj=>by
       unfold swp
       split
       ·exact sgz k j hm hj
       ·split
        ·exact sgz p j (by omega) hj
        ·exact sgz i j hi hj
      generalize swp p k g=g' at*
      generalize(neg !=decide (k<p))=neg' at*
      (refine ae (aa [] fun K hK=>?_);simp(disch:=omega) only[kc,ab,Nat.reduceAdd,Hm,ak,ac,Value.oneCell',ah,bC];apply hK)
      refine bD (G:=Ks n k) (fun q=>⟨[jk,jk,.one (.ptr 2 0 0 0),.one (.sl 12 0 0 n),.raw (.int .i64 (n:Int)),.one (.ptr 5 0 0 0),.raw (.bool neg'),.raw (.int .i64 (k:Int)),jk,.raw (.int .i64 (q.i:Int)),jk,jk,jk,jk,jk,jk,jk,jk,jk,jk,jk,jk,jk,jk,jk,jk,jk,jk,jk,jk,jk,jk,jk,jk,jk,jk,jk,jk,jk,jk,jk,jk,jk,jk,jk,jk,jk,jk,jk,jk,jk,jk,jk,jk,jk,jk,jk,jk,jk,jk,jk,jk,jk,jk,jk,jk,jk,jk,jk,jk,jk,jk,jk,jk,jk,jk,jk,jk,jk,jk,jk,jk,jk,jk,jk,jk,jk,jk,jk,jk,jk,jk,jk,jk,jk,jk,jk,jk,jk,jk,jk,jk,jk,jk,jk,jk,jk,jk,jk,jk,jk,jk,jk,jk,jk,jk,jk,jk,jk,jk,jk,jk,jk,jk,jk],Hm [(2,qp),(5,vr last),(12,gV 12 n n (eO k last g' q.i (k+1)))]⟩) (fun q=>n-q.i) ⟨k+1,by omega,by omega⟩ ?_ ?_
      ·rw[Bm]
       refine aj ⟨rfl,rfl,rfl,trivial⟩ ?_
       simp[b9,bo,bj]
      ·rintro⟨i,hki,hin⟩
       simp only
       by_cases hi:i<n
       ·(refine ae (aa [] fun K hK=>?_);simp(disch:=omega) only[kc,ab,Nat.reduceAdd,Hm,ak,ah,bA];apply hK)
        refine af rfl (fun _=>aq ?_) (fun h=>by simp at h<;>omega)
        refine ae (aI ?_)
        (refine aa [] fun K hK=>?_;simp(disch:=omega) only[kc,ab,Nat.reduceAdd,ak,ac,Value.oneCell',ah,bC];apply hK)
        refine bD (G:=Ks n k) (fun q=>⟨[jk,jk,.one (.ptr 2 0 0 0),.one (.sl 12 0 0 n),.raw (.int .i64 (n:Int)),.one (.ptr 5 0 0 0),.raw (.bool neg'),.raw (.int .i64 (k:Int)),jk,.raw (.int .i64 (i:Int)),.raw (.int .i64 (q.i:Int)),jk,jk,jk,jk,jk,jk,jk,jk,jk,jk,jk,jk,jk,jk,jk,jk,jk,jk,jk,jk,jk,jk,jk,jk,jk,jk,jk,jk,jk,jk,jk,jk,jk,jk,jk,jk,jk,jk,jk,jk,jk,jk,jk,jk,jk,jk,jk,jk,jk,jk,jk,jk,jk,jk,jk,jk,jk,jk,jk,jk,jk,jk,jk,jk,jk,jk,jk,jk,jk,jk,jk,jk,jk,jk,jk,jk,jk,jk,jk,jk,jk,jk,jk,jk,jk,jk,jk,jk,jk,jk,jk,jk,jk,jk,jk,jk,jk,jk,jk,jk,jk,jk,jk,jk,jk,jk,jk,jk,jk,jk,jk,jk,jk,jk],Hm [(2,qp),(5,vr last),(12,gV 12 n n (eO k last g' i q.i))]⟩) (fun q=>n-q.i) ⟨k+1,by omega,by omega⟩ ?_ ?_
        ·refine aj ⟨rfl,rfl,rfl,trivial⟩ ?_
         simp[b9,bo,bj]
        ·rintro⟨j,hkj,hjn⟩
         simp only
         by_cases hj:j<n
         ·have a1:=cX (n:=n) (i:=i) 12 n hi
          have a2:=cX (n:=n) (i:=k) 12 n hm
          have a3:=eY n (eO k last g' i j) hi
          have a4:=eY n (eO k last g' i j) hm
          have a5:(de n (eO k last g' i j k))[k]?=some (g' k k):=by rw[bK _ hm,iC _ _ (by omega)]
          have a6:(de n (eO k last g' i j i))[j]?=some (g' i j):=by rw[bK _ hj,iC _ _ (by omega)]
          have a7:(de n (eO k last g' i j i))[k]?=some (g' i k):=by rw[bK _ hm,iC _ _ (by omega)]
          have a8:(de n (eO k last g' i j k))[j]?=some (g' k j):=by rw[bK _ hj,iC _ _ (by omega)]
          have z1:=hsz k k hm hm
          have z2:=hsz i j hi hj
          have z3:=hsz i k hi hm
          have z4:=hsz k j hm hj
          have c1:=lG (g' k k) (g' i j) (z1.mono (by omega)) (z2.mono (by omega))
          have c2:=lG (g' i k) (g' k j) (z3.mono (by omega)) (z4.mono (by omega))
          have c3:=Iw (g' k k*g' i j) (g' i k*g' k j) ((z1.mul z2).mono (by omega)) ((z3.mul z4).mono (by omega))
          have c4:=At (g' k k*g' i j-g' i k*g' k j) last hl (((z1.mul z2).sub (z3.mul z4)).mono (by omega)) (slz.mono (by omega))
          (refine ae (aa [] fun K hK=>?_);simp(disch:=omega) only[kc,ab,Nat.reduceAdd,Hm,ak,ah,bA];apply hK)
          refine af rfl (fun _=>aq ?_) (fun h=>by simp at h<;>omega)
          refine ae (aI ?_)
          ((refine dW bY [⟨19,_,_,_,c1⟩,⟨34,_,_,_,c2⟩,⟨35,_,_,_,c3⟩,⟨37,_,_,_,c4⟩] [] (by kernel_rfl) (by simp) fun K hK=>?_);simp(disch:=omega) only[kc,tZ,ar.a,ab,Nat.reduceAdd,ag,au,ao,aZ,Nat.reduceEqDiff,cP,cw,bH,a1,aA,cu,a2,bL,a4,aM,cb,fZ,a5,aW,Nat.le_refl,a3,a6,ai,aN,aC,List.find?_cons,aD,aX,CallRes.plain,aF,aH,ap,isPure,noRefTV,am,aG,aE,a7,a8,Nat.reduceBEq,az,df,bJ,cellsOf,putCells,jO,aS,aT];apply hK)
          show bT _ _ _ _
          ((refine aU [] [] (by simp) fun K hK=>?_);simp(disch:=omega) only[kc,ab,Nat.reduceAdd,ak,ac,Value.oneCell',ah,bC];apply hK)
          refine⟨⟨j+1,by omega,by omega⟩,by simp only;omega,aj ⟨rfl,rfl,?_,trivial⟩ ?_⟩
          ·show _::_=_::_
           rw[dt fun a b _ _=>Bl last g' hki hkj a b]
          ·simp[b9,bo,bj]
         ·have hjn':j=n:=by omega
          subst hjn'
          (refine ae (aa [] fun K hK=>?_);simp(disch:=omega) only[kc,ab,Nat.reduceAdd,Hm,ak,ah,bf];apply hK)
          refine af rfl (fun h=>by simp at h<;>omega) (fun _=>bv ?_)
          show bT _ _ _ _
          ((refine aU [] [] (by simp) fun K hK=>?_);simp(disch:=omega) only[kc,ab,Nat.reduceAdd,ak,ac,Value.oneCell',ah,bC];apply hK)
          refine⟨⟨i+1,by omega,by omega⟩,by simp only;omega,aj ⟨rfl,rfl,?_,trivial⟩ ?_⟩
          ·show _::_=_::_
           rw[dt fun a b _ hb=>EX last g' i a b hb]
          ·simp[b9,bo,bj]
       ·have hin':i=n:=by omega
        subst hin'
        have a2:=cX (n:=i) (i:=k) 12 i hm
        have a4:=eY i (eO k last g' i (k+1)) hm
        have a5:(de i (eO k last g' i (k+1) k))[k]?=some (g' k k):=by rw[bK _ hm,iC _ _ (by omega)]
        (refine ae (aa [] fun K hK=>?_);simp(disch:=omega) only[kc,ab,Nat.reduceAdd,Hm,ak,ah,bf];apply hK)
        refine af rfl (fun h=>by simp at h<;>omega) (fun _=>bv ?_)
        show bT _ _ _ _
        ((refine aU [] [] (by simp) fun K hK=>?_);simp(disch:=omega) only[kc,ab,Nat.reduceAdd,ag,au,ao,aZ,Nat.reduceEqDiff,cP,cw,bH,a2,aA,cu,bL,a4,aM,cb,fZ,a5,aW,Nat.le_refl,az,df,bJ,cellsOf,isPure,putCells,aS,aT];apply hK)
        show bT _ _ _ _
        ((refine aU [] [] (by simp) fun K hK=>?_);simp(disch:=omega) only[kc,ab,Nat.reduceAdd,ak,ac,Value.oneCell',ah,bC];apply hK)
        refine⟨⟨k+1,EY k last g',g' k k,neg',2*b+1,by omega,by rw[<- hvk,hv],hkk,by rw[Nat.pow_succ];omega,fun x y hx hy=>?_,(hsz k k hm hm).mono (by omega)⟩,by simp only;omega,aj ⟨rfl,rfl,?_,trivial⟩ ?_⟩
        ·unfold EY
         split
         ·exact((((hsz k k hm hm).mul (hsz x y hx hy)).sub ((hsz x k hx hm).mul (hsz k y hm hy))).ediv last).mono (by omega)
         ·exact(hsz x y hx hy).mono (by omega)
        ·show _::_=_::_
         rw[dt fun a b ha _=>EW last g' a b ha]
        ·simp[b9,bo,bj]
  ·have hkn:k=n:=by omega
   subst hkn
   rw[detG,if_neg hm]at hv
   have h2k:=kw (k:=k) hn
   have hN:=ER last (slz.mono (by omega))
   (refine ae (aa [] fun K hK=>?_);simp(disch:=omega) only[kc,ab,Nat.reduceAdd,Hm,ak,ah,bf];apply hK)
   refine af rfl (fun h=>by simp at h<;>omega) (fun _=>bv ?_)
   show bT _ _ _ _
   (refine ae (aa [] fun K hK=>?_);simp(disch:=omega) only[kc,ab];apply hK)
   cases neg with
   |true=>
    rw[if_pos rfl]at hv
    refine af rfl (fun _=>?_) (fun h=>by simp at h)
    (refine aa [⟨1,_,_,_,hN⟩] fun K hK=>?_;simp(disch:=omega) only[kc,tZ,ar.a,ab,Nat.reduceAdd,au,Nat.reduceEqDiff,cP,aA,aM,aW,Nat.le_refl,ai,aN,aC,List.find?_cons,aD,aX,CallRes.plain,aF,aH,ap,isPure,noRefTV,am,aG,aE,az,df,bJ,cellsOf,bH,putCells,aS,aT];apply hK)
    rw[<- hv]
    (refine ay ⟨.inr rfl,aO rfl ?_ rfl⟩;simp(disch:=omega) only[kc,bE,Tryz.results93,aP,aJ,Nat.reduceEqDiff,cP,aA,aM,aW,Nat.reduceAdd,Nat.le_refl,tZ])
   |false=>
    rw[if_neg (by simp)]at hv
    refine af rfl (fun h=>by simp at h) (fun _=>aq ?_)
    show bT _ _ _ _
    (refine aa [] fun K hK=>?_;simp(disch:=omega) only[kc,ab,au,Nat.reduceEqDiff,cP,aA,aM,aW,Nat.reduceAdd,Nat.le_refl,az,df,bJ,cellsOf,isPure,bH,putCells,aS,aT];apply hK)
    rw[<- hv]
    (refine ay ⟨.inr rfl,aO rfl ?_ rfl⟩;simp(disch:=omega) only[kc,bE,Tryz.results93,aP,aJ,Nat.reduceEqDiff,cP,aA,aM,aW,Nat.reduceAdd,Nat.le_refl,tZ])
section
section
variable {P:Program}
theorem mf {items:List (eQ P)} (hI:gk P items) {ow:List Nat} {ops:Array Oper} {w0:World} {O X:Nat->Prop} {Q:Exit->Act->World->Prop} {suf:List Nat}: ∀(l:List Oper) (k:Nat) (s s':AS) (a:Act) (w:World),(∀(j:Nat) o,l[j]?=some o->ops[k+j]?=some o)->
  jy P items ow ops (l.zipIdx k) s=some s'->ik w0 O X s a w->(∀a' w',ik w0 O X s' a' w'->wpOps P ops Q suf a' w')->wpOps P ops Q (List.range' k l.length++suf) a w
 |[],k,s,s',a,w,_,h,r,hQ=>by
  simp only[List.zipIdx_nil,jy]at h
  injection h with h
  subst h
  exact hQ a w r
 |o::l,k,s,s',a,w,hl,h,r,hQ=>by
  simp only[List.zipIdx_cons,jy]at h
  split at h
  ·rename_i s1 hs1
   simp only[List.length_cons,List.range'_succ,List.cons_append,wpOps]
   have ho:ops[k]?=some o:=by have:=hl 0 o rfl;simpa using this
   rw[ho]
   simp only
   have:=jo (Q:=Q) hI r hs1 (K:=wpOps P ops Q (List.range' (k+1) l.length++suf)) (fun v w' hr=>mf hI l (k+1) s1 s' _ _ (fun j o hj=>by have:=hl (j+1) o (by simpa using hj);rwa[show k+(j+1)=k+1+j by omega]at this) h hr hQ)
   split at this
   ·rename_i hw;rw[if_pos hw];exact .inl this
   ·rename_i hw;rw[if_neg hw];exact this
  ·cases h
theorem w9 (m:Nat) (items:List (eQ P)) (hI:gk P items) (ow:List Nat) {id:Nat} {ops:Array Oper} {s s1 s2 s':AS} {Q:Exit->AS->Prop} (h1:jy P items ow ops ((ops.toList.take m).zipIdx 0) s=some s1) (hw:dG s1 s2)
  (h2:jy P items ow ops ((ops.toList.drop m).zipIdx (ops.toList.take m).length) s2=some s') (hQ:Q .normal s'):bT P (.region id ops false) Q s:=fun w0 O X a w r=>by
 refine wp_region ?_
 have hsz:ops.size=(ops.toList.take m).length+(ops.toList.drop m).length:=by simp;omega
 rw[hsz,List.range_eq_range',<- List.range'_append_1,Nat.zero_add]
 refine mf hI (ops.toList.take m) 0 s s1 a w (fun j o hj=>?_) h1 r fun a' w' r'=>?_
 ·rw[List.getElem?_take]at hj
  split at hj
  ·simpa using hj
  ·cases hj
 ·refine iy hI (Q:=fun e a' w'=> ∃s',Q e s'/\ik w0 O X s' a' w') (ops.toList.drop m) _ s2 s' a' w' (fun j o hj=>?_) h2 (hw _ _ _ _ _ r') (fun a' w' hr=>⟨s',hQ,hr⟩)
  rw[List.getElem?_drop]at hj
  have hlt:=(List.getElem?_eq_some_iff.1 hj).1
  have hm:(ops.toList.take m).length=m:=by
   rw[List.length_take];omega
  rw[hm]
  simpa using hj
theorem BU (m:Nat) (items:List (ar P)) (ow:List Nat) {id:Nat} {ops:Array Oper} {y:Code} {s:AS} {Q:Exit->AS->Prop} (hl:s.tmps.length<=1000000) (hm:m<=ops.toList.length)
  (h: ∀K:AS->Prop,(∀s1,(∃s2,dG s1 s2/\s2.tmps.length<=1000000/\ ∀K:AS->Prop,(∀s',bT P y Q s'->K s')->eE P (items.map ar.a) ow (dC ops (ops.toList.drop m) m) (some s2) K)->K s1)->eE P (items.map ar.a) ow (dC ops (ops.toList.take m) 0) (some s) K):bT P (.seq (.region id ops false) y) Q s:=by
 obtain⟨s1,h1,s2,hw,hl2,h2⟩:=dF P (items.map ar.a) ow ops _ 0 s _ hl (h _ fun _ h=>h)
 obtain⟨s',h3,h4⟩:=dF P (items.map ar.a) ow ops _ m s2 _ hl2 (h2 _ fun _ h=>h)
 refine ae (w9 m _ (ar.ok items) ow h1 hw ?_ h4)
 rwa[show(ops.toList.take m).length=m by rw[List.length_take];omega]
end
end
theorem mq {z:Int} {k:Nat} (h:z.natAbs<4294967296) (hk:1<=k):Sz z k:=by
 have:Sz z 1:=by unfold Sz;simpa using h
 exact this.mono hk
theorem rl (k:Nat):Sz 0 k:=by unfold Sz;exact Nat.pow_pos (by omega)
theorem JM {n p k b:Nat} {g:Nat->Nat->Int} (hp:p<n) (hk:k<n) (h: ∀i j,i<n->j<n->Sz (g i j) b): ∀i j,i<n->j<n->Sz (swp p k g i j) b:=fun i j hi hj=>by
 unfold swp
 split
 ·exact h k j hk hj
 ·split
  ·exact h p j hp hj
  ·exact h i j hi hj
theorem Jy {n k b:Nat} {g:Nat->Nat->Int} (last:Int) (hk:k<n) (h: ∀i j,i<n->j<n->Sz (g i j) b): ∀i j,i<n->j<n->Sz (EY k last g i j) (2*b+1):=fun x y hx hy=>by
 unfold EY
 split
 ·exact((((h k k hk hk).mul (h x y hx hy)).sub ((h x k hx hk).mul (h k y hk hy))).ediv last).mono (by omega)
 ·exact(h x y hx hy).mono (by omega)
theorem AN {n:Nat} (hn:n<=16): ∀m k g last neg b,n-k=m->k<=n->(∀i j,i<n->j<n->Sz (g i j) b)->Sz last b->b+1<=1025*2^k->Sz (detG n k g last neg) 67174400
 |0,k,g,last,neg,b,hm,hk,hg,hl,hb=>by
  have h2k:=kw (k:=k) (by omega)
  rw[detG,if_neg (by omega)]
  split
  ·exact hl.neg.mono (by omega)
  ·exact hl.mono (by omega)
 |m+1,k,g,last,neg,b,hm,hk,hg,hl,hb=>by
  rw[detG,if_pos (by omega)]
  split
  ·exact rl _
  ·rename_i hp
   have hpl:=wc (f:=g) (n:=n) (k:=k) (n-k) k rfl
   have hs:=JM (p:=piv g n k k) (k:=k) (by omega) (by omega) hg
   exact AN hn m (k+1) _ _ _ (2*b+1) (by omega) (by omega) (Jy last (by omega) hs) ((hs k k (by omega) (by omega)).mono (by omega)) (by rw[Nat.pow_succ];omega)
theorem kT {n:Nat} {f:Nat->Nat->Int} (hn:n<=16) (hf: ∀i j,i<n->j<n->Sz (f i j) 1024):Sz (detF n f) 67174400:=
 AN hn n 0 f 1 false 1024 rfl (by omega) hf (mr (by omega)) (by omega)
theorem fK {n c:Nat} (f:Nat->Nat->Int) (h:1<=n):((cd n c f).headD []).length=c:=by
 have:=gI (M:=cd n c f) (by rw[bQ];omega)
 rw[cS _ _ (by omega)]at this
 injection this with this
 rw[<- this,cq]
theorem i4 {n c:Nat} (f:Nat->Nat->Int) (hn1:1<=n) (hn:n<=16) (hc1:1<=c) (hc:c<=16):vg (cd n c f):=by
 refine⟨by rw[bQ];omega,by rw[bQ];omega,fun r hr=>?_⟩
 obtain⟨i,hi⟩:=List.mem_iff_getElem?.1 hr
 have hin:i<n:=by
  have:=(List.getElem?_eq_some_iff.1 hi).1
  rwa[bQ]at this
 rw[cS _ _ hin]at hi
 injection hi with hi
 rw[<- hi,rOk,cq,fK f hn1]
 omega
theorem qT {M:List (List Int)} (h:vg M):M=cd M.length (M.headD []).length (ent M):=Bf fun r hr=>(h.2.2 r hr).2.2
theorem wI {n:Nat} (f:Nat->Nat->Int) (hn1:1<=n) (hn:n<=16):IG (cd n n f)= .tup [(false,[.p (.raw (.int .i64 (n:Int)))]),(false,[.p (.raw (.bool true))])]:=by
 have h:Kt (cd n n f):=⟨i4 f hn1 hn hn1 hn,by rw[bQ,fK f hn1]⟩
 unfold IG;rw[if_pos h,bQ]
theorem FK {n c:Nat} (f:Nat->Nat->Int) (hn1:1<=n) (h:n≠c):IG (cd n c f)= .tup [(false,[.p (.raw (.int .i64 0))]),(false,[.p (.raw (.bool false))])]:=by
 unfold IG;rw[if_neg]
 intro hs
 have:=hs.2
 rw[bQ,fK f hn1]at this
 exact h this
abbrev wR (n:Nat) (f:Nat->Nat->Int):List Int:=de n fun k=>detF (k+1) f
def Kd (n:Nat) (f:Nat->Nat->Int):TV:= .tup [(false,[.p (.sl (ls fZ (wR n f)))]),(false,[.p (.raw (.bool true))])]
theorem Fz (k:Nat) (f:Nat->Nat->Int):((List.range (k+1)).map fun i=>(List.range (k+1)).map (f i))=cd (k+1) (k+1) f:=rfl
theorem pt (n:Nat) (f:Nat->Nat->Int) (hn1:1<=n) (hn:n<=16) (hf: ∀i j,i<n->j<n->Sz (f i j) 1024):CallC Tryz.prog 101 [ci (cd n n f)] ⟨[],Kd n f⟩:=by
 have hSq:=ox (cd n n f)
 rw[wI f hn1 hn]at hSq
 refine ax Tryz.func101 rfl (by kernel_rfl) ?_;rw[Tryz.ntmps101]
 (refine aa [] fun K hK=>?_;simp(disch:=omega) only[kc,ab,ci,List.replicate,ac,Value.oneCell'];apply hK)
 (refine aa [⟨1,_,_,_,hSq⟩] fun K hK=>?_;simp(disch:=omega) only[kc,ci,ar.a,ab,Nat.reduceAdd,ai,aN,aC,List.find?_cons,aD,aX,CallRes.plain,aF,aH,ap,noRefTV,am,aG,aE,aV,ak];apply hK)
 (refine ae (aa [] fun K hK=>?_);simp(disch:=omega) only[kc,ab,bW,ak,dc];apply hK)
 refine af rfl (fun h=>by simp at h) (fun _=>aq ?_)
 show bT _ _ _ _
 (refine aa [] fun K hK=>?_;simp(disch:=omega) only[kc,ab,ac,Value.oneCell'];apply hK)
 (refine ae (aa [] fun K hK=>?_);simp(disch:=omega) only[kc,ab,ac,Value.oneCell'];apply hK)
 refine bD (G:=mz n) (fun g=>⟨[ci (cd n n f),jk,.raw (.slice none 0 0),.raw (.bool false),.raw (.int .i64 (n:Int)),jk,.one (.sl 31 0 0 g.i),.raw (.int .i64 (g.i:Int)),jk,jk,jk,jk,jk,jk,jk,jk,jk,jk,jk,jk,jk,jk,jk,jk,jk,jk,jk,jk,jk,jk,jk,jk,jk],Hm [(31,[⟨53,2,lc fZ (wR g.i f)⟩])]⟩) (fun g=>n-g.i) ⟨0,by omega⟩ ?_ ?_
 ·refine(fG (k:=6) (d:=31) 53 2 (by omega) rfl rfl).trans (aj ⟨rfl,trivial⟩ ?_)
  simp[b9,bo,bj]
 ·rintro⟨k,hk⟩
  simp only
  by_cases hm:k<n
  ·have c1:=GR k k (by omega) (by omega)
   rw[<- List.range_succ]at c1
   have c2:=wY n n f (List.range (k+1)) (List.range (k+1)) hn hn (fun x hx=>by have:=List.mem_range.1 hx;omega) (fun x hx=>by have:=List.mem_range.1 hx;omega) (by simp;omega) (by simp;omega)
   rw[Fz]at c2
   have c3:=gF (k+1) f (by omega) (by omega) (fun i j hi hj=>hf i j (by omega) (by omega))
   have e1:lc fZ (wR k f)++[[.p (.raw (.bool (decide (detF (k+1) f<0)))),.p (.sl (ls fU (be (detF (k+1) f).natAbs)))]]=lc fZ (wR (k+1) f):=by
    rw[sh,wR,wR,mU k]
   (refine ae (aa [] fun K hK=>?_);simp(disch:=omega) only[kc,ab,Nat.reduceAdd,ci,Hm,ak,ah,bA];apply hK)
   refine af rfl (fun _=>aq ?_) (fun h=>by simp at h<;>omega)
   refine ae (aI ?_)
   ((refine aU [⟨4,_,_,_,c1⟩,⟨7,_,_,_,c1⟩,⟨8,_,_,_,c2⟩,⟨9,_,_,_,c3⟩] [] (by simp) fun K hK=>?_);simp(disch:=omega) only[kc,qR,ci,tZ,ar.a,ab,Nat.reduceAdd,ai,aN,aC,List.find?_cons,aD,aX,CallRes.plain,aF,aH,ap,noRefTV,am,aG,aE,Nat.reduceBEq,b8,bL,bi,aM,fW,cellsOf,isPure,Nat.reduceMul,Nat.reduceLeDiff,List.contains_nil,ka,bH,cW,iX,bJ,newsOf,lC,eI,eJ,cq,ef,eZ,and_true,d7,em,e1,df,aS,aT];apply hK)
   show bT _ _ _ _
   ((refine aU [] [] (by simp) fun K hK=>?_);simp(disch:=omega) only[kc,ab,Nat.reduceAdd,ak,ac,Value.oneCell',ah,bC];apply hK)
   refine⟨⟨k+1,by omega⟩,by simp only;omega,aj ⟨rfl,trivial⟩ ?_⟩
   simp[b9,bo,bj]
  ·have hkn:k=n:=by omega
   subst hkn
   (refine ae (aa [] fun K hK=>?_);simp(disch:=omega) only[kc,ab,Nat.reduceAdd,ci,Hm,ak,ah,bf];apply hK)
   refine af rfl (fun h=>by simp at h<;>omega) (fun _=>bv ?_)
   show bT _ _ _ _
   (refine aa [] fun K hK=>?_;simp(disch:=omega) only[kc,ab,Nat.reduceAdd,ac,Value.oneCell'];apply hK)
   refine ay ⟨.inr rfl,lk 31 (dH rfl) ?_ rfl⟩
   have eT:List.take k (wR k f)=wR k f:=List.take_of_length_le (by rw[cq];omega)
   simp(disch:=omega) only[kc,bE,Tryz.results101,cY,aP,gH,fu,bH,eB,eT,d8,bX,Kd]
structure K6 (n:Nat) (f:Nat->Nat->Int) where
 i:Nat
 hi:i<=n
 ok: ∀a,a<i-> ∀b,b<a->f a b=f b a
structure K7 (n i:Nat) (f:Nat->Nat->Int) where
 j:Nat
 hj:j<=i
 ok: ∀b,b<j->f i b=f b i
theorem Cg (a:Int):nH a a=0:=by simp[nH]
theorem D0 {a b:Int} (h:a≠b):nH a b≠0:=by unfold nH;split<;>(try split)<;>omega
theorem lO (n:Nat) (f:Nat->Nat->Int) (hn:n<=16) (hf: ∀i j,i<n->j<n->Sz (f i j) 1024) (r:Bool) (hr:r=true↔SymF f n):CallC Tryz.prog 98 [ci (cd n n f)] ⟨[],.raw (.bool r)⟩:=by
 have hml:=bQ n n f
 refine ax Tryz.func98 rfl (by kernel_rfl) ?_;rw[Tryz.ntmps98]
 (refine aa [] fun K hK=>?_;simp(disch:=omega) only[kc,ab,ci,List.replicate,ac,Value.oneCell'];apply hK)
 (refine ae (aa [] fun K hK=>?_);simp(disch:=omega) only[kc,ab,Nat.reduceAdd,aw,au,aZ,aR,hml,ac,Value.oneCell'];apply hK)
 refine bD (G:=K6 n f) (fun g=>⟨[ci (cd n n f),jk,.raw (.bool false),jk,jk,jk,.raw (.int .i64 (n:Int)),.raw (.int .i64 (g.i:Int)),jk,jk,jk,jk,jk,jk,jk,jk,jk,jk,jk,jk,jk,jk,jk,jk,jk,jk,jk,jk,jk,jk,jk,jk],Hm []⟩) (fun g=>n-g.i) ⟨0,by omega,fun a ha=>by omega⟩ ?_ ?_
 ·refine aj trivial ?_
  simp[b9,bo,bj]
 ·rintro⟨i,hi,ok⟩
  simp only
  by_cases hm:i<n
  ·(refine aa [] fun K hK=>?_;simp(disch:=omega) only[kc,ab,ci,Hm,ak,ah,bA];apply hK)
   refine ae (af rfl (fun _=>aq ?_) (fun h=>by simp at h<;>omega))
   refine ae (aI ?_)
   (refine aa [] fun K hK=>?_;simp(disch:=omega) only[kc,ab];apply hK)
   (refine aa [] fun K hK=>?_;simp(disch:=omega) only[kc,ab,ac,Value.oneCell'];apply hK)
   refine bD (G:=K7 n i f) (fun g=>⟨[ci (cd n n f),jk,.raw (.bool false),.raw (.int .i64 (i:Int)),.raw (.int .i64 (g.j:Int)),jk,.raw (.int .i64 (n:Int)),.raw (.int .i64 (i:Int)),jk,jk,jk,jk,jk,jk,jk,jk,jk,jk,jk,jk,jk,jk,jk,jk,jk,jk,jk,jk,jk,jk,jk,jk],Hm []⟩) (fun g=>i-g.j) ⟨0,by omega,fun a ha=>by omega⟩ ?_ ?_
   ·refine aj trivial ?_
    simp[b9,bo,bj]
   ·rintro⟨j,hj,okj⟩
    simp only
    by_cases hm2:j<i
    ·have a1:=cS n f hm
     have a2:=cS n f (show j<n by omega)
     have a3:=bK (f i) (show j<n by omega)
     have a4:=bK (f j) hm
     have c1:=tV (f i j) (f j i) ((hf i j hm (by omega)).mono (by omega)) ((hf j i (by omega) hm).mono (by omega))
     by_cases he:f i j=f j i
     ·rw[he,Cg]at c1
      rw[he]at a3
      (refine ae (aa [] fun K hK=>?_);simp(disch:=omega) only[kc,ab,Nat.reduceAdd,ci,Hm,ak,ah,bA];apply hK)
      refine af rfl (fun _=>aq ?_) (fun h=>by simp at h<;>omega)
      refine ae (aI ?_)
      (refine bS bY [⟨14,_,_,_,c1⟩] [] (by kernel_rfl) (by simp) fun K hK=>?_;simp(disch:=omega) only[kc,tZ,ar.a,ab,Nat.reduceAdd,ag,au,ao,aZ,bG,a1,fR,cw,aA,cu,bL,a3,fZ,aM,aW,Nat.le_refl,a2,a4,ai,aN,aC,List.find?_cons,aD,aX,CallRes.plain,aF,aH,ap,isPure,noRefTV,am,aG,aE,ak,ac,Value.oneCell',ah,bA];apply hK)
      refine af rfl (fun h=>by simp at h) (fun _=>aq ?_)
      show bT _ _ _ _
      ((refine aU [] [] (by simp) fun K hK=>?_);simp(disch:=omega) only[kc,ab,Nat.reduceAdd,ak,ac,Value.oneCell',ah,bC];apply hK)
      refine⟨⟨j+1,by omega,fun b hb=>?_⟩,by simp only;omega,aj trivial ?_⟩
      ·by_cases e:b=j
       ·subst e;exact he
       ·exact okj b (by omega)
      ·simp[b9,bo,bj]
     ·have hr0:r=false:=by
       cases r with
       |false=>rfl
       |true=>exact absurd (hr.1 rfl i hm j (by omega)) he
      subst hr0
      have hne:=D0 he
      (refine ae (aa [] fun K hK=>?_);simp(disch:=omega) only[kc,ab,Nat.reduceAdd,ci,Hm,ak,ah,bA];apply hK)
      refine af rfl (fun _=>aq ?_) (fun h=>by simp at h<;>omega)
      refine ae (aI ?_)
      (refine bS bY [⟨14,_,_,_,c1⟩] [] (by kernel_rfl) (by simp) fun K hK=>?_;simp(disch:=omega) only[kc,tZ,ar.a,ab,Nat.reduceAdd,ag,au,ao,aZ,bG,a1,fR,cw,aA,cu,bL,a3,fZ,aM,aW,Nat.le_refl,a2,a4,ai,aN,aC,List.find?_cons,aD,aX,CallRes.plain,aF,aH,ap,isPure,noRefTV,am,aG,aE,ak,ac,Value.oneCell',ah,bf,Bool.not_false];apply hK)
      refine af rfl (fun _=>?_) (fun h=>by simp at h<;>omega)
      (refine aa [] fun K hK=>?_;simp(disch:=omega) only[kc,ab,ac,Value.oneCell'];apply hK)
      (refine ay ⟨.inr rfl,aO rfl ?_ rfl⟩;simp(disch:=omega) only[bE,Tryz.results98,aP,List.getElem?_cons_succ,List.getElem?_cons_zero])
    ·(refine ae (aa [] fun K hK=>?_);simp(disch:=omega) only[kc,ab,Nat.reduceAdd,ci,Hm,ak,ah,bf];apply hK)
     refine af rfl (fun h=>by simp at h<;>omega) (fun _=>bv ?_)
     show bT _ _ _ _
     ((refine aU [] [] (by simp) fun K hK=>?_);simp(disch:=omega) only[kc,ab,ak,ac,Value.oneCell',ah,bC];apply hK)
     refine⟨⟨i+1,by omega,fun a ha b hb=>?_⟩,by simp only;omega,aj trivial ?_⟩
     ·by_cases e:a=i
      ·subst e;exact okj b (by omega)
      ·exact ok a (by omega) b hb
     ·simp[b9,bo,bj]
  ·have hr1:r=true:=hr.2 fun a ha b hb=>by
    rcases Nat.lt_trichotomy a b with h|h|h
    ·exact(ok b (by omega) a h).symm
    ·rw[h]
    ·exact ok a (by omega) b h
   subst hr1
   (refine aa [] fun K hK=>?_;simp(disch:=omega) only[kc,ab,ci,Hm,ak,ah,bf];apply hK)
   refine ae (af rfl (fun h=>by simp at h<;>omega) (fun _=>bv ?_))
   show bT _ _ _ _
   (refine aa [] fun K hK=>?_;simp(disch:=omega) only[kc,ab,ac,Value.oneCell'];apply hK)
   (refine ay ⟨.inr rfl,aO rfl ?_ rfl⟩;simp(disch:=omega) only[bE,Tryz.results98,aP,List.getElem?_cons_succ,List.getElem?_cons_zero])
structure KW (n:Nat) (f:Nat->Nat->Int) where
 i:Nat
 hi:i<=n
 ok: ∀a,a<i->0<detF (a+1) f
theorem FF {z:Int} (h:0<z):sg z=1:=by unfold sg;rw[if_neg (by omega),if_neg (by omega)]
theorem Ic {z:Int} (h: ¬0<z):sg z<=0:=by unfold sg;split<;>(try split)<;>omega
theorem rq (n:Nat) (f:Nat->Nat->Int) (hn1:1<=n) (hn:n<=16) (hf: ∀i j,i<n->j<n->Sz (f i j) 1024) (hs:SymF f n) (r:Bool) (hr:r=true↔yK f n):CallC Tryz.prog 99 [ci (cd n n f)] ⟨[],.raw (.bool r)⟩:=by
 have hL:=pt n f hn1 hn hf
 have hS:=lO n f hn hf true (by simp[hs])
 refine ax Tryz.func99 rfl (by kernel_rfl) ?_;rw[Tryz.ntmps99]
 (refine aa [] fun K hK=>?_;simp(disch:=omega) only[kc,ab,ci,List.replicate,ac,Value.oneCell'];apply hK)
 (refine aa [⟨1,_,_,_,hL⟩] fun K hK=>?_;simp(disch:=omega) only[kc,ci,Kd,ar.a,ab,Nat.reduceAdd,ai,aN,aC,List.find?_cons,aD,aX,CallRes.plain,aF,aH,ap,noRefTV,am,aG,aE,aV,ak];apply hK)
 (refine ae (aa [⟨4,_,_,_,hS⟩] fun K hK=>?_);simp(disch:=omega) only[kc,ci,ar.a,ab,Nat.reduceAdd,bW,ak,dc,aB,ai,aN,aC,List.find?_cons,aD,aX,CallRes.plain,aF,aH,ap,noRefTV,am,aG,aE,bH,aQ];apply hK)
 refine af rfl (fun h=>by simp at h) (fun _=>aq ?_)
 show bT _ _ _ _
 (refine ae (aa [] fun K hK=>?_);simp(disch:=omega) only[kc,ab,Nat.reduceAdd,aw,au,bL,aR,cq,ac,Value.oneCell'];apply hK)
 refine bD (G:=KW n f) (fun g=>⟨[jk,jk,.raw (.bool false),jk,jk,jk,jk,jk,jk,jk,jk,jk,jk,jk,jk,jk,jk,jk,jk,.one (.p (.sl (ls fZ (wR n f)))),.raw (.int .i64 (n:Int)),.raw (.int .i64 (g.i:Int)),jk,jk,jk,jk,jk,jk,jk],Hm []⟩) (fun g=>n-g.i) ⟨0,by omega,fun a ha=>by omega⟩ ?_ ?_
 ·refine aj trivial ?_
  simp[b9,bo,bj]
 ·rintro⟨i,hi,ok⟩
  simp only
  by_cases hm:i<n
  ·have a1:(wR n f)[i]?=some (detF (i+1) f):=bK _ hm
   have hz:=kT (n:=i+1) (f:=f) (by omega) (fun a b ha hb=>hf a b (by omega) (by omega))
   have c1:=mj (detF (i+1) f) (hz.mono (by omega))
   (refine aa [] fun K hK=>?_;simp(disch:=omega) only[kc,ab,Hm,ak,ah,bA];apply hK)
   refine ae (af rfl (fun _=>aq ?_) (fun h=>by simp at h<;>omega))
   refine ae (aI ?_)
   (refine aa [] fun K hK=>?_;simp(disch:=omega) only[kc,ab,Nat.reduceAdd,ag,au,ao,bL,bG,a1,fZ,aM,aA,aW,Nat.le_refl,bu,aN,aC,bi,Value.oneCell',bH,az,df,bJ,aJ,cellsOf,isPure,putCells,aS,aT];apply hK)
   by_cases hp:0<detF (i+1) f
   ·rw[FF hp]at c1
    (refine aa [⟨1,_,_,_,c1⟩] fun K hK=>?_;simp(disch:=omega) only[kc,tZ,bf,ar.a,ab,Nat.reduceAdd,au,aJ,cP,aA,aM,aW,Nat.le_refl,ai,aN,aC,List.find?_cons,aD,aX,CallRes.plain,aF,aH,ap,isPure,noRefTV,am,aG,aE,ak,ac,Value.oneCell',ah,Int.reduceLE,decide_false];apply hK)
    refine af rfl (fun h=>by simp at h) (fun _=>aq ?_)
    show bT _ _ _ _
    ((refine aU [] [] (by simp) fun K hK=>?_);simp(disch:=omega) only[kc,ab,ak,ac,Value.oneCell',ah,bC];apply hK)
    refine⟨⟨i+1,by omega,fun a ha=>?_⟩,by simp only;omega,aj trivial ?_⟩
    ·by_cases e:a=i
     ·subst e;exact hp
     ·exact ok a (by omega)
    ·simp[b9,bo,bj]
   ·have hr0:r=false:=by
     cases r with
     |false=>rfl
     |true=>exact absurd (hr.1 rfl i hm) hp
    subst hr0
    have hle:=Ic hp
    (refine aa [⟨1,_,_,_,c1⟩] fun K hK=>?_;simp(disch:=omega) only[kc,tZ,ar.a,ab,Nat.reduceAdd,au,aJ,cP,aA,aM,aW,Nat.le_refl,ai,aN,aC,List.find?_cons,aD,aX,CallRes.plain,aF,aH,ap,isPure,noRefTV,am,aG,aE,ak,ac,Value.oneCell',ah,bA];apply hK)
    refine af rfl (fun _=>?_) (fun h=>by simp at h<;>omega)
    (refine aa [] fun K hK=>?_;simp(disch:=omega) only[kc,ab,ac,Value.oneCell'];apply hK)
    (refine ay ⟨.inr rfl,aO rfl ?_ rfl⟩;simp(disch:=omega) only[bE,Tryz.results99,aP,List.getElem?_cons_succ,List.getElem?_cons_zero])
  ·have hr1:r=true:=hr.2 fun a ha=>ok a (by omega)
   subst hr1
   (refine aa [] fun K hK=>?_;simp(disch:=omega) only[kc,ab,Hm,ak,ah,bf];apply hK)
   refine ae (af rfl (fun h=>by simp at h<;>omega) (fun _=>bv ?_))
   show bT _ _ _ _
   (refine aa [] fun K hK=>?_;simp(disch:=omega) only[kc,ab,ac,Value.oneCell'];apply hK)
   (refine ay ⟨.inr rfl,aO rfl ?_ rfl⟩;simp(disch:=omega) only[bE,Tryz.results99,aP,List.getElem?_cons_succ,List.getElem?_cons_zero])
theorem vy (a b:Int):decide (nH a b<=0)=decide (a<=b):=by
 unfold nH
 split
 ·simp;omega
 ·split
  ·simp;omega
  ·simp;omega
theorem GE (a b:Int):decide (0<=nH a b)=decide (b<=a):=by
 unfold nH
 split
 ·simp;omega
 ·split
  ·simp;omega
  ·simp;omega
theorem ym (n:Nat) (f:Nat->Nat->Int) (hn1:1<=n) (hn:n<=16) (hf: ∀i j,i<n->j<n->Sz (f i j) 1024):CallC Tryz.prog 59 [ci (cd n n f)] ⟨[],.raw (.bool (decide (detF n f<=10000)))⟩:=by
 have hD:=gF n f hn1 hn hf
 have hS:=gB 10000 (by omega) (by omega)
 have hC:=tV (detF n f) 10000 ((kT hn hf).mono (by omega)) (mq (by decide) (by omega))
 have hle:=vy (detF n f) 10000
 refine ax Tryz.func59 rfl (by kernel_rfl) ?_;rw[Tryz.ntmps59]
 (refine aa [] fun K hK=>?_;simp(disch:=omega) only[kc,ab,ci,List.replicate,ac,Value.oneCell'];apply hK)
 (refine aa [⟨1,_,_,_,hD⟩,⟨2,_,_,_,hS⟩,⟨3,_,_,_,hC⟩] fun K hK=>?_;simp(disch:=omega) only[kc,ci,tZ,bf,ar.a,ab,Nat.reduceAdd,ai,aN,aC,List.find?_cons,aD,aX,CallRes.plain,aF,aH,ap,noRefTV,am,aG,aE,Nat.reduceBEq,ac,Value.oneCell',isPure,ak,ah,hle];apply hK)
 (refine ay ⟨.inr rfl,aO rfl ?_ rfl⟩;simp(disch:=omega) only[bE,Tryz.results59,aP,List.getElem?_cons_succ,List.getElem?_cons_zero])
theorem nr (n c:Nat) (f:Nat->Nat->Int) (hn1:1<=n) (hn:n<=16) (hc1:1<=c) (hc:c<=16) (hf: ∀i j,i<n->j<c->Sz (f i j) 1024):
  ∃e:Int,(e=0↔(n=c/\n<=8/\SymF f n/\yK f n))/\CallC Tryz.prog 58 [ci (cd n c f)] ⟨[],.raw (.int .i64 e)⟩:=by
 have hSq:=ox (cd n c f)
 by_cases h1:n=c
 ·subst h1
  rw[wI f hn1 hn]at hSq
  by_cases h2:8<n
  ·refine⟨3,by omega,?_⟩
   refine ax Tryz.func58 rfl (by kernel_rfl) ?_;rw[Tryz.ntmps58]
   (refine aa [] fun K hK=>?_;simp(disch:=omega) only[kc,ab,ci,List.replicate,ac,Value.oneCell'];apply hK)
   (refine aa [⟨1,_,_,_,hSq⟩] fun K hK=>?_;simp(disch:=omega) only[kc,ci,ar.a,ab,Nat.reduceAdd,ai,aN,aC,List.find?_cons,aD,aX,CallRes.plain,aF,aH,ap,noRefTV,am,aG,aE,aV,ak];apply hK)
   refine ae (aI ?_)
   (refine aa [] fun K hK=>?_;simp(disch:=omega) only[kc,ab,Nat.reduceAdd,bW,ak,dc,aB,ac,Value.oneCell',bH,ah,bA,aQ];apply hK)
   refine af rfl (fun _=>?_) (fun h=>by simp at h<;>omega)
   (refine aa [] fun K hK=>?_;simp(disch:=omega) only[kc,ab,ac,Value.oneCell'];apply hK)
   (refine ay ⟨.inr rfl,aO rfl ?_ rfl⟩;simp(disch:=omega) only[bE,Tryz.results58,aP,List.getElem?_cons_succ,List.getElem?_cons_zero])
  ·by_cases h3:SymF f n
   ·have hS:=lO n f hn hf true (by simp[h3])
    by_cases h4:yK f n
    ·have hD:=rq n f hn1 hn hf h3 true (by simp[h4])
     refine⟨0,by simp[h3,h4];omega,?_⟩
     refine ax Tryz.func58 rfl (by kernel_rfl) ?_;rw[Tryz.ntmps58]
     (refine aa [] fun K hK=>?_;simp(disch:=omega) only[kc,ab,ci,List.replicate,ac,Value.oneCell'];apply hK)
     (refine aa [⟨1,_,_,_,hSq⟩] fun K hK=>?_;simp(disch:=omega) only[kc,ci,ar.a,ab,Nat.reduceAdd,ai,aN,aC,List.find?_cons,aD,aX,CallRes.plain,aF,aH,ap,noRefTV,am,aG,aE,aV,ak];apply hK)
     refine ae (aI ?_)
     (refine aa [] fun K hK=>?_;simp(disch:=omega) only[kc,ab,Nat.reduceAdd,bW,ak,dc,aB,ac,Value.oneCell',bH,ah,bf,aQ];apply hK)
     refine af rfl (fun h=>by simp at h<;>omega) (fun _=>?_)
     (refine aa [⟨1,_,_,_,hS⟩] fun K hK=>?_;simp(disch:=omega) only[kc,ci,ar.a,ab,Nat.reduceAdd,ai,aN,aC,List.find?_cons,aD,aX,CallRes.plain,aF,aH,ap,noRefTV,am,aG,aE,bW,ak,dc];apply hK)
     refine af rfl (fun h=>by simp at h) (fun _=>?_)
     (refine aa [⟨1,_,_,_,hD⟩] fun K hK=>?_;simp(disch:=omega) only[kc,ci,ar.a,ab,Nat.reduceAdd,ai,aN,aC,List.find?_cons,aD,aX,CallRes.plain,aF,aH,ap,noRefTV,am,aG,aE,bW,ak,dc];apply hK)
     refine af rfl (fun h=>by simp at h) (fun _=>aq ?_)
     show bT _ _ _ _
     (refine aa [] fun K hK=>?_;simp(disch:=omega) only[kc,ab,ac,Value.oneCell'];apply hK)
     (refine ay ⟨.inr rfl,aO rfl ?_ rfl⟩;simp(disch:=omega) only[bE,Tryz.results58,aP,List.getElem?_cons_succ,List.getElem?_cons_zero])
    ·have hD:=rq n f hn1 hn hf h3 false (by simp[h4])
     refine⟨5,by simp[h4],?_⟩
     refine ax Tryz.func58 rfl (by kernel_rfl) ?_;rw[Tryz.ntmps58]
     (refine aa [] fun K hK=>?_;simp(disch:=omega) only[kc,ab,ci,List.replicate,ac,Value.oneCell'];apply hK)
     (refine aa [⟨1,_,_,_,hSq⟩] fun K hK=>?_;simp(disch:=omega) only[kc,ci,ar.a,ab,Nat.reduceAdd,ai,aN,aC,List.find?_cons,aD,aX,CallRes.plain,aF,aH,ap,noRefTV,am,aG,aE,aV,ak];apply hK)
     refine ae (aI ?_)
     (refine aa [] fun K hK=>?_;simp(disch:=omega) only[kc,ab,Nat.reduceAdd,bW,ak,dc,aB,ac,Value.oneCell',bH,ah,bf,aQ];apply hK)
     refine af rfl (fun h=>by simp at h<;>omega) (fun _=>?_)
     (refine aa [⟨1,_,_,_,hS⟩] fun K hK=>?_;simp(disch:=omega) only[kc,ci,ar.a,ab,Nat.reduceAdd,ai,aN,aC,List.find?_cons,aD,aX,CallRes.plain,aF,aH,ap,noRefTV,am,aG,aE,bW,ak,dc];apply hK)
     refine af rfl (fun h=>by simp at h) (fun _=>?_)
     (refine aa [⟨1,_,_,_,hD⟩] fun K hK=>?_;simp(disch:=omega) only[kc,ci,ar.a,ab,Nat.reduceAdd,ai,aN,aC,List.find?_cons,aD,aX,CallRes.plain,aF,aH,ap,noRefTV,am,aG,aE,bW,ak,dc,Bool.not_false];apply hK)
     refine af rfl (fun _=>?_) (fun h=>by simp at h)
     (refine aa [] fun K hK=>?_;simp(disch:=omega) only[kc,ab,ac,Value.oneCell'];apply hK)
     (refine ay ⟨.inr rfl,aO rfl ?_ rfl⟩;simp(disch:=omega) only[bE,Tryz.results58,aP,List.getElem?_cons_succ,List.getElem?_cons_zero])
   ·have hS:=lO n f hn hf false (by simp[h3])
    refine⟨4,by simp[h3],?_⟩
    refine ax Tryz.func58 rfl (by kernel_rfl) ?_;rw[Tryz.ntmps58]
    (refine aa [] fun K hK=>?_;simp(disch:=omega) only[kc,ab,ci,List.replicate,ac,Value.oneCell'];apply hK)
    (refine aa [⟨1,_,_,_,hSq⟩] fun K hK=>?_;simp(disch:=omega) only[kc,ci,ar.a,ab,Nat.reduceAdd,ai,aN,aC,List.find?_cons,aD,aX,CallRes.plain,aF,aH,ap,noRefTV,am,aG,aE,aV,ak];apply hK)
    refine ae (aI ?_)
    (refine aa [] fun K hK=>?_;simp(disch:=omega) only[kc,ab,Nat.reduceAdd,bW,ak,dc,aB,ac,Value.oneCell',bH,ah,bf,aQ];apply hK)
    refine af rfl (fun h=>by simp at h<;>omega) (fun _=>?_)
    (refine aa [⟨1,_,_,_,hS⟩] fun K hK=>?_;simp(disch:=omega) only[kc,ci,ar.a,ab,Nat.reduceAdd,ai,aN,aC,List.find?_cons,aD,aX,CallRes.plain,aF,aH,ap,noRefTV,am,aG,aE,bW,ak,dc,Bool.not_false];apply hK)
    refine af rfl (fun _=>?_) (fun h=>by simp at h)
    (refine aa [] fun K hK=>?_;simp(disch:=omega) only[kc,ab,ac,Value.oneCell'];apply hK)
    (refine ay ⟨.inr rfl,aO rfl ?_ rfl⟩;simp(disch:=omega) only[bE,Tryz.results58,aP,List.getElem?_cons_succ,List.getElem?_cons_zero])
 ·rw[FK f hn1 h1]at hSq
  refine⟨3,by simp[h1],?_⟩
  refine ax Tryz.func58 rfl (by kernel_rfl) ?_;rw[Tryz.ntmps58]
  (refine aa [] fun K hK=>?_;simp(disch:=omega) only[kc,ab,ci,List.replicate,ac,Value.oneCell'];apply hK)
  (refine aa [⟨1,_,_,_,hSq⟩] fun K hK=>?_;simp(disch:=omega) only[kc,ci,ar.a,ab,Nat.reduceAdd,ai,aN,aC,List.find?_cons,aD,aX,CallRes.plain,aF,aH,ap,noRefTV,am,aG,aE,aV,ak];apply hK)
  refine ae (aI ?_)
  (refine aa [] fun K hK=>?_;simp(disch:=omega) only[kc,ab,Nat.reduceAdd,bW,ak,dc,Bool.not_false,aB,reduceCtorEq,ac,Value.oneCell',Option.map_none,aQ];apply hK)
  refine af rfl (fun _=>?_) (fun h=>by simp at h)
  (refine aa [] fun K hK=>?_;simp(disch:=omega) only[kc,ab,ac,Value.oneCell'];apply hK)
  (refine ay ⟨.inr rfl,aO rfl ?_ rfl⟩;simp(disch:=omega) only[bE,Tryz.results58,aP,List.getElem?_cons_succ,List.getElem?_cons_zero])
end Go.Proofs.YtpgghglbpcabkaaGreat
