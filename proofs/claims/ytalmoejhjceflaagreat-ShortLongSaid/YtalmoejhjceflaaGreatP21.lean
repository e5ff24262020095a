/-
  Part 22 of a proof (walks and plain facts).
-/
import Derived.Test.YtalmoejhjceflaaGreatP20
import Derived.Maps.OwnOps
import Derived.Maps.Views
set_option linter.all false
set_option maxRecDepth 100000
set_option maxHeartbeats 64000000
open Nat renaming reduceAdd → aa
open Nat renaming reduceEqDiff → ab
open Nat renaming le_refl → ae
open List renaming replicate → af
open Nat renaming reduceBEq → ag
open Nat renaming reduceLeDiff → ai
open List renaming getElem?_append_left → aq
open List renaming getElem?_append_right → ar
namespace Go.Proofs.YtalmoejhjceflaaGreat
open Go.RowKit
def Jt (h B:Int) (ex:Bool) (x:Int):List (List Int):=if(!ex||decide (h*x*x=B))=true then[[x]]else[]
structure SW (r:Int) (g:Int->List (List Int)) (T:List (List Int)) where
 x:Int
 acc:List (List Int)
 h1:1<=x
 h2:x<=r+1
 e:acc++(rng x r).flatMap g=T
theorem PX {h B x:Int} (hh:0<h) (h0:0<=B) (hx:1<=x):h*x*x<=B↔x<=isqF (B/h):=by
 have hq:0<=B/h:=Int.ediv_nonneg h0 (by omega);rw[show h*x*x=x*x*h by grind,<- Int.le_ediv_iff_mul_le hh,oG (cz hq)];have:=(cz hq).1;omega
theorem P2 (h B:Int) (ex:Bool) (hh:0<h) (hh2:h<=10000) (h0:0<=B) (h1:B<=4611686018427387904) (hlen:((rng 1 (isqF (B/h))).flatMap (Jt h B ex)).length<=1000000):
  CallC Tryz.prog 137 [.raw (.int .i64 h),.raw (.int .i64 B),.raw (.bool ex)] ⟨[],ch ((rng 1 (isqF (B/h))).flatMap (Jt h B ex))⟩:=by
 have hq:0<=B/h:=Int.ediv_nonneg h0 (by omega);have hqB:B/h<=B:=Int.ediv_le_self _ h0;have hr:=lL hq (by omega);have hiff:=fun x (hx:1<=x)=>PX (x:=x) hh h0 hx
 have hbd: ∀x,1<=x->x<=2147483649->h*x<=21474836490000/\0<=h*x:=fun x h1 h2=>by
  have:=Int.mul_le_mul hh2 h2 (by omega) (by omega);exact⟨by omega,Int.mul_nonneg (by omega) (by omega)⟩
 have hbd2: ∀x,1<=x->x<=isqF (B/h)+1->0<=h*x*x/\h*x*x<=4611800000000000000:=fun x k1 k2=>by
  obtain⟨b1,b2⟩:=hbd x k1 (by omega);refine⟨Int.mul_nonneg b2 (by omega),?_⟩;by_cases hx:x<=isqF (B/h)
  ·have:=(hiff x k1).2 hx;omega
  by_cases hx1:x=1
  ·rw[hx1,Int.mul_one];omega
  have h3:=(hiff (x-1) (by omega)).2 (by omega);have e:h*x*x=h*(x-1)*(x-1)+2*(h*x)-h:=by grind
  omega
 generalize hT:(rng 1 (isqF (B/h))).flatMap (Jt h B ex)=T at*
 generalize isqF (B/h)=r at*
 refine aK Tryz.func137 rfl (by kernel_rfl) ?_;rw[Tryz.ntmps137];refine aE fun _ K=>?_;simp only[kd,aa,af];apply K
 refine aE fun _ K=>?_;simp only[kd];apply K
 refine aG (aE fun _ K=>?_);simp only[kd];apply K;refine bH (G:=SW r (Jt h B ex) T) (fun g=>⟨(.raw (.int .i64 h)::.raw (.int .i64 B)::.raw (.bool ex)::j4 (.one (.sl 33 0 0 g.acc.length)::.raw (.int .i64 g.x)::j16 (j4 (j4 (jk::jk::[]))))),Hm [(33,[⟨35,1,lc (fR fI) g.acc⟩])]⟩) (fun g=>(r+1-g.x).toNat) ⟨1,[],by omega,by omega,by rw[List.nil_append];exact hT⟩ ?_ ?_
 ·refine(rM (k:=7) (d:=33) 35 1 (by omega) rfl rfl).trans (aF ⟨rfl,trivial⟩ ?_);simp[wk]
 rintro⟨x,acc,hx1,hx2,he⟩;simp only;obtain⟨b1,b2⟩:=hbd x hx1 (by omega);obtain⟨b3,b4⟩:=hbd2 x hx1 hx2;have hi:=hiff x hx1;by_cases hx:x<=r
 ·have hle:=hi.2 hx;rw[fh hx,List.flatMap_cons,<- List.append_assoc]at he;have hal:(acc++Jt h B ex x).length<=1000000:=by
   rw[<- he,List.length_append]at hlen;omega
  rw[show Jt h B ex x=if(!ex||decide (h*x*x=B))=true then[[x]]else[]from rfl]at he hal;generalize hG:Jt h B ex=G at*
  generalize hu:h*x=u at*
  generalize hw:u*x=w at*
  refine aG (aE fun _ K=>?_);simp(disch:=omega) only[kd,aa,hu,aM,hw];apply K;refine bo rfl (aR ?_);refine aG (aP ?_);have hlx:lc (fR fI) acc++[[AV.p (.sl [[.raw (.int .i64 x)]])]]=lc (fR fI) (acc++[[x]]):=mq acc [x];cases ex with
  |false=>
   simp only[Bool.not_false,Bool.true_or,if_true]at he hal;have hal1:acc.length+1<=1000000:=by simpa using hal
   refine aE fun _ K=>?_;simp(disch:=omega) only[kd,aa,reduceCtorEq];apply K
   refine bo rfl ?_;refine aO fun _ K=>?_;simp(disch:=omega) only[kd,aa,Nat.reduceMul,ai,hlx];apply K
   show bu _ _ _ _;refine aO fun _ K=>?_;simp(disch:=omega) only[kd,aa,aM];apply K
   refine⟨⟨x+1,acc++[[x]],by omega,by omega,he⟩,by simp only;omega,aF ⟨rfl,trivial⟩ ?_⟩;simp[wk]
  |true=>
   simp only[Bool.not_true,Bool.false_or,decide_eq_true_eq]at he hal;by_cases hB:w=B
   ·have hB1:(w=B)=True:=eq_true hB;rw[if_pos hB]at he hal;have hal1:acc.length+1<=1000000:=by simpa using hal
    refine aE fun _ K=>?_;simp(disch:=omega) only[kd,aa,hu,aM,hw,hB1];apply K
    refine bo rfl ?_;refine aO fun _ K=>?_;simp(disch:=omega) only[kd,aa,Nat.reduceMul,ai,hlx];apply K
    show bu _ _ _ _;refine aO fun _ K=>?_;simp(disch:=omega) only[kd,aa,aM];apply K
    refine⟨⟨x+1,acc++[[x]],by omega,by omega,he⟩,by simp only;omega,aF ⟨rfl,trivial⟩ ?_⟩;simp[wk]
   have hB1:(w=B)=False:=eq_false hB;rw[if_neg hB,List.append_nil]at he;refine aE fun _ K=>?_;simp(disch:=omega) only[kd,aa,hu,aM,hw,hB1];apply K
   refine aU rfl (aR ?_);show bu _ _ _ _;refine aO fun _ K=>?_;simp(disch:=omega) only[kd,aa,aM];apply K
   refine⟨⟨x+1,acc,by omega,by omega,he⟩,by simp only;omega,aF ⟨rfl,trivial⟩ ?_⟩;simp[wk]
 have hgt: ¬h*x*x<=B:=fun k=>hx (hi.1 k)
 rw[fm hx,List.flatMap_nil,List.append_nil]at he;subst he;generalize hu:h*x=u at*
 generalize hw:u*x=w at*
 refine aG (aE fun _ K=>?_);simp(disch:=omega) only[kd,aa,hu,aM,hw];apply K;refine aU rfl (cK ?_);show bu _ _ _ _;refine aE fun _ K=>?_;simp only[kd];apply K
 refine aL ⟨.inr rfl,xM 33 (dR rfl) ?_ rfl⟩;simp(disch:=omega) only[kd,Tryz.results137,ch];rw[List.take_of_length_le (by omega)]
theorem JU {a d m:Nat} (x:AV) (h:bG a x):bG d (f9 (ld a d m) x):=by
 cases x with
 |sl b r off len=>have h:b=a:=h;subst h;simp[f9,ld,bG]
 |ptr b r i j=>have h:b=a:=h;subst h;simp[f9,ld,bG]
 |fn f b qs=>
  obtain⟨h,hq⟩:=h;subst h;cases qs with
  |nil=>exact absurd rfl hq
  |cons q l=>simp[f9,ld,bG]
 |_=>trivial
theorem d4 {s:AS} (a d:Nat) (hne:d≠a) (ha:a<=4999):bW s ⟨s.tmps.map (zW (ld a d (s.H d).length)),aJ (aJ s.H a []) d (s.H d++(s.H a).map (tA (ld a d (s.H d).length)))⟩:=by
 intro w0 O X act w hr;obtain⟨h1,hsz,ρ,hinv,htm⟩:=id hr;generalize hm:(s.H d).length=m;have hd1:aJ (aJ s.H a []) d (s.H d++(s.H a).map (tA (ld a d m))) d=s.H d++(s.H a).map (tA (ld a d m)):=aX;have ha1:aJ (aJ s.H a []) d (s.H d++(s.H a).map (tA (ld a d m))) a=[]:=by rw[aN (Ne.symm hne),aX]
 have hn1: ∀x,x≠d->x≠a->aJ (aJ s.H a []) d (s.H d++(s.H a).map (tA (ld a d m))) x=s.H x:=fun x h k=>by rw[aN h,aN k]
 refine yq (ld a d m) _ (fun b r o ho=>?_) (fun b r o ho=>?_) (fun b r b' r' o o' ho ho' he=>?_) (fun b r h=>?_) (fun b r o ho=>?_) w0 O X act w hr
 ·by_cases hb:b=a
  ·subst hb;simp only[ld,if_pos];rw[hd1,ar (by omega),List.getElem?_map,show m+r-(s.H d).length=r by omega,ho];rfl
  rw[qa hb (hinv.self b r o ho)];simp only[ld,if_neg hb];by_cases hbd:b=d
  ·subst hbd;rw[hd1,aq (List.getElem?_eq_some_iff.1 ho).1];exact ho
  rw[hn1 b hbd hb];exact ho
 ·by_cases hb:b=d
  ·subst hb;rw[hd1]at ho;by_cases hr:r<m
   ·rw[aq (by omega)]at ho;exact⟨b,r,o,ho,(qa hne (hinv.self b r o ho)).symm,if_neg hne⟩
   rw[ar (by omega),List.getElem?_map]at ho;obtain⟨o1,ho1,rfl⟩:=Option.map_eq_some_iff.1 ho;refine⟨a,r-(s.H b).length,o1,ho1,rfl,?_⟩;simp only[ld,if_pos];rw[show m+(r-(s.H b).length)=r by omega]
  by_cases hba:b=a
  ·subst hba;rw[ha1]at ho;simp at ho
  rw[hn1 b hb hba]at ho;exact⟨b,r,o,ho,(qa hba (hinv.self b r o ho)).symm,if_neg hba⟩
 ·have lt: ∀(r:Nat) o,(s.H d)[r]?=some o->r<m:=fun r o h=>by have:=(List.getElem?_eq_some_iff.1 h).1;omega
  unfold ld at he;by_cases hb:b=a
  ·rw[if_pos hb]at he;by_cases hb':b'=a
   ·rw[if_pos hb']at he;injection he with _ he
    exact⟨hb.trans hb'.symm,by omega⟩
   rw[if_neg hb']at he;injection he with e1 e2
   subst e1;have:=lt r' o' ho';omega
  rw[if_neg hb]at he;by_cases hb':b'=a
  ·rw[if_pos hb']at he;injection he with e1 e2
   subst e1;have:=lt r o ho;omega
  rw[if_neg hb']at he;injection he with e1 e2
  exact⟨e1,e2⟩
 ·unfold ld at h;by_cases hb:b=a
  ·rw[hb];exact ha
  rw[if_neg hb]at h;exact h
 by_cases hb:b=d
 ·subst hb;rw[hd1]at ho;by_cases hr:r<m
  ·rw[aq (by omega)]at ho;exact hinv.self b r o ho
  rw[ar (by omega),List.getElem?_map]at ho;obtain⟨o1,ho1,rfl⟩:=Option.map_eq_some_iff.1 ho;have hs:=hinv.self a _ o1 ho1;intro e he x hx;simp only[tA,List.mem_map]at he;obtain⟨e1,he1,rfl⟩:=he;simp only[List.mem_map]at hx;obtain⟨x1,hx1,rfl⟩:=hx;exact JU x1 (hs e1 he1 x1 hx1)
 by_cases hba:b=a
 ·subst hba;rw[ha1]at ho;simp at ho
 rw[hn1 b hb hba]at ho;exact hinv.self b r o ho
theorem Dl {P:Program} {c:Code} {Q:Exit->AS->Prop} {s:AS} (h:dY P QZ [] c (fun e s _=>Q e s) s ()):bu P c Q s:=fun w0 O X a w r=>
 wp_mono (h (fun _=>none) w0 O X a w ⟨M5.2 r,fun _ hk=>by simp at hk⟩) fun _ _ _ ⟨s',_,h1,h2⟩=>⟨s',h1,h2.1.1⟩
section
section
variable {n:Nat} {f:FF} {B:Int}
theorem mN.tcb (hv:mN n f B) {k:Nat} {y:List Int} (hk:y.length+(k+1)=n) (hT:mZ y) (hP:fD f n B (k+1) (bj n y)) {c:Int} (h1:dB f n B k (bj n y)<=c) (h2:c<=d6 f n B k (bj n y)):mZ (c::y):=by
 have:=hv.lohi hk hT hP;exact hT.cons (by omega)
theorem Iz (hv:mN n f B): ∀(k:Nat) (y:List Int) (acc:List (Int×Int)),y.length+(k+1)=n->mZ y->fD f n B (k+1) (bj n y)->(acc++nL f n B k y).length<=2000000->Ra n f B k y acc
 |0,y,acc,hk,hT,hP,hl=>IA hv 0 y acc hk hT hP hl fun j e=>absurd e (by omega)
 |k+1,y,acc,hk,hT,hP,hl=>IA hv (k+1) y acc hk hT hP hl fun j e c acc' h1 h2 h3=>by
  obtain rfl:k=j:=by omega
  exact Iz hv k (c::y) acc' (by rw[List.length_cons];omega) (hv.tcb hk hT hP h1 h2) (hv.step hk hP h1 h2).1 h3
theorem NA {y:List Int} (h: ∀x∈y,x=0) (i:Nat):y.getD i 0=0:=by
 rw[List.getD_eq_getElem?_getD];cases hy:y[i]? with
 |none=>rfl
 |some x=>exact h x (List.mem_of_getElem? hy)
theorem mu (hv:mN n f B) {k:Nat} {y:List Int} (hk:y.length+(k+1)=n) (hP:fD f n B (k+1) (bj n y)) (h: ∀x∈y,x=0):dB f n B k (bj n y)<=0:=by
 have hs:qV f k y y.length=0:=by
  unfold qV;have: ∀m,cg (fun b=>bk f k k (k+(b+1))*y.getD b 0) m=0:=fun m=>by
   induction m with
   |zero=>rfl
   |succ m ih=>
    show cg _ m+bk f k k (k+(m+1))*y.getD m 0=0;rw[ih,NA h];simp
  exact this _
 rw[mG f hk]at hs;have hsq:=hv.sq (k:=k) (by omega) hP;have hr:=lL hsq.1 hsq.2;have hd:=hv.d (k:=k+1) (by omega);unfold dB;rw[hs];have:=Int.ediv_nonneg (a:=isqF (kS f n B k (bj n y))+0) (b:=dk f (k+1)) (by omega) (by omega);omega
theorem Ak (hv:mN n f B) (ex:Bool): ∀(k:Nat) (y:List Int) (z:Bool) (acc:List (List Int)),y.length+(k+1)=n->mZ y->fD f n B (k+1) (bj n y)->(z=true-> ∀x∈y,x=0)->(acc++uD f n B ex k y z).length<=1000000->Ri n f B ex k y z acc
 |0,y,z,acc,hk,hT,hP,hz,hl=>Al hv 0 y z acc hk hT hP (fun e=>mu hv hk hP (hz e)) hl fun j e=>absurd e (by omega)
 |k+1,y,z,acc,hk,hT,hP,hz,hl=>Al hv (k+1) y z acc hk hT hP (fun e=>mu hv hk hP (hz e)) hl fun j e c acc' h1 h2 _ h3=>by
  obtain rfl:k=j:=by omega
  exact Ak hv ex k (c::y) (z&&decide (c=0)) acc' (by rw[List.length_cons];omega) (hv.tcb hk hT hP h1 h2) (hv.step hk hP h1 h2).1 (fun e=>by
   simp only[Bool.and_eq_true,decide_eq_true_eq]at e;intro x hx;rcases List.mem_cons.1 hx with rfl|hx
   ·exact e.2
   exact hz e.1 x hx) h3
theorem rL {s:AS} (b r:Nat) {ty:TypeId} {n:Nat} (ho:(s.H b)[r]?=some ⟨ty,1,lc fI (af n 0)⟩):bW s ⟨s.tmps,aJ s.H b ((s.H b).set r ⟨ty,1,jnk n++lc fI []⟩)⟩:=
 kq b r (o':=⟨ty,1,jnk n++lc fI []⟩) ho rfl rfl (by simp[jnk,jK,lc]) fun i e' he=>by
  have hi:i<n:=by have:=(List.getElem?_eq_some_iff.1 he).1;simpa[jnk,lc] using this
  rw[aq (by simpa[jnk] using hi)]at he;simp[jnk,hi]at he;subst he;refine⟨[.p (.raw (.int .i64 0))],by rw[xn];simp[hi,fI],rfl,fun j x hx=>?_⟩;cases j with
  |zero=>simp at hx;exact .inl hx.symm
  |succ j=>simp at hx
theorem Mk (hv:mN n f B) (hw:OP n f) (hb:Rk n f) (h2:2<=n) (hl:(nL f n B (n-1) []).length<=2000000):CallC Tryz.prog 94 [ch (mat n n f),.raw (.int .i64 B)] ⟨[],Q3 (nL f n B (n-1) [])⟩:=by
 have hn8:=hv.n8;have hPt:fD f n B n (bj n []):=ji hv.r.pd hv.b0;have cV:=Iz hv (n-1) [] [] (by simp;omega) mZ.nil (by rw[show n-1+1=n by omega];exact hPt) (by simpa using hl);unfold Ra at cV;rw[show n-1+1=n by omega,Cu hv]at cV;simp only[List.nil_append]at cV;have hd:=hv.d (k:=n) (ae n);have hb0:=hv.b0;have hb1:=hv.b1;have hpr0:0<=dk f n*B:=Int.mul_nonneg (by omega) hb0;have hpr1:dk f n*B<=65536*1073741824:=Int.mul_le_mul (by omega) hb1 hb0 (by omega);have cN:=Ns hw hb;have hml:=bV n n f;have hDn:=aZ (dk f) (show n<n+1 by omega);have hDl:=aW (n+1) (dk f);have hn1:((n:Int)=1)=False:=eq_false (by omega);have e1:IntKind.i64.wrap ((n:Int)-1)=((n-1:Nat):Int):=by rw[aM (by omega) (by omega)];omega
 unfold R8 at cN;generalize mat n n f=R at*
 generalize be (n+1) (dk f)=D at*
 generalize dT n f n=M at*
 generalize dk f n=d at*
 generalize hre:d*B=re at*
 generalize nL f n B (n-1) []=E at*
 clear hv hPt hw hb;refine aK Tryz.func94 rfl (by kernel_rfl) ?_;rw[Tryz.ntmps94];refine aE fun _ K=>?_;simp only[kd,ch,aa,af];apply K
 refine aE fun _ K=>?_;simp only[kd,aa,hml];apply K
 refine aG (aE fun _ K=>?_);simp only[kd,hn1];apply K;refine aU rfl (aR ?_);show bu _ _ _ _;refine aI [⟨1,_,_,_,cN⟩] [] fun _ K=>?_;simp(disch:=omega) only[kd,ch,aa];apply K
 refine aE fun _ K=>?_;simp(disch:=omega) only[kd,aa,Pv n,ab,ai,List.length_replicate,ag];apply K
 refine aE fun _ K=>?_;simp(disch:=omega) only[kd,ab];apply K
 refine aE fun _ K=>?_;simp(disch:=omega) only[kd,ab];apply K
 refine bu.weak ((iH 9 0 0 0 133 2 (by omega) rfl rfl rfl).trans ((rL 8 1 (n:=n) rfl).trans ((d4 7 10 (by decide) (by decide)).trans ((d4 8 10 (by decide) (by decide)).trans (d4 9 10 (by decide) (by decide)))))) ?_;refine bu.weak (aF (tm:=(jk::.raw (.int .i64 B)::jk::jk::jk::rN n::jk::.one (.ptr 10 1 0 0)::.one (.ptr 10 2 0 0)::.one (.ptr 10 4 0 0)::.one (.ptr 10 0 0 0)::j16 (j16 (jk::jk::[])))) (l:=[(10,[⟨190,1,[[.raw .nilFunc]]⟩,⟨188,2,[[.p (.sl (ls fI D)),.p (.sl (ls (fR fI) M))]]⟩,⟨35,1,[[.sl 10 3 0 n]]⟩,⟨2,1,jnk n++lc fI []⟩,⟨76,1,[[.sl 10 5 0 0]]⟩,⟨133,2,lc fV []⟩])]) ⟨?_,trivial⟩ (by simp[wk,zW,f9,ld,aJ])) ?_
 ·simp[aJ,tA,f9,ld,zH];exact⟨by simp[jnk,lc,f9],rfl⟩
 refine aE fun _ K=>?_;simp(disch:=omega) only[kd,gY,jO,aa];apply K
 refine aG (Dl (lA bU cV 10 [] [] (by kernel_rfl) (by omega) (by kernel_rfl) fun K hK=>?_));simp(disch:=omega) only[kd,List.size_toArray,aa,Nat.reduceSub,e1,hDn,hre,aM];refine hK _ ⟨⟨rfl,?_⟩,?_⟩
 ·rw[DK];simp only[aX,yY,xp,List.append_nil,List.length_nil]
 clear hK K;show bu _ _ _ _;refine aE fun _ K=>?_;simp(disch:=omega) only[kd,BB,jY,List.size_toArray,aa,Nat.reduceSub,QY,oH,k8,ag,fX];apply K
 refine aL ⟨.inr rfl,_,rK 10 5 (o0:=⟨133,2,lc fV E⟩) rfl (bz _ _ _),j9 (d:=1000) rfl ?_ rfl⟩;simp(disch:=omega) only[kd,Tryz.results94,DO,fG,ab,reduceCtorEq];rw[List.take_of_length_le (ae _)]
theorem L0 (hv:mN n f B) (hw:OP n f) (hb:Rk n f) (ex:Bool) (h2:2<=n) (hl:(uD f n B ex (n-1) [] true).length<=1000000):CallC Tryz.prog 90 [ch (mat n n f),.raw (.int .i64 B),.raw (.bool ex)] ⟨[],ch (uD f n B ex (n-1) [] true)⟩:=by
 have hn8:=hv.n8;have hPt:fD f n B n (bj n []):=ji hv.r.pd hv.b0;have cV:=Ak hv ex (n-1) [] true [] (by simp;omega) mZ.nil (by rw[show n-1+1=n by omega];exact hPt) (fun _ x hx=>by simp at hx) (by simpa using hl);unfold Ri at cV;rw[show n-1+1=n by omega,Cu hv]at cV;simp only[List.nil_append]at cV;have hd:=hv.d (k:=n) (ae n);have hb0:=hv.b0;have hb1:=hv.b1;have hpr0:0<=dk f n*B:=Int.mul_nonneg (by omega) hb0;have hpr1:dk f n*B<=65536*1073741824:=Int.mul_le_mul (by omega) hb1 hb0 (by omega);have cN:=Ma hw hb;have hml:=bV n n f;have hDn:=aZ (dk f) (show n<n+1 by omega);have hDl:=aW (n+1) (dk f);have hn1:((n:Int)=1)=False:=eq_false (by omega);have e1:IntKind.i64.wrap ((n:Int)-1)=((n-1:Nat):Int):=by rw[aM (by omega) (by omega)];omega
 unfold R8 at cN;generalize mat n n f=R at*
 generalize be (n+1) (dk f)=D at*
 generalize dT n f n=M at*
 generalize dk f n=d at*
 generalize hre:d*B=re at*
 generalize uD f n B ex (n-1) [] true=E at*
 clear hv hPt hw hb;refine aK Tryz.func90 rfl (by kernel_rfl) ?_;rw[Tryz.ntmps90];refine aE fun _ K=>?_;simp(disch:=omega) only[kd,ch,aa,af];apply K
 refine aG (aE fun _ K=>?_);simp only[kd,aa,hml,hn1];apply K;refine aU rfl (aR ?_);show bu _ _ _ _;refine aE fun _ K=>?_;simp only[kd,aa,hml];apply K
 refine aI [⟨1,_,_,_,cN⟩] [] fun _ K=>?_;simp(disch:=omega) only[kd,ch,aa,ab];apply K
 refine aE fun _ K=>?_;simp(disch:=omega) only[kd,aa,Pv n,ab,ai,List.length_replicate,ag];apply K
 refine aE fun _ K=>?_;simp(disch:=omega) only[kd,ab];apply K
 refine aE fun _ K=>?_;simp(disch:=omega) only[kd,ab];apply K
 refine bu.weak ((iH 10 0 0 0 35 1 (by omega) rfl rfl rfl).trans ((rL 9 1 (n:=n) rfl).trans ((d4 8 11 (by decide) (by decide)).trans ((d4 9 11 (by decide) (by decide)).trans ((d4 10 11 (by decide) (by decide)).trans (d4 5 11 (by decide) (by decide))))))) ?_;refine bu.weak (aF (tm:=(jk::.raw (.int .i64 B)::jk::jk::jk::.one (.ptr 11 6 0 0)::jk::rN n::.one (.ptr 11 1 0 0)::.one (.ptr 11 2 0 0)::.one (.ptr 11 4 0 0)::.one (.ptr 11 0 0 0)::j16 (j4 (j4 (j4 (jk::jk::[])))))) (l:=[(11,[⟨182,1,[[.raw .nilFunc]]⟩,⟨180,2,[[.p (.sl (ls fI D)),.p (.sl (ls (fR fI) M))]]⟩,⟨35,1,[[.sl 11 3 0 n]]⟩,⟨2,1,jnk n++lc fI []⟩,⟨26,1,[[.sl 11 5 0 0]]⟩,⟨35,1,lc (fR fI) []⟩,⟨4,1,[[.raw (.bool ex)]]⟩])]) ⟨?_,trivial⟩ (by simp[wk,zW,f9,ld,aJ])) ?_
 ·simp[aJ,tA,f9,ld,zH];exact⟨by simp[jnk,lc,f9],rfl⟩
 refine aE fun _ K=>?_;simp(disch:=omega) only[kd,gY,jO,aa];apply K
 refine aG (Dl (lA bU cV 11 [] [] (by kernel_rfl) (by omega) (by kernel_rfl) fun K hK=>?_));simp(disch:=omega) only[kd,List.size_toArray,aa,Nat.reduceSub,e1,hDn,hre,aM];refine hK _ ⟨⟨rfl,?_⟩,?_⟩
 ·rw[rp];simp only[aX,yh,xp,List.append_nil,List.length_nil]
 clear hK K;show bu _ _ _ _;refine aE fun _ K=>?_;simp(disch:=omega) only[kd,BB,jY,List.size_toArray,aa,Nat.reduceSub,Ov,oH,k8,ag,fX];apply K
 refine aL ⟨.inr rfl,_,rK 11 5 (o0:=⟨35,1,lc (fR fI) E⟩) rfl (bz _ _ _),j9 (d:=1000) rfl ?_ rfl⟩;simp(disch:=omega) only[kd,Tryz.results90,DO,fG,ab,reduceCtorEq,ch];rw[List.take_of_length_le (ae _)]
end
end
section
structure rH (P:Program) (t kt et:TypeId):Prop where
 ht:P.underlying t=some (.map kt et)
 hk:P.underlying kt=some (.int .i64)
 he:P.underlying et=some (.int .i64)
 hz: ∀w:World,(zeroValue et).run P w= .ok (.int .i64 0) w
abbrev MapS:=Nat×(Int->Int)
def rG (P:Program) (kt et:TypeId) (r:Nat) (g:MapS) (w:World):Prop:= ∃D:DataW Unit,Maps.IsMap D/\w.ownsMap P kt (plainElem P et) r g.1 D/\ ∀k,I64 k->D.atKey (.int .i64 k) (.lit (.int .i64 0))= .lit (.int .i64 (g.2 k))
section
variable {P:Program} {t kt et:TypeId} {r:Nat} {g:MapS} {a:Act} {w0 w w':World} {O X:Nat->Prop} {s s':AS} {ks:List Nat}
theorem rG.same (h:w'.heap[r]?=w.heap[r]?) (hG:rG P kt et r g w):rG P kt et r g w':=by
 obtain⟨D,hm,⟨es,clk,hb,hf,hs,hD⟩,hat⟩:=hG;exact⟨D,hm,⟨es,clk,h.trans hb,hf,hs,hD⟩,hat⟩
theorem rG.lt (hG:rG P kt et r g w):r<w.heap.size:=by
 obtain⟨D,hm,hown,hat⟩:=hG;exact hown.lt
def kG (P:Program) (kt et:TypeId) (r:Nat):jd MapS:=⟨fun j=>j=r,rG P kt et r,fun _ _ _ h hG=>hG.same (h r rfl)⟩
def lT (g:MapS) (k z:Int):MapS:=(g.1+1,fun j=>if j=k then z else g.2 j)
theorem Au (T:rH P t kt et) {o:Oper} {x ix:Operand} {k:Int} (hop:o.op= .lookup t x ix false) (hx:s.ev x=some (.raw (.map (some r)))) (hi:s.ev ix=some (.raw (.int .i64 k))) (hk:I64 k):
  wJ P o (ee (kG P kt et r) w0 O X g s) (ee (kG P kt et r) w0 O X g (s.put o.dst (.raw (.int .i64 (g.2 k))))):=fun a w K Q ⟨hr,hB,hG⟩ hK=>by
 obtain⟨h1,hsz,ρ,hinv,htm⟩:=hr;have htm:bq X ρ s a w:=htm;have hG':rG P kt et r g w:=hG;obtain⟨D,hm,hown,hat⟩:=hG';obtain⟨c,hrun,hc,_⟩:=hown.lookup_int (Maps.int_keyed T.hk) T.ht T.he (T.hz w) (Maps.keyOf_int_mk T.hk (WalkArith.wf_i64 hk));rw[hat k hk]at hc;injection hc with hc
 injection hc with _ hc
 subst hc;have e1:a.eval x= .map (some r):=(bs (bD htm x _ hx)).1;have e2:a.eval ix= .int .i64 k:=(bs (bD htm ix _ hi)).1;refine iF (.inl rfl) ?_;unfold Oper.wp;simp[execOp,hop,e1,e2,hrun,Result.andThen];exact hK _ _ ⟨dP h1 hsz hinv htm (bX.raw _ rfl),hB,hG⟩
theorem Av (T:rH P t kt et) {o:Oper} {m x v:Operand} {k z:Int} (hop:o.op= .mapUpdate t m x v) (hd:o.dst=none) (hm:s.ev m=some (.raw (.map (some r)))) (hx:s.ev x=some (.raw (.int .i64 k))) (hv:s.ev v=some (.raw (.int .i64 z))) (hk:I64 k) (hz:I64 z) (hn:g.1<maxLen):
  wJ P o (ee (kG P kt et r) w0 O X g s) (ee (kG P kt et r) w0 O X (lT g k z) s):=fun a w K Q ⟨hr,hB,hG⟩ hK=>by
 obtain⟨h1,hsz,ρ,hinv,htm⟩:=id hr;have htm:bq X ρ s a w:=htm;have hG':rG P kt et r g w:=hG;obtain⟨D,hmap,hown,hat⟩:=hG';have hkey:=Maps.keyOf_int_mk T.hk (WalkArith.wf_i64 hk);obtain⟨w',hrun,hown',hgrow⟩:=hown.update (Maps.int_keyed T.hk) T.ht hn hkey (plainElem_int T.he (WalkArith.wf_i64 hz));have e0:a.eval m= .map (some r):=(bs (bD htm m _ hm)).1;have e1:a.eval x= .int .i64 k:=(bs (bD htm x _ hx)).1;have e2:a.eval v= .int .i64 z:=(bs (bD htm v _ hv)).1;have hr':cW w0 O X s a w':=cW.turn (B:=fun j=>j=r) hr hB ⟨hgrow.os,hgrow.tape,hgrow.output,hgrow.size,fun j hj hne=>hgrow.block j hj fun e=>hne (by injection e)⟩;have hG2:rG P kt et r (lT g k z) w':=by
  refine⟨_,hmap.put _ _,hown',fun j hj=>?_⟩;show _=DataW.lit (Lit.int .i64 (if j=k then z else g.2 j));by_cases e:j=k
  ·subst e;rw[if_pos rfl];exact Maps.atKey_put_same hmap ((Maps.int_keyed T.hk).key hkey) _ _
  rw[if_neg e];rw[Maps.atKey_put_other (fun h=>e (by injection h))];exact hat j hj
 refine iF (.inl rfl) ?_;unfold Oper.wp;simp[execOp,hop,e0,e1,e2,hrun,Result.andThen];have:=hK undef w';rw[hd]at this;show K (a.put o.dst undef) w';rw[hd];exact this ⟨hr',hB,hG2⟩
/-! A drawn region with a call or a look-up in the middle and a last operation behind all others. -/
def Jq (ops:Array Oper) (m:Nat) (fas:List Nat):Bool:=decide (m+1<ops.size)&&cL [] (gn (gg ops m) (ops.size-1))&&(match ops[m]? with|some o=>o.guard.isNone&&o.dst.isSome|none=>false)&&
 ((List.range (ops.size-1)).all fun i=>((lE (gn (gg ops m) (ops.size-1)).toList []).getD (ops.size-1) 0).testBit i)&&
 (List.range (ops.size-1)).all fun i=>i==m||(if i<m then((lE (gn (gg ops m) (ops.size-1)).toList []).getD m 0).testBit i else((lE (gn (gg ops m) (ops.size-1)).toList []).getD i 0).testBit m)||(match ops[i]? with|some o=>zk (o6 ops m) fas o|none=>true)
theorem Ff {R1 R2:AS->Act->World->Prop} (M1:u6 ks R1) (hmx:P.follows .mixedOrders=true) (items:List (aH P)) (ow:List Nat) (m:Nat) (fas:List Nat) (x:PV) {id:Nat} {ops:Array Oper} (hk:dC ks ops=true) (hE:Jq ops m fas=true) {s s1 s2 s3:AS} (h1:eD P (items.map aH.a) ow ops ((ops.toList.take m).zipIdx 0) s=some s1)
  (hsp: ∀s',lg (o6 ops m) fas s1 s'->iw s'->nR P ops m (R1 s') (R1 (s'.put (jY ops m) (.one (.p x))))) (h2:eD P (items.map aH.a) ow ops (((ops.toList.take (ops.size-1)).drop (m+1)).zipIdx (m+1)) (s1.put (jY ops m) (.one (.p x)))=some s2)
  (hlast:nR P ops (ops.size-1) (R1 s2) (R2 s3)) {Q:Exit->Act->World->Prop} (hr:R1 s a w) (hQ: ∀a' w',R2 s3 a' w'->Q .normal a' w'):(Code.region id ops true).wp P Q a w:=by
 simp only[Jq,Bool.and_eq_true,decide_eq_true_eq,List.all_eq_true,List.mem_range]at hE;obtain⟨⟨⟨⟨hm1,hd⟩,hgd⟩,hanc⟩,hst⟩:=hE;obtain⟨ol,hol,hgl,hsol⟩:=hlast;generalize hz:ops.size-1=z at*
 have hzlt:z<ops.size:=by omega
 have hmz:m<z:=by omega
 have hmlt:m<ops.size:=by omega
 obtain⟨o,ho⟩: ∃o,ops[m]?=some o:=⟨ops[m],by simp[hmlt]⟩;rw[ho]at hgd;simp only[Bool.and_eq_true]at hgd;obtain⟨hg,hds⟩:=hgd;obtain⟨d,hds⟩:=Option.isSome_iff_exists.1 hds;have hg:o.guard=none:=by simpa using hg
 have hcw:jY ops m=some d:=by unfold jY;rw[ho];exact hds
 rw[hcw]at hsp h2;have hml:(ops.toList.take m).length=m:=by rw[List.length_take];simp;omega
 let it:cQ P:=⟨m,0,[],⟨[],.one (.p x)⟩⟩
 have hfind: ∀i,i≠m->(it::items.map aH.a).find? (·.i==i)=(items.map aH.a).find? (·.i==i):=fun i hi=>by
  have:(it.i==i)=false:=by simpa[it] using Ne.symm hi
  rw[List.find?_cons,this]
 have hget0: ∀i,i≠m->i≠z->(gn (gg ops m) z)[i]?=ops[i]?:=fun i h1 h2=>by rw[eR,if_neg h2,f4,if_neg h1]
 have hstep0: ∀(i:Nat) (o:Oper) (s:AS),i≠m->bf P (it::items.map aH.a) ow (gn (gg ops m) z) i o s=bf P (items.map aH.a) ow ops i o s:=fun i o s hi=>by
  rw[gV,lC,lB (hfind i hi)]
 have key: ∀(l:List Nat) (s:AS),(∀i∈l,i≠m/\i≠z)->cn P (it::items.map aH.a) ow (gn (gg ops m) z) l s=cn P (items.map aH.a) ow ops l s:=fun l=>by
  induction l with
  |nil=>intros;rfl
  |cons i l ih=>
   intro s hl;have hi:=hl i (by simp);have e:co P (it::items.map aH.a) ow (gn (gg ops m) z) i s=co P (items.map aH.a) ow ops i s:=by
    unfold co;rw[hget0 i hi.1 hi.2];simp only[hstep0 i _ _ hi.1]
   simp only[cn,e];cases co P (items.map aH.a) ow ops i s with
   |none=>rfl
   |some s2=>exact ih s2 fun j hj=>hl j (by simp[hj])
 have hpre:cn P (it::items.map aH.a) ow (gn (gg ops m) z) (List.range m) s=some s1:=by
  have:=dW (P:=P) (items:=items.map aH.a) (ow:=ow) (ops.toList.take m) 0 s (fun j o hj=>by
   rw[List.getElem?_take]at hj;split at hj
   ·simpa using hj
   cases hj)
  rw[h1,hml,<- List.range_eq_range']at this;rw[this];exact key _ _ fun i hi=>by have:=List.mem_range.1 hi;omega
 have hsuf:cn P (it::items.map aH.a) ow (gn (gg ops m) z) (List.range' (m+1) (z-m-1)) (s1.put (some d) (.one (.p x)))=some s2:=by
  have:=dW (P:=P) (items:=items.map aH.a) (ow:=ow) (ops:=ops) ((ops.toList.take z).drop (m+1)) (m+1) (s1.put (some d) (.one (.p x))) (fun j o hj=>by
   rw[List.getElem?_drop,List.getElem?_take]at hj;split at hj
   ·simpa using hj
   cases hj)
  rw[h2,List.length_drop,List.length_take,Array.length_toList,show min z ops.size-(m+1)=z-m-1 by omega]at this;rw[this];exact key _ _ fun i hi=>by have:=List.mem_range'_1.1 hi;omega
 have hdm:(gn (gg ops m) z)[m]?=some (iD o):=by rw[eR,if_neg (by omega),f4,if_pos rfl,ho];rfl
 have hdz:(gn (gg ops m) z)[z]?=some (pO ol):=by rw[eR,if_pos rfl,f4,if_neg (by omega),hol];rfl
 have hmid: ∀s:AS,bf P (it::items.map aH.a) ow (gn (gg ops m) z) m (iD o) s=some (s.put (some d) (.one (.p x))):=fun s=>by
  unfold bf;rw[show(iD o).guard=none from hg];show dr P _ ow m (iD o) s=_;have hfm:(it::items.map aH.a).find? (·.i==m)=some it:=by
   rw[List.find?_cons,show(it.i==m)=true by simp[it]]
  have hA:cf P (it::items.map aH.a) ow m d s.ev s.H (iD o).op=some (.one (.p x),[]):=by
   simp only[iD,cf,hfm,ew];simp[it,CallRes.plain,renTV,cb,noRefTV,dZ]
  unfold dr;rw[show(iD o).dst=some d from hds];simp only[show mR (iD o).op=false from rfl,show uC (iD o).op=false from rfl,show eY P s.ev s.H (iD o).op=none from rfl,hA,Bool.false_eq_true,if_false]
 have hlastS:bf P (it::items.map aH.a) ow (gn (gg ops m) z) z (pO ol) s2=some (s2.put ol.dst (.raw (.bool false))):=by
  unfold bf;rw[show(pO ol).guard=none from hgl];rfl
 have hsz:(gn (gg ops m) z).size=ops.size:=by rw[ce,f7]
 have hto:cn P (it::items.map aH.a) ow (gn (gg ops m) z) (List.range z) s=some s2:=by
  have hrg:List.range z=List.range m++m::List.range' (m+1) (z-m-1):=by
   have h1:=List.range'_append_1 (s:=0) (m:=m) (n:=z-m-1+1);rw[show m+(z-m-1+1)=z by omega,Nat.zero_add,List.range'_succ]at h1;rw[List.range_eq_range',List.range_eq_range'];exact h1.symm
  rw[hrg,eP,hpre];simp only[Option.bind_some,cn];unfold co;rw[hdm];simp only;rw[hmid];exact hsuf
 have hrun:cn P (it::items.map aH.a) ow (gn (gg ops m) z) (List.range (gn (gg ops m) z).size) s=some (s2.put ol.dst (.raw (.bool false))):=by
  rw[hsz,show ops.size=z+1 by omega,List.range_succ,eP,hto];simp only[Option.bind_some,cn];unfold co;rw[hdz];simp only;rw[hlastS];rfl
 refine(wpIn_wide (n:=0)).1 (wpIn_region_any (F:=FW none) hmx ?_);have hr':R1 s a {w with drawn:=w.drawn+1}:=by
  obtain⟨wa,Oa,Xa,⟨q1,q2,ρ,hinv,htm⟩,ka⟩:=M1 s a w hr;have e:Ext w {w with drawn:=w.drawn+1}:=⟨rfl,rfl,rfl,ae _,fun _ _=>rfl⟩;have htm:bq Xa ρ s a w:=htm;exact ka _ _ _ (fun _ _=>rfl) ⟨q1,q2,ρ,hinv.grow e,htm.grow e⟩
 have hlive:iw s:=by obtain⟨wa,Oa,Xa,r,_⟩:=M1 s a w hr;exact cO r
 have hS:Dj P [] (gn (gg ops m) z):=ia hd (by simp);have hlv:A6 [] s:=⟨hlive,fun x hx=>by simp at hx⟩;rw[<- mg,<- yI (m:=m),<- rW (m:=z)];refine gB (sep:=[]) hS hd (fun p s a w=>if p z then R2 s3 a w else R1 s a w) hlv hrun (fun p a w hall hr=>?_) (fun p i o' s' s1' a w K ho' hpi hcl hs hr hK=>?_) ops.size (Array.replicate ops.size false) s a _ (by simp[hsz]) ?_ ?_ ?_ ?_
 ·rw[if_pos (hall z (by rw[hsz];exact hzlt))]at hr;exact hQ a w hr
 ·obtain⟨hc,hc',hsel⟩:=hcl;have hin:i<ops.size:=by have:=(Array.getElem?_eq_some_iff.1 ho').1;rwa[hsz]at this
  by_cases hiz:i=z
  ·subst hiz;have hadd:cq p i i=true:=by simp[cq]
   rw[hdz]at ho';injection ho' with ho'
   subst ho';have hse:i8 (gn (gg ops m) i).size p=List.range i:=l9 (by rw[hsz];omega) (fun j hj=>by
    have:=fQ hc' (i+1) i (by omega) (by rw[hsz];exact hzlt) hadd (hanc j hj);have hji:(j==i)=false:=by simp;omega
    simpa[cq,hji] using this) (fun j hj1 hj2=>by
    rw[hsz]at hj1;rw[show j=i by omega];exact hpi)
   rw[hse,hto]at hsel;injection hsel with hsel
   subst hsel;rw[hpi,if_neg (by decide)]at hr;unfold wpOpIn;rw[hol];simp only;rw[if_pos (by simp[Region.wanted,hgl])];exact hsol a w K Q hr fun v w' h2=>hK v w' (by rw[if_pos hadd];exact h2)
  have hpz:p z=false:=by
   cases hpz:p z with
   |false=>rfl
   |true=>
    have:=fQ hc (z+1) z (by omega) (by rw[hsz];exact hzlt) hpz (hanc i (by omega));rw[hpi]at this;cases this
  rw[hpz,if_neg (by decide)]at hr;have hzi:(z==i)=false:=by simp;omega
  have hK': ∀v w',R1 s1' (a.put o'.dst v) w'->K (a.put o'.dst v) w':=fun v w' h=>hK v w' (by simpa[cq,hpz,hzi] using h)
  by_cases him:i=m
  ·subst him;rw[hdm]at ho';injection ho' with ho'
   subst ho';rw[hmid]at hs;injection hs with hs
   subst hs;have hedge:=(iL hd).1;have hc1:uE (gn (gg ops i) z) (fun j=>decide (j<i)):=fun j o ho hj e he hb=>by
    have:=hedge j o ho e he hb;simp only[decide_eq_true_eq]at hj⊢;omega
   have hcc:uE (gn (gg ops i) z) (fun j=>p j&&decide (j<i)):=fun j o ho hj e he hb=>by
    simp only[Bool.and_eq_true]at hj⊢;exact⟨hc j o ho hj.1 e he hb,hc1 j o ho hj.2 e he hb⟩
   have hp1:cn P (it::items.map aH.a) ow (gn (gg ops i) z) (i8 (gn (gg ops i) z).size fun j=>decide (j<i)) s=some s1:=by
    rw[l9 (m:=i) (by rw[hsz];omega) (fun j hj=>by simpa using hj) (fun j _ hj=>by simpa using hj)];exact hpre
   obtain⟨sc,g1,g2⟩:=iP (rd:=o6 ops i) (fas:=fas) hS hd hlv hc hsel (gn (gg ops i) z).size 0 (fun j=>p j&&decide (j<i)) (by omega) (fun j hj=>by omega) hcc (fun j hj=>by simp only[Bool.and_eq_true]at hj;exact hj.1) (fun j o' hj hp hn=>by
    have hji:j≠i:=fun e=>by rw[e,hpi]at hp;cases hp
    have hjz:j≠z:=fun e=>by rw[e,hpz]at hp;cases hp
    rw[hget0 j hji hjz]at hj;have k2:=(Array.getElem?_eq_some_iff.1 hj).1;have hlt: ¬j<i:=fun h=>by simp[hp,h]at hn
    have:=hst j (by omega);rw[if_neg hlt,hj]at this;simp only[Bool.or_eq_true,beq_iff_eq,hji,false_or]at this;rcases this with this|this
    ·have:=fQ hc (j+1) j (by omega) (by rw[hsz];exact k2) hp this;rw[hpi]at this;cases this
    exact this)
   obtain⟨sc',g1',g2'⟩:=iP (rd:=o6 ops i) (fas:=fas) hS hd hlv hc1 hp1 (gn (gg ops i) z).size 0 (fun j=>p j&&decide (j<i)) (by omega) (fun j hj=>by omega) hcc (fun j hj=>by simp only[Bool.and_eq_true]at hj;exact hj.2) (fun j o' hj hp hn=>by
    have hlt:j<i:=by simpa using hp
    have hji:j≠i:=by omega
    rw[hget0 j hji (by omega)]at hj;have hpj:p j=false:=by simpa[hlt] using hn
    have:=hst j (by omega);rw[if_pos hlt,hj]at this;simp only[Bool.or_eq_true,beq_iff_eq,hji,false_or]at this;rcases this with this|this
    ·have:=fQ hc' (i+1) i (by omega) (by rw[hsz];exact hmlt) (by simp[cq]) this;have hji':(j==i)=false:=by simpa using hji
     simp[cq,hpj,hji']at this
    exact this)
   rw[g1]at g1';injection g1' with e
   subst e;have hsame:lg (o6 ops i) fas s1 s':=⟨fun k hk=>(g2.1 k hk).trans (g2'.1 k hk).symm,fun x hx=>(g2.2 x hx).trans (g2'.2 x hx).symm⟩;have hlv':iw s':=by obtain⟨wa,Oa,Xa,r,_⟩:=M1 s' a w hr;exact cO r
   obtain⟨o2,ho2,hg2,hso⟩:=hsp s' hsame hlv';rw[ho]at ho2;injection ho2 with ho2
   subst ho2;unfold wpOpIn;rw[ho];simp only;rw[if_pos (by simp[Region.wanted,hg])];exact hso a w K Q hr fun v w' h2=>hK' v w' h2
  rw[hget0 i him hiz]at ho';rw[hstep0 i _ _ him]at hs;obtain⟨wa,Oa,Xa,ra,ka⟩:=M1 _ _ _ hr;exact kT ho' hs ra fun v w' r'=>hK' v w' (ka _ _ _ (iM hk ho' v) r')
 ·intro j o ho hp;have hj:j<ops.size:=by have:=(Array.getElem?_eq_some_iff.1 ho).1;rwa[hsz]at this
  simp[hj]at hp
 ·exact Nat.le_trans (List.length_filter_le _ _) (by simp[hsz])
 ·have:i8 (gn (gg ops m) z).size (fun j=>(Array.replicate ops.size false).getD j true)=[]:=by
   unfold i8;rw[List.filter_eq_nil_iff];intro j hj;have:=List.mem_range.1 hj;rw[hsz]at this;simp[this]
  rw[this];rfl
 rw[if_neg (by simp[hzlt])];exact hr'
def Cb (ops:Array Oper) (m:Nat) (s:AS):Option (TypeId×TV×TV):=match ops[m]? with
 |some o=>match o.guard,o.op with
  |none,.lookup t x ix false=>match s.ev x,s.ev ix with
   |some u,some v=>some (t,u,v)
   |_,_=>none
  |_,_=>none
 |none=>none
def QO (ops:Array Oper) (m:Nat) (s:AS):Option (TypeId×TV×TV×TV):=match ops[m]? with
 |some o=>match o.guard,o.dst,o.op with
  |none,none,.mapUpdate t y x v=>match s.ev y,s.ev x,s.ev v with
   |some u,some k,some z=>some (t,u,k,z)
   |_,_,_=>none
  |_,_,_=>none
 |none=>none
theorem Ms {ops:Array Oper} {m:Nat} {fas:List Nat} (h:lg (o6 ops m) fas s s'):Cb ops m s'=Cb ops m s:=by
 unfold Cb;have h1:=h.1;unfold o6 at h1;cases ho:ops[m]? with
 |none=>rfl
 |some o=>
  rw[ho]at h1;simp only at h1⊢;have hev: ∀y∈o.op.operands,s'.ev y=s.ev y:=fun y hy=>by
   cases y with
   |tmp k=>exact h1 k (List.mem_filterMap.2 ⟨.tmp k,by simpa using hy,rfl⟩)
   |_=>rfl
  split
  ·rename_i t x ix hg hop;rw[hop]at hev;rw[hev x (by simp[Op.operands]),hev ix (by simp[Op.operands])]
  rfl
theorem qW (T:rH P t kt et) {ops:Array Oper} {m:Nat} {k:Int} (h:Cb ops m s=some (t,.raw (.map (some r)),.raw (.int .i64 k))) (hk:I64 k):nR P ops m (ee (kG P kt et r) w0 O X g s) (ee (kG P kt et r) w0 O X g (s.put (jY ops m) (.raw (.int .i64 (g.2 k))))):=by
 unfold Cb at h;split at h
 case h_2=>cases h
 rename_i o ho;split at h
 case h_2=>cases h
 rename_i t' x ix hg hop;split at h
 case h_2=>cases h
 rename_i u v hx hi;injection h with h
 injection h with e1 h
 injection h with e2 e3
 subst e1 e2 e3;refine⟨o,ho,hg,?_⟩;unfold jY;rw[ho];exact Au T hop hx hi hk
theorem As (T:rH P t kt et) {ops:Array Oper} {m:Nat} {k z:Int} (h:QO ops m s=some (t,.raw (.map (some r)),.raw (.int .i64 k),.raw (.int .i64 z))) (hk:I64 k) (hz:I64 z) (hn:g.1<maxLen):nR P ops m (ee (kG P kt et r) w0 O X g s) (ee (kG P kt et r) w0 O X (lT g k z) s):=by
 unfold QO at h;split at h
 case h_2=>cases h
 rename_i o ho;split at h
 case h_2=>cases h
 rename_i t' y x v hg hd hop;split at h
 case h_2=>cases h
 rename_i u k' z' hy hx hv;injection h with h
 injection h with e1 h
 injection h with e2 h
 injection h with e3 e4
 subst e1 e2 e3 e4;exact⟨o,ho,hg,Av T hop hd hy hx hv hk hz hn⟩
variable {Q:Exit->AS->MapS->Prop}
theorem EP (hmx:P.follows .mixedOrders=true) (T:rH P t kt et) (m d:Nat) (k z:Int) (items:List (aH P)) (ow:List Nat) {id:Nat} {ops:Array Oper} (hk:dC ks ops=true) (hE:Jq ops m []=true) (hcw:jY ops m=some d) (hI:I64 k) (hz:I64 z) (hn:g.1<maxLen)
  (h: ∀K:AS->Prop,(∀s1,(Cb ops m s1=some (t,.raw (.map (some r)),.raw (.int .i64 k))/\ ∀K:AS->Prop,(∀s2,(QO ops (ops.size-1) s2=some (t,.raw (.map (some r)),.raw (.int .i64 k),.raw (.int .i64 z))/\Q .normal s2 (lT g k z))->K s2)->ca P (items.map aH.a) ow (bC ops ((ops.toList.take (ops.size-1)).drop (m+1)) (m+1)) (some (s1.put (some d) (.raw (.int .i64 (g.2 k))))) K)->K s1)->ca P (items.map aH.a) ow (bC ops (ops.toList.take m) 0) (some s) K):dY P (kG P kt et r) ks (.region id ops true) Q s g:=fun vf w0 O X a w r0=>by
 obtain⟨s1,h1,q1,q2⟩:=bi P (items.map aH.a) ow ops _ 0 s _ (h _ fun s1 q=>q);obtain⟨s2,h3,q3,q4⟩:=bi P (items.map aH.a) ow ops _ (m+1) _ _ (q2 _ fun s2 q=>q);refine Ff (R1:=iR (kG P kt et r) ks vf w0 O X g) (R2:=iR (kG P kt et r) ks vf w0 O X (lT g k z)) fb hmx items ow m [] (.raw (.int .i64 (g.2 k))) hk hE h1 (fun s' hs hl=>?_) (by rw[hcw];exact h3) (nJ hk (As T q3 hI hz hn)) r0 fun a' w' r'=>⟨s2,_,q4,r'⟩
 exact nJ hk (qW T ((Ms hs).trans q1) hI)
theorem Be (T:rH P t kt et) (m d:Nat) (k:Int) (items:List (aH P)) (ow:List Nat) {id:Nat} {ops:Array Oper} (hk:dC ks ops=true) (hm:m<ops.toList.length) (hcw:jY ops m=some d) (hI:I64 k)
  (h: ∀K:AS->Prop,(∀s1,(Cb ops m s1=some (t,.raw (.map (some r)),.raw (.int .i64 k))/\ ∀K:AS->Prop,(∀s',Q .normal s' g->K s')->ca P (items.map aH.a) ow (bC ops (ops.toList.drop (m+1)) (m+1)) (some (s1.put (some d) (.raw (.int .i64 (g.2 k))))) K)->K s1)->ca P (items.map aH.a) ow (bC ops (ops.toList.take m) 0) (some s) K):dY P (kG P kt et r) ks (.region id ops false) Q s g:=fun vf w0 O X a w r0=>by
 obtain⟨s1,h1,q1,q2⟩:=bi P (items.map aH.a) ow ops _ 0 s _ (h _ fun s1 q=>q);obtain⟨s',h3,h4⟩:=bi P (items.map aH.a) ow ops _ (m+1) _ _ (q2 (fun s=>Q .normal s g) fun _ h=>h);refine uw (R1:=iR (kG P kt et r) ks vf w0 O X g) (R2:=iR (kG P kt et r) ks vf w0 O X g) fb fb m items ow hk hm h1 (nJ hk (qW T q1 hI)) (by rw[hcw];exact h3) r0 fun a' w' r'=>⟨s',g,h4,r'⟩
end
end
section
section
variable {P:Program} {t kt et:TypeId} {g:MapS} {a:Act} {w0 w w':World} {O X:Nat->Prop} {s s':AS}
theorem cW.lendnew {r:Nat} (h:cW w0 O X s a w) (e:Ext w w') (hr:w.heap.size<=r) (hr':r<w'.heap.size):cW w0 (fun j=>O j\/j=r) (fun j=>X j\/j=r) s a w':=by
 obtain⟨h1,hsz,ρ,hinv,htm⟩:=h;have hXo: ∀b,b<w.heap.size->Xo (fun j=>X j\/j=r) ρ s.H b->Xo X ρ s.H b:=fun b hb h=>by
  rcases h with(h|h)|h
  ·exact .inl h
  ·omega
  exact .inr h
 have mono: ∀x v,AV.rel ρ s.H (Xo X ρ s.H) w x v->AV.rel ρ s.H (Xo (fun j=>X j\/j=r) ρ s.H) w' x v:=n9 fun x v hn h=>by
  cases x with
  |fn=>cases hn
  |p x=>exact bX.stays (Ext.stays e) (bX.weaken hXo h)
  |sl x r off len=>exact h
  |ptr x r i j=>exact h
  |junk=>trivial
 refine⟨h1,hsz,ρ,⟨⟨e.os.trans hinv.keep.os,e.tape.trans hinv.keep.tape,e.output.trans hinv.keep.output,Nat.le_trans hinv.keep.size e.size,fun j hj hn=>?_⟩,fun x y o ho=>?_,hinv.inj,fun x y o b c ho hb=>?_,fun b hb=>?_,hinv.self⟩,fun t x hx=>?_⟩
 ·rw[e.block j (Nat.lt_of_lt_of_le hj hinv.keep.size)];exact hinv.keep.block j hj fun h=>hn (.inl h)
 ·exact dK (hinv.objs x y o ho) rfl (fun b c hb=>e.block b (bO (hinv.objs x y o ho) hb)) (fun _ _ hr=>mono _ _ hr)
 ·obtain⟨g1,g2⟩:=hinv.old x y o b c ho hb;refine⟨g1.imp id .inl,fun hx=>?_⟩;rcases hx with hx|hx
  ·exact g2 hx
  have:=bO (hinv.objs x y o ho) hb;omega
 ·rcases hb with hb|hb
  ·exact Nat.lt_of_lt_of_le (hinv.bar b hb) e.size
  omega
 obtain⟨v,v1,v2⟩:=htm t x hx;exact⟨v,v1,TV.rel_map v2 mono⟩
theorem cW.unlend {r:Nat} (h:cW w0 (fun j=>O j\/j=r) (fun j=>X j\/j=r) s a w) (hr:w0.heap.size<=r):cW w0 O X s a w:=by
 obtain⟨h1,hsz,ρ,hinv,htm⟩:=h;have hXo: ∀b,b<w.heap.size->Xo X ρ s.H b->Xo (fun j=>X j\/j=r) ρ s.H b:=fun b hb h=>by
  rcases h with h|h
  ·exact .inl (.inl h)
  exact .inr h
 have mono: ∀x v,AV.rel ρ s.H (Xo (fun j=>X j\/j=r) ρ s.H) w x v->AV.rel ρ s.H (Xo X ρ s.H) w x v:=n9 fun x v hn h=>by
  cases x with
  |fn=>cases hn
  |p x=>exact bX.weaken hXo h
  |sl x r off len=>exact h
  |ptr x r i j=>exact h
  |junk=>trivial
 refine⟨h1,hsz,ρ,⟨⟨hinv.keep.os,hinv.keep.tape,hinv.keep.output,hinv.keep.size,fun j hj hn=>hinv.keep.block j hj fun h=>?_⟩,fun x y o ho=>?_,hinv.inj,fun x y o b c ho hb=>?_,fun b hb=>hinv.bar b (.inl hb),hinv.self⟩,fun t x hx=>?_⟩
 ·rcases h with h|h
  ·exact hn h
  omega
 ·exact dK (hinv.objs x y o ho) rfl (fun b c hb=>rfl) (fun _ _ hr=>mono _ _ hr)
 ·obtain⟨g1,g2⟩:=hinv.old x y o b c ho hb;refine⟨?_,fun hx=>g2 (.inl hx)⟩;rcases g1 with g|g|g
  ·exact .inl g
  ·exact .inr g
  exact .inl (by omega)
 obtain⟨v,v1,v2⟩:=htm t x hx;exact⟨v,v1,TV.rel_map v2 mono⟩
def wG (P:Program) (kt et:TypeId) (f:FuncId) (args:List TV) (g:MapS):Prop:=
 callable P f=true/\ ∀(X:Nat->Prop) (w:World) (vs:Array Value),(∀b,X b->b<w.heap.size)->vs.size=args.length->
  (∀(j:Nat) t,args[j]?=some t-> ∃v:Value,vs[j]?=some v/\t.rel (fun _ _=>none) (fun _=>[]) X w v)->
  Calls P f vs w fun e w'=> ∃r,e= .returned (.map (some r))/\w.heap.size<=r/\rG P kt et r g w'/\Keep (fun _=>False) w w'
theorem E5 {f:FuncId} {fn:Func} {R0 y:Code} {id:Nat} {ops:Array Oper} {args:List TV} (hf:P.funcs[f]?=some fn) (hb:fn.body=some (.seq R0 (.seq (.region id ops false) y))) (hn:callable P f=true) {d:Nat} {S1:AS} (items:List (aH P)) (ow:List Nat)
  (h0:bu P R0 (fun e s'=>e= .normal/\bW s' S1) ⟨args++af (fn.ntmps-args.length) .undef,fun _=>[]⟩) (hop: ∃o,ops[0]?=some o/\o.guard=none/\o.op= .makeMap t none/\o.dst=some d)
  (h1: ∀(r:Nat) (K:AS->Prop),(∀s',dY P (kG P kt et r) [] y (fun e s' g'=>(e= .normal\/e= .ret)/\g'=g/\ ∃s2,bW s' s2/\qc P s2 fn.results.toList=some (.raw (.map (some r)))) s' (0,fun _=>0)->K s')->ca P (items.map aH.a) ow (bC ops (ops.toList.drop 1) 1) (some (S1.put (some d) (.raw (.map (some r))))) K):wG P kt et f args g:=by
 refine⟨hn,fun X w vs hX hvs hargs=>?_⟩;refine calls_of_wp hf hb ?_;have hrel:cW w (fun _=>False) X ⟨args++af (fn.ntmps-args.length) .undef,fun _=>[]⟩ {tmps:=vs++Array.replicate (fn.ntmps-vs.size) undef,defers:=[]} w:=by
  refine⟨rfl,by simp[hvs],fun _ _=>none,⟨Keep.refl w,fun a r o ho=>by simp at ho,fun a r a' r' o o' b c c' ho=>by simp at ho,fun a r o b c ho=>by simp at ho,hX,fun a r o ho=>by simp at ho⟩,fun t x hx=>?_⟩;have hXo: ∀b,b<w.heap.size->Xo X (fun _ _=>none) (fun _=>[]) b->X b:=fun b _ h=>by
   rcases h with h|⟨a,r,o,c,h1,h2⟩
   ·exact h
   cases h2
  by_cases ht:t<args.length
  ·rw[aq ht]at hx;obtain⟨v,v1,v2⟩:=hargs t x hx;refine⟨v,by rw[Array.getElem?_append_left (by omega)];exact v1,TV.rel_map v2 (fun y u hy=>?_)⟩;cases y with
   |p y=>exact bX.weaken hXo hy
   |sl a r off len=>obtain⟨o,h1,_⟩:=hy;simp at h1
   |ptr a r i j=>obtain⟨o,_,_,h1,_⟩:=hy;simp at h1
   |fn f a qs=>exact(oA (fun _=>rfl) hy).elim
   |junk=>trivial
  rw[ar (by omega),List.getElem?_replicate]at hx;split at hx
  ·rename_i hlt;injection hx with hx
   subst hx;refine⟨undef,?_,dX⟩;rw[Array.getElem?_append_right (by omega),Array.getElem?_replicate,if_pos (by omega)]
  cases hx
 refine wp_seq (wp_mono (h0 _ _ _ _ _ hrel) fun e a1 w1 ⟨s1,⟨he,hw1⟩,hr1⟩=>?_);subst he;have hr1:=hw1 _ _ _ _ _ hr1;have hk1:Keep (fun _=>False) w w1:=by obtain⟨_,_,ρ,hinv,_⟩:=hr1;exact hinv.keep
 show Code.wp P _ _ a1 w1;obtain⟨o,ho,hg,hop,hd⟩:=hop;have hsize:w.heap.size<=w1.heap.size:=hk1.size;obtain⟨s2,h2,h3⟩:=bi P (items.map aH.a) ow ops _ 1 _ _ (h1 w1.heap.size _ fun _ h=>h);refine wp_seq ((wpIn_wide (n:=0)).1 (wpIn_region (F:=FW none) ?_));have hlen:ops.size=1+(ops.toList.drop 1).length:=by
  have:=(Array.getElem?_eq_some_iff.1 ho).1;simp;omega
 rw[hlen,List.range_eq_range',Nat.add_comm 1,List.range'_succ,wpOpsIn_cons];unfold wpOpIn;rw[ho];simp only;rw[if_pos (by simp[Region.wanted,hg])];refine iF (.inl rfl) ?_;unfold Oper.wp;simp only[execOp,hop,Option.map_none,Sem.run_bind,run_makeMap,Result.andThen_ok,Sem.run_pure];have hext:Ext w1 (w1.alloc (.map #[] 0)):=sJ (World.grownBy_alloc w1 _ none);have hr2:=hr1.lendnew hext (ae _) (Array.getElem?_eq_some_iff.1 (MapKept.heap_alloc w1 (.map #[] 0)).1).1;have hG:rG P kt et w1.heap.size (0,fun _=>0) (w1.alloc (.map #[] 0)):=⟨.map [],Maps.isMap_empty,World.ownsMap_made _ _ _ _,fun k _=>rfl⟩;obtain⟨q1,q2,ρ,q3,q4⟩:=hr2;have hr3:ee (kG P kt et w1.heap.size) w (fun j=>False\/j=w1.heap.size) (fun j=>X j\/j=w1.heap.size) (0,fun _=>0) (S1.put (some d) (.raw (.map (some w1.heap.size)))) (a1.put o.dst (.map (some w1.heap.size))) (w1.alloc (.map #[] 0)):=by
  rw[hd];exact⟨dP q1 q2 q3 q4 (bX.raw _ rfl),fun j hj=>⟨.inr hj,.inr hj⟩,hG⟩
 obtain⟨wb,Ob,Xb,rb,kb⟩:=pW _ _ _ hr3;show wpOpsIn (FW none) 0 P ops _ (List.range' (0+1) (List.drop 1 ops.toList).length) (a1.put o.dst (.map (some w1.heap.size))) (w1.alloc (.map #[] 0));rw[<- List.append_nil (List.range' (0+1) _)];refine nG (n:=0) (suf:=[]) (ops.toList.drop 1) 1 _ s2 _ _ (fun j o hj=>by
  rw[List.getElem?_drop]at hj;simpa using hj) h2 rb (fun a2 w2 r2=>?_)
 show y.wp P _ a2 w2;refine wp_mono (h3 (fun _=>none) _ _ _ _ _ ⟨kb _ _ _ r2,fun _ hk=>by simp at hk⟩) fun e a3 w3 ⟨s3,g3,⟨hee,hg3,s4,hw4,hres⟩,⟨hr4,_,hG4⟩,_⟩=>?_
 subst hg3;have hr5:=hw4 _ _ _ _ _ hr4;have hr6:=(cW.unlend (O:=fun _=>False) hr5 hsize);obtain⟨n1,nsz,ρ',hinv,htm⟩:=hr6;have htm:bq X ρ' s4 a3 w3:=htm;obtain⟨v,v1,v2⟩:=eL hinv htm hres;have hv:=(bs v2).1;subst hv;rcases hee with rfl|rfl
 ·exact⟨n1,_,v1,_,rfl,hsize,hG4,hinv.keep⟩
 exact⟨n1,_,v1,_,rfl,hsize,hG4,hinv.keep⟩
theorem Pe {o:Oper} {f:FuncId} {ts:List TV} (hrel:cW w0 O X s a w) (hts:nf o s=some (f,ts)) (hcon:wG P kt et f ts g) (hp: ∀t∈ts,tC t=true) {d:Nat} (hd:o.dst=some d) {K:Act->World->Prop} {Q:Exit->Act->World->Prop}
  (hK: ∀r w',w0.heap.size<=r->ee (kG P kt et r) w0 (fun j=>O j\/j=r) (fun j=>X j\/j=r) g (s.put (some d) (.raw (.map (some r)))) (a.put (some d) (.map (some r))) w'->K (a.put (some d) (.map (some r))) w'):o.wp P a w K Q:=by
 obtain⟨h1,hsz,ρ,hinv,htm⟩:=id hrel;have htm:bq X ρ s a w:=htm;have key: ∀vs:Array Value,(execOp a.eval o).run P w= .ok (.enter f vs) w->vs.size=ts.length->(∀(j:Nat) t,ts[j]?=some t-> ∃v:Value,vs[j]?=some v/\t.rel ρ s.H (Xo X ρ s.H) w v)->o.wp P a w K Q:=fun vs hrun hvs hargs=>by
  unfold Oper.wp;rw[hrun];simp only[Oper.upon];refine(hcon.2 (fun _=>False) w vs (fun j hj=>hj.elim) hvs fun j u hu=>?_).mono ?_
  ·obtain⟨v,v1,v2⟩:=hargs j u hu;exact⟨v,v1,qP (hp u (List.mem_of_getElem? hu)) v2⟩
  rintro e w1 ⟨r,rfl,hr,hG,hk⟩;have hext:Ext w w1:=⟨hk.os,hk.tape,hk.output,hk.size,fun k hk'=>hk.block k hk' id⟩;obtain⟨q1,q2,ρ2,q3,q4⟩:=hrel.lendnew hext hr hG.lt;rw[hd];exact hK r w1 (Nat.le_trans hinv.keep.size hr) ⟨dP q1 q2 q3 q4 (bX.raw _ rfl),fun j hj=>⟨.inr hj,.inr hj⟩,hG⟩
 unfold nf at hts;split at hts
 ·rename_i c hop;split at hts
  ·rename_i f' hcal;obtain⟨ts',hev,e⟩:=Option.map_eq_some_iff.1 hts;injection e with e e'
   subst e e';obtain⟨e1,e2⟩:=bZ hev;refine key _ (i7 hop hcal rfl hcon.1) (by simpa using e1.symm) fun j t ht=>?_
   obtain⟨y,hy,hyt⟩:=e2 j t ht;refine⟨a.eval y,?_,bD htm y _ hyt⟩;rw[Array.getElem?_map];have:c.args[j]?=some y:=by simpa using hy
   rw[this];rfl
  ·rename_i k hcal;split at hts
   ·rename_i f' extra ts' hcl hev;injection hts with hts
    injection hts with e e'
    subst e e';obtain⟨e1,e2⟩:=bZ hev;obtain⟨us,k1,k2,k3⟩:=iJ (v:=a.eval (.tmp k)) (fun t0 ht0=>bD htm (.tmp k) t0 ht0) hcl;refine key _ (iO hop hcal k1 hcon.1) (by have e1':=e1;simp at e1'⊢;omega) fun j t ht=>?_
    by_cases hj:j<ts'.length
    ·rw[aq hj]at ht;obtain⟨y,hy,hyt⟩:=e2 j _ ht;refine⟨a.eval y,?_,bD htm y _ hyt⟩;rw[Array.getElem?_append_left (by simp at e1⊢;omega),Array.getElem?_map];have:c.args[j]?=some y:=by simpa using hy
     rw[this];rfl
    rw[ar (by omega)]at ht;obtain⟨v,v1,v2⟩:=k3 _ _ ht;refine⟨v,?_,v2⟩;rw[Array.getElem?_append_right (by simp at e1⊢;omega)];simp at e1⊢;rw[<- e1];exact v1
   cases hts
  cases hts
 cases hts
theorem LG (m d:Nat) {f:FuncId} {args:List TV} (hcon:wG P kt et f args g) (items:List (aH P)) (ow:List Nat) {id:Nat} {ops:Array Oper} {y:Code} {Q:Exit->AS->Prop} (hm:m<ops.toList.length) (hcw:jY ops m=some d)
  (h: ∀K:AS->Prop,(∀s1,(cxTs ops m s1=some (f,args)/\(∀t∈args,tC t=true)/\ ∀(r:Nat) (K:AS->Prop),(∀s',dY P (kG P kt et r) [] y (fun e s' _=>Q e s') s' g->K s')->ca P (items.map aH.a) ow (bC ops (ops.toList.drop (m+1)) (m+1)) (some (s1.put (some d) (.raw (.map (some r))))) K)->K s1)->ca P (items.map aH.a) ow (bC ops (ops.toList.take m) 0) (some s) K):bu P (.seq (.region id ops false) y) Q s:=fun w0 O X a w r0=>by
 obtain⟨s1,h1,q1,q2,q3⟩:=bi P (items.map aH.a) ow ops _ 0 s _ (h _ fun s1 q=>q);obtain⟨o,ho⟩: ∃o,ops[m]?=some o:=⟨ops[m],by simp at hm;simp[hm]⟩;unfold cxTs at q1;rw[ho]at q1;simp only at q1;have hg:o.guard=none:=by
  split at q1
  ·rename_i hg;simpa using hg
  cases q1
 rw[hg]at q1;simp only[Option.isNone_none,if_true]at q1;have hd:o.dst=some d:=by unfold jY at hcw;rw[ho]at hcw;exact hcw
 refine wp_seq ((wpIn_wide (n:=0)).1 (wpIn_region (F:=FW none) ?_));have hsz:ops.size=(ops.toList.take m).length+(1+(ops.toList.drop (m+1)).length):=by simp at hm⊢;omega
 rw[hsz,List.range_eq_range',<- List.range'_append_1,Nat.zero_add];have hml:(ops.toList.take m).length=m:=by rw[List.length_take];omega
 refine nG (ops.toList.take m) 0 s s1 a w (fun j o hj=>?_) h1 r0 fun a' w' r'=>?_
 ·rw[List.getElem?_take]at hj;split at hj
  ·simpa using hj
  cases hj
 rw[hml,Nat.add_comm 1,List.range'_succ,wpOpsIn_cons];unfold wpOpIn;rw[ho];simp only;rw[if_pos (by simp[Region.wanted,hg])];refine iF (.inl rfl) (Pe r' q1 hcon q2 hd fun r w1 hr hr1=>?_);obtain⟨s2,h2,h3⟩:=bi P (items.map aH.a) ow ops _ (m+1) _ _ (q3 r _ fun _ h=>h);obtain⟨wb,Ob,Xb,rb,kb⟩:=pW _ _ _ hr1;rw[<- List.append_nil (List.range' (m+1) _)];refine nG (n:=0) (suf:=[]) (ops.toList.drop (m+1)) (m+1) _ s2 _ _ (fun j o hj=>by
  rw[List.getElem?_drop]at hj;simpa using hj) h2 rb (fun a2 w2 r2=>?_)
 show y.wp P _ a2 w2;exact wp_mono (h3 (fun _=>none) _ _ _ _ _ ⟨kb _ _ _ r2,fun _ hk=>by simp at hk⟩) fun e a3 w3 ⟨s3,g3,h4,⟨hr4,_,_⟩,_⟩=>⟨s3,h4,cW.unlend hr4 hr⟩
end
end
section
theorem Ok:rH Tryz.prog 79 2 2:=⟨by kernel_rfl,by kernel_rfl,by kernel_rfl,fun w=>by kernel_rfl⟩
def gF (nm:List Int->Int) (g:MapS) (l:List (List Int)):MapS:=l.foldl (fun g z=>lT g (nm z) (g.2 (nm z)+1)) g
theorem PA (nm:List Int->Int) (g:MapS) (l m:List (List Int)):gF nm g (l++m)=gF nm (gF nm g l) m:=List.foldl_append
def GB (g:MapS):Prop:= ∀j,0<=g.2 j/\g.2 j<=(g.1:Int)
theorem GB.step {g:MapS} (h:GB g) (k:Int):GB (lT g k (g.2 k+1)):=fun j=>by
 have:=h j;have:=h k;show 0<=(if j=k then g.2 k+1 else g.2 j)/\(if j=k then g.2 k+1 else g.2 j)<=((g.1+1:Nat):Int);split<;>omega
theorem II {nm:List Int->Int}: ∀(l:List (List Int)) {g:MapS},GB g->GB (gF nm g l)/\(gF nm g l).1=g.1+l.length
 |[],g,h=>⟨h,rfl⟩
 |z::l,g,h=>by
  obtain⟨h1,h2⟩:=II (nm:=nm) l (h.step (nm z));refine⟨h1,h2.trans ?_⟩;show g.1+1+l.length=_;rw[List.length_cons];omega
abbrev BA (a n m:Nat) (y:List Int) (I:List (Int×Int)) (R:List (List Int)) (r nx:Nat):List OObj:=[⟨131,1,[[.fn 95 a [(1,0,0),(2,0,0),(3,0,0),(0,0,0),(5,0,0),(6,0,0)]]]⟩,⟨76,1,[[.p (.sl (ls fV I))]]⟩,⟨3,1,[[.p (.raw (.int .i64 (nx:Int)))]]⟩,⟨35,1,[[.sl a 4 0 n]]⟩,⟨2,1,jnk m++lc fI y⟩,⟨79,1,[[.p (.raw (.map (some r)))]]⟩,⟨26,1,[[.p (.sl (ls (fR fI) R))]]⟩]
theorem Dz (a d n m:Nat) (y:List Int) (I:List (Int×Int)) (R:List (List Int)) (r nx:Nat):(BA a n m y I R r nx).map (renO d)=BA d n m y I R r nx:=by
 simp only[BA,List.map_cons,List.map_nil,renO,cb,jL,List.map_append,fX,List.isEmpty_cons,Bool.false_eq_true,if_false]
theorem yO (a n m:Nat) (y:List Int) (I:List (Int×Int)) (R:List (List Int)) (r nx:Nat): ∀o∈BA a n m y I R r nx,selfO a o:=fun o ho e he x hx=>by
 simp only[List.mem_cons,List.not_mem_nil,or_false]at ho;rcases ho with rfl|rfl|rfl|rfl|rfl|rfl|rfl
 ·simp only[List.mem_singleton]at he;subst he;simp only[List.mem_singleton]at hx;subst hx;exact⟨rfl,by simp⟩
 ·simp only[List.mem_singleton]at he;subst he;simp only[List.mem_singleton]at hx;subst hx;trivial
 ·simp only[List.mem_singleton]at he;subst he;simp only[List.mem_singleton]at hx;subst hx;trivial
 ·simp only[List.mem_singleton]at he;subst he;simp only[List.mem_singleton]at hx;subst hx;rfl
 ·simp only[List.mem_append]at he;rcases he with he|he
  ·obtain⟨_,rfl⟩:=List.mem_replicate.1 he;simp only[List.mem_singleton]at hx;subst hx;trivial
  exact cd (bz 2 1 _ e he x hx)
 ·simp only[List.mem_singleton]at he;subst he;simp only[List.mem_singleton]at hx;subst hx;trivial
 simp only[List.mem_singleton]at he;subst he;simp only[List.mem_singleton]at hx;subst hx;trivial
abbrev QX:List (Nat×Nat):=[(1,1),(2,2),(3,3),(0,4),(5,5),(6,6)]
theorem Pf (a n m m':Nat) (y y':List Int) (I:List (Int×Int)) (R:List (List Int)) (r nx nx':Nat): ∀q∈QX.map Prod.fst,∀o,(BA a n m y I R r nx)[q]?=some o-> ∃o',(BA a n m' y' I R r nx')[q]?=some o'/\o'.es=o.es/\o.elems.length<=o'.elems.length:=fun q hq o h=>by
 simp only[QX,List.map_cons,List.map_nil,List.mem_cons,List.not_mem_nil,or_false]at hq;rcases hq with rfl|rfl|rfl|rfl|rfl|rfl<;>(injection h with h;subst h;exact⟨_,rfl,rfl,ae _⟩)
abbrev S7 (k:Nat):List TV:=[.raw (.int .i64 (k:Int)),.one (.ptr 0 1 0 0),.one (.ptr 0 2 0 0),.one (.ptr 0 3 0 0),.one (.ptr 0 0 0 0),.one (.ptr 0 5 0 0),.one (.ptr 0 6 0 0)]
abbrev jc (n:Nat) (f:FF) (z:List Int):Int:=Ha f z n n
abbrev Q9 (n:Nat) (f:FF) (B:Int) (r:Nat) (I:List (Int×Int)) (k:Nat) (y:List Int) (nx:Nat) (g:MapS):Prop:=
 jT Tryz.prog (kG Tryz.prog 2 2 r) (QX.map Prod.fst) 95 (S7 k) (BA 0 n (k+1) y I (mat n n f) r nx) (BA 0 n (k+1) y I (mat n n f) r (nx+(nL f n B k y).length)) g (gF (jc n f) g (fp f n B (k+1) y)) (.tup [])
theorem Hl {s:AS} {n m:Nat} {c:Int} {y:List Int} {I:List (Int×Int)} {R:List (List Int)} {r nx:Nat} (hH:s.H 0=BA 0 n m (c::y) I R r nx):bW s ⟨s.tmps,aJ s.H 0 (BA 0 n (m+1) y I R r nx)⟩:=by
 have h:=kq (s:=s) 0 4 (o:=⟨2,1,jnk m++lc fI (c::y)⟩) (o':=⟨2,1,jnk (m+1)++lc fI y⟩) (by rw[hH];rfl) rfl rfl (by simp only[eG,List.length_cons];omega) fun i e' he=>by
  rw[<- lO m c y];simp only at he;by_cases hi:i=m
  ·subst hi;have hl:i<(jnk (i+1)++lc fI y).length:=by rw[eG];omega
   refine⟨_,List.getElem?_set_self hl,?_⟩;rw[aq (by simp[jnk])]at he;simp[jnk]at he;subst he;exact⟨rfl,fun j x hj=>by
    cases j with
    |zero=>simp at hj;exact .inl hj.symm
    |succ j=>simp at hj⟩
  refine⟨e',by rw[List.getElem?_set_ne (Ne.symm hi)];exact he,rfl,fun j x hj=> .inr hj⟩
 rw[hH]at h;exact h
theorem EQ {P:Program} {γ:Type} {L:jd γ} {ks:List Nat} {s:AS} {g:γ} {Q:Exit->AS->γ->Prop} (hmx:P.follows .mixedOrders=true) (items:List (aH P)) (ow:List Nat) {id:Nat} {y:Code} {ops:Array Oper} (hd:cL [] ops=true) (hk:dC ks ops=true)
  (h: ∀K:AS->Prop,(∀s',dY P L ks y Q s' g->K s')->ca P (items.map aH.a) ow (bC ops ops.toList 0) (some s) K):dY P L ks (.seq (.region id ops true) y) Q s g:=bN (EO hmx items ow hd hk h)
theorem rQ {P:Program} {γ:Type} {L:jd γ} {ks:List Nat} {s:AS} {g:γ} {Q:Exit->AS->γ->Prop} (hmx:P.follows .mixedOrders=true) {id:Nat} {y:Code} {ops:Array Oper} (hd:cL [] ops=true) (hk:dC ks ops=true)
  (h: ∀K:AS->Prop,(∀s',dY P L ks y Q s' g->K s')->ca P [] [] (bC ops ops.toList 0) (some s) K):dY P L ks (.seq (.region id ops true) y) Q s g:=EQ hmx [] [] hd hk h
structure SP (lo hi:Int) (h:Int->List (List Int)) (em:Int->List (Int×Int)) (I post:List (Int×Int)) (nm:List Int->Int) (G:MapS) (tot:Nat) where
 x:Int
 pre:List (Int×Int)
 g:MapS
 h1:lo<=x
 h2:x<=hi+1
 eI:I=pre++(rng x hi).flatMap em++post
 eg:gF nm g ((rng x hi).flatMap h)=G
 hb:GB g
 hl:g.1+((rng x hi).flatMap h).length<=tot
theorem RD (m:Nat) (x:Int) (y:List Int):(jnk m++lc fI (x::y))[m]?=some [.p (.raw (.int .i64 x))]:=by
 rw[ar (by simp[jnk])];simp[jnk,lc,fI]
theorem Fx (m:Nat) (x z:Int) (y:List Int):(jnk m++lc fI (x::y)).set m [.p (.raw (.int .i64 z))]=jnk m++lc fI (z::y):=by
 rw[List.set_append_right _ _ (by simp[jnk])];simp[jnk,lc,fI]
section
variable {n:Nat} {f:FF} {B:Int}
theorem Og (hv:mN n f B) (r k:Nat) (y:List Int) (I pre post:List (Int×Int)) (g:MapS) (hk:y.length+(k+1)=n) (hT:mZ y) (hP:fD f n B (k+1) (bj n y)) (hI:I=pre++nL f n B k y++post) (hIl:I.length<=4000000) (hb:GB g) (hgl:g.1+(fp f n B (k+1) y).length<=4000000)
  (hN:k=0-> ∀c,dB f n B k (bj n y)<=c->c<=d6 f n B k (bj n y)->CallC Tryz.prog 40 [ch (mat n n f),iu (c::y)] ⟨[],.raw (.int .i64 (jc n f (c::y)))⟩/\I64 (jc n f (c::y)))
  (hrec: ∀j,k=j+1-> ∀c pre' post' g',dB f n B k (bj n y)<=c->c<=d6 f n B k (bj n y)->I=pre'++nL f n B j (c::y)++post'->GB g'->g'.1+(fp f n B (j+1) (c::y)).length<=4000000->Q9 n f B r I j (c::y) pre'.length g'):Q9 n f B r I k y pre.length g:=by
 have hn8:=hv.n8;have hlh:=hv.lohi hk hT hP;have htc:=Nx (m:=y.length+1) (by omega);have hS: ∃em:Int->List (Int×Int),nL f n B k y=(dB f n B k (bj n y),d6 f n B k (bj n y))::(rng (dB f n B k (bj n y)) (d6 f n B k (bj n y))).flatMap em/\(k=0-> ∀c,em c=[])/\ ∀j,k=j+1-> ∀c,em c=nL f n B j (c::y):=by
  cases k with
  |zero=>exact⟨fun _=>[],by show[_]=_;rw[List.flatMap_eq_nil_iff.2 fun _ _=>rfl],fun _ _=>rfl,fun j e=>absurd e (by omega)⟩
  |succ j=>
   refine⟨_,rfl,fun e=>absurd e (by omega),fun j' e c=>?_⟩;obtain rfl:j'=j:=by omega
   rfl
 obtain⟨em,hS,hem0,hem1⟩:=hS;have hE:fp f n B (k+1) y=(rng (dB f n B k (bj n y)) (d6 f n B k (bj n y))).flatMap fun c=>fp f n B k (c::y):=rfl
 have hh0:k=0-> ∀c,fp f n B k (c::y)=[c::y]:=fun e c=>by subst e;rfl
 have hh1: ∀j,k=j+1-> ∀c,fp f n B k (c::y)=fp f n B (j+1) (c::y):=fun j e c=>by subst e;rfl
 unfold Q9 at*
 rw[hS]at hI⊢;rw[hE]at hgl⊢;clear hv hP hT hS hE;generalize hhd:(fun c=>fp f n B k (c::y))=h at*
 have hhc: ∀c,h c=fp f n B k (c::y):=fun c=>by rw[<- hhd]
 clear hhd;generalize dB f n B k (bj n y)=lo at*
 generalize d6 f n B k (bj n y)=hi at*
 generalize mat n n f=R at*
 have hlo: -46911780290560<=lo/\lo<=46911780290560:=by omega
 have hhi: -46911780290560<=hi/\hi<=46911780290560:=by omega
 have hlh1:lo<=hi+1:=by omega
 clear hlh htc;have hIx:I[pre.length]?=some (lo,hi):=by
  rw[hI,List.append_assoc,ar (ae _),Nat.sub_self];rfl
 have hpl:pre.length<I.length:=(List.getElem?_eq_some_iff.1 hIx).1;have hI2:I=(pre++[(lo,hi)])++(rng lo hi).flatMap em++post:=by rw[hI];simp
 have hfin:pre.length+((lo,hi)::(rng lo hi).flatMap em).length=I.length-post.length:=by
  have:=congrArg List.length hI;simp only[List.length_append,List.length_cons]at this⊢;omega
 rw[hfin];clear hfin hI;refine oc Tryz.func95 rfl (by kernel_rfl) QX (by simp) (by simp[selfTV,bG]) (by simp[selfTV]) (yO 0 _ _ _ _ _ _ _) (yO 0 _ _ _ _ _ _ _) (Pf 0 _ _ _ _ _ _ _ _ _ _) ?_;rw[Tryz.ntmps95];refine dY.weak (aF (tm:=(.raw (.int .i64 (k:Int))::.one (.ptr 0 1 0 0)::.one (.ptr 0 2 0 0)::.one (.ptr 0 3 0 0)::.one (.ptr 0 0 0 0)::.one (.ptr 0 5 0 0)::.one (.ptr 0 6 0 0)::j16 (j16 (j4 (jk::jk::[]))))) (l:=[(0,BA 0 n (k+1) y I R r pre.length)]) ⟨rfl,trivial⟩ (by simp[wk,af])) ?_;refine aS (by kernel_rfl) fun _ K=>?_;simp(disch:=omega) only[kd,aa,hIx,fV,reduceCtorEq];apply K
 have e1:IntKind.i64.wrap ((pre.length:Int)+1)=((pre.length+1:Nat):Int):=aM (by omega) (by omega);refine aS (by kernel_rfl) fun _ K=>?_;simp(disch:=omega) only[kd,aa,reduceCtorEq,e1];apply K
 have hXl:=eG (k+1) y;have hXs:=lO k lo y;have hXg:(jnk (k+1)++lc fI y)[k]?=some [.junk]:=by
  rw[aq (by simp[jnk])];simp[jnk]
 refine aS (by kernel_rfl) fun _ K=>?_;simp(disch:=omega) only[kd,aa,reduceCtorEq,hXg,hXs];apply K
 clear hXl hXs hXg e1;generalize hGT:gF (jc n f) g ((rng lo hi).flatMap h)=GT at*
 refine iS (G:=SP lo hi h em I post (jc n f) GT 4000000) (fun v=>⟨(.raw (.int .i64 (k:Int))::.one (.ptr 0 1 0 0)::.one (.ptr 0 2 0 0)::.one (.ptr 0 3 0 0)::.one (.ptr 0 0 0 0)::.one (.ptr 0 5 0 0)::.one (.ptr 0 6 0 0)::jk::.one (.ptr 8 0 0 0)::j16 (j16 (j4 ([])))),Hm [(0,BA 0 n k (v.x::y) I R r v.pre.length),(8,[⟨133,2,[[.p (.raw (.int .i64 lo)),.p (.raw (.int .i64 hi))]]⟩])]⟩) (fun v=>v.g) (fun v=>(hi+1-v.x).toNat) ⟨lo,pre++[(lo,hi)],g,Int.le_refl _,hlh1,hI2,hGT,hb,hgl⟩ ?_ rfl ?_
 ·refine aF ⟨?_,rfl,trivial⟩ ?_
  ·simp only[List.length_append,List.length_cons,List.length_nil];rfl
  simp[wk]
 rintro⟨x,pr,gx,hx0,hx1,eI,eg,hbx,hlx⟩;simp only;have hxb: -46911780290560<=x/\x<=46911780290561:=by omega
 have hXl:(jnk k++lc fI (x::y)).length=n:=by rw[eG,List.length_cons];omega
 have hXg:=RD k x y;have hkn:k<n:=by omega
 by_cases hx:x<=hi
 ·rw[fh hx,List.flatMap_cons]at eI eg hlx;rw[PA]at eg;rw[List.length_append]at hlx;refine bN (rQ bU (by kernel_rfl) (by kernel_rfl) fun _ K=>?_);simp(disch:=omega) only[kd,aa,reduceCtorEq,hkn,hXg];apply K
  first|refine fP rfl (bY ?_)|refine bI rfl (fun _=>bY ?_) (fun h=>by simp at h<;>omega)
  refine bN (eQ ?_);have hXs:=Fx k x (x+1) y;cases k with
  |zero=>
   obtain⟨cN,hNI⟩:=hN rfl x hx0 hx;have hhx:h x=[x::y]:=by rw[hhc,hh0 rfl]
   rw[hhx]at eg hlx;rw[hem0 rfl,List.nil_append]at eI;have hk0:(0<((0:Nat):Int))=False:=eq_false (by omega);have hj0:jnk 0++lc fI (x::y)=lc fI (x::y):=rfl;have hj1:jnk 0++lc fI ((x+1)::y)=lc fI ((x+1)::y):=rfl;have hgv:=hbx (jc n f (x::y));have hst:=hbx.step (jc n f (x::y));have hg1:gx.1+1<=4000000:=by
    simp only[List.length_cons,List.length_nil]at hlx;omega
   have htk:List.take n (x::y)=x::y:=List.take_of_length_le (by rw[List.length_cons];omega);refine aS (by kernel_rfl) fun _ K=>?_;simp only[kd,hk0];apply K
   first|refine fw rfl ?_|refine bI rfl (fun h=>by simp at h<;>omega) (fun _=>?_)
   simp only[hj1]at hXs;simp only[hj0]at hXl hXg hXs;simp only[BA,hj0];have eg':gF (jc n f) (lT gx (jc n f (x::y)) (gx.2 (jc n f (x::y))+1)) ((rng (x+1) hi).flatMap h)=GT:=eg;generalize jc n f (x::y)=nv at*
   refine EP bU Ok 4 43 nv (gx.2 nv+1) [⟨3,_,_,_,cN⟩] [] (by kernel_rfl) (by kernel_rfl) rfl hNI ⟨by omega,by omega⟩ (by unfold maxLen;omega) fun K hK=>?_
   simp only[kd,ch,iu,aa,reduceCtorEq,htk];refine hK _ ⟨rfl,?_⟩;clear hK K;intro K hK;simp(disch:=omega) only[kd,ch,iu,aa,List.size_toArray,Nat.reduceSub,aM];refine hK _ ⟨rfl,?_⟩;clear hK K;show dY _ _ _ _ _ _ _;refine b9 (by kernel_rfl) fun _ K=>?_;simp(disch:=omega) only[kd,aa,reduceCtorEq,hkn,hXg,aM,hXs];apply K
   refine⟨⟨x+1,pr,lT gx nv (gx.2 nv+1),by omega,by omega,eI,eg',hst,by simp only[List.length_cons,List.length_nil]at hlx;show gx.1+1+_<=_;omega⟩,by simp only;omega,aF ⟨rfl,rfl,trivial⟩ ?_,rfl⟩;simp[wk]
  |succ j=>
   rw[hem1 j rfl x,List.append_assoc,List.append_assoc,<- List.append_assoc pr]at eI;rw[hhc,hh1 j rfl]at eg hlx;have e4:IntKind.i64.wrap (((j+1:Nat):Int)-1)=(j:Int):=by rw[aM (by omega) (by omega)];omega
   have hkp:(0<((j+1:Nat):Int))=True:=eq_true (by omega);have cV:=hrec j rfl x pr _ gx hx0 hx eI hbx (by omega);obtain⟨hb',hl'⟩:=II (nm:=jc n f) (fp f n B (j+1) (x::y)) hbx;have eW:pr++nL f n B j (x::y)=pr++nL f n B j (x::y):=rfl;generalize gF (jc n f) gx (fp f n B (j+1) (x::y))=g' at*
   generalize(fp f n B (j+1) (x::y)).length=LL at*
   generalize nL f n B j (x::y)=W at*
   clear eW;refine aS (by kernel_rfl) fun _ K=>?_;simp(disch:=omega) only[kd,hkp];apply K
   first|refine fP rfl ?_|refine bI rfl (fun _=>?_) (fun h=>by simp at h<;>omega)
   refine gy 3 cV 0 [] [] (by kernel_rfl) (by omega) (by decide) fun K hK=>?_
   simp only[kd,aa,reduceCtorEq,e4];refine hK _ ⟨⟨rfl,?_⟩,?_⟩
   ·exact(Dz 0 0 _ _ _ _ _ _ _).symm
   clear hK K;intro K hK;simp(disch:=omega) only[kd,aa,BB,jY,QX,oH,k8,ag,reduceCtorEq,List.map_append,fX];apply hK;clear hK K;show dY _ _ _ _ _ _ _;refine b9 (by kernel_rfl) fun _ K=>?_;simp(disch:=omega) only[kd,aa,reduceCtorEq,hkn,hXg,aM,hXs];apply K
   refine⟨⟨x+1,pr++W,g',by omega,by omega,by rw[eI];simp only[List.append_assoc],eg,hb',by rw[hl'];omega⟩,by simp only;omega,aF ⟨?_,rfl,trivial⟩ ?_,rfl⟩
   ·simp only[List.length_append];rfl
   simp[wk]
 obtain rfl:x=hi+1:=by omega
 rw[fm hx,List.flatMap_nil,List.append_nil]at eI;rw[fm hx,List.flatMap_nil]at eg;have eg:gx=GT:=eg;have hfin:I.length-post.length=pr.length:=by rw[eI,List.length_append];omega
 rw[hfin];refine bN (rQ bU (by kernel_rfl) (by kernel_rfl) fun _ K=>?_);simp(disch:=omega) only[kd,aa,reduceCtorEq,hkn,hXg];apply K
 first|refine fw rfl (d5 ?_)|refine bI rfl (fun h=>by simp at h<;>omega) (fun _=>d5 ?_)
 show _/\_;refine⟨.inl rfl,eg,_,(Hl rfl).trans (aF (tm:=(jk::.one (.ptr 0 1 0 0)::.one (.ptr 0 2 0 0)::.one (.ptr 0 3 0 0)::.one (.ptr 0 0 0 0)::.one (.ptr 0 5 0 0)::.one (.ptr 0 6 0 0)::j16 (j16 (j4 (jk::jk::[]))))) (l:=[(0,BA 0 n (k+1) y I R r pr.length)]) ⟨rfl,trivial⟩ (by simp[wk])),⟨fW _,rfl⟩,by simp⟩
end
end
end Go.Proofs.YtalmoejhjceflaaGreat
