/-
  Part 23 of a proof (walks and plain facts).
-/
import Derived.Test.YtalmoejhjceflaaGreatP21
set_option linter.all false
set_option maxRecDepth 100000
set_option maxHeartbeats 64000000
open Nat renaming reduceAdd → aa
open Nat renaming reduceEqDiff → ab
open Nat renaming le_refl → ae
open List renaming replicate → af
open Nat renaming reduceBEq → ag
open Nat renaming reduceLeDiff → ai
open Nat renaming le_trans → aA
open Nat renaming pow_le_pow_right → aD
namespace Go.Proofs.YtalmoejhjceflaaGreat
open Go.RowKit
section
section
variable {n:Nat} {f:FF} {B:Int}
theorem oP (f:FF) (z:List Int):jc n f z=BF n f (fun i=>z.getD i 0) (fun i=>z.getD i 0):=by
 refine aT n fun i _=>?_
 show cg (fun b=>f i b*z.getD i 0*z.getD b 0) n=z.getD i 0*cg (fun j=>f i j*z.getD j 0) n;rw[<- dm];exact aT n fun j _=>by grind
theorem JE (hr:RedR f n) (h8:n<=8) (hb: ∀i j,i<n->j<n-> -262144<=f i j/\f i j<=262144) (h0:0<=B) (h1:B<=65536) {z:List Int} (hz:z.length=n) (hP:fD f n B 0 (bj n z)):
  CallC Tryz.prog 40 [ch (mat n n f),iu z] ⟨[],.raw (.int .i64 (jc n f z))⟩/\0<=jc n f z/\jc n f z<=B:=by
 have hB:=nP.1 hP;have ht:bj n z=fun i=>z.getD i 0:=funext fun i=>pA hz i
 rw[ht]at hB;have hN:B*((2^n:Nat):Int)<=((4096:Nat):Int)*((4096:Nat):Int):=by
  have h2:(2^n:Nat)<=256:=aA (aD (by omega) h8) (by decide);generalize(2^n:Nat)=p at*
  have:=Int.mul_le_mul h1 (Int.ofNat_le.2 h2) (by omega) (by omega);omega
 have hT: ∀i,(z.getD i 0).natAbs<=524288:=fun i=>by
  by_cases hi:i<n
  ·have:=vy hr (fun i=>z.getD i 0) h0 hB hN (n-i-1) i (by omega);have h2:2^(n-i-1)<=2^7:=aD (by omega) (by omega);have:=Nat.mul_le_mul_left 4096 h2;omega
  rw[List.getD_eq_getElem?_getD,List.getElem?_eq_none (by omega)];exact Nat.zero_le _
 refine⟨MG n f z 262144 524288 h8 hz (fun i j hi hj=>by have:=hb i j hi hj;omega) hT (by decide),?_,?_⟩
 ·rw[oP];have:=(gM hr.pd.1 hr.pd.2 (fun i=>z.getD i 0) n 0 (by omega)).1;rwa[eE (f':=f) (fun i j _ _=>cp f i j) (fun _ _=>rfl) (fun _ _=>rfl)]at this
 rw[oP];exact hB
theorem Of (hv:mN n f B) (r:Nat) (I:List (Int×Int)) (hIl:I.length<=4000000) (hNm: ∀z,z.length=n->fD f n B 0 (bj n z)->CallC Tryz.prog 40 [ch (mat n n f),iu z] ⟨[],.raw (.int .i64 (jc n f z))⟩/\I64 (jc n f z)):
  ∀(k:Nat) (y:List Int) (pre post:List (Int×Int)) (g:MapS),y.length+(k+1)=n->mZ y->fD f n B (k+1) (bj n y)->I=pre++nL f n B k y++post->GB g->g.1+(fp f n B (k+1) y).length<=4000000->Q9 n f B r I k y pre.length g
 |0,y,pre,post,g,hk,hT,hP,hI,hb,hl=>Og hv r 0 y I pre post g hk hT hP hI hIl hb hl (fun _ c h1 h2=>hNm (c::y) (by rw[List.length_cons];omega) (hv.step hk hP h1 h2).1) fun j e=>absurd e (by omega)
 |k+1,y,pre,post,g,hk,hT,hP,hI,hb,hl=>Og hv r (k+1) y I pre post g hk hT hP hI hIl hb hl (fun e=>absurd e (by omega)) fun j e c pre' post' g' h1 h2 hI' hb' hl'=>by
  obtain rfl:k=j:=by omega
  exact Of hv r I hIl hNm k (c::y) pre' post' g' (by rw[List.length_cons];omega) (hv.tcb hk hT hP h1 h2) (hv.step hk hP h1 h2).1 hI' hb' hl'
theorem Dg:GB (0,fun _=>0):=fun _=>⟨Int.le_refl _,Int.le_refl _⟩
theorem L1 (hv:mN n f B) (h1:1<=n) (hNm: ∀z,z.length=n->fD f n B 0 (bj n z)->CallC Tryz.prog 40 [ch (mat n n f),iu z] ⟨[],.raw (.int .i64 (jc n f z))⟩/\I64 (jc n f z)) (hl:(nL f n B (n-1) []).length<=4000000) (hl2:(fp f n B n []).length<=4000000):
  wG Tryz.prog 2 2 45 [ch (mat n n f),Q3 (nL f n B (n-1) [])] (gF (jc n f) (0,fun _=>0) (fp f n B n [])):=by
 have hn8:=hv.n8;have hPt:fD f n B n (bj n []):=ji hv.r.pd hv.b0;have hcV:=fun r=>Of hv r (nL f n B (n-1) []) hl hNm (n-1) [] [] [] (0,fun _=>0) (by simp;omega) mZ.nil (by rw[show n-1+1=n by omega];exact hPt) (by simp) Dg (by rw[show n-1+1=n by omega];simpa using hl2)
 unfold Q9 at hcV;rw[show n-1+1=n by omega]at hcV;have hml:=bV n n f;have e1:IntKind.i64.wrap ((n:Int)-1)=((n-1:Nat):Int):=by rw[aM (by omega) (by omega)];omega
 generalize gF (jc n f) (0,fun _=>0) (fp f n B n [])=GT at*
 generalize nL f n B (n-1) []=I at*
 generalize mat n n f=R at*
 clear hv hPt hNm;refine E5 (d:=9) (S1:=⟨(jk::jk::.one (.ptr 2 0 0 0)::.one (.ptr 3 0 0 0)::j16 ([])),Hm [(2,[⟨26,1,[[.p (.sl (ls (fR fI) R))]]⟩]),(3,[⟨76,1,[[.p (.sl (ls fV I))]]⟩])]⟩) Tryz.func45 rfl (by kernel_rfl) [] [] ?_ ⟨_,rfl,rfl,rfl,rfl⟩ fun r K hK=>?_
 ·rw[Tryz.ntmps45];refine aO fun _ K=>?_;simp(disch:=omega) only[kd,aa,ch,af,ab];apply K
  refine⟨rfl,aF ⟨rfl,rfl,trivial⟩ ?_⟩;simp[wk]
 simp(disch:=omega) only[kd,aa,ab];apply hK;clear hK K;refine aS (by kernel_rfl) fun _ K=>?_;simp(disch:=omega) only[kd,aa,ab,hml,Pv n,ai,List.length_replicate,ag];apply K
 refine aS (by kernel_rfl) fun _ K=>?_;simp(disch:=omega) only[kd,ab];apply K
 refine aS (by kernel_rfl) fun _ K=>?_;simp(disch:=omega) only[kd,ab];apply K
 refine dY.weak ((rL 6 1 (n:=n) rfl).trans ((d4 3 8 (by decide) (by decide)).trans ((d4 7 8 (by decide) (by decide)).trans ((d4 6 8 (by decide) (by decide)).trans ((d4 5 8 (by decide) (by decide)).trans (d4 2 8 (by decide) (by decide))))))) ?_;refine dY.weak (aF (tm:=(jk::jk::.one (.ptr 8 6 0 0)::.one (.ptr 8 1 0 0)::jk::.one (.ptr 8 5 0 0)::.one (.ptr 8 3 0 0)::.one (.ptr 8 2 0 0)::.one (.ptr 8 0 0 0)::j4 (j4 (jk::jk::jk::[])))) (l:=[(8,[⟨131,1,[[.raw .nilFunc]]⟩,⟨76,1,[[.p (.sl (ls fV I))]]⟩,⟨3,1,[[.p (.raw (.int .i64 0))]]⟩,⟨35,1,[[.sl 8 4 0 n]]⟩,⟨2,1,jnk n++lc fI []⟩,⟨79,1,[[.p (.raw (.map (some r)))]]⟩,⟨26,1,[[.p (.sl (ls (fR fI) R))]]⟩])]) ⟨?_,trivial⟩ (by simp[wk,zW,f9,ld,aJ])) ?_
 ·simp[aJ,tA,f9,ld,zH];simp[jnk,lc,f9]
 refine aS (by kernel_rfl) fun _ K=>?_;simp(disch:=omega) only[kd,gY,jO,aa];apply K
 have cV:=hcV r;refine bN (gy 4 cV 8 [] [] (by kernel_rfl) (by omega) (by decide) fun K hK=>?_);simp(disch:=omega) only[kd,aa,hml,e1];refine hK _ ⟨⟨rfl,?_⟩,?_⟩
 ·rw[Dz];simp only[aX,BA,xp,List.append_nil,List.length_nil];rfl
 clear hK K;intro K hK;simp(disch:=omega) only[kd,aa,BB,jY,QX,oH,k8,ag,fX];apply hK;clear hK K;show dY _ _ _ _ _ _ _;refine aS (by kernel_rfl) fun _ K=>?_;simp(disch:=omega) only[kd];apply K
 refine jl ⟨.inr rfl,rfl,_,bW.refl _,?_⟩;simp(disch:=omega) only[kd,Tryz.results45]
end
end
section
theorem pb (a b:Int):(rng a b).length=(b-a+1).toNat:=by
 unfold rng;rw[List.length_map,List.length_range]
def sL (n:Nat) (c:List Int):Int:=cg (fun i=>c.getD i 0) n
def Su (m:Nat) (d:Int) (c:List Int):List Int:=c.set m (c.getD m 0+(d+1))
section
variable (n:Nat) (f:FF) (B bud:Int)
end
section
variable {n:Nat} {f:FF} {B bud:Int}
theorem IL {c:List Int} {m i:Nat} {v:Int} (hm:m<c.length):(c.set m v).getD i 0=if i=m then v else c.getD i 0:=by
 rw[List.getD_eq_getElem?_getD,List.getD_eq_getElem?_getD,List.getElem?_set];by_cases h:i=m
 ·subst h;simp[hm]
 rw[if_neg (Ne.symm h),if_neg h]
theorem BC {m i:Nat} {d:Int} {c:List Int} (hm:m<c.length):(Su m d c).getD i 0=if i=m then c.getD m 0+(d+1)else c.getD i 0:=IL hm
theorem L3 {m:Nat} {d:Int} {c:List Int} (hc:c.length=n) (hm:m<n):sL n (Su m d c)=sL n c+(d+1):=by
 unfold sL;rw[x3 (F:=fun i=>c.getD i 0) (i:=m) hm fun a ha hne=>by rw[BC (by omega),if_neg hne]];rw[BC (by omega),if_pos rfl];omega
theorem mo (k:Nat) (y:List Int):(fp f n B (k+1) y).length=((rng (dB f n B k (bj n y)) (d6 f n B k (bj n y))).map fun x=>(fp f n B k (x::y)).length).sum:=by
 rw[fp,List.length_flatMap]
theorem x8 {α:Type} (l:List α):(l.map fun _=>1).sum=l.length:=by
 induction l with
 |nil=>rfl
 |cons x l ih=>rw[List.map_cons,List.sum_cons,ih,List.length_cons];omega
end
end
section
variable {n:Nat} {f:FF} {B:Int}
theorem Ml {B d:Int} (hd:0<d) (h0:0<=B):isqF (B*d)/d=isqF (B/d):=by
 have h1:=cz (Int.mul_nonneg h0 (Int.le_of_lt hd));have h2:=cz (Int.ediv_nonneg h0 (Int.le_of_lt hd));refine EG.uniq ?_ h2;obtain⟨r0,r1,r2⟩:=h1;generalize isqF (B*d)=r at*
 have q0:0<=r/d:=Int.ediv_nonneg r0 (Int.le_of_lt hd);have q1:=Int.ediv_mul_le r (show d≠0 by omega);have q2:=Int.lt_ediv_add_one_mul_self r hd;generalize r/d=q at*
 refine⟨q0,?_,?_⟩
 ·rw[Int.le_ediv_iff_mul_le hd];have e:q*q*d*d<=B*d:=by
   have:(q*d)*(q*d)<=r*r:=Int.mul_le_mul q1 q1 (Int.mul_nonneg q0 (Int.le_of_lt hd)) r0;have e2:q*q*d*d=(q*d)*(q*d):=by grind
   omega
  exact Int.le_of_mul_le_mul_right e hd
 rw[Int.ediv_lt_iff_lt_mul hd];have e:B*d<(q+1)*(q+1)*d*d:=by
  have:(r+1)*(r+1)<=((q+1)*d)*((q+1)*d):=Int.mul_le_mul (by omega) (by omega) (by omega) (by omega);have e2:(q+1)*(q+1)*d*d=((q+1)*d)*((q+1)*d):=by grind
  omega
 exact Int.lt_of_mul_lt_mul_right e (Int.le_of_lt hd)
theorem lX (hd:0<dk f 1) (h0:0<=B):dB f 1 B 0 (bj 1 [])= -isqF (B/dk f 1)/\d6 f 1 B 0 (bj 1 [])=isqF (B/dk f 1):=by
 have hs:qU f 1 0 (bj 1 [])=0:=by simp[qU,cg]
 have hq:kS f 1 B 0 (bj 1 [])=B*dk f 1:=by
  have:BF 1 (bk f (0+1)) (bj 1 []) (bj 1 [])=0:=by simp[BF,cg,bj]
  unfold kS;rw[this,cj];grind
 unfold dB d6;rw[hs,hq,Int.add_zero,Int.sub_zero,show 0+1=1 from rfl,Ml hd h0];exact⟨rfl,rfl⟩
theorem ru {a b c:Int} (h:a<=c) (h2:c<=b+1):rng a b=rng a (c-1)++rng c b:=by
 obtain⟨m,hm⟩: ∃m:Nat,c=a+m:=⟨(c-a).toNat,by omega⟩;subst hm;clear h
 induction m generalizing a with
 |zero=>
  rw[fm (a:=a) (b:=a+((0:Nat):Int)-1) (by omega)]
  simp
 |succ m ih=>
  rw[fh (a:=a) (b:=b) (by omega),fh (a:=a) (by omega)];have:=ih (a:=a+1) (by omega);rw[show a+1+(m:Int)=a+((m+1:Nat):Int) by omega]at this;rw[this];rfl
noncomputable def toL (f:FF) (n:Nat) (B:Int):Nat->List Int->Nat
 |0,y=>(rng (dB f n B 0 (bj n y)) (d6 f n B 0 (bj n y))).length
 |k+1,y=>(rng (dB f n B (k+1) (bj n y)) (d6 f n B (k+1) (bj n y))).length+((rng (dB f n B (k+1) (bj n y)) (d6 f n B (k+1) (bj n y))).map fun c=>toL f n B k (c::y)).sum
theorem Es {F G:Int->Nat}: ∀l:List Int,(∀c,F c<=1+G c)->(l.map F).sum<=l.length+(l.map G).sum
 |[],_=>by simp
 |c::l,h=>by
  have:=Es l h;have:=h c;simp only[List.map_cons,List.sum_cons,List.length_cons];omega
theorem BQ: ∀(k:Nat) (y:List Int),(nL f n B k y).length<=1+toL f n B k y
 |0,y=>by show 1<=_;omega
 |k+1,y=>by
  have:=Es (rng (dB f n B (k+1) (bj n y)) (d6 f n B (k+1) (bj n y))) fun c=>BQ k (c::y)
  simp only[nL,toL,List.length_cons,List.length_flatMap];omega
theorem px {F G:Int->Nat}: ∀l:List Int,(∀c,c∈l->F c<=G c)->(l.map F).sum<=(l.map G).sum
 |[],_=>by simp
 |c::l,h=>by
  have:=px l fun c hc=>h c (by simp[hc])
  have:=h c (by simp);simp only[List.map_cons,List.sum_cons];omega
theorem Et {G:Int->Nat} {a b c:Int} (h:a<=c):((rng c b).map G).sum<=((rng a b).map G).sum:=by
 by_cases h2:c<=b+1
 ·rw[ru h h2,List.map_append,List.sum_append];omega
 rw[fm (by omega)];simp
theorem BS: ∀(k:Nat) (y:List Int),(fp f n B (k+1) y).length<=toL f n B k y
 |0,y=>by
  rw[mo];show((rng _ _).map fun _=>1).sum<=_;rw[x8];exact ae _
 |k+1,y=>by
  rw[mo];simp only[toL];exact aA (px _ fun c _=>BS k (c::y)) (by omega)
/-! Steps. -/
structure OkG (n:Nat) (g:rJ):Prop where
 s:g.stop=false
 l:0<=g.left
 ln:g.steps.length=n
 p: ∀i,i<n->0<=g.steps.getD i 0
structure wI (n T V:Nat) (g:rJ) (r:rJ×Bool):Prop where
 ok:(T:Int)<=g.left->r.2=true/\OkG n r.1/\r.1.left=g.left-T/\r.1.steps.getD (n-1) 0=g.steps.getD (n-1) 0+V/\sL n r.1.steps=sL n g.steps+T
 no:g.left<T->r.2=false/\r.1.stop=true
theorem wI.comp {T1 V1 T2 V2:Nat} {g:rJ} {r1 r:rJ×Bool} (h1:wI n T1 V1 g r1) (h2:r1.2=true->OkG n r1.1->wI n T2 V2 r1.1 r) (h3:r1.2=false->r=(r1.1,false)):wI n (T1+T2) (V1+V2) g r:=by
 by_cases hc:(T1:Int)<=g.left
 ·obtain⟨a1,a2,a3,a4,a5⟩:=h1.ok hc;have k:=h2 a1 a2;refine⟨fun h=>?_,fun h=>?_⟩
  ·obtain⟨b1,b2,b3,b4,b5⟩:=k.ok (by omega);exact⟨b1,b2,by omega,by omega,by omega⟩
  exact k.no (by omega)
 obtain⟨a1,a2⟩:=h1.no (by omega);rw[h3 a1];exact⟨fun h=>by omega,fun _=>⟨rfl,a2⟩⟩
theorem Lc {g:rJ} (hg:OkG n g) {m c:Nat} (hm:1<=m) (hmn:m<=n):wI n c (if m=n then c else 0) g (rD n m c g):=by
 have hlen:=hg.ln;refine⟨fun h=>?_,fun h=>?_⟩
 ·unfold rD;rw[if_neg (by omega)];have hs:=L3 (n:=n) (m:=m-1) (d:=(c:Int)-1) hg.ln (by omega);have ha:=fun i=>BC (m:=m-1) (i:=i) (d:=(c:Int)-1) (c:=g.steps) (by omega)
  unfold Su at hs ha;rw[show(c:Int)-1+1=c by omega]at hs ha;refine⟨rfl,⟨rfl,by show 0<=g.left-c;omega,by simp[hlen],fun i hi=>?_⟩,rfl,?_,hs⟩
  ·show 0<=(g.steps.set (m-1) (g.steps.getD (m-1) 0+c)).getD i 0;rw[ha i];have:=hg.p i hi;have:=hg.p (m-1) (by omega);split<;>omega
  show(g.steps.set (m-1) (g.steps.getD (m-1) 0+c)).getD (n-1) 0=_;rw[ha (n-1)];by_cases e:m=n
  ·subst e;simp
  rw[if_neg (by omega),if_neg e];simp
 unfold rD;rw[if_pos (.inl h)];exact⟨rfl,rfl⟩
theorem Jf {b:Int->rJ->rJ×Bool} {T V:Int->Nat} {hi:Int}: ∀(m:Nat) (x:Int) (g:rJ),hi-x+1=m->OkG n g->(∀c g,x<=c->c<=hi->OkG n g->wI n (T c) (V c) g (b c g))->wI n ((rng x hi).map T).sum ((rng x hi).map V).sum g (lpM b m x g)
 |0,x,g,hm,hg,_=>by
  rw[fm (by omega)];refine⟨fun _=>⟨rfl,hg,?_,?_,?_⟩,fun h=>?_⟩
  ·simp[lpM]
  ·simp[lpM]
  ·simp[lpM]
  have:=hg.l;simp at h;omega
 |m+1,x,g,hm,hg,hb=>by
  rw[fh (by omega)];simp only[List.map_cons,List.sum_cons];refine(hb x g (Int.le_refl _) (by omega) hg).comp (fun h1 h2=>?_) fun h1=>?_
  ·have:=Jf m (x+1) (b x g).1 (by omega) h2 fun c g h3 h4 h5=>hb c g (by omega) h4 h5
   unfold lpM;generalize b x g=r at*
   obtain⟨g',t⟩:=r;simp only at h1;subst h1;exact this
  unfold lpM;generalize b x g=r at*
  obtain⟨g',t⟩:=r;simp only at h1;subst h1;rfl
theorem EC (hv:mN n f B): ∀(k:Nat) (y:List Int) (g:rJ),y.length+(k+1)=n->mZ y->fD f n B (k+1) (bj n y)->OkG n g->wI n (toL f n B k y) (fp f n B (k+1) y).length g (ir (rD n) f n B k y g)
 |0,y,g,hk,hT,hP,hg=>by
  have hlh:=(hv.lohi hk hT hP).2.2;have h:=Lc hg (m:=n) (c:=(rng (dB f n B 0 (bj n y)) (d6 f n B 0 (bj n y))).length) (by omega) (ae _);rw[if_pos rfl]at h;have e:(fp f n B (0+1) y).length=(rng (dB f n B 0 (bj n y)) (d6 f n B 0 (bj n y))).length:=by
   rw[mo];show((rng _ _).map fun _=>1).sum=_;rw[x8]
  rw[e];have e2:(((rng (dB f n B 0 (bj n y)) (d6 f n B 0 (bj n y))).length:Nat):Int)=d6 f n B 0 (bj n y)-dB f n B 0 (bj n y)+1:=by rw[pb];omega
  rw[e2]at h;exact h
 |k+1,y,g,hk,hT,hP,hg=>by
  have hlh:=(hv.lohi hk hT hP).2.2;have h:=Lc hg (m:=n-(k+1)) (c:=(rng (dB f n B (k+1) (bj n y)) (d6 f n B (k+1) (bj n y))).length) (by omega) (by omega);rw[if_neg (by omega)]at h;have e2:(((rng (dB f n B (k+1) (bj n y)) (d6 f n B (k+1) (bj n y))).length:Nat):Int)=d6 f n B (k+1) (bj n y)-dB f n B (k+1) (bj n y)+1:=by rw[pb];omega
  rw[e2]at h;rw[mo,show((rng (dB f n B (k+1) (bj n y)) (d6 f n B (k+1) (bj n y))).map fun x=>(fp f n B (k+1) (x::y)).length).sum=0+((rng (dB f n B (k+1) (bj n y)) (d6 f n B (k+1) (bj n y))).map fun x=>(fp f n B (k+1) (x::y)).length).sum by omega];unfold toL ir;refine h.comp (fun h1 h2=>?_) fun h1=>?_
  ·have:=Jf (b:=fun c=>ir (rD n) f n B k (c::y)) (T:=fun c=>toL f n B k (c::y)) (V:=fun c=>(fp f n B (k+1) (c::y)).length) (hi:=d6 f n B (k+1) (bj n y)) (d6 f n B (k+1) (bj n y)-dB f n B (k+1) (bj n y)+1).toNat (dB f n B (k+1) (bj n y)) _ (by omega) h2 fun c g h3 h4 h5=>EC hv k (c::y) g (by rw[List.length_cons];omega) (hv.tcb hk hT hP h3 h4) (hv.step hk hP h3 h4).1 h5
   generalize rD n (n-(k+1)) (d6 f n B (k+1) (bj n y)-dB f n B (k+1) (bj n y)+1) g=r at*
   obtain⟨g',t⟩:=r;simp only at h1;subst h1;exact this
  generalize rD n (n-(k+1)) (d6 f n B (k+1) (bj n y)-dB f n B (k+1) (bj n y)+1) g=r at*
  obtain⟨g',t⟩:=r;simp only at h1;subst h1;rfl
theorem QC (hv:mN n f B) (h1:1<=n) {g:rJ} (hg:OkG n g): ∃t,wI n (toL f n B (n-1) []) (fp f n B n []).length g (EA (rD n) f n B g,t):=by
 have hPt:fD f n B n (bj n []):=ji hv.r.pd hv.b0;have h:=EC hv (n-1) [] g (by simp;omega) mZ.nil (by rw[show n-1+1=n by omega];exact hPt) hg;rw[show n-1+1=n by omega]at h;by_cases e:n=1
 ·subst e;have hd:=hv.d (k:=1) (by omega);obtain⟨l1,l2⟩:=lX (f:=f) hd.1 hv.b0;have hv1:ir (rD 1) f 1 B (1-1) [] g=rD 1 1 (2*isqF (B/dk f 1)+1) g:=by
   show rD 1 1 (d6 f 1 B 0 (bj 1 [])-dB f 1 B 0 (bj 1 [])+1) g=_;rw[l1,l2]
   congr 1
   omega
  rw[hv1]at h;unfold EA;rw[if_pos rfl];exact⟨_,h⟩
 unfold EA;rw[if_neg e];exact⟨_,h⟩
end
section
structure Rf (M:List (List Int)) (n:Nat) (f:FF):Prop where
 red:isReducedM M=true
 e:M=mat n n f
 n1:1<=n
 n8:n<=8
 r:RedR f n
 b: ∀i j,i<n->j<n-> -262144<=f i j/\f i j<=262144
 en:ent M=f
 l:M.length=n
theorem J5 {M:List (List Int)} (h:isReducedM M=true):Rf M M.length (ent M):=by
 obtain⟨e,h1,h8,hr,hb⟩:=Ab h;exact⟨h,e,h1,h8,hr,hb,rfl,rfl⟩
section
variable {M:List (List Int)} {n:Nat} {f:FF} {B k:Int}
theorem Rf.vs (h:Rf M n f) (h0:0<=B) (h1:B<=65536):mN n f B:=Qc h.r h.n8 h0 (by omega)
theorem MK (hk:0<=k):OkG n ⟨k,af n 0,false⟩:=⟨rfl,hk,by simp,fun i _=>by
 show 0<=(af n 0).getD i 0;rw[List.getD_eq_getElem?_getD,List.getElem?_replicate];split<;>simp⟩
theorem Ay (h:Rf M n f) (h0:0<=B) (h1:B<=65536) (hk:0<=k) (hk2:k<=1000000):
  ((toL f n B (n-1) []:Int)<=k-> ∃L:List Int,Q4 M B k= .tup [(false,[.p (.sl (ls fI L))]),(false,[.p (.raw (.int .i64 0))])]/\L.length=n/\(∀i,i<n->0<=L.getD i 0)/\sL n L=toL f n B (n-1) []/\L.getD (n-1) 0=((fp f n B n []).length:Int))/\
  (k<(toL f n B (n-1) []:Int)->Q4 M B k=Lk 9):=by
 have hs:Q4 M B k=Qv (EA (rD n) f n B ⟨k,af n 0,false⟩):=by
  unfold Q4;rw[if_pos h.red,if_neg (by omega),h.l,h.en,if_neg (by omega)]
 obtain⟨t,hr⟩:=QC (h.vs h0 h1) h.n1 (MK (n:=n) hk);rw[hs];have hz:(af n (0:Int)).getD (n-1) 0=0:=by
  rw[List.getD_eq_getElem?_getD,List.getElem?_replicate];split<;>simp
 have hz2:sL n (af n (0:Int))=0:=by
  unfold sL;rw[aT (G:=fun _=>0) n fun i _=>by
   rw[List.getD_eq_getElem?_getD,List.getElem?_replicate];split<;>simp]
  exact dx n
 refine⟨fun hT=>?_,fun hT=>?_⟩
 ·obtain⟨_,a2,_,a4,a5⟩:=hr.ok hT;refine⟨_,by unfold Qv;rw[if_neg (by rw[a2.s];decide)],a2.ln,a2.p,?_,?_⟩
  ·rw[a5,hz2];omega
  rw[a4];show(af n (0:Int)).getD (n-1) 0+_=_;rw[hz];omega
 obtain⟨_,a2⟩:=hr.no hT;unfold Qv;rw[if_pos a2]
theorem PG (h:Rf M n f) (h0:0<=B) (h1:B<=65536) (hl:(nL f n B (n-1) []).length<=2000000):CallC Tryz.prog 94 [ch M,.raw (.int .i64 B)] ⟨[],Q3 (nL f n B (n-1) [])⟩:=by
 have hv:=h.vs h0 h1;rw[h.e];by_cases e:n=1
 ·subst e;have hd:=hv.d (k:=1) (ae 1);have e1:dk f 1=f 0 0:=by show bk f 0 0 0=f 0 0;exact cp f 0 0
  obtain⟨l1,l2⟩:=lX (f:=f) hd.1 h0;have:=Mj f B (by rw[<- e1];exact hd.1) (by rw[<- e1];omega) h0 (by omega);show CallC _ _ _ ⟨[],Q3 [(dB f 1 B 0 (bj 1 []),d6 f 1 B 0 (bj 1 []))]⟩;rw[l1,l2,e1];exact this
 have:=h.n1;exact Mk hv (Cr h.r h.n1 h.n8 h.b) (nE h.r h.n8 h.b) (by omega) hl
theorem Pt (h:Rf M n f) (h0:0<=B) (h1:B<=65536) (hk:0<=k) (hk2:k<=1000000):
  ((toL f n B (n-1) []:Int)<=k->CallC Tryz.prog 44 [ch M,.raw (.int .i64 B),.raw (.int .i64 k)] ⟨[],.tup [(false,[.p (.sl (ls fV (nL f n B (n-1) [])))]),(false,[.p (.raw (.int .i64 0))])]⟩)/\
  (k<(toL f n B (n-1) []:Int)->CallC Tryz.prog 44 [ch M,.raw (.int .i64 B),.raw (.int .i64 k)] ⟨[],Lk 9⟩):=by
 obtain⟨s1,s2⟩:=Ay h h0 h1 hk hk2;have hc:=zR M B k;refine⟨fun hT=>?_,fun hT=>?_⟩
 ·obtain⟨L,e,_⟩:=s1 hT;rw[e]at hc;have:=BQ (f:=f) (n:=n) (B:=B) (n-1) [];exact Lo M B k L _ hc (PG h h0 h1 (by omega))
 rw[s2 hT]at hc;exact Ln M B k 9 (by decide) hc
noncomputable def Q5 (f:FF) (n b:Nat):List Int:=be (b+1) fun m=>(gF (jc n f) (0,fun _=>0) (fp f n (b:Int) n [])).2 m
theorem yp (h:Rf M n f) (b:Nat) (hb:b<=1000) (hk:0<=k) (hk2:k<=1000000) (hT:(toL f n (b:Int) (n-1) []:Int)<=k):
  CallC Tryz.prog 19 [ch M,.raw (.int .i64 (b:Int)),.raw (.int .i64 k)] ⟨[],.tup [(false,[.p (.sl (ls fI (Q5 f n b)))]),(false,[.p (.raw (.int .i64 0))])]⟩:=by
 have hv:=h.vs (B:=(b:Int)) (by omega) (by omega);have hml:=h.l;have h1:=h.n1;have h8:=h.n8;have cI:=ff M;rw[h.red]at cI;have cE:=(Pt h (B:=(b:Int)) (by omega) (by omega) hk hk2).1 hT;have hel:=BQ (f:=f) (n:=n) (B:=(b:Int)) (n-1) [];have henl:=BS (f:=f) (n:=n) (B:=(b:Int)) (n-1) [];rw[show n-1+1=n by omega]at henl;have cC:=L1 hv h1 (fun z hz hP=>by
  obtain⟨c1,c2,c3⟩:=JE h.r h8 h.b (by omega) (by omega) hz hP;exact⟨c1,by constructor<;>omega⟩) (by omega) (by omega)
 rw[<- h.e]at cC;have hgb:=(II (nm:=jc n f) (fp f n (b:Int) n []) Dg);have hgb2: ∀j,0<=(gF (jc n f) (0,fun _=>0) (fp f n (b:Int) n [])).2 j/\(gF (jc n f) (0,fun _=>0) (fp f n (b:Int) n [])).2 j<=4000000:=fun j=>by
  have:=hgb.1 j;rw[hgb.2]at this;have e0:((0,fun _=>0):MapS).1=0:=rfl;rw[e0]at this;omega
 unfold Q5;generalize gF (jc n f) (0,fun _=>0) (fp f n (b:Int) n [])=G at*
 generalize nL f n (b:Int) (n-1) []=I at*
 clear hgb henl hel hT hv;have e1:IntKind.i64.wrap ((b:Int)+1)=((b+1:Nat):Int):=aM (by omega) (by omega);have hb0:((b:Int)<0)=False:=eq_false (by omega);have hb1:(1000<(b:Int))=False:=eq_false (by omega);refine aK Tryz.func19 rfl (by kernel_rfl) ?_;rw[Tryz.ntmps19];refine aE fun _ K=>?_;simp only[kd,ch,aa,af];apply K
 refine aG (aP ?_);refine aI [⟨1,_,_,_,cI⟩] [] fun _ K=>?_;simp only[kd,ch,aa];apply K
 refine aU rfl ?_;refine aG (aE fun _ K=>?_);simp only[kd,aa,hb0];apply K;refine aU rfl ?_;refine aO fun _ K=>?_;simp only[kd,aa,hb1];apply K
 show bu _ _ _ _;refine aU rfl (aR ?_);show bu _ _ _ _;refine aI [⟨3,_,_,_,cE⟩] [] fun _ K=>?_;simp only[kd,ch,aa];apply K
 refine aG (aE fun _ K=>?_);simp(disch:=omega) only[kd];apply K;refine aU rfl (aR ?_);show bu _ _ _ _;refine LG 2 34 cC [] [] (by decide) rfl fun K hK=>?_
 simp only[kd];refine hK _ ⟨rfl,by simp[tC,gL],?_⟩;clear hK K;intro r K hK;simp only[kd,aa];apply hK;clear hK K;have hz:af (b+1) [AV.p (.raw (.int .i64 0))]=lc fI (be (b+1) fun j=>if j<0 then G.2 (j:Int)else 0):=by
  have h0:(be (b+1) fun j=>if j<0 then G.2 (j:Int)else 0)=af (b+1) 0:=List.ext_getElem? fun i=>by
   by_cases hi:i<b+1<;>simp[be,hi]
  rw[h0];exact Pv (b+1)
 refine aS (by kernel_rfl) fun _ K=>?_;simp(disch:=omega) only[kd,aa,e1];apply K
 refine bN (aS (by kernel_rfl) fun _ K=>?_);simp only[kd,aa];apply K;refine iS (G:=qp (b+1)) (fun v=>⟨(j4 (j4 (jk::jk::.raw (.map (some r))::.one (.sl 37 0 0 (b+1))::j16 (j4 (j4 (jk::jk::jk::.raw (.int .i64 ((b+1:Nat):Int))::rN v.i::j4 (j4 (jk::jk::[])))))))),Hm [(37,[⟨2,1,lc fI (be (b+1) fun j=>if j<v.i then G.2 (j:Int)else 0)⟩])]⟩) (fun _=>G) (fun v=>b+1-v.i) ⟨0,by omega⟩ ?_ rfl ?_
 ·refine aF ⟨?_,trivial⟩ ?_
  ·rw[<- hz];rfl
  simp[wk]
 rintro⟨i,hi⟩;simp only;by_cases hm:i<b+1
 ·have hgl:=aW (b+1) (fun j=>if j<i then G.2 (j:Int)else 0);have hgi:=aZ (fun j=>if j<i then G.2 (j:Int)else 0) hm;have hset:(lc fI (be (b+1) fun j=>if j<i then G.2 (j:Int)else 0)).set i [AV.p (.raw (.int .i64 (G.2 (i:Int))))]=lc fI (be (b+1) fun j=>if j<i+1 then G.2 (j:Int)else 0):=by
   rw[show[AV.p (.raw (.int .i64 (G.2 (i:Int))))]=(fI (G.2 (i:Int))).map AV.p from rfl,pT,ke];refine congrArg _ (dv fun j hj=>?_);by_cases h1:j=i
   ·subst h1;simp
   by_cases h2:j<i
   ·rw[if_neg h1,if_pos h2,if_pos (by omega)]
   rw[if_neg h1,if_neg h2,if_neg (by omega)]
  have hgv:=hgb2 (i:Int);refine aS (by kernel_rfl) fun _ K=>?_;simp(disch:=omega) only[kd];apply K
  first|refine Bf rfl ?_|refine bN (bI rfl (fun _=>bY ?_) (fun h=>by simp at h<;>omega))
  refine bN (eQ ?_);refine aS (by kernel_rfl) fun _ K=>?_;simp only[kd];apply K
  refine Be Ok 4 47 (i:Int) [] [] (by kernel_rfl) (by decide) rfl ⟨by omega,by omega⟩ fun K hK=>?_
  simp only[kd,aa];refine hK _ ⟨rfl,?_⟩;clear hK K;intro K hK;simp(disch:=omega) only[kd,aa,hgi,hset];apply hK;clear hK K;show dY _ _ _ _ _ _ _;refine b9 (by kernel_rfl) fun _ K=>?_;simp(disch:=omega) only[kd,aM];apply K
  refine⟨⟨i+1,by omega⟩,by simp only;omega,aF ⟨rfl,trivial⟩ ?_,rfl⟩;simp[wk]
 have hin:i=b+1:=by omega
 subst hin;refine aS (by kernel_rfl) fun _ K=>?_;simp(disch:=omega) only[kd];apply K
 first|refine Bc rfl ?_|refine bN (bI rfl (fun h=>by simp at h<;>omega) (fun _=>d5 ?_))
 show dY _ _ _ _ _ _ _;have hfi:(be (b+1) fun j=>if j<b+1 then G.2 (j:Int)else 0)=be (b+1) fun m=>G.2 (m:Int):=dv fun j hj=>if_pos hj
 rw[hfi];have hgl:=aW (b+1) (fun m=>G.2 (m:Int));refine aS (by kernel_rfl) fun _ K=>?_;simp only[kd,aa];apply K
 refine jl ?_;show _/\_;refine⟨.inr rfl,xM 37 (dR rfl) ?_ rfl⟩;simp(disch:=omega) only[kd,Tryz.results19];rw[List.take_of_length_le (by omega)]
end
end
theorem tG (x y:List Int):CallC Tryz.prog 21 [iu x,iu y] ⟨[],.raw (.int .i64 (cB x y))⟩:=by
 refine jW (by kernel_rfl) fun X w vs hX hvs ha=>?_
 obtain⟨v0,e0,r0⟩:=rX ha (j:=0) rfl;obtain⟨v1,e1,r1⟩:=rX ha (j:=1) rfl;obtain⟨A,c,rfl,hc,hl,hA⟩:=xK r0;obtain⟨B,d,rfl,hd,hlb,hB⟩:=xK r1;obtain rfl:vs= #[.slice A x.length c,.slice B y.length d]:=by
  apply Array.ext_getElem?;intro j
  match j with
  |0=>exact e0
  |1=>exact e1
  |j+2=>rw[Array.getElem?_eq_none (by simp at hvs;omega)];rfl
 refine(l7 A B c d x y w hA hB hl hlb).mono fun e w' ⟨h1,h2⟩=>?_
 obtain⟨n,rfl⟩:=h2;exact⟨_,h1,fun _ _ _=>bX.raw _ rfl,(Ext.refl _).drewN n⟩
theorem JC {k:Nat} {X:Nat->Prop} {w:World} {A:Option Addr} {M:List (List Int)} (h:Lu k w A M) (hX: ∀b,X b->b<k):bX X w (.sl (ls (fR fI) M)) (.slice A M.length M.length):=by
 obtain⟨hm,b,rfl,hk,hb,hc⟩:=h;have:=bX.sl (X:=X) (w:=w) b 0 1 M.length (ls (fR fI) M) (fun i _=>(w.cell? ⟨b,i,none⟩).getD undef) (fun h=>absurd (hX _ h) (by omega)) hb (fun e he=>by
  obtain⟨z,_,rfl⟩:=List.mem_map.1 he;rfl) (by rw[eH];exact ae _) (by rw[eH];omega) (fun i e j x he hx=>by
  rw[fY]at he;obtain⟨r,hr,rfl⟩:=Option.map_eq_some_iff.1 he;cases j with
  |succ j=>simp[fR]at hx
  |zero=>
   obtain⟨A',c,h1,_⟩:=hc i r hr;simp only[Nat.mul_one,Nat.add_zero,Nat.zero_add,h1,Option.getD_some]) (fun i e j x he hx=>by
  rw[fY]at he;obtain⟨r,hr,rfl⟩:=Option.map_eq_some_iff.1 he;cases j with
  |succ j=>simp[fR]at hx
  |zero=>
   simp[fR]at hx;subst hx;obtain⟨A',c,h1,h2,h3,h4,h5⟩:=hc i r hr;simp only[h1,Option.getD_some];cases r with
   |nil=>exact bX.nil _ _
   |cons z0 r0=>
    obtain⟨b',off',rfl,h6⟩:=h4 (by simp);obtain⟨h7,h8⟩:=h5 _ rfl;exact J2 (fun h=>absurd (hX _ h) (by simp at h7;omega)) h8 h2 h3 h4)
 rw[eH]at this;exact this
theorem J3 {ρ:Rho} {H:OH} {X:Nat->Prop} {w:World} {G:List (List Int)} {v:Value} (b:Bool) (h:bX X w (.sl (ls (fR fI) G)) v):(PC G b).rel ρ H X w (.tuple #[v,.bool b]):=by
 refine⟨#[v,.bool b],rfl,rfl,fun j c cs hj=>?_⟩
 match j,hj with
 |0,hj=>
  simp at hj;obtain⟨rfl,rfl⟩:=hj;exact⟨_,rfl,.inr ⟨rfl,_,rfl,h⟩⟩
 |1,hj=>
  simp at hj;obtain⟨rfl,rfl⟩:=hj;exact⟨_,rfl,.inr ⟨rfl,_,rfl,bX.raw _ rfl⟩⟩
 |j+2,hj=>simp at hj
def Oy (M l:List (List Int)):Option (List (Int×List Int)):=if isReducedM M then fi M l else none
def Qt (M l:List (List Int)):List (List Int):=match Oy M l with|none=>[]|some ks=>(im ks).map Prod.snd
def Qs (M l:List (List Int)):Bool:=(Oy M l).isSome
theorem Ks {M l:List (List Int)} (h:Oy M l=none):PC (Qt M l) (Qs M l)=PC [] false:=by simp[Qt,Qs,h]
theorem Kt {M l:List (List Int)} {ks:List (Int×List Int)} (h:Oy M l=some ks):PC (Qt M l) (Qs M l)=PC ((im ks).map Prod.snd) true:=by simp[Qt,Qs,h]
theorem MR (M l:List (List Int)) (hl:l.length<=65536):CallC Tryz.prog 89 [ch M,ch l] ⟨[],PC (Qt M l) (Qs M l)⟩:=by
 refine r8 (by kernel_rfl) fun X w vs hX hvs ha=>?_
 obtain⟨v0,e0,r0⟩:=rX ha (j:=0) rfl;obtain⟨v1,e1,r1⟩:=rX ha (j:=1) rfl;obtain⟨A,c,rfl,hc,hm,hR⟩:=o9 r0;obtain⟨B,d,rfl,hd,hlx,hB⟩:=o9 r1;obtain rfl:vs= #[.slice A M.length c,.slice B l.length d]:=by
  apply Array.ext_getElem?;intro j
  match j with
  |0=>exact e0
  |1=>exact e1
  |j+2=>rw[Array.getElem?_eq_none (by simp at hvs;omega)];rfl
 refine(uo A B c d M l w hR hB hm hc hl).mono fun e w' ⟨h1,h2⟩=>?_
 change Sp _ _ (Oy M l) _ at h1
 cases hs:Oy M l with
 |none=>
  rw[hs]at h1;rw[Ks hs];exact⟨_,h1,fun _ _ _ _=>J3 _ (bX.nil _ _),h2⟩
 |some ks=>
  rw[hs]at h1;rw[Kt hs];obtain⟨A',h3,h4⟩:=h1;exact⟨_,h3,fun _ _ _ hY=>J3 _ (JC h4 hY),h2⟩
/-! Insertion. -/
def Hc (x:Int×List Int):List (Int×List Int)->Nat
 |[]=>0
 |a::l=>if yj a x then Hc x l+1 else 0
theorem JS (x:Int×List Int): ∀l,Hc x l<=l.length
 |[]=>ae _
 |a::l=>by unfold Hc;have:=JS x l;split<;>simp<;>omega
theorem zY (x:Int×List Int): ∀l:List (Int×List Int),l5 x l=match l[Hc x l]? with
  |some a=>if yj x a then l.take (Hc x l)++x::l.drop (Hc x l)else l
  |none=>l.take (Hc x l)++x::l.drop (Hc x l)
 |[]=>rfl
 |a::l=>by
  unfold l5 Hc;split
  ·rw[zY x l];simp only[List.getElem?_cons_succ];cases l[Hc x l]? with
   |none=>rfl
   |some b=>simp only;split<;>rfl
  simp only[List.getElem?_cons_zero];split<;>rfl
theorem JV (x:Int×List Int) (l:List (Int×List Int)):(l5 x l).length<=l.length+1:=by
 rw[zY];have h1:(l.take (Hc x l)++x::l.drop (Hc x l)).length=l.length+1:=by
  have:=JS x l;simp;omega
 split
 ·split
  ·omega
  omega
 omega
def qN (M:List (List Int)) (x:List Int):Int:=BF M.length (ent M) (fun i=>x.getD i 0) (fun i=>x.getD i 0)
theorem P9 {M:List (List Int)} {x:List Int} {s:Int} (hs:s=1\/s= -1):qN M (x.map fun a=>s*a)=qN M x:=by
 unfold qN BF;refine aT _ fun i _=>?_
 have e: ∀i,(x.map fun a=>s*a).getD i 0=s*x.getD i 0:=fun i=>by
  rw[List.getD_eq_getElem?_getD,List.getD_eq_getElem?_getD,List.getElem?_map];cases x[i]?<;>simp
 simp only[e];have e2:cg (fun j=>ent M i j*(s*x.getD j 0)) M.length=s*cg (fun j=>ent M i j*x.getD j 0) M.length:=by
  rw[<- dm];exact aT _ fun j _=>by grind
 rw[e2];rcases hs with rfl|rfl<;>grind
theorem zh: ∀(l acc:List (Int×List Int)),(l.foldl (fun acc x=>l5 x acc) acc).length<=l.length+acc.length
 |[],acc=>by simp
 |x::l,acc=>by
  have:=zh l (l5 x acc);have:=JV x acc;simp only[List.foldl_cons,List.length_cons];omega
section
section
variable {M:List (List Int)} {n:Nat} {f:FF} {B:Int}
theorem Rv (hr:RedR f n) (h8:n<=8) (h0:0<=B) (h1:B<=65536) {z:List Int} (hz:z.length=n) (hB:jc n f z<=B): ∀c∈z,c.natAbs<=524288:=fun c hc=>by
 rw[oP]at hB;have hN:B*((2^n:Nat):Int)<=((4096:Nat):Int)*((4096:Nat):Int):=by
  have h2:(2^n:Nat)<=256:=aA (aD (by omega) h8) (by decide);generalize(2^n:Nat)=p at*
  have:=Int.mul_le_mul h1 (Int.ofNat_le.2 h2) (by omega) (by omega);omega
 obtain⟨i,hi⟩:=List.mem_iff_getElem?.1 hc;have hin:i<n:=by have:=(List.getElem?_eq_some_iff.1 hi).1;omega
 have:=vy hr (fun i=>z.getD i 0) h0 hB hN (n-i-1) i (by omega);have h2:2^(n-i-1)<=2^7:=aD (by omega) (by omega);have:=Nat.mul_le_mul_left 4096 h2;simp only[List.getD_eq_getElem?_getD,hi,Option.getD_some]at*
 omega
theorem IB (hr:RedR f n) (h0:0<=B) (z:List Int):z∈fp f n B n []↔z.length=n/\jc n f z<=B:=by
 rw[MA hr.pd h0,oP]
theorem BT: ∀(k:Nat) (w z:List Int),z∈fp f n B k w-> ∃p,z=p++w
 |0,w,z,h=>⟨[],by simpa[fp] using h⟩
 |k+1,w,z,h=>by
  simp only[fp,List.mem_flatMap]at h;obtain⟨c,_,h⟩:=h;obtain⟨p,rfl⟩:=BT k (c::w) z h;exact⟨p++[c],by simp⟩
theorem Kk {l r:List Int} {c:Int} (hl: ∀x∈l,x=0) (hc:c≠0):eu (l++c::r)=if c<0 then -1 else 1:=by
 unfold eu;have:l.find? (fun c=>c !=0)=none:=List.find?_eq_none.2 fun x hx=>by simp[hl x hx]
 rw[List.find?_append,this];simp[hc]
theorem rB {p y:List Int} {c:Int} (hy: ∀x∈y,x=0) (hc:c≠0):eu (p++c::y).reverse=if c<0 then -1 else 1:=by
 rw[List.reverse_append,List.reverse_cons,List.append_assoc];exact Kk (fun x hx=>hy x (List.mem_reverse.1 hx)) hc
theorem D7 (hv:mN n f B) (z:List Int): ∀(k:Nat) (y:List Int) (zf:Bool),y.length+(k+1)=n->mZ y->fD f n B (k+1) (bj n y)->(zf=true-> ∀x∈y,x=0)->(z∈uD f n B false k y zf↔z∈fp f n B (k+1) y/\(zf=true->eu z.reverse=1))
 |0,y,zf,hk,hT,hP,hz=>by
  have hlo:=fun e=>mu hv hk hP (hz e)
  simp only[uD,fp,List.mem_flatMap,ju,List.mem_singleton,Bool.false_and,Bool.false_eq_true,or_false];constructor
  ·rintro⟨c,⟨h1,h2⟩,h3⟩;split at h3
   ·simp at h3
   rename_i hne;obtain rfl:z=c::y:=by simpa using h3
   cases zf with
   |false=>exact⟨⟨c,⟨by simpa using h1,h2⟩,rfl⟩,fun e=>by cases e⟩
   |true=>
    have hc0:c≠0:=fun e=>hne (by simp[e])
    simp only[if_true]at h1;refine⟨⟨c,⟨by have:=hlo rfl;omega,h2⟩,rfl⟩,fun _=>?_⟩;have:=rB (p:=[]) (hz rfl) hc0;rw[if_neg (by omega)]at this;exact this
  rintro⟨⟨c,⟨h1,h2⟩,rfl⟩,h3⟩;cases zf with
  |false=>exact⟨c,⟨by simpa using h1,h2⟩,by simp⟩
  |true=>
   have h3:=h3 rfl;have hc0:c≠0:=fun e=>by
    have:eu (c::y).reverse=0:=ki.2 fun x hx=>by
     rw[List.mem_reverse,List.mem_cons]at hx;rcases hx with rfl|hx
     ·exact e
     exact hz rfl x hx
    omega
   have:=rB (p:=[]) (hz rfl) hc0;have hcp: ¬c<0:=fun e=>by
    rw[if_pos e]at this;have h3':eu ([]++c::y).reverse=1:=h3;omega
   exact⟨c,⟨by simp only[if_true];omega,h2⟩,by simp[hc0]⟩
 |k+1,y,zf,hk,hT,hP,hz=>by
  have hlo:=fun e=>mu hv hk hP (hz e)
  have ih:=fun c (h1:dB f n B (k+1) (bj n y)<=c) (h2:c<=d6 f n B (k+1) (bj n y))=>D7 hv z k (c::y) (zf&&decide (c=0)) (by rw[List.length_cons];omega) (hv.tcb hk hT hP h1 h2) (hv.step hk hP h1 h2).1 fun e=>by
   simp only[Bool.and_eq_true,decide_eq_true_eq]at e;intro x hx;rcases List.mem_cons.1 hx with rfl|hx
   ·exact e.2
   exact hz e.1 x hx
  have e1:fp f n B (k+1+1) y=(rng (dB f n B (k+1) (bj n y)) (d6 f n B (k+1) (bj n y))).flatMap fun c=>fp f n B (k+1) (c::y):=rfl
  rw[e1];simp only[uD,List.mem_flatMap,ju];constructor
  ·rintro⟨c,⟨h1,h2⟩,h3⟩;have h1':dB f n B (k+1) (bj n y)<=c:=by
    cases zf with
    |false=>simpa using h1
    |true=>have:=hlo rfl;simp only[if_true]at h1;omega
   obtain⟨q1,q2⟩:=(ih c h1' h2).1 h3;refine⟨⟨c,⟨h1',h2⟩,q1⟩,fun e=>?_⟩;subst e;by_cases hc:c=0
   ·exact q2 (by simp[hc])
   obtain⟨p,rfl⟩:=BT _ _ _ q1;rw[rB (hz rfl) hc,if_neg (by simp only[if_true]at h1;omega)]
  rintro⟨⟨c,⟨h1,h2⟩,q1⟩,h3⟩;refine⟨c,⟨?_,h2⟩,(ih c h1 h2).2 ⟨q1,fun e=>h3 (by simp at e;exact e.1)⟩⟩;cases zf with
  |false=>simpa using h1
  |true=>
   simp only[if_true];refine Int.le_of_not_gt fun hc=>?_
   have h3:=h3 rfl;obtain⟨p,rfl⟩:=BT _ _ _ q1;rw[rB (hz rfl) (by omega),if_pos (by omega)]at h3;omega
noncomputable def x6 (f:FF) (n:Nat) (B:Int):List (List Int):=uD f n B false (n-1) [] true
theorem Cd (h:Rf M n f) (h0:0<=B) (h1:B<=65536) (z:List Int):z∈x6 f n B↔z.length=n/\jc n f z<=B/\eu z.reverse=1:=by
 have hv:=h.vs h0 h1;have hPt:fD f n B n (bj n []):=ji hv.r.pd h0;have hn:=h.n1;unfold x6;rw[D7 hv z (n-1) [] true (by simp;omega) mZ.nil (by rw[show n-1+1=n by omega];exact hPt) (fun _ x hx=>by simp at hx),show n-1+1=n by omega,IB h.r h0,and_assoc]
 simp
theorem JY (h:Rf M n f) (z:List Int):qN M z=jc n f z:=by
 unfold qN;rw[h.l,h.en,oP]
theorem Ao {z:List Int} (h:eu z.reverse=1):eu z≠0:=fun e=>by
 have:eu z.reverse=0:=ki.2 fun c hc=>ki.1 e c (List.mem_reverse.1 hc)
 omega
def PI (n:Nat) (f:FF) (z:List Int):Int×List Int:=(jc n f z,G9 z)
theorem PJ (h:Rf M n f) (h0:0<=B) (h1:B<=65536) {z:List Int} (hz:z.length=n) (hB:jc n f z<=B) (hs:eu z≠0):lN M z=some (PI n f z):=by
 have hb:=Rv h.r h.n8 h0 h1 hz hB;have hin:AZ z=true:=by
  unfold AZ;rw[List.all_eq_true];intro c hc;have:=hb c hc;simp;omega
 have hfit:uF M.length z=true:=nO.2 ⟨by rw[hz,h.l],hin⟩;have hnn:0<=jc n f z:=by
  rw[oP];have:=(gM h.r.pd.1 h.r.pd.2 (fun i=>z.getD i 0) n 0 (by omega)).1;rwa[eE (f':=f) (fun i j _ _=>cp f i j) (fun _ _=>rfl) (fun _ _=>rfl)]at this
 have e:=PF h.red hfit hfit;unfold lN;rw[if_pos hfit];have e1:qJ M z=some (jc n f z):=by
  unfold qJ;rw[e,show BF M.length (ent M) (fun i=>z.getD i 0) (fun i=>z.getD i 0)=jc n f z from JY h z];exact if_pos (by omega)
 have e2:gD z=some (G9 z):=by
  rw[Bx hin,if_neg hs];rfl
 rw[e1,e2];rfl
theorem DU (h:Rf M n f) (h0:0<=B) (h1:B<=65536): ∀{l:List (List Int)},(∀z∈l,z.length=n/\jc n f z<=B/\eu z≠0)->fi M l=some (l.map (PI n f))
 |[],_=>rfl
 |x::l,hl=>by
  obtain⟨a1,a2,a3⟩:=hl x (by simp);unfold fi;rw[PJ h h0 h1 a1 a2 a3,DU h h0 h1 (fun y hy=>hl y (by simp[hy]))];rfl
noncomputable def yc (f:FF) (n:Nat) (B:Int):List (Int×List Int):=im ((x6 f n B).map (PI n f))
theorem SG (h:Rf M n f) (h0:0<=B) (h1:B<=65536):Qt M (x6 f n B)=(yc f n B).map Prod.snd/\Qs M (x6 f n B)=true:=by
 have hi:=DU h h0 h1 (l:=x6 f n B) fun z hz=>by
  obtain⟨a1,a2,a3⟩:=(Cd h h0 h1 z).1 hz;exact⟨a1,a2,Ao a3⟩
 have ho:Oy M (x6 f n B)=some ((x6 f n B).map (PI n f)):=by unfold Oy;rw[if_pos h.red,hi]
 unfold Qt Qs;rw[ho];exact⟨rfl,rfl⟩
theorem Ce (h:Rf M n f) {s:Int} (hs:s=1\/s= -1) (z:List Int):jc n f (z.map fun a=>s*a)=jc n f z:=by
 rw[<- JY h,<- JY h,P9 hs]
theorem Pg {z:List Int} (h:eu z=1):G9 z=z:=by
 unfold G9;rw[h]
 conv=>rhs;rw[<- List.map_id z]
 exact List.map_congr_left fun a _=>by simp
theorem K8 (h:Rf M n f) (h0:0<=B) (h1:B<=65536) (p:Int×List Int):p∈yc f n B↔p.2.length=n/\p.1=jc n f p.2/\p.1<=B/\eu p.2=1:=by
 unfold yc;rw[wD,List.mem_map];constructor
 ·rintro⟨z,hz,rfl⟩;obtain⟨a1,a2,a3⟩:=(Cd h h0 h1 z).1 hz;have hne:=Ao a3;have hs:eu z=1\/eu z= -1:=by rcases ud z with e|e|e<;>omega
  refine⟨by simp[PI,G9,a1],?_,a2,?_⟩
  ·show jc n f z=jc n f (G9 z);unfold G9;rw[Ce h hs]
  show eu (G9 z)=1;unfold G9;rw[ue hs];rcases hs with e|e<;>rw[e]<;>rfl
 rintro⟨a1,a2,a3,a4⟩;obtain⟨v,y⟩:=p;simp only at a1 a2 a3 a4;subst a2;have hrn:eu y.reverse≠0:=fun e=>by
  have:eu y=0:=ki.2 fun c hc=>ki.1 e c (List.mem_reverse.2 hc)
  omega
 have hs:eu y.reverse=1\/eu y.reverse= -1:=by rcases ud y.reverse with e|e|e<;>omega
 refine⟨y.map fun a=>eu y.reverse*a,(Cd h h0 h1 _).2 ⟨by simpa using a1,by rw[Ce h hs];exact a3,?_⟩,?_⟩
 ·rw[<- List.map_reverse,ue hs];rcases hs with e|e<;>rw[e]<;>rfl
 unfold PI;rw[Ce h hs,LX hs,Pg a4]
end
end
section
section
variable {M:List (List Int)} {n:Nat} {f:FF} {B k:Int}
theorem Qo (hd:0<dk f 1) (h0:0<=B):x6 f 1 B=(rng 1 (isqF (B/dk f 1))).flatMap (Jt (dk f 1) B false):=by
 obtain⟨l1,l2⟩:=lX (f:=f) hd h0;have hr:=(cz (Int.ediv_nonneg h0 (Int.le_of_lt hd))).1;unfold x6;simp only[show 1-1=0 from rfl,uD,if_true,l2];rw[fh hr,List.flatMap_cons];simp only[decide_true,Bool.and_self,true_or,if_true,List.nil_append,Int.zero_add];rw[List.flatMap_def,List.flatMap_def]
 congr 1
 refine List.map_congr_left fun c hc=>?_
 have:=(ju.1 hc).1;have hc0: ¬c=0:=by omega
 simp[hc0,Jt]
theorem Qm {F:Nat->Int} {i m:Nat} (h:i<=m) (hF: ∀a,a<m->0<=F a):cg F i<=cg F m:=by
 induction m with
 |zero=>rw[show i=0 by omega];exact Int.le_refl _
 |succ m ih=>
  by_cases e:i=m+1
  ·rw[e];exact Int.le_refl _
  have:=ih (by omega) fun a ha=>hF a (by omega)
  have:=hF m (by omega);show _<=cg F m+F m;omega
theorem Ow (hv:mN n f B): ∀(k:Nat) (y:List Int) (z:Bool),y.length+(k+1)=n->mZ y->fD f n B (k+1) (bj n y)->(z=true-> ∀x∈y,x=0)->(uD f n B false k y z).length<=(fp f n B (k+1) y).length
 |0,y,z,hk,hT,hP,hz=>by
  have hlo:=fun e=>mu hv hk hP (hz e)
  rw[mo];simp only[uD,List.length_flatMap];have hle:dB f n B 0 (bj n y)<=(if z=true then 0 else dB f n B 0 (bj n y)):=by
   split
   ·rename_i e;exact hlo e
   exact Int.le_refl _
  refine aA (px (G:=fun c=>(fp f n B 0 (c::y)).length) _ fun c _=>?_) (Et hle);show _<=1;split<;>simp
 |k+1,y,z,hk,hT,hP,hz=>by
  have hlo:=fun e=>mu hv hk hP (hz e)
  rw[mo];simp only[uD,List.length_flatMap];have hle:dB f n B (k+1) (bj n y)<=(if z=true then 0 else dB f n B (k+1) (bj n y)):=by
   split
   ·rename_i e;exact hlo e
   exact Int.le_refl _
  refine aA (px (G:=fun c=>(fp f n B (k+1) (c::y)).length) _ fun c hc=>?_) (Et hle);obtain⟨c1,c2⟩:=ju.1 hc;have c1:dB f n B (k+1) (bj n y)<=c:=by omega
  refine Ow hv k (c::y) _ (by rw[List.length_cons];omega) (hv.tcb hk hT hP c1 c2) (hv.step hk hP c1 c2).1 fun e=>?_
  simp only[Bool.and_eq_true,decide_eq_true_eq]at e;intro x hx;rcases List.mem_cons.1 hx with rfl|hx
  ·exact e.2
  exact hz e.1 x hx
theorem Kp (h:Rf M n f) (h0:0<=B) (h1:B<=65536):(x6 f n B).length<=(fp f n B n []).length:=by
 have hv:=h.vs h0 h1;have hPt:fD f n B n (bj n []):=ji hv.r.pd h0;have hn:=h.n1;have:=Ow hv (n-1) [] true (by simp;omega) mZ.nil (by rw[show n-1+1=n by omega];exact hPt) (fun _ x hx=>by simp at hx);rwa[show n-1+1=n by omega]at this
theorem LZ (h:Rf M 1 f) (h0:0<=B) (h1:B<=65536):CallC Tryz.prog 90 [ch M,.raw (.int .i64 B),.raw (.bool false)] ⟨[],ch (x6 f 1 B)⟩:=by
 have hd:=(h.vs h0 h1).d (k:=1) (ae 1);have hd2:dk f 1<=10000:=h.r.2.2.1;have e1:dk f 1=f 0 0:=by show bk f 0 0 0=f 0 0;exact cp f 0 0
 rw[Qo hd.1 h0];have hq:0<=B/dk f 1:=Int.ediv_nonneg h0 (by omega);have hqB:B/dk f 1<=B:=Int.ediv_le_self _ h0;have hsp:=cz hq;have hr:isqF (B/dk f 1)<=256:=by
  refine Int.le_of_not_gt fun hc=>?_
  have:=Int.mul_le_mul (show(257:Int)<=isqF (B/dk f 1) by omega) (show(257:Int)<=isqF (B/dk f 1) by omega) (by omega) (by omega);have:=hsp.2.1;omega
 have cM:=P2 (dk f 1) B false hd.1 (by omega) h0 (by omega) (by
  rw[List.length_flatMap];refine aA (px (G:=fun _=>1) _ fun c _=>by unfold Jt;split<;>simp) ?_;rw[x8,pb];omega)
 have hml:=h.l;have hr0:M[0]?=some (be 1 (f 0)):=by rw[h.e];exact b6 (n:=1) 1 f (i:=0) (by omega)
 have hc:=aZ (m:=1) (f 0) (j:=0) (by omega);have hrl:=aW 1 (f 0);generalize(rng 1 (isqF (B/dk f 1))).flatMap (Jt (dk f 1) B false)=E at*
 rw[e1]at cM;refine aK Tryz.func90 rfl (by kernel_rfl) ?_;rw[Tryz.ntmps90];refine aE fun _ K=>?_;simp(disch:=omega) only[kd,ch,aa,af];apply K
 refine aG (aE fun _ K=>?_);simp(disch:=omega) only[kd,aa,hml];apply K;refine bo rfl ?_;refine gp bU [⟨7,_,_,_,cM⟩] [] (by kernel_rfl) fun _ K=>?_;simp(disch:=omega) only[kd,ch,aa,Int.reduceToNat,hr0,fR,hc];apply K
 (refine aL ⟨.inr rfl,aQ rfl ?_ rfl⟩;simp(disch:=omega) only[kd,Tryz.results90,ch])
theorem Ph (h:Rf M n f) (h0:0<=B) (h1:B<=65536) (hl:(x6 f n B).length<=1000000):CallC Tryz.prog 90 [ch M,.raw (.int .i64 B),.raw (.bool false)] ⟨[],ch (x6 f n B)⟩:=by
 by_cases e:n=1
 ·subst e;exact LZ h h0 h1
 have:=h.n1;rw[h.e];exact L0 (h.vs h0 h1) (Cr h.r h.n1 h.n8 h.b) (nE h.r h.n8 h.b) false (by omega) hl
abbrev SO (l:List (List Int)) (s e:Int):TV:= .tup [(false,[.p (.sl (ls (fR fI) l))]),(false,[.p (.raw (.int .i64 s))]),(false,[.p (.raw (.int .i64 e))])]
abbrev Tg (e:Int):TV:= .tup [(false,[.p (.raw (.slice none 0 0))]),(false,[.p (.raw (.int .i64 0))]),(false,[.p (.raw (.int .i64 e))])]
theorem OO (h:Rf M n f) (h0:0<=B) (h1:B<=65536) (hk:0<=k) (hk2:k<=1000000) (hT:(toL f n B (n-1) []:Int)<=k):
  CallC Tryz.prog 37 [ch M,.raw (.int .i64 B),.raw (.int .i64 k)] ⟨[],if 8194<(fp f n B n []).length then Tg 7 else SO ((yc f n B).map Prod.snd) (toL f n B (n-1) []) 0⟩:=by
 obtain⟨L,eS,hLl,hLp,hLs,hLz⟩:=(Ay h h0 h1 hk hk2).1 hT;have cS:=zR M B k;rw[eS]at cS;have hn1:=h.n1;have hn8:=h.n8;have henl:=BS (f:=f) (n:=n) (B:=B) (n-1) [];rw[show n-1+1=n by omega]at henl;have hsql:=Kp h h0 h1;have hLi: ∀i,i<n->L[i]?=some (L.getD i 0):=fun i hi=>by rw[List.getD_eq_getElem?_getD,List.getElem?_eq_getElem (by omega)];rfl
 have cP:=MT L ((fp f n B n []).length:Int) (by omega) (by omega) (by rw[hLl,hLi (n-1) (by omega),hLz]) (by omega) (by omega);have hz0:1<=(fp f n B n []).length:=by
  have hm:af n (0:Int)∈fp f n B n []:=(IB h.r h0 _).2 ⟨by simp,by
   rw[oP,kn]
   ·exact h0
   intro i _;rw[List.getD_eq_getElem?_getD,List.getElem?_replicate];split<;>rfl⟩
  exact List.length_pos_of_mem hm
 have hq:Int.tdiv (((fp f n B n []).length:Int)-1) 2=(((fp f n B n []).length:Int)-1)/2:=Int.tdiv_eq_ediv_of_nonneg (by omega);rw[hq]at cP;have hcC:=Ph h h0 h1;have hsu:=SG h h0 h1;have cSo:=MR M (x6 f n B);rw[hsu.1,hsu.2]at cSo;have hps: ∀i,i<n->sL i L+L.getD i 0=sL (i+1) L:=fun _ _=>rfl
 have hbd: ∀i,i<=n->0<=sL i L/\sL i L<=1000000:=fun i hi=>by
  refine⟨uk i fun a ha=>hLp a (by omega),?_⟩;have:=Qm (F:=fun i=>L.getD i 0) hi fun a ha=>hLp a ha
  have e:cg (fun i=>L.getD i 0) n=sL n L:=rfl;have e2:cg (fun i=>L.getD i 0) i=sL i L:=rfl;omega
 have hs0:sL 0 L=0:=rfl;rw[<- hLs]at hT⊢;generalize(fp f n B n []).length=z at*
 generalize x6 f n B=Q at*
 generalize(yc f n B).map Prod.snd=V at*
 clear eS hLz;by_cases hbig:8194<z
 ·rw[if_pos hbig];have hgt:(4096<((z:Int)-1)/2)=True:=eq_true (by omega);refine aK Tryz.func37 rfl (by kernel_rfl) ?_;rw[Tryz.ntmps37];refine aE fun _ K=>?_;simp only[kd,aa,ch,af];apply K
  refine aI [⟨3,_,_,_,cS⟩] [] fun _ K=>?_;simp only[kd,ch,aa];apply K
  refine aG (aE fun _ K=>?_);simp(disch:=omega) only[kd];apply K;refine aU rfl (aR ?_);show bu _ _ _ _;refine aG (aI [⟨1,_,_,_,cP⟩] [] fun _ K=>?_);simp(disch:=omega) only[kd,iu,aa,hgt];apply K;refine bo rfl ?_;refine aE fun _ K=>?_;simp only[kd,aa];apply K
  (refine aL ⟨.inr rfl,aQ rfl ?_ rfl⟩;simp(disch:=omega) only[kd,Tryz.results37])
 rw[if_neg hbig];have hgt:(4096<((z:Int)-1)/2)=False:=eq_false (by omega);have cC:=hcC (by omega);have cSo:=cSo (by omega);refine aK Tryz.func37 rfl (by kernel_rfl) ?_;rw[Tryz.ntmps37];refine aE fun _ K=>?_;simp only[kd,aa,ch,af];apply K
 refine aI [⟨3,_,_,_,cS⟩] [] fun _ K=>?_;simp only[kd,ch,aa];apply K
 refine aG (aE fun _ K=>?_);simp(disch:=omega) only[kd];apply K;refine aU rfl (aR ?_);show bu _ _ _ _;refine aG (aI [⟨1,_,_,_,cP⟩] [] fun _ K=>?_);simp only[kd,iu,aa,hgt];apply K;refine aU rfl (aR ?_);show bu _ _ _ _;refine aE fun _ K=>?_;simp only[kd];apply K
 refine aG (aE fun _ K=>?_);simp only[kd,aa,hLl];apply K;refine bH (G:=qp n) (fun v=>⟨(ch M::.raw (.int .i64 B)::j4 (j4 (jk::.raw (.int .i64 (sL v.i L))::j16 (jk::iu L::rN n::rN v.i::j16 (jk::[]))))),Hm []⟩) (fun v=>n-v.i) ⟨0,by omega⟩ ?_ ?_
 ·refine aF trivial ?_;simp[wk,hs0]
 rintro⟨i,hi⟩;simp only;by_cases hm:i<n
 ·have hLx:=hLi i hm;have s1:=hps i hm;have b1:=hbd (i+1) (by omega);refine aE fun _ K=>?_;simp(disch:=omega) only[kd,ch,iu];apply K
  refine cX rfl ?_;refine aG (aP ?_);refine aE fun _ K=>?_;simp(disch:=omega) only[kd,aa,hLx];apply K
  refine aO fun _ K=>?_;simp(disch:=omega) only[kd,aa,s1,aM];apply K
  show bu _ _ _ _;refine aO fun _ K=>?_;simp(disch:=omega) only[kd,aM];apply K
  refine⟨⟨i+1,by omega⟩,by simp only;omega,aF trivial ?_⟩;simp[wk]
 have hin:i=n:=by omega
 subst hin;refine aE fun _ K=>?_;simp(disch:=omega) only[kd,ch,iu];apply K
 refine di rfl ?_;show bu _ _ _ _;refine aI [⟨3,_,_,_,cC⟩,⟨4,_,_,_,cSo⟩] [] fun _ K=>?_;simp only[kd,ch,PC,aa,ag];apply K
 refine aE fun _ K=>?_;simp only[kd,aa];apply K
 (refine aL ⟨.inr rfl,aQ rfl ?_ rfl⟩;simp(disch:=omega) only[kd,Tryz.results37])
end
end
section
variable {n:Nat}
theorem Q7 {f:FF} {a b:Nat} (ha:a<n) (hb:b<n):BF n f (eC a) (eC b)=f a b:=by
 have e1: ∀(F:Nat->Int) a,a<n->cg (fun j=>F j*eC a j) n=F a:=fun F a ha=>by
  rw[iE ha (fun p _ hne=>by unfold eC;rw[if_neg hne,Int.mul_zero])];unfold eC;rw[if_pos rfl,Int.mul_one]
 unfold BF;rw[aT n (G:=fun k=>f k b*eC a k) (fun k _=>by rw[e1 (f k) b hb];exact Int.mul_comm _ _),e1 (fun k=>f k b) a ha]
def l1 (y:Nat->Int):Nat->Nat
 |0=>0
 |k+1=>l1 y k+(y k).natAbs
end
section
section
variable {M:List (List Int)} {n:Nat} {f:FF} {B k:Int}
def uS (n:Nat) (f:FF):Int:=A0 (be n fun i=>f i i) (n-1)
theorem Js (L:List Int): ∀i j,j<=i->A0 L i<=L.getD j 0
 |0,j,h=>by rw[show j=0 by omega];exact Int.le_refl _
 |i+1,j,h=>by
  show(if L.getD (i+1) 0<A0 L i then L.getD (i+1) 0 else A0 L i)<=_;by_cases e:j=i+1
  ·subst e;split<;>omega
  have:=Js L i j (by omega);split<;>omega
theorem Jr (L:List Int): ∀i,∃j,j<=i/\A0 L i=L.getD j 0
 |0=>⟨0,ae 0,rfl⟩
 |i+1=>by
  obtain⟨j,h1,h2⟩:=Jr L i;show ∃j,j<=i+1/\(if L.getD (i+1) 0<A0 L i then L.getD (i+1) 0 else A0 L i)=_;split
  ·exact⟨i+1,ae _,rfl⟩
  exact⟨j,by omega,h2⟩
theorem DD {i:Nat} (hi:i<n):(be n fun i=>f i i).getD i 0=f i i:=by
 rw[List.getD_eq_getElem?_getD,aZ _ hi];rfl
theorem RI (h1:1<=n): ∀i,i<n->uS n f<=f i i:=fun i hi=>by
 have:=Js (be n fun i=>f i i) (n-1) i (by omega);rwa[DD hi]at this
theorem Ol (h1:1<=n): ∃i,i<n/\uS n f=f i i:=by
 obtain⟨j,h2,h3⟩:=Jr (be n fun i=>f i i) (n-1);exact⟨j,by omega,by rw[<- DD (n:=n) (f:=f) (i:=j) (by omega)];exact h3⟩
theorem Jo (h:Rf M n f):0<uS n f/\uS n f<=65536:=by
 have h1:=h.n1;obtain⟨i,hi,e⟩:=Ol (f:=f) h1;have hv:=(h.vs (B:=0) (by omega) (by omega)).d (k:=1) h1;have e0:dk f 1=f 0 0:=by show bk f 0 0 0=f 0 0;exact cp f 0 0
 have:=RI (f:=f) h1 0 (by omega);refine⟨?_,by omega⟩;rw[e];have hd:=h.r.pd.diag hi;exact hd
def OA (n i:Nat):List Int:=be n (eC i)
theorem QN {i:Nat} (hi:i<n):eu (OA n i)=1:=by
 have e:OA n i=af i 0++1::af (n-i-1) 0:=by
  apply List.ext_getElem?;intro j;by_cases hj:j<n
  ·rw[show(OA n i)[j]?=some (eC i j)from aZ _ hj];unfold eC;by_cases h1:j=i
   ·subst h1;rw[if_pos rfl,List.getElem?_append_right (by simp)];simp
   rw[if_neg h1];by_cases h2:j<i
   ·rw[List.getElem?_append_left (by simpa using h2)];simp[h2]
   rw[List.getElem?_append_right (by simp;omega)];simp only[List.length_replicate];rw[show j-i=(j-i-1)+1 by omega,List.getElem?_cons_succ,List.getElem?_replicate,if_pos (by omega)]
  rw[List.getElem?_eq_none (by rw[show(OA n i).length=n from aW _ _];omega),List.getElem?_eq_none (by simp;omega)]
 rw[e];exact Kk (fun x hx=>(List.mem_replicate.1 hx).2) (by decide)
theorem RY {i:Nat} (hi:i<n):jc n f (OA n i)=f i i:=by
 rw[oP,<- Q7 (f:=f) hi hi];refine eE (fun _ _ _ _=>rfl) (fun j hj=>?_) (fun j hj=>?_)<;>
 ·show(OA n i).getD j 0=_;rw[List.getD_eq_getElem?_getD,show(OA n i)[j]?=some (eC i j)from aZ _ hj];rfl
theorem RZ (h:Rf M n f):0<(yc f n (uS n f)).length:=by
 obtain⟨i,hi,e⟩:=Ol (f:=f) h.n1;have hb:=Jo h;exact List.length_pos_of_mem ((K8 h (by omega) (by omega) (f i i,OA n i)).2 ⟨aW _ _,(RY hi).symm,by rw[e];exact Int.le_refl _,QN hi⟩)
theorem QS (h:Rf M n f) (h0:0<=B) (h1:B<=65536):(yc f n B).length<=(fp f n B n []).length:=by
 have:=zh ((x6 f n B).map (PI n f)) [];have h2:=Kp h h0 h1;have e:(yc f n B).length<=(x6 f n B).length:=by simpa[yc,im] using this
 omega
def SJ (ks:List (Int×List Int)):List (Int×List Int):=ks.takeWhile fun p=>p.1==(ks.getD 0 (0,[])).1
theorem Oz (v:Int): ∀(ks:List (Int×List Int)) (i:Nat) p,ks[i]?=some p->(i<(ks.takeWhile fun p=>p.1==v).length->p.1=v)/\(i=(ks.takeWhile fun p=>p.1==v).length->p.1≠v)
 |[],i,p,h=>by simp at h
 |q::ks,i,p,h=>by
  by_cases e:q.1=v
  ·rw[List.takeWhile_cons_of_pos (by simp[e])];cases i with
   |zero=>simp at h;subst h;exact⟨fun _=>e,fun h=>by simp at h⟩
   |succ i=>
    have:=Oz v ks i p (by simpa using h);simp only[List.length_cons];exact⟨fun h=>this.1 (by omega),fun h=>this.2 (by omega)⟩
  rw[List.takeWhile_cons_of_neg (by simp[e])];cases i with
  |zero=>simp at h;subst h;exact⟨fun h=>by simp at h,fun _=>e⟩
  |succ i=>exact⟨fun h=>by simp at h,fun h=>by simp at h⟩
theorem Ez (p:(Int×List Int)->Bool): ∀ks:List (Int×List Int),ks.take (ks.takeWhile p).length=ks.takeWhile p
 |[]=>rfl
 |q::ks=>by
  by_cases e:p q=true
  ·rw[List.takeWhile_cons_of_pos e,List.length_cons,List.take_succ_cons,Ez p ks]
  rw[List.takeWhile_cons_of_neg e];rfl
abbrev SB (v:Int) (l:List (List Int)) (e:Int):TV:= .tup [(false,[.p (.raw (.int .i64 v))]),(false,[.p (.sl (ls (fR fI) l))]),(false,[.p (.raw (.int .i64 e))])]
structure SU (m:Nat) where
 i:Nat
 h1:1<=i
 h2:i<=m
theorem OL (h:Rf M n f) (hz:(fp f n (uS n f) n []).length<=8194) (cV:CallC Tryz.prog 37 [ch M,.raw (.int .i64 (uS n f)),.raw (.int .i64 k)] ⟨[],SO ((yc f n (uS n f)).map Prod.snd) B 0⟩):
  CallC Tryz.prog 15 [ch M,.raw (.int .i64 k)] ⟨[],SB ((yc f n (uS n f)).getD 0 (0,[])).1 ((SJ (yc f n (uS n f))).map Prod.snd) 0⟩:=by
 have hb:=Jo h;have cI:=ff M;rw[h.red]at cI;have cD:=Pl n f h.n1 (by have:=h.n8;omega);rw[<- h.e]at cD;have cM:=RJ (be n fun i=>f i i) (by rw[aW];exact h.n1) (by rw[aW];have:=h.n8;omega);rw[aW,show A0 (be n fun i=>f i i) (n-1)=uS n f from rfl]at cM;have hne:=RZ h;have hall: ∀i (p:Int×List Int),(yc f n (uS n f))[i]?=some p->CallC Tryz.prog 40 [ch M,iu p.2] ⟨[],.raw (.int .i64 p.1)⟩:=fun i p hp=>by
  obtain⟨a1,a2,a3,_⟩:=(K8 h (by omega) (by omega) p).1 (List.mem_of_getElem? hp);have hP:fD f n (uS n f) 0 (bj n p.2):=by
   rw[nP,show bj n p.2=fun i=>p.2.getD i 0 from funext fun i=>pA a1 i,<- oP];omega
  rw[a2,h.e];exact(JE h.r h.n8 h.b (by omega) hb.2 a1 hP).1
 have hlen:(yc f n (uS n f)).length<=8194:=aA (QS h (by omega) hb.2) hz;clear hz;unfold SJ;generalize yc f n (uS n f)=ks at*
 generalize uS n f=B0 at*
 obtain⟨p0,hp0⟩: ∃p0,ks[0]?=some p0:=⟨ks[0],by simp[hne]⟩;have e0:ks.getD 0 (0,[])=p0:=by rw[List.getD_eq_getElem?_getD,hp0];rfl
 rw[e0];have htk:=fun(i:Nat) (p:Int×List Int)=>Oz p0.1 ks i p
 have htt:=Ez (fun p=>p.1==p0.1) ks;have htl:(ks.takeWhile fun p=>p.1==p0.1).length<=ks.length:=by
  rw[<- htt,List.length_take];omega
 have ht1:1<=(ks.takeWhile fun p=>p.1==p0.1).length:=by
  have:=(htk 0 p0 hp0).2;refine Nat.pos_of_ne_zero fun e=>?_
  exact this e.symm rfl
 rw[<- htt];generalize(ks.takeWhile fun p=>p.1==p0.1).length=m at*
 rw[List.map_take];have hV: ∀(i:Nat) (p:Int×List Int),ks[i]?=some p->(ks.map Prod.snd)[i]?=some p.2:=fun i p hp=>by rw[List.getElem?_map,hp];rfl
 have hV0:=hV 0 p0 hp0;have hVl:(ks.map Prod.snd).length=ks.length:=by simp
 have hVn: ∀i,i<ks.length-> ∃p:Int×List Int,ks[i]?=some p:=fun i hi=>⟨ks[i],by simp[hi]⟩
 have c0:=hall 0 p0 hp0;have hpos:0<ks.length:=hne;generalize hVe:ks.map Prod.snd=V at*
 refine aK Tryz.func15 rfl (by kernel_rfl) ?_;rw[Tryz.ntmps15];refine aE fun _ K=>?_;simp only[kd,aa,ch,af];apply K
 refine aG (aI [⟨1,_,_,_,cI⟩] [] fun _ K=>?_);simp only[kd,ch,aa];apply K;refine aU rfl (aR ?_);show bu _ _ _ _;refine aI [⟨2,_,_,_,cD⟩,⟨3,_,_,_,cM⟩,⟨5,_,_,_,cV⟩] [] fun _ K=>?_;simp only[kd,ch,iu,aa,ag];apply K
 refine aG (aE fun _ K=>?_);simp(disch:=omega) only[kd];apply K;refine aU rfl (aR ?_);show bu _ _ _ _;refine aI [⟨4,_,_,_,c0⟩] [] fun _ K=>?_;simp(disch:=omega) only[kd,ch,iu,aa,Int.reduceToNat,hV0,fR];apply K
 refine aE fun _ K=>?_;simp only[kd];apply K
 refine aG ?_;refine bH (G:=SU m) (fun v=>⟨(ch M::j4 (jk::jk::ch V::jk::jk::.raw (.int .i64 p0.1)::rN v.i::j16 (j16 (j4 (j4 (jk::[])))))),Hm []⟩) (fun v=>m-v.i) ⟨1,ae 1,ht1⟩ ?_ ?_
 ·refine aF trivial ?_;simp[wk]
 rintro⟨i,hi1,hi2⟩;simp only;by_cases him:i<m
 ·have hil:i<ks.length:=by omega
  obtain⟨p,hp⟩:=hVn i hil;have hVi:=hV i p hp;have ci:=hall i p hp;have he:(p.1=p0.1)=True:=eq_true ((htk i p hp).1 him);refine aG (aI [⟨10,_,_,_,ci⟩] [] fun _ K=>?_);simp(disch:=omega) only[kd,ch,iu,aa,hVl,hVi,fR,he];apply K;refine bo rfl (aR ?_);show bu _ _ _ _;refine aP ?_;refine aO fun _ K=>?_;simp(disch:=omega) only[kd,aa,aM];apply K
  refine⟨⟨i+1,by omega,by omega⟩,by simp only;omega,aF trivial ?_⟩;simp[wk]
 obtain rfl:i=m:=by omega
 have hle:(i<=ks.length)=True:=eq_true htl;have hall1:(∀c∈ls (fR fI) V,c.length=1)=True:=sW (f:=fR fI) (fun _=>rfl) V;by_cases hil:i<ks.length
 ·obtain⟨p,hp⟩:=hVn i hil;have hVi:=hV i p hp;have ci:=hall i p hp;have he:(p.1=p0.1)=False:=eq_false ((htk i p hp).2 rfl);refine aG (aI [⟨10,_,_,_,ci⟩] [] fun _ K=>?_);simp(disch:=omega) only[kd,ch,iu,aa,hVl,hVi,fR,he];apply K;refine aU rfl (cK ?_);show bu _ _ _ _;refine dH bU (by kernel_rfl) fun _ K=>?_;simp(disch:=omega) only[kd,aa,Nat.zero_le,hVl,hle,hall1];apply K
  (refine aL ⟨.inr rfl,aQ rfl ?_ rfl⟩;simp(disch:=omega) only[kd,Tryz.results15])
 have hli:((i:Int)<(ks.length:Int))=False:=eq_false (by omega);refine aG (aE fun _ K=>?_);simp(disch:=omega) only[kd,aa,ch,hVl,hli];apply K;refine aU rfl (cK ?_);show bu _ _ _ _;refine dH bU (by kernel_rfl) fun _ K=>?_;simp(disch:=omega) only[kd,aa,Nat.zero_le,hVl,hle,hall1];apply K
 (refine aL ⟨.inr rfl,aQ rfl ?_ rfl⟩;simp(disch:=omega) only[kd,Tryz.results15])
end
end
/-! The same by computable functions. -/
def IR (a:Nat):Nat->Nat
 |0=>0
 |m+1=>if(m+1)*(m+1)<=a then m+1 else IR a m
theorem zp (a:Nat): ∀m,a<(m+1)*(m+1)->IR a m*IR a m<=a/\a<(IR a m+1)*(IR a m+1)
 |0,h=>⟨by simp[IR],by simpa[IR] using h⟩
 |m+1,h=>by
  unfold IR;split
  ·rename_i h1;exact⟨h1,h⟩
  exact zp a m (by omega)
theorem Oi (a:Int):isqF a=(IR a.toNat a.toNat:Int):=by
 by_cases h0:0<=a
 ·have h1:a.toNat<(a.toNat+1)*(a.toNat+1):=Nat.lt_of_lt_of_le (Nat.lt_succ_self _) (Nat.le_mul_of_pos_right _ (Nat.succ_pos _));obtain⟨g1,g2⟩:=zp a.toNat a.toNat h1;refine EG.uniq (cz h0) ⟨by omega,?_,?_⟩
  ·have:=Int.ofNat_le.2 g1;simp only[Int.natCast_mul]at this;omega
  have:=Int.ofNat_lt.2 g2;simp only[Int.natCast_mul,Int.natCast_add]at this;have e:((a.toNat:Nat):Int)=a:=by omega
  rw[e]at this;exact this
 have:a.toNat=0:=by omega
 rw[this];show isqF a=0;unfold isqF;rw[dif_neg];rintro⟨r,h1,h2,h3⟩;have:=Int.mul_nonneg h1 h1;omega
def Oj (f:FF) (n:Nat) (B:Int) (k:Nat) (y:List Int):Int:= -(((IR (kS f n B k (bj n y)).toNat (kS f n B k (bj n y)).toNat:Int)+qU f n k (bj n y))/dk f (k+1))
def Oh (f:FF) (n:Nat) (B:Int) (k:Nat) (y:List Int):Int:=((IR (kS f n B k (bj n y)).toNat (kS f n B k (bj n y)).toNat:Int)-qU f n k (bj n y))/dk f (k+1)
theorem Jc (f:FF) (n:Nat) (B:Int) (k:Nat) (y:List Int):dB f n B k (bj n y)=Oj f n B k y:=by unfold dB Oj;rw[Oi]
theorem IN (f:FF) (n:Nat) (B:Int) (k:Nat) (y:List Int):d6 f n B k (bj n y)=Oh f n B k y:=by unfold d6 Oh;rw[Oi]
def Sx (f:FF) (n:Nat) (B:Int):Nat->List Int->List (List Int)
 |0,y=>[y]
 |k+1,y=>(rng (Oj f n B k y) (Oh f n B k y)).flatMap fun c=>Sx f n B k (c::y)
theorem Pu (f:FF) (n:Nat) (B:Int): ∀k y,fp f n B k y=Sx f n B k y
 |0,y=>rfl
 |k+1,y=>by
  unfold fp Sx;rw[Jc,IN]
  congr 1
  funext c;exact Pu f n B k (c::y)
def toC (f:FF) (n:Nat) (B:Int):Nat->List Int->Nat
 |0,y=>(rng (Oj f n B 0 y) (Oh f n B 0 y)).length
 |k+1,y=>(rng (Oj f n B (k+1) y) (Oh f n B (k+1) y)).length+((rng (Oj f n B (k+1) y) (Oh f n B (k+1) y)).map fun c=>toC f n B k (c::y)).sum
theorem QE (f:FF) (n:Nat) (B:Int): ∀k y,toL f n B k y=toC f n B k y
 |0,y=>by unfold toL toC;rw[Jc,IN]
 |k+1,y=>by
  unfold toL toC;rw[Jc,IN]
  congr 3
  funext c;exact QE f n B k (c::y)
def Sd (f:FF) (n:Nat) (B:Int):Nat->List Int->Bool->List (List Int)
 |0,y,z=>(rng (if z=true then 0 else Oj f n B 0 y) (Oh f n B 0 y)).flatMap fun c=>if(z&&decide (c=0))=true then[]else[c::y]
 |k+1,y,z=>(rng (if z=true then 0 else Oj f n B (k+1) y) (Oh f n B (k+1) y)).flatMap fun c=>Sd f n B k (c::y) (z&&decide (c=0))
theorem RV (f:FF) (n:Nat) (B:Int): ∀k y z,uD f n B false k y z=Sd f n B k y z
 |0,y,z=>by
  unfold uD Sd;rw[Jc,IN]
  congr 1
  funext c
  simp
 |k+1,y,z=>by
  unfold uD Sd;rw[Jc,IN]
  congr 1
  funext c;exact RV f n B k (c::y) _
abbrev LN:List (List Int):=[[2,1],[1,2]]
abbrev OY:List (List Int):=[[1,0],[0,1]]
theorem Rs:Rf LN 2 (ent LN):=J5 (M:=LN) (by decide+kernel)
theorem Rr:Rf OY 2 (ent OY):=J5 (M:=OY) (by decide+kernel)
theorem Ia:uS 2 (ent LN)=2:=by decide+kernel
theorem O4:toL (ent LN) 2 2 1 []=10:=by rw[QE];decide+kernel
theorem OZ:(fp (ent LN) 2 2 2 []).length=7:=by rw[Pu];decide+kernel
theorem Ru:yc (ent LN) 2 2=[(2,[0,1]),(2,[1,-1]),(2,[1,0])]:=by
 unfold yc x6;rw[RV];decide+kernel
theorem O3:toL (ent OY) 2 5 1 []<=100:=by rw[QE];decide+kernel
theorem Rt:Q5 (ent OY) 2 5=[1,4,4,0,4,8]:=by
 unfold Q5;rw[Pu];decide+kernel
theorem Lr {M:List (List Int)} {n:Nat} {f:FF} {k:Int} (h:Rf M n f) (hk:0<=k) (hk2:k<=1000000) (hT:(toL f n (uS n f) (n-1) []:Int)<=k) (hz:(fp f n (uS n f) n []).length<=8194):
  CallC Tryz.prog 15 [ch M,.raw (.int .i64 k)] ⟨[],SB ((yc f n (uS n f)).getD 0 (0,[])).1 ((SJ (yc f n (uS n f))).map Prod.snd) 0⟩:=by
 have hb:=Jo h;have hV:=OO h (by omega) hb.2 hk hk2 hT;rw[if_neg (by omega)]at hV;exact OL h hz hV
theorem O0:CallC Tryz.prog 15 [ch LN,.raw (.int .i64 100)] ⟨[],SB 2 [[0,1],[1,-1],[1,0]] 0⟩:=by
 have h:=Lr Rs (k:=100) (by omega) (by omega) (by rw[Ia];show((toL (ent LN) 2 2 1 []:Nat):Int)<=100;rw[O4];decide) (by rw[Ia,OZ];decide);rw[Ia,Ru]at h;exact h
theorem O2:CallC Tryz.prog 19 [ch OY,.raw (.int .i64 5),.raw (.int .i64 100)] ⟨[],.tup [(false,[.p (.sl (ls fI [1,4,4,0,4,8]))]),(false,[.p (.raw (.int .i64 0))])]⟩:=by
 have h:=yp Rr 5 (by omega) (k:=100) (by omega) (by omega) (by
  have:=O3;show((toL (ent OY) 2 5 1 []:Nat):Int)<=100;omega)
 rw[Rt]at h;exact h
abbrev pI (z:Int):PV:= .raw (.int .i64 z)
theorem EX:CallC Tryz.prog 18 [] ⟨[],.raw (.bool true)⟩:=by
 have cM:CallC Tryz.prog 15 [.one (.p (.sl [[.sl [[pI 2],[pI 1]]],[.sl [[pI 1],[pI 2]]]])),.raw (.int .i64 100)] ⟨[],.tup [(false,[.p (pI 2)]),(false,[.p (.sl [[.sl [[pI 0],[pI 1]]],[.sl [[pI 1],[pI (-1)]]],[.sl [[pI 1],[pI 0]]]])]),(false,[.p (pI 0)])]⟩:=O0;have cT:CallC Tryz.prog 19 [.one (.p (.sl [[.sl [[pI 1],[pI 0]]],[.sl [[pI 0],[pI 1]]]])),.raw (.int .i64 5),.raw (.int .i64 100)] ⟨[],.tup [(false,[.p (.sl [[pI 1],[pI 4],[pI 4],[pI 0],[pI 4],[pI 8]])]),(false,[.p (pI 0)])]⟩:=O2;have cS:CallC Tryz.prog 17 [.one (.p (.sl [[.sl [[pI 0],[pI 1]]],[.sl [[pI 1],[pI (-1)]]],[.sl [[pI 1],[pI 0]]]])),.one (.p (.sl [[.sl [[pI 0],[pI 1]]],[.sl [[pI 1],[pI (-1)]]],[.sl [[pI 1],[pI 0]]]]))] ⟨[],.raw (.bool true)⟩:=by
  have:=Qf [[0,1],[1,-1],[1,0]] [[0,1],[1,-1],[1,0]];rw[decide_eq_true rfl]at this;exact this
 have cC:CallC Tryz.prog 21 [.one (.p (.sl [[pI 1],[pI 4],[pI 4],[pI 0],[pI 4],[pI 8]])),.one (.p (.sl [[pI 1],[pI 4],[pI 4],[pI 0],[pI 4],[pI 8]]))] ⟨[],.raw (.int .i64 0)⟩:=by
  have:=tG [1,4,4,0,4,8] [1,4,4,0,4,8];rw[fF]at this;exact this
 refine aK Tryz.func18 rfl (by kernel_rfl) ?_;rw[Tryz.ntmps18];refine aE fun _ K=>?_;simp only[kd,af];apply K
 refine aI [⟨3,_,_,_,cM⟩] [] fun _ K=>?_;simp(disch:=omega) only[kd,pI,aa,Nat.reduceMul,ai];apply K
 refine aI [⟨3,_,_,_,cT⟩] [] fun _ K=>?_;simp(disch:=omega) only[kd,pI,aa,Nat.reduceMul,ai];apply K
 refine aI [⟨16,_,_,_,cS⟩,⟨21,_,_,_,cC⟩] [] fun _ K=>?_;simp(disch:=omega) only[kd,pI,aa,Nat.reduceMul,ai,ag];apply K
 (refine aL ⟨.inr rfl,aQ rfl ?_ rfl⟩;simp(disch:=omega) only[kd,Tryz.results18])
end Go.Proofs.YtalmoejhjceflaaGreat
