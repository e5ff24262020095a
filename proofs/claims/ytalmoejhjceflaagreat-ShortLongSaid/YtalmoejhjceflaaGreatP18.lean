/-
  Part 19 of a proof (walks and plain facts).
-/
import Derived.Test.YtalmoejhjceflaaGreatP17
set_option linter.all false
set_option maxRecDepth 100000
set_option maxHeartbeats 64000000
open Nat renaming reduceAdd → aa
open Nat renaming reduceEqDiff → ab
open Nat renaming le_refl → ae
open List renaming replicate → af
open Nat renaming reduceBEq → ag
open Nat renaming reduceLeDiff → ai
open List renaming mem_map → am
open List renaming getElem?_append_left → aq
open List renaming getElem?_append_right → ar
open List renaming getElem?_map → az
open Nat renaming le_trans → aA
namespace Go.Proofs.YtalmoejhjceflaaGreat
open Go.RowKit
theorem lY (n c:Nat) (f:FF) (hn1:1<=n) (hn:n<=16) (hc1:1<=c) (hc:c<=16) (hf: ∀i j,i<n->j<c-> -9223372036854775808<=f i j/\f i j<=9223372036854775807):
  CallC Tryz.prog 201 [ch (mat n c f)] ⟨[],Rz (mat n c f)⟩:=by
 have hml:=bV n c f;have h0:=oD (M:=mat n c f) (by omega);have h1:=b6 (n:=n) c f (i:=0) (by omega);have hhd:(mat n c f).headD []=be c (f 0):=by rw[h1]at h0;injection h0 with h0;exact h0.symm
 have hsh:G7 (mat n c f):=⟨by omega,by omega,fun r hr=>by
  obtain⟨i,_,rfl⟩:=List.mem_map.1 hr;rw[hhd];simp[SD,aW];omega⟩
 have hS:=Km (mat n c f);rw[pj hsh,hml,hhd,aW]at hS;have hB:=LQ n c f hn1 hn hc1 hc hf;unfold Rz;refine aK Tryz.func201 rfl (by kernel_rfl) ?_;rw[Tryz.ntmps201];refine aE fun _ K=>?_;simp(disch:=omega) only[kd,aa,ch,af];apply K
 refine aI [⟨1,_,_,_,hS⟩] [] fun _ K=>?_;simp only[kd,ch,aa];apply K
 refine aG (aE fun _ K=>?_);simp only[kd];apply K;refine aU rfl (aR ?_);show bu _ _ _ _;refine bu.weak ((nS 1 1 (cs:=[.sl (ls (fR fI) (mat n c f))]) rfl rfl).trans (aF (tm:=(jk::.one (m9 (mat n c f))::jk::jk::rN n::rN c::j4 (j4 (j4 (jk::[]))))) (l:=[]) trivial (by simp[wk,eZ,dI,aJ,Hm]))) ?_;refine aI [⟨3,_,_,_,hB⟩] [] fun _ K=>?_;simp only[kd,m9,aa,gY];apply K
 refine bu.weak (aF (tm:=(jk::jk::.one (.sl 18 0 0 n)::.raw (.bool true)::j4 (j4 (j4 (jk::jk::jk::[]))))) (l:=[(18,Ju 18 n c f)]) ⟨D9 0 18 n c f,trivial⟩ (by simp[wk])) ?_;refine bu.weak ((dF 18 (Mf rfl)).trans (aF (tm:=(jk::jk::jS (mat n c f)::.raw (.bool true)::j4 (j4 (j4 (jk::jk::jk::[]))))) (l:=[]) trivial (by simp[wk];exact⟨(S9 (H:=Hm [(18,Ju 18 n c f)]) (d:=18) (n:=n) (c:=c) (f:=f) rfl).symm,rfl⟩))) ?_
 (refine aL ⟨.inr rfl,aQ rfl ?_ rfl⟩;simp(disch:=omega) only[kd,Tryz.results201,jS])
theorem RB {z:Int} (h:I64 z):rg z= .tup [(false,[.p (.raw (.int .i64 z))]),(false,[.p (.raw (.bool true))])]:=if_pos h
theorem I64.bg {z:Int} (h:I64 z):Bg z:=(h.sz (ae 2)).mono (by omega)
theorem Me {H:OH} {a:Nat} {o1 o2:OObj} (h:H a=[o1,o2]) (h1: ∀e∈o1.elems,∀x∈e,isPure x=true\/ ∃off len,x= .sl a 1 off len) (h2:cU o2):rc H a:=fun r o ho e he x hx=>by
 rw[h]at ho
 match r with
 |0=>
  injection ho with ho
  subst ho;rcases h1 e he x hx with k|⟨off,len,k⟩
  ·exact .inl k
  exact .inr ⟨1,off,len,o2,k,by rw[h];rfl,h2⟩
 |1=>
  injection ho with ho
  subst ho;exact .inl (h2 e he x hx)
 |r+2=>simp at ho
theorem Ah (z:Int) (h:I64 z):CallC Tryz.prog 188 [tZ z] ⟨[],.raw (.int .i64 z)⟩:=by
 have hI:=zm z h.bg;rw[RB h]at hI;refine aK Tryz.func188 rfl (by kernel_rfl) ?_;rw[Tryz.ntmps188];refine aE fun _ K=>?_;simp(disch:=omega) only[kd,tZ,af,aa];apply K
 refine aI [⟨1,_,_,_,hI⟩] [] fun _ K=>?_;simp only[kd,tZ,aa];apply K
 refine aE fun _ K=>?_;simp only[kd];apply K
 (refine aL ⟨.inr rfl,aQ rfl ?_ rfl⟩;simp(disch:=omega) only[kd,Tryz.results188])
theorem Nb (n:Nat) (f:FF) (hn1:1<=n) (hn:n<=16) (hnz:NzP n f) (hf: ∀i j,i<n->j<n->I64 (f i j)):
  CallC Tryz.prog 187 [ch (mat n n f)] ⟨[],.agg [.p (.sl (ls fM (po n f n))),.p (.sl (ls fZ (be (n+1) (dk f))))]⟩:=by
 have hF:=lY n n f hn1 hn hn1 hn hf;have hS:=rI n f hn1 hn fun i j hi hj=>(hf i j hi hj).sz (by omega)
 rw[pu hnz]at hS;have h1:=sN 1 (by omega) (by omega);have hln:=mJ n f n;have hst: ∀k,k<n->(po n f n)[k]?=some (DJ n f k):=fun k hk=>by simp[po,hk]
 have hr0:[[AV.p (.raw (.bool (decide ((1:Int)<0)))),.p (.sl (ls fU (aY (Int.natAbs 1))))]]=lc fZ (be 1 (dk f)):=by
  show _=lc fZ [dk f 0];rw[cj];rfl
 refine aK Tryz.func187 rfl (by kernel_rfl) ?_;rw[Tryz.ntmps187];refine aE fun _ K=>?_;simp(disch:=omega) only[kd,ch,af,aa];apply K
 refine aI [⟨1,_,_,_,hF⟩] [] fun _ K=>?_;simp only[kd,ch,Rz,aa];apply K
 refine aI [⟨1,_,_,_,hS⟩] [] fun _ K=>?_;simp only[kd,jS,aa];apply K
 refine iI 5 [⟨1,_,_,_,h1⟩] [22] (by simp) (by decide) fun _ K=>?_;simp(disch:=omega) only[kd,tZ,aa,Nat.reduceMul,ai,ab];apply K
 refine⟨_,(iG 7 22 900 rfl rfl rfl (by simp[cU,isPure]) (by simp[cU,isPure]) (by omega) (by omega) (by omega)),by simp[wk],?_⟩;simp only[List.map_cons,List.map_nil,zq,kB];intro _ K;simp(disch:=omega) only[kd,tZ,ab,aa];apply K;refine aG (aE fun _ K=>?_);simp only[kd,aa,hln];apply K;refine bH (G:=qp n) (fun q=>⟨(jk::jk::.one (.ptr 2 0 0 0)::j4 (.one (.ptr 900 0 0 0)::j16 (.one (.p (.sl (ls fM (po n f n))))::rN n::rN q.i::j4 (j4 (j4 (jk::jk::jk::[])))))),Hm [(2,[⟨224,2,[[.p (.raw (.slice none 0 0)),.p (.raw (.slice none 0 0))]]⟩]),(900,[⟨224,2,[[.p (.sl (ls fM (po n f n))),.sl 900 1 0 (q.i+1)]]⟩,⟨65,2,lc fZ (be (q.i+1) (dk f))⟩])]⟩) (fun q=>n-q.i) ⟨0,by omega⟩ ?_ ?_
 ·refine aF ⟨rfl,?_,trivial⟩ ?_
  ·rw[<- hr0];rfl
  simp[wk]
 rintro⟨i,hi⟩;simp only;by_cases hm:i<n
 ·have hs:=hst i hm;have q1:=b6 (n-i) (elF f i) (show 0<n-i by omega);have q2:=aZ (elF f i 0) (show 0<n-i by omega);have hrl:=aW (i+1) (dk f);refine aE fun _ K=>?_;simp(disch:=omega) only[kd];apply K
  refine cX rfl ?_;refine aG (aP ?_);refine aE fun _ K=>?_;simp(disch:=omega) only[kd,aa,hs,fM];apply K
  refine kv bU (by kernel_rfl) fun _ K=>?_;simp(disch:=omega) only[kd,aa,ab,Int.reduceToNat,q1,fR,q2,iX,fZ,Nat.reduceMul,ai,hrl,I6,ag];apply K
  show bu _ _ _ _;refine aO fun _ K=>?_;simp(disch:=omega) only[kd,aM];apply K
  refine⟨⟨i+1,by omega⟩,by simp only;omega,aF ⟨rfl,?_,trivial⟩ ?_⟩
  ·rw[kf (i+1)];rfl
  simp[wk]
 have hin:i=n:=by omega
 subst hin;have hrl:=aW (i+1) (dk f);refine aE fun _ K=>?_;simp(disch:=omega) only[kd];apply K
 refine di rfl ?_;show bu _ _ _ _;refine iI 1 [] [] (by simp) (by decide) fun _ K=>?_;simp only[kd,ab,aa];apply K
 refine⟨_,dF 900 (Me rfl (fun e he x hx=>?_) (bz _ _ _)),by simp[wk],?_⟩
 ·simp only[List.mem_singleton]at he;subst he;simp only[List.mem_cons,List.not_mem_nil,or_false]at hx;rcases hx with rfl|rfl
  ·exact .inl rfl
  exact .inr ⟨_,_,rfl⟩
 simp only[List.map_cons,List.map_nil,eZ,dI];intro _ K;simp(disch:=omega) only[kd,ab,aa];apply K
 (refine aL ⟨.inr rfl,aQ rfl ?_ rfl⟩;simp(disch:=omega) only[kd,Tryz.results187,ab,aa])
 rw[List.take_of_length_le (by omega)]
def k9 (n:Nat) (f:FF) (k:Nat):List Int:=be (n-k-1) fun b=>bk f k k (k+(b+1))
def dT (n:Nat) (f:FF) (j:Nat):List (List Int):=(List.range j).map (k9 n f)
theorem pR (n:Nat) (f:FF) (j:Nat):dT n f j++[k9 n f j]=dT n f (j+1):=by simp[dT,List.range_succ]
theorem ii (n:Nat) (f:FF) (j:Nat):(dT n f j).length=j:=by simp[dT]
theorem I3 {n j k:Nat} (f:FF) (h:k<j):(dT n f j)[k]?=some (k9 n f k):=by simp[dT,h]
abbrev OD (a:Nat) (B:Int) (n i j:Nat) (xs ds:List Int) (L:List (List Int)):List OObj:=[⟨222,4,[[.p (.raw (.int .i64 B)),.sl a 2 0 i,.sl a 3 0 j,.sl a 1 0 n]]⟩,⟨2,1,lc fI xs⟩,⟨2,1,lc fI ds⟩,⟨35,1,lc (fR fI) L⟩]
theorem N3 (a d:Nat) (B:Int) (n i j:Nat) (xs ds:List Int) (L:List (List Int)):(OD a B n i j xs ds L).map (renO d)=OD d B n i j xs ds L:=by
 simp only[OD,List.map_cons,List.map_nil,renO,cb,jL]
structure OP (n:Nat) (f:FF):Prop where
 n1:1<=n
 n16:n<=16
 nz:NzP n f
 i: ∀i j,i<n->j<n->I64 (f i j)
 d: ∀k,k<=n->I64 (dk f k)
 b: ∀k j,k<n->j<n->I64 (bk f k k j)
theorem Pv (n:Nat):af n [AV.p (.raw (.int .i64 0))]=lc fI (af n 0):=by simp[lc,fI]
theorem FP {n:Nat} {f:FF} (hw:OP n f) (B:Int):
  CallC Tryz.prog 130 [ch (mat n n f),.raw (.int .i64 B)] ⟨OD 0 B n (n+1) n (af n 0) (be (n+1) (dk f)) (dT n f n),.one (.ptr 0 0 0 0)⟩:=by
 have hE:=Nb n f hw.n1 hw.n16 hw.nz hw.i;have hn1:=hw.n1;have hn:=hw.n16;have hml:=bV n n f;have hln:=mJ n f n;have hdl:=aW (n+1) (dk f);refine aK Tryz.func130 rfl (by kernel_rfl) ?_;rw[Tryz.ntmps130];refine aE fun _ K=>?_;simp only[kd,ch,aa,af];apply K
 refine aG (EK 5 19 17 3 (e:=222) (cs:=[.p (.raw (.int .i64 B)),.p (.raw (.slice none 0 0)),.p (.raw (.slice none 0 0)),.sl 17 0 0 n]) (ob:=⟨2,1,lc fI (af n 0)⟩) (len:=n) [] [] ?_ (fun e he x hx=>bz _ _ _ e he x hx) (by omega) (by decide) fun K hK=>?_)
 rotate_left 1
 ·simp(disch:=omega) only[kd,aa,hml,ai];refine hK _ ⟨⟨⟨_,_,rfl,rfl,rfl,rfl,rfl⟩,rfl,congrArg (fun l=>[OObj.mk _ 1 l]) (Pv n),rfl⟩,?_⟩;clear hK K;intro K hK;simp only[kd,aa,O5];apply hK;clear hK K;refine bu.weak ((iH 19 0 0 1 2 1 (by omega) rfl rfl rfl).trans (iH 19 0 0 2 35 1 (by omega) rfl rfl rfl)) ?_;refine aI [⟨1,_,_,_,hE⟩] [] fun _ K=>?_;simp(disch:=omega) only[kd,ch,aa,ab];apply K
  refine aG (aE fun _ K=>?_);simp(disch:=omega) only[kd,aa,ab];apply K;refine bH (G:=qp (n+1)) (fun q=>⟨(j4 (jk::.one (.ptr 19 0 0 0)::.one (.ptr 6 0 0 0)::j16 (.one (.p (.sl (ls fZ (be (n+1) (dk f)))))::.raw (.int .i64 ((n+1:Nat):Int))::rN q.i::j16 (j16 (j16 (jk::[])))))),Hm [(6,[⟨224,2,[[.p (.sl (ls fM (po n f n))),.p (.sl (ls fZ (be (n+1) (dk f))))]]⟩]),(19,OD 19 B n q.i 0 (af n 0) (be q.i (dk f)) [])]⟩) (fun q=>n+1-q.i) ⟨0,by omega⟩ ?_ ?_
  ·refine aF ⟨rfl,rfl,trivial⟩ ?_;simp[wk,hdl]
  rintro⟨i,hi⟩;simp only;by_cases hm:i<n+1
  ·have hS:=Ah (dk f i) (hw.d i (by omega));have hg:=aZ (dk f) hm;have hrl:=aW i (dk f);refine aE fun _ K=>?_;simp(disch:=omega) only[kd];apply K
   refine cX rfl ?_;refine aG (aP ?_);refine aE fun _ K=>?_;simp(disch:=omega) only[kd,aa,hg,fZ,ab];apply K
   refine me bU [⟨6,_,_,_,hS⟩] [] (by kernel_rfl) fun _ K=>?_;simp(disch:=omega) only[kd,tZ,aa,ab,Nat.reduceMul,ai,hrl,ag,oI];apply K
   show bu _ _ _ _;refine aO fun _ K=>?_;simp(disch:=omega) only[kd,aM];apply K
   refine⟨⟨i+1,by omega⟩,by simp only;omega,aF ⟨rfl,?_,trivial⟩ ?_⟩
   ·rw[kf i];rfl
   simp[wk]
  have hin:i=n+1:=by omega
  subst hin;refine aE fun _ K=>?_;simp(disch:=omega) only[kd];apply K
  refine di rfl ?_;show bu _ _ _ _;refine aG (aE fun _ K=>?_);simp only[kd,aa,ab,hln];apply K;refine bH (G:=qp n) (fun q=>⟨(j4 (jk::.one (.ptr 19 0 0 0)::j16 (j16 (j4 (.one (.p (.sl (ls fM (po n f n))))::rN n::rN q.i::j16 (j4 (j4 (j4 (jk::jk::[]))))))))),Hm [(19,OD 19 B n (n+1) q.i (af n 0) (be (n+1) (dk f)) (dT n f q.i))]⟩) (fun q=>n-q.i) ⟨0,by omega⟩ ?_ ?_
  ·refine aF ⟨rfl,trivial⟩ ?_;simp[wk]
  rintro⟨k,hk⟩;simp only;by_cases hm:k<n
  ·have hst:(po n f n)[k]?=some (DJ n f k):=by simp[po,hm]
   have q1:=b6 (n-k) (elF f k) (show 0<n-k by omega);have q2:=aW (n-k) (elF f k 0);have hml2:=bV (n-k) (n-k) (elF f k);have hx1:List.drop 1 (List.take (n-k) (be (n-k) (elF f k 0)))=k9 n f k:=by
    rw[List.take_of_length_le (by omega)];show _=be _ _;apply List.ext_getElem?;intro b;rw[List.getElem?_drop];by_cases hb:b<n-k-1
    ·rw[aZ _ (by omega),aZ _ hb,Nat.add_comm 1 b];rfl
    rw[List.getElem?_eq_none (by rw[aW];omega),List.getElem?_eq_none (by rw[aW];omega)]
   have hll:=ii n f k;have hlr:(k9 n f k).length=n-k-1:=aW _ _;refine aE fun _ K=>?_;simp(disch:=omega) only[kd];apply K
   refine cX rfl ?_;refine aG (aP ?_);refine aE fun _ K=>?_;simp(disch:=omega) only[kd,aa,hst,fM];apply K
   refine aE fun _ K=>?_;simp only[kd];apply K
   have h1k:1<=n-k:=by omega
   have hl0:=aW (n-k-1) (fun b=>bk f k k (k+(b+1)));refine aG (aE fun _ K=>?_);simp(disch:=omega) only[kd,aa,Int.reduceToNat,q1,fR,q2,h1k,sW Px,hx1,hlr];apply K;refine bH (G:=qp (n-k-1)) (fun q=>⟨(j4 (jk::.one (.ptr 19 0 0 0)::j4 (jk::.one (.sl 11 0 0 q.i)::j16 (j4 (j4 (j4 (jk::jk::.one (.p (.sl (ls fM (po n f n))))::rN n::rN k::j4 (jk::jk::.one (.p (.sl (ls fZ (k9 n f k))))::.raw (.int .i64 ((n-k-1:Nat):Int))::rN q.i::j16 (j4 (jk::[])))))))))),Hm [(11,[⟨2,1,lc fI (be q.i fun b=>bk f k k (k+(b+1)))⟩]),(19,OD 19 B n (n+1) k (af n 0) (be (n+1) (dk f)) (dT n f k))]⟩) (fun q=>n-k-1-q.i) ⟨0,by omega⟩ ?_ ?_
   ·refine(rM (k:=11) (d:=11) 2 1 (by omega) rfl rfl).trans (aF ⟨rfl,rfl,trivial⟩ ?_);simp[wk]
   rintro⟨b,hb⟩;simp only;by_cases hm2:b<n-k-1
   ·have hS:=Ah (bk f k k (k+(b+1))) (hw.b k (k+(b+1)) hm (by omega));have hg:(k9 n f k)[b]?=some (bk f k k (k+(b+1))):=aZ _ hm2;have hrl:=aW b (fun b=>bk f k k (k+(b+1)));refine aE fun _ K=>?_;simp(disch:=omega) only[kd];apply K
    refine cX rfl ?_;refine aG (aP ?_);refine aE fun _ K=>?_;simp(disch:=omega) only[kd,aa,hg,fZ,ab];apply K
    refine li [⟨2,_,_,_,hS⟩] [] fun _ K=>?_;simp(disch:=omega) only[kd,tZ,aa,ab,Nat.reduceMul,ai,hrl,oI,ag];apply K
    show bu _ _ _ _;refine aO fun _ K=>?_;simp(disch:=omega) only[kd,aM];apply K
    refine⟨⟨b+1,by omega⟩,by simp only;omega,aF ⟨?_,rfl,trivial⟩ ?_⟩
    ·rw[kf b];rfl
    simp[wk]
   have hbn:b=n-k-1:=by omega
   subst hbn;refine aE fun _ K=>?_;simp(disch:=omega) only[kd];apply K
   refine di rfl ?_;show bu _ _ _ _;refine bu.weak (dF 11 (dR rfl)) ?_;simp only[List.map_cons,List.map_nil,eZ,dI];refine aO fun _ K=>?_;simp(disch:=omega) only[kd,aa,ab,List.take_of_length_le,Nat.reduceMul,ai,hll,ag,mq];apply K
   show bu _ _ _ _;refine aO fun _ K=>?_;simp(disch:=omega) only[kd,aM];apply K
   refine⟨⟨k+1,by omega⟩,by simp only;omega,aF ⟨?_,trivial⟩ ?_⟩
   ·rw[<- pR n f k];rfl
   simp[wk]
  have hkn:k=n:=by omega
  subst hkn;refine aE fun _ K=>?_;simp(disch:=omega) only[kd];apply K
  refine di rfl ?_;show bu _ _ _ _;refine aE fun _ K=>?_;simp only[kd];apply K
  refine aL ⟨.inr rfl,_,bW.refl _,?_⟩;refine⟨.one (.ptr 19 0 0 0),19,?_,rfl,?_,rfl⟩
  ·simp(disch:=omega) only[kd,Tryz.results130]
  exact(N3 19 0 _ _ _ _ _ _ _).symm
 intro j y hj hne
 match j with
 |0=>injection hj with hj;subst hj;rfl
 |1=>injection hj with hj;subst hj;rfl
 |2=>injection hj with hj;subst hj;rfl
 |3=>exact absurd rfl hne
 |j+4=>simp at hj
theorem rC {F:Nat->Int} {B:Nat}: ∀k,(∀p,p<k->(F p).natAbs<=B)->(cg F k).natAbs<=k*B
 |0,_=>by simp[cg]
 |k+1,h=>by
  have h1:=rC k fun p hp=>h p (by omega)
  have h2:=h k (by omega);rw[cg,Nat.add_mul,Nat.one_mul];omega
section
variable {n:Nat}
theorem wq {F:Nat->Int} {k:Nat} (h: ∀i,i<k->F i=0): ∀m,cg F (k+m)=cg (fun a=>F (k+a)) m
 |0=>by
  rw[Nat.add_zero,aT k (G:=fun _=>0) h,dx];rfl
 |m+1=>by rw[<- Nat.add_assoc,cg,cg,wq h m]
theorem pH {m:Nat} (g:Nat->Int) (y:List Int): ∀l,l<=m->fz (be m g) y l=cg (fun b=>g b*y.getD b 0) l
 |0,_=>rfl
 |l+1,h=>by
  show fz (be m g) y l+(be m g).getD l 0*y.getD l 0=_;rw[pH g y l (by omega),List.getD_eq_getElem?_getD,aZ _ (by omega)];rfl
theorem Qz {y:List Int} {k a:Nat} (hk:y.length+(k+1)=n):bj n y (k+1+a)=y.getD a 0:=by
 unfold bj;rw[if_neg (by omega),show k+1+a+y.length-n=a by omega]
def Tf (f:FF) (k:Nat):Nat->Nat->Int:=fun a b=>bk f k (k+a) (k+b)
theorem Qi (f:FF) {y:List Int} {k:Nat} (hk:y.length+(k+1)=n):fz (be y.length fun j=>Tf f k 0 (j+1)) y y.length=qU f n k (bj n y):=by
 rw[pH _ _ _ (ae _),qU,show n=k+1+y.length by omega,wq fun i hi=>if_pos (by omega)];refine aT _ fun a ha=>?_
 rw[if_neg (by omega),Qz (by omega)];show bk f k (k+0) (k+(a+1))*_=_;rw[Nat.add_zero,show k+(a+1)=k+1+a by omega]
def Qy:Nat->Nat
 |0=>0
 |m+1=>4*Qy m+67108864
theorem Pm {D M:Nat} {u:Int} (hD:0<D) (h:u.natAbs<=D*M):(u/(D:Int)).natAbs<=M:=by
 have e:((D*M:Nat):Int)=(M:Int)*(D:Int):=by rw[Int.natCast_mul,Int.mul_comm]
 have h1:u/(D:Int)<(M:Int)+1:=Int.ediv_lt_of_lt_mul (by omega) (by rw[Int.add_mul,Int.one_mul];omega);have h2: -(M:Int)<=u/(D:Int):=Int.le_ediv_of_mul_le (by omega) (by rw[Int.neg_mul];omega);omega
def ON (y:List Int):Prop:= ∀i,i<y.length->(y.getD i 0).natAbs<=Qy (y.length-i)
theorem ON.nil:ON []:=fun i h=>by simp at h
theorem ON.cons {c:Int} {y:List Int} (h:ON y) (hc:c.natAbs<=Qy (y.length+1)):ON (c::y):=fun i hi=>by
 cases i with
 |zero=>exact hc
 |succ i=>
  rw[List.getD_cons_succ,List.length_cons,Nat.add_sub_add_right];exact h i (by simpa using hi)
theorem Nw: ∀{a b:Nat},a<=b->Qy a<=Qy b:=by
 intro a b h
 induction b with
 |zero=>rw[show a=0 by omega];exact ae _
 |succ b ih=>
  by_cases e:a=b+1
  ·rw[e];exact ae _
  have:=ih (by omega);show _<=4*Qy b+67108864;omega
theorem ON.bd {y:List Int} (h:ON y) (z:Int) (hz:z∈y):z.natAbs<=Qy y.length:=by
 obtain⟨i,hi,rfl⟩:=List.mem_iff_getElem.1 hz;have:=h i hi;rw[List.getD_eq_getElem?_getD,List.getElem?_eq_getElem hi]at this;exact aA this (Nw (by omega))
end
section
variable {n:Nat}
def ql:Nat->Nat
 |0=>0
 |m+1=>4*ql m+2147483648
theorem ya: ∀{a b:Nat},a<=b->ql a<=ql b:=by
 intro a b h
 induction b with
 |zero=>rw[show a=0 by omega];exact ae _
 |succ b ih=>
  by_cases e:a=b+1
  ·rw[e];exact ae _
  have:=ih (by omega);show _<=4*ql b+2147483648;omega
theorem SI {m:Nat} (h:m<=7):ql m<=11727408201728:=aA (ya h) (by decide)
theorem Nx {m:Nat} (h:m<=8):ql m<=46911780290560:=aA (ya h) (by decide)
def mZ (y:List Int):Prop:= ∀i,i<y.length->(y.getD i 0).natAbs<=ql (y.length-i)
theorem mZ.nil:mZ []:=fun i h=>by simp at h
theorem mZ.cons {c:Int} {y:List Int} (h:mZ y) (hc:c.natAbs<=ql (y.length+1)):mZ (c::y):=fun i hi=>by
 cases i with
 |zero=>exact hc
 |succ i=>
  rw[List.getD_cons_succ,List.length_cons,Nat.add_sub_add_right];exact h i (by simpa using hi)
theorem mZ.at_ {y:List Int} (h:mZ y) (i:Nat):(y.getD i 0).natAbs<=ql y.length:=by
 by_cases hi:i<y.length
 ·exact aA (h i hi) (ya (by omega))
 rw[List.getD_eq_getElem?_getD,List.getElem?_eq_none (by omega)];exact Nat.zero_le _
structure mN (n:Nat) (f:FF) (B:Int):Prop where
 r:RedR f n
 n8:n<=8
 b0:0<=B
 b1:B<=1073741824
def qV (f:FF) (k:Nat) (y:List Int) (m:Nat):Int:=cg (fun b=>bk f k k (k+(b+1))*y.getD b 0) m
def nF (f:FF) (n:Nat) (B:Int) (k:Nat) (x:Nat->Int):Int:=B*dk f k-BF n (bk f k) x x
theorem mG (f:FF) {y:List Int} {k:Nat} (hk:y.length+(k+1)=n):qV f k y y.length=qU f n k (bj n y):=by
 rw[<- Qi f hk,pH _ _ _ (ae _)];rfl
section
variable {f:FF} {B:Int} (hv:mN n f B)
include hv
theorem mN.d {k:Nat} (hk:k<=n):0<dk f k/\dk f k<65536:=by
 cases k with
 |zero=>rw[cj];omega
 |succ k=>exact⟨hv.r.2.1 k (by omega),j1 (by omega) hv.n8 hv.r k (by omega)⟩
theorem mN.sized {k j:Nat} (hk:k<j) (hj:j<n):2*(bk f k k j).natAbs<=(dk f (k+1)).toNat:=by
 have hd:=hv.d (k:=k+1) (by omega);have hsz:=(hv.r.2.2.2 k (by omega)).1 j hj (by omega);rw[ip hv.r.1 k (by omega) (fun t ht=>by have:=hv.r.2.1 t (by omega);omega) k j (by omega) hj];omega
theorem mN.shP_bd {y:List Int} {k:Nat} (hk:y.length+(k+1)=n) (hy:mZ y) {m:Nat} (hm:m<=y.length):(qV f k y m).natAbs<=(dk f (k+1)).toNat*(4*ql y.length):=by
 have hn:=hv.n8;refine aA (rC (B:=(dk f (k+1)).toNat/2*ql y.length) m fun b hb=>?_) ?_
 ·rw[Int.natAbs_mul];have:=hv.sized (k:=k) (j:=k+(b+1)) (by omega) (by omega);exact Nat.mul_le_mul (by omega) (hy.at_ b)
 have h1:m*((dk f (k+1)).toNat/2*ql y.length)<=8*((dk f (k+1)).toNat/2*ql y.length):=Nat.mul_le_mul_right _ (by omega);have h2:8*((dk f (k+1)).toNat/2*ql y.length)=(8*((dk f (k+1)).toNat/2))*ql y.length:=(Nat.mul_assoc _ _ _).symm;have h3:(8*((dk f (k+1)).toNat/2))*ql y.length<=(4*(dk f (k+1)).toNat)*ql y.length:=Nat.mul_le_mul_right _ (by omega);have h4:(4*(dk f (k+1)).toNat)*ql y.length=(dk f (k+1)).toNat*(4*ql y.length):=by rw[Nat.mul_comm 4,Nat.mul_assoc]
 omega
theorem mN.shP_c {y:List Int} {k:Nat} (hk:y.length+(k+1)=n) (hy:mZ y) {m:Nat} (hm:m<=y.length): -3074285718752788480<=qV f k y m/\qV f k y m<=3074285718752788480:=by
 have h1:=hv.shP_bd hk hy hm;have hd:=hv.d (k:=k+1) (by omega);have hn:=hv.n8;have h2:=Nat.mul_le_mul (show(dk f (k+1)).toNat<=65535 by omega) (show 4*ql y.length<=46909632806912 by have:=SI (m:=y.length) (by omega);omega);omega
theorem mN.rs0 {k:Nat} (hk:k<=n) {x:Nat->Int} (hP:fD f n B k x):0<=nF f n B k x/\nF f n B k x<=70368744177664:=by
 have hp:=hv.r.pd;have hd:=hv.d hk;have hq:=(gM hp.1 hp.2 x (n-k) k (by omega)).1;have h1:B*dk f k<=1073741824*65536:=Int.mul_le_mul hv.b1 (by omega) (by omega) (by omega);unfold nF fD at*
 omega
theorem mN.sq {k:Nat} (hk:k<n) {x:Nat->Int} (hP:fD f n B (k+1) x):0<=kS f n B k x/\kS f n B k x<=4611686018427387904:=by
 have hr:=hv.rs0 hk hP;have hd:=hv.d (k:=k) (by omega);refine⟨ws hv.r.pd hk hP,?_⟩;show dk f k*nF f n B (k+1) x<=_;have h2:dk f k*nF f n B (k+1) x<=65536*70368744177664:=Int.mul_le_mul (by omega) hr.2 hr.1 (by omega);omega
theorem mN.lohi {k:Nat} {y:List Int} (hk:y.length+(k+1)=n) (hy:mZ y) (hP:fD f n B (k+1) (bj n y)):
  (dB f n B k (bj n y)).natAbs<=ql (y.length+1)/\(d6 f n B k (bj n y)).natAbs<=ql (y.length+1)/\0<=d6 f n B k (bj n y)-dB f n B k (bj n y)+1:=by
 have hd:=hv.d (k:=k+1) (by omega);have hsq:=hv.sq (k:=k) (by omega) hP;have hr:=lL hsq.1 hsq.2;have hl:=hv.shP_bd hk hy (ae _);rw[mG f hk]at hl;have hg:ql (y.length+1)=4*ql y.length+2147483648:=rfl;rw[hg];unfold dB d6;generalize isqF (kS f n B k (bj n y))=r at*
 generalize qU f n k (bj n y)=l at*
 have e:dk f (k+1)=(((dk f (k+1)).toNat:Nat):Int):=by omega
 rw[e];generalize(dk f (k+1)).toNat=D at*
 have hD:0<D:=by omega
 have hb: ∀u:Int,(u.natAbs<=2147483648+D*(4*ql y.length))->(u/(D:Int)).natAbs<=4*ql y.length+2147483648:=fun u hu=>Pm hD (by
  have e:=Nat.mul_add D (4*ql y.length) 2147483648;have:1*2147483648<=D*2147483648:=Nat.mul_le_mul_right _ hD;omega)
 have g1:=hb (r+l) (by omega);have g2:=hb (r-l) (by omega);refine⟨by omega,by omega,?_⟩;have k1:=Int.lt_ediv_add_one_mul_self (r+l) (show(0:Int)<(D:Int) by omega);have k2:=Int.lt_ediv_add_one_mul_self (r-l) (show(0:Int)<(D:Int) by omega);generalize(r+l)/(D:Int)=p at*
 generalize(r-l)/(D:Int)=q at*
 refine Int.le_of_not_gt fun h=>?_
 have k3:(p+1+(q+1))*(D:Int)<=0*(D:Int):=Int.mul_le_mul_of_nonneg_right (by omega) (by omega);rw[Int.add_mul]at k3;omega
theorem mN.step {k:Nat} {y:List Int} (hk:y.length+(k+1)=n) {c:Int} (hP:fD f n B (k+1) (bj n y)) (h1:dB f n B k (bj n y)<=c) (h2:c<=d6 f n B k (bj n y)):
  fD f n B k (bj n (c::y))/\kS f n B k (bj n y)-(dk f (k+1)*c+qU f n k (bj n y))*(dk f (k+1)*c+qU f n k (bj n y))=dk f (k+1)*nF f n B k (bj n (c::y)):=by
 have hp:=hv.r.pd;have ht: ∀i,k<i->i<n->bj n (c::y) i=bj n y i:=fun i h1 _=>AC hk h1
 have hc:bj n (c::y) k=c:=AD hk;have hP':=(fD.tail hp (k:=k+1) (by omega) (x':=bj n y) (fun i h1 h2=>ht i (by omega) h2)).2 hP;refine⟨(vB hp (by omega) hP').2 ?_,?_⟩
 ·rw[hc,D1 hp (by omega) ht,DS hp (by omega) ht];exact⟨h1,h2⟩
 rw[<- x7 (B:=B) hp (show k<n by omega) ht,<- xY ht];have key:=kj hp.1 hp.2 (bj n (c::y)) (show k<n by omega);rw[we hp (show k<n by omega),hc]at key;unfold kS nF;generalize BF n (bk f (k+1)) (bj n (c::y)) (bj n (c::y))=Q at*
 generalize BF n (bk f k) (bj n (c::y)) (bj n (c::y))=R at*
 generalize qU f n k (bj n (c::y))=l at*
 generalize dk f (k+1)=D at*
 generalize dk f k=d at*
 grind
end
/-! The walk. -/
section
variable {γ:Type} (yd:Nat->Int->γ->γ×Bool)
def lpM (b:Int->γ->γ×Bool):Nat->Int->γ->γ×Bool
 |0,_,g=>(g,true)
 |m+1,x,g=>match b x g with
  |(g',true)=>lpM b m (x+1) g'
  |(g',false)=>(g',false)
noncomputable def ir (f:FF) (n:Nat) (B:Int):Nat->List Int->γ->γ×Bool
 |0,y,g=>yd n (d6 f n B 0 (bj n y)-dB f n B 0 (bj n y)+1) g
 |k+1,y,g=>match yd (n-(k+1)) (d6 f n B (k+1) (bj n y)-dB f n B (k+1) (bj n y)+1) g with
  |(g',true)=>lpM (fun c=>ir f n B k (c::y)) (d6 f n B (k+1) (bj n y)-dB f n B (k+1) (bj n y)+1).toNat (dB f n B (k+1) (bj n y)) g'
  |(g',false)=>(g',false)
theorem Jd {lv:γ->Prop} {b:Int->γ->γ×Bool} (hb: ∀c g,lv g->(b c g).2=true->lv (b c g).1): ∀(m:Nat) (x:Int) (g:γ),lv g->(lpM b m x g).2=true->lv (lpM b m x g).1
 |0,_,_,hg,_=>hg
 |m+1,x,g,hg,h=>by
  have k:=hb x g hg;unfold lpM at h⊢;generalize b x g=r at*
  obtain⟨g',t⟩:=r;cases t with
  |true=>exact Jd hb m _ _ (k rfl) h
  |false=>cases h
theorem K7 {lv:γ->Prop} (hyl: ∀m c g,lv g->(yd m c g).2=true->lv (yd m c g).1) (f:FF) (n:Nat) (B:Int): ∀(k:Nat) (y:List Int) (g:γ),lv g->(ir yd f n B k y g).2=true->lv (ir yd f n B k y g).1
 |0,y,g,hg,h=>hyl _ _ g hg h
 |k+1,y,g,hg,h=>by
  have q:=hyl (n-(k+1)) (d6 f n B (k+1) (bj n y)-dB f n B (k+1) (bj n y)+1) g hg;unfold ir at h⊢;generalize yd (n-(k+1)) (d6 f n B (k+1) (bj n y)-dB f n B (k+1) (bj n y)+1) g=r at*
  obtain⟨g',t⟩:=r;cases t with
  |true=>exact Jd (fun c g hg h=>K7 hyl f n B k (c::y) g hg h) _ _ _ (q rfl) h
  |false=>cases h
end
end
section
def jnk (m:Nat):List (List AV):=af m [.junk]
theorem IS (m i:Nat) (y:List Int):(jnk m++lc fI y)[m+i]?=(lc fI y)[i]?:=by
 rw[ar (by simp[jnk])];simp[jnk]
theorem eG (m:Nat) (y:List Int):(jnk m++lc fI y).length=m+y.length:=by simp[jnk,jK]
theorem lO (m:Nat) (c:Int) (y:List Int):(jnk (m+1)++lc fI y).set m [.p (.raw (.int .i64 c))]=jnk m++lc fI (c::y):=by
 have e:jnk (m+1)=jnk m++[[.junk]]:=by simp[jnk,List.replicate_succ']
 rw[e,List.append_assoc,List.set_append_right _ _ (by simp[jnk])];simp[jnk,lc,fI]
theorem fX (d m:Nat):(jnk m).map (List.map (cb d))=jnk m:=by simp[jnk,cb]
abbrev nM (a:Nat) (B:Int) (n m:Nat) (y ds:List Int) (M:List (List Int)):List OObj:=[⟨222,4,[[.p (.raw (.int .i64 B)),.sl a 2 0 (n+1),.sl a 3 0 n,.sl a 1 0 n]]⟩,⟨2,1,jnk m++lc fI y⟩,⟨2,1,lc fI ds⟩,⟨35,1,lc (fR fI) M⟩]
theorem yf (a d:Nat) (B:Int) (n m:Nat) (y ds:List Int) (M:List (List Int)):(nM a B n m y ds M).map (renO d)=nM d B n m y ds M:=by
 simp only[nM,List.map_cons,List.map_nil,renO,cb,jL,List.map_append,fX]
theorem pB (a:Nat) (B:Int) (n m:Nat) (y ds:List Int) (M:List (List Int)): ∀o∈nM a B n m y ds M,selfO a o:=fun o ho e he x hx=>by
 simp only[List.mem_cons,List.not_mem_nil,or_false]at ho;rcases ho with rfl|rfl|rfl|rfl
 ·simp only[List.mem_singleton]at he;subst he;simp only[List.mem_cons,List.not_mem_nil,or_false]at hx;rcases hx with rfl|rfl|rfl|rfl<;>first|trivial|rfl
 ·simp only[List.mem_append]at he;rcases he with he|he
  ·obtain⟨_,rfl⟩:=List.mem_replicate.1 he;simp only[List.mem_singleton]at hx;subst hx;trivial
  exact cd (bz 2 1 _ e he x hx)
 ·exact cd (bz 2 1 _ e he x hx)
 exact cd (bz 35 1 _ e he x hx)
theorem QT (a:Nat) (B:Int) (n m m':Nat) (y y' ds:List Int) (M:List (List Int)): ∀r∈[0],∀o,(nM a B n m y ds M)[r]?=some o-> ∃o',(nM a B n m' y' ds M)[r]?=some o'/\o'.es=o.es/\o.elems.length<=o'.elems.length:=fun r hr o h=>by
 obtain rfl:r=0:=by simpa using hr
 injection h with h
 subst h;exact⟨_,rfl,rfl,ae _⟩
theorem yr {s:AS} {B:Int} {n m:Nat} {c:Int} {y ds:List Int} {M:List (List Int)} (hH:s.H 0=nM 0 B n m (c::y) ds M):bW s ⟨s.tmps,aJ s.H 0 (nM 0 B n (m+1) y ds M)⟩:=by
 have h:=kq (s:=s) 0 1 (o:=⟨2,1,jnk m++lc fI (c::y)⟩) (o':=⟨2,1,jnk (m+1)++lc fI y⟩) (by rw[hH];rfl) rfl rfl (by simp only[eG,List.length_cons];omega) fun i e' he=>by
  rw[<- lO m c y];simp only at he;by_cases hi:i=m
  ·subst hi;have hl:i<(jnk (i+1)++lc fI y).length:=by rw[eG];omega
   refine⟨_,List.getElem?_set_self hl,?_⟩;rw[aq (by simp[jnk])]at he;simp[jnk]at he;subst he;exact⟨rfl,fun j x hj=>by
    cases j with
    |zero=>simp at hj;exact .inl hj.symm
    |succ j=>simp at hj⟩
  refine⟨e',by rw[List.getElem?_set_ne (Ne.symm hi)];exact he,rfl,fun j x hj=> .inr hj⟩
 rw[hH]at h;exact h
theorem sT (n:Nat) (f:FF) {k:Nat} (hk:k<n):(dT n f n)[k]?=some (k9 n f k):=I3 f hk
structure S0 (γ:Type) (lv:γ->Prop) (lo hi:Int) (b:Int->γ->γ×Bool) (R:γ×Bool) where
 x:Int
 g:γ
 l:lv g
 h1:lo<=x
 h2:x<=hi+1
 e:lpM b (hi-x+1).toNat x g=R
theorem Je {γ:Type} {b:Int->γ->γ×Bool} {hi x:Int} {g:γ} (h:x<=hi):lpM b (hi-x+1).toNat x g=match b x g with
  |(g',true)=>lpM b (hi-(x+1)+1).toNat (x+1) g'
  |(g',false)=>(g',false):=by
 rw[show(hi-x+1).toNat=(hi-(x+1)+1).toNat+1 by omega];rfl
theorem Mt {γ:Type} {b:Int->γ->γ×Bool} {hi x:Int} {g:γ} (h: ¬x<=hi):lpM b (hi-x+1).toNat x g=(g,true):=by
 rw[show(hi-x+1).toNat=0 by omega];rfl
section
variable {γ:Type} {L:jd γ} {l:Nat} {yd:Nat->Int->γ->γ×Bool} {n:Nat} {f:FF} {B:Int} {lv:γ->Prop}
def OV (P:Program) (L:jd γ) (l n:Nat) (yd:Nat->Int->γ->γ×Bool) (lv:γ->Prop):Prop:= ∀(m:Nat) (c:Int) (g:γ),lv g->1<=m->m<=n->0<=c->c<=93823560581121->pG P L l [.int .i64 (m:Int),.int .i64 c] g (yd m c g).1 (yd m c g).2
abbrev QR (l:Nat) (k:Nat) (rest:Int):List TV:=[.one (.ptr 0 0 0 0),.raw (.int .i64 (k:Int)),.raw (.int .i64 rest),.raw (.func (.yield l) #[] #[])]
theorem ED (hv:mN n f B) (hy:OV Tryz.prog L l n yd lv) (hyl: ∀m c g,lv g->(yd m c g).2=true->lv (yd m c g).1) (k:Nat) (y:List Int) (hk:y.length+(k+1)=n) (hT:mZ y) (hP:fD f n B (k+1) (bj n y)) (g:γ) (hg:lv g)
  (hrec: ∀j,k=j+1-> ∀c,dB f n B k (bj n y)<=c->c<=d6 f n B k (bj n y)-> ∀g,lv g->jT Tryz.prog L [0] 190 (QR l j (nF f n B (j+1) (bj n (c::y)))) (nM 0 B n (j+1) (c::y) (be (n+1) (dk f)) (dT n f n)) (nM 0 B n (j+1) (c::y) (be (n+1) (dk f)) (dT n f n)) g (ir yd f n B j (c::y) g).1 (.raw (.bool (ir yd f n B j (c::y) g).2))):
  jT Tryz.prog L [0] 190 (QR l k (nF f n B (k+1) (bj n y))) (nM 0 B n (k+1) y (be (n+1) (dk f)) (dT n f n)) (nM 0 B n (k+1) y (be (n+1) (dk f)) (dT n f n)) g (ir yd f n B k y g).1 (.raw (.bool (ir yd f n B k y g).2)):=by
 have hn8:=hv.n8;have hdk:=hv.d (k:=k) (by omega);have hd1:=hv.d (k:=k+1) (by omega);have hD0:=aZ (dk f) (show k<n+1 by omega);have hD1:=aZ (dk f) (show k+1<n+1 by omega);have hDl:=aW (n+1) (dk f);have hM:=sT n f (show k<n by omega);have hMl:=ii n f n;have hRl:(k9 n f k).length=n-k-1:=aW _ _;have hR: ∀i,i<y.length->(k9 n f k)[i]?=some (bk f k k (k+(i+1))):=fun i hi=>aZ _ (by omega)
 have hsh:=fun m (hm:m<=y.length)=>hv.shP_c hk hT hm
 have hshA:=mG f hk;have hrs:=hv.rs0 (k:=k+1) (by omega) hP;have hsq:=hv.sq (k:=k) (by omega) hP;have hlh:=hv.lohi hk hT hP;have htc:=Nx (m:=y.length+1) (by omega);have hrt:=lL hsq.1 hsq.2;have cR:=Ej _ hsq.1 hsq.2;have hst:=fun c=>hv.step hk (c:=c) hP
 have hsqe:dk f k*nF f n B (k+1) (bj n y)=kS f n B k (bj n y):=rfl;have hloe:dB f n B k (bj n y)=0-(isqF (kS f n B k (bj n y))+qV f k y y.length)/dk f (k+1):=by rw[hshA];unfold dB;omega
 have hhie:d6 f n B k (bj n y)=(isqF (kS f n B k (bj n y))-qV f k y y.length)/dk f (k+1):=by rw[hshA];rfl
 have hshy:=hsh y.length (ae _);have cF1:=Ag (isqF (kS f n B k (bj n y))+qV f k y y.length) (dk f (k+1)) hd1.1 (by omega) (by omega) (by omega);have cF2:=Ag (isqF (kS f n B k (bj n y))-qV f k y y.length) (dk f (k+1)) hd1.1 (by omega) (by omega) (by omega);have hyd:=hy (n-k) (d6 f n B k (bj n y)-dB f n B k (bj n y)+1) g hg (by omega) (by omega) (by omega) (by omega);have e1:IntKind.i64.wrap ((k:Int)+1)=((k+1:Nat):Int):=aM (by omega) (by omega);have e2:IntKind.i64.wrap ((n:Int)-(k:Int))=((n-k:Nat):Int):=by rw[aM (by omega) (by omega)];omega
 have hv0:k=0->ir yd f n B k y g=yd (n-k) (d6 f n B k (bj n y)-dB f n B k (bj n y)+1) g:=fun e=>by subst e;rfl
 have hv1: ∀j,k=j+1->ir yd f n B k y g=match yd (n-k) (d6 f n B k (bj n y)-dB f n B k (bj n y)+1) g with
  |(g',true)=>lpM (fun c=>ir yd f n B j (c::y)) (d6 f n B k (bj n y)-dB f n B k (bj n y)+1).toNat (dB f n B k (bj n y)) g'
  |(g',false)=>(g',false):=fun j e=>by subst e;rfl
 have hsp0:qV f k y 0=0:=rfl;have hsps: ∀i,qV f k y i+bk f k k (k+(i+1))*y.getD i 0=qV f k y (i+1):=fun _=>rfl
 rw[<- hshA]at hst;have hrs': ∀c,fD f n B k (bj n (c::y))->0<=nF f n B k (bj n (c::y))/\nF f n B k (bj n (c::y))<=70368744177664:=fun c h=>hv.rs0 (by omega) h
 have hl1:=hyl (n-k) (d6 f n B k (bj n y)-dB f n B k (bj n y)+1) g hg;have hvl:=fun j c g hg=>K7 yd (lv:=lv) hyl f n B j (c::y) g hg
 obtain⟨g1,b,hgy⟩: ∃g1 b,yd (n-k) (d6 f n B k (bj n y)-dB f n B k (bj n y)+1) g=(g1,b):=⟨_,_,rfl⟩;rw[hgy]at hyd hv0 hv1 hl1;simp only at hyd hv0 hv1 hl1;clear hgy hy hyl hv hP hT;generalize ir yd f n B k y g=R at*
 generalize dB f n B k (bj n y)=lo at*
 generalize d6 f n B k (bj n y)=hi at*
 generalize kS f n B k (bj n y)=sq at*
 generalize nF f n B (k+1) (bj n y)=rest at*
 generalize isqF sq=rt at*
 generalize be (n+1) (dk f)=D at*
 generalize dT n f n=M at*
 generalize k9 n f k=r at*
 generalize dk f (k+1)=d1 at*
 generalize dk f k=d0 at*
 generalize qV f k y=sp at*
 have hlo: -46911780290560<=lo/\lo<=46911780290560:=by omega
 have hhi: -46911780290560<=hi/\hi<=46911780290560:=by omega
 have hcnt:=hlh.2.2;clear hlh htc;have hd1n:(d1=0)=False:=eq_false (by omega);refine oc Tryz.func190 rfl (by kernel_rfl) [(0,0)] (by simp) (by simp[selfTV,bG]) (by simp[selfTV,bG]) (pB 0 _ _ _ _ _ _) (pB 0 _ _ _ _ _ _) (QT 0 _ _ _ _ _ _ _ _) ?_;rw[Tryz.ntmps190];refine dY.weak (aF (tm:=(.one (.ptr 0 0 0 0)::rN k::.raw (.int .i64 rest)::.raw (.func (.yield l) #[] #[])::j16 (j16 (j16 (j16 (j16 (j16 (j16 (j4 (j4 ([]))))))))))) (l:=[(0,nM 0 B n (k+1) y D M)]) ⟨rfl,trivial⟩ (by simp[wk,af])) ?_;refine aS (by kernel_rfl) fun _ K=>?_;simp only[kd];apply K
 refine aS (by kernel_rfl) fun _ K=>?_;simp(disch:=omega) only[kd,aa,e1,hD1];apply K
 refine bN (aS (by kernel_rfl) fun _ K=>?_);simp(disch:=omega) only[kd,aa,fR,hM,hRl];apply K;refine iS (G:=qp y.length) (fun q=>⟨(.one (.ptr 0 0 0 0)::rN k::.raw (.int .i64 rest)::.raw (.func (.yield l) #[] #[])::j4 (jk::.raw (.int .i64 d1)::.raw (.int .i64 (sp q.i))::j16 (j4 (jk::jk::.one (.p (.sl (ls fI r)))::rN y.length::rN q.i::j16 (j16 (j16 (j16 (j16 (j4 (j4 ([]))))))))))),Hm [(0,nM 0 B n (k+1) y D M)]⟩) (fun _=>g) (fun q=>y.length-q.i) ⟨0,by omega⟩ ?_ rfl ?_
 ·refine aF ⟨rfl,trivial⟩ ?_;simp[wk,hsp0];omega
 rintro⟨i,hi0⟩;simp only;by_cases hm:i<y.length
 ·have hRi:=hR i hm;have s0:=hsh i (by omega);have s1:=hsh (i+1) (by omega);have s2:=hsps i;have e3:IntKind.i64.wrap (((k+1:Nat):Int)+(i:Int))=((k+1+i:Nat):Int):=by rw[aM (by omega) (by omega)];omega
  have hXi:=IS (k+1) i y;have hXl:=eG (k+1) y;have hyi:y[i]?=some (y.getD i 0):=by rw[List.getD_eq_getElem?_getD,List.getElem?_eq_getElem hm];rfl
  generalize bk f k k (k+(i+1))=q at*
  generalize y.getD i 0=yi at*
  refine aS (by kernel_rfl) fun _ K=>?_;simp(disch:=omega) only[kd];apply K
  first|refine Bf rfl ?_|refine bN (bI rfl (fun _=>bY ?_) (fun h=>by simp at h<;>omega))
  refine bN (eQ ?_);refine aS (by kernel_rfl) fun _ K=>?_;simp(disch:=omega) only[kd,aa,hRi];apply K
  refine b9 (by kernel_rfl) fun _ K=>?_;simp(disch:=omega) only[kd,aa,e1,e3,hXi,hyi,aM,s2];apply K
  show dY _ _ _ _ _ _ _;refine b9 (by kernel_rfl) fun _ K=>?_;simp(disch:=omega) only[kd,aM];apply K
  refine⟨⟨i+1,by omega⟩,by simp only;omega,aF ⟨rfl,trivial⟩ ?_,rfl⟩;simp[wk]
 have hin:i=y.length:=by omega
 subst hin;refine aS (by kernel_rfl) fun _ K=>?_;simp(disch:=omega) only[kd];apply K
 first|refine Bc rfl ?_|refine bN (bI rfl (fun h=>by simp at h<;>omega) (fun _=>d5 ?_))
 show dY _ _ _ _ _ _ _;refine aS (by kernel_rfl) fun _ K=>?_;simp(disch:=omega) only[kd,aa,hD0,hsqe,aM];apply K
 refine iT [⟨1,_,_,_,cR⟩] [] (by kernel_rfl) fun _ K=>?_;simp only[kd,aa];apply K
 refine iT [⟨4,_,_,_,cF1⟩,⟨10,_,_,_,cF2⟩] [] (by kernel_rfl) fun _ K=>?_;simp(disch:=omega) only[kd,<- hhie,aa,aM,<- hloe,ag];apply K
 refine bN (bN ?_);refine yz 12 hyd [] [] (by kernel_rfl) (by decide) fun K hK=>?_
 simp(disch:=omega) only[kd,aa,e2,aM];refine hK _ ⟨rfl,?_⟩;clear hK K;intro K hK;simp only[kd,aa,yS,jY];apply hK;clear hK K;show dY _ _ _ _ _ _ _;cases b with
 |false=>
  have hR:R=(g1,false):=by
   cases k with
   |zero=>exact hv0 rfl
   |succ j=>exact hv1 j rfl
  subst hR
  first|refine fP rfl ?_|refine bI rfl (fun _=>?_) (fun h=>by simp at h<;>omega)
  refine aS (by kernel_rfl) fun _ K=>?_;simp only[kd];apply K
  refine jl ⟨.inr rfl,rfl,_,aF (tm:=(.one (.ptr 0 0 0 0)::j4 (jk::jk::jk::.raw (.bool false)::j16 (j16 (j16 (j16 (j16 (j16 (j16 (jk::jk::jk::[])))))))))) (l:=[(0,nM 0 B n (k+1) y D M)]) ⟨rfl,trivial⟩ (by simp[wk]),⟨fW _,rfl⟩,by simp⟩
 |true=>
  first|refine fw rfl (bY ?_)|refine bI rfl (fun h=>by simp at h<;>omega) (fun _=>bY ?_)
  show dY _ _ _ _ _ _ _;cases k with
  |zero=>
   have hR:R=(g1,true):=hv0 rfl;subst hR;refine bN (aS (by kernel_rfl) fun _ K=>?_);simp(disch:=omega) only[kd];apply K
   first|refine fP rfl ?_|refine bI rfl (fun _=>?_) (fun h=>by simp at h<;>omega)
   refine aS (by kernel_rfl) fun _ K=>?_;simp only[kd];apply K
   refine jl ⟨.inr rfl,rfl,_,aF (tm:=(.one (.ptr 0 0 0 0)::j4 (jk::jk::jk::.raw (.bool true)::j16 (j16 (j16 (j16 (j16 (j16 (j16 (jk::jk::jk::[])))))))))) (l:=[(0,nM 0 B n (0+1) y D M)]) ⟨rfl,trivial⟩ (by simp[wk]),⟨fW _,rfl⟩,by simp⟩
  |succ j=>
   have hR:=hv1 j rfl;have hk0:(((j+1:Nat):Int)=0)=False:=eq_false (by omega);have e4:IntKind.i64.wrap (((j+1:Nat):Int)-1)=(j:Int):=by rw[aM (by omega) (by omega)];omega
   refine bN (aS (by kernel_rfl) fun _ K=>?_);simp only[kd,hk0];apply K
   first|refine fw rfl (bY ?_)|refine bI rfl (fun h=>by simp at h<;>omega) (fun _=>bY ?_)
   show dY _ _ _ _ _ _ _;refine bN (aS (by kernel_rfl) fun _ K=>?_);simp only[kd];apply K;refine iS (G:=S0 γ lv lo hi (fun c=>ir yd f n B j (c::y)) R) (fun v=>⟨(.one (.ptr 0 0 0 0)::.raw (.int .i64 ((j+1:Nat):Int))::jk::.raw (.func (.yield l) #[] #[])::j4 (jk::.raw (.int .i64 d1)::.raw (.int .i64 (sp y.length))::jk::jk::.raw (.int .i64 sq)::jk::jk::.raw (.int .i64 hi)::.raw (.int .i64 v.x)::j16 (j16 (j16 (j16 (j16 (j16 (j4 (j4 (jk::jk::[])))))))))),Hm [(0,nM 0 B n (j+1+1) y D M)]⟩) (fun v=>v.g) (fun v=>(hi+1-v.x).toNat) ⟨lo,g1,hl1 rfl,by omega,by omega,hR.symm⟩ ?_ rfl ?_
   ·refine aF ⟨rfl,trivial⟩ ?_;simp[wk]
   rintro⟨x,g2,hg2,h1,h2,he⟩;simp only;by_cases hx:x<=hi
   ·rw[Je hx]at he;obtain⟨hP',hq⟩:=hst x h1 hx;have hrx:=hrs' x hP';have cV:=hrec j rfl x h1 hx g2 hg2;have hl3:=hvl j x g2 hg2;obtain⟨g3,b3,hb3⟩: ∃g3 b3,ir yd f n B j (x::y) g2=(g3,b3):=⟨_,_,rfl⟩;rw[hb3]at cV he hl3;simp only at cV he hl3;generalize nF f n B (j+1) (bj n (x::y))=rx at*
    have hxb:(d1*x).natAbs<=65535*46911780290560:=by
     rw[Int.natAbs_mul];exact Nat.mul_le_mul (by omega) (by omega)
    have hprod:0<=d1*rx:=Int.mul_nonneg (by omega) hrx.1;have hdiv:Int.tdiv (sq-(d1*x+sp y.length)*(d1*x+sp y.length)) d1=rx:=by rw[hq];exact Int.mul_tdiv_cancel_left _ (by omega)
    have huu:0<=(d1*x+sp y.length)*(d1*x+sp y.length):=by
     rcases Int.le_total 0 (d1*x+sp y.length)with h|h
     ·exact Int.mul_nonneg h h
     exact Int.mul_nonneg_of_nonpos_of_nonpos h h
    have hXl:=eG (j+1+1) y;have hXs:=lO (j+1) x y;have hXg:(jnk (j+1+1)++lc fI y)[j+1]?=some [.junk]:=by
     rw[aq (by simp[jnk])];simp[jnk]
    refine bN (aS (by kernel_rfl) fun _ K=>?_);simp(disch:=omega) only[kd,aa];apply K
    first|refine fP rfl (bY ?_)|refine bI rfl (fun _=>bY ?_) (fun h=>by simp at h<;>omega)
    refine bN (eQ ?_);refine aS (by kernel_rfl) fun _ K=>?_;simp(disch:=omega) only[kd,aa,hXg,hXs];apply K
    refine aS (by kernel_rfl) fun _ K=>?_;simp(disch:=omega) only[kd,aa,aM];apply K
    refine bN ?_;refine gy 11 cV 0 [] [] (by kernel_rfl) (by omega) (by decide) fun K hK=>?_
    generalize hU:(d1*x+sp y.length)*(d1*x+sp y.length)=uu at*
    simp(disch:=omega) only[kd,aa,e4,hU,aM,hdiv];refine hK _ ⟨⟨rfl,(yf 0 0 _ _ _ _ _ _).symm⟩,?_⟩;clear hK K;intro K hK;simp(disch:=omega) only[kd,aa,BB,jY,oH,k8,ag,List.map_append,fX];apply hK;clear hK K;show dY _ _ _ _ _ _ _;cases b3 with
    |false=>
     simp only at he;subst he
     first|refine fP rfl ?_|refine bI rfl (fun _=>?_) (fun h=>by simp at h<;>omega)
     refine aS (by kernel_rfl) fun _ K=>?_;simp only[kd];apply K
     refine jl ⟨.inr rfl,rfl,_,(yr rfl).trans (aF (tm:=(.one (.ptr 0 0 0 0)::j4 (jk::jk::jk::.raw (.bool false)::j16 (j16 (j16 (j16 (j16 (j16 (j16 (jk::jk::jk::[])))))))))) (l:=[(0,nM 0 B n (j+1+1) y D M)]) ⟨rfl,trivial⟩ (by simp[wk])),⟨fW _,rfl⟩,by simp⟩
    |true=>
     simp only at he
     first|refine fw rfl (bY ?_)|refine bI rfl (fun h=>by simp at h<;>omega) (fun _=>bY ?_)
     show dY _ _ _ _ _ _ _;refine b9 (by kernel_rfl) fun _ K=>?_;simp(disch:=omega) only[kd,aa,aM];apply K
     refine⟨⟨x+1,g3,hl3 rfl,by omega,by omega,he⟩,by simp only;omega,(yr rfl).trans (aF ⟨rfl,trivial⟩ ?_),rfl⟩;simp[wk]
   rw[Mt hx]at he;subst he;refine bN (aS (by kernel_rfl) fun _ K=>?_);simp(disch:=omega) only[kd,aa];apply K
   first|refine fw rfl (d5 ?_)|refine bI rfl (fun h=>by simp at h<;>omega) (fun _=>d5 ?_)
   show dY _ _ _ _ _ _ _;refine aS (by kernel_rfl) fun _ K=>?_;simp only[kd];apply K
   refine jl ⟨.inr rfl,rfl,_,aF (tm:=(.one (.ptr 0 0 0 0)::j4 (jk::jk::jk::.raw (.bool true)::j16 (j16 (j16 (j16 (j16 (j16 (j16 (jk::jk::jk::[])))))))))) (l:=[(0,nM 0 B n (j+1+1) y D M)]) ⟨rfl,trivial⟩ (by simp[wk]),⟨fW _,rfl⟩,by simp⟩
end
end
section
section
variable {γ:Type} {L:jd γ} {l:Nat} {yd:Nat->Int->γ->γ×Bool} {n:Nat} {f:FF} {B:Int} {lv:γ->Prop}
theorem N0 (hv:mN n f B) (hy:OV Tryz.prog L l n yd lv) (hyl: ∀m c g,lv g->(yd m c g).2=true->lv (yd m c g).1): ∀(k:Nat) (y:List Int),y.length+(k+1)=n->mZ y->fD f n B (k+1) (bj n y)-> ∀g:γ,lv g->
  jT Tryz.prog L [0] 190 (QR l k (nF f n B (k+1) (bj n y))) (nM 0 B n (k+1) y (be (n+1) (dk f)) (dT n f n)) (nM 0 B n (k+1) y (be (n+1) (dk f)) (dT n f n)) g (ir yd f n B k y g).1 (.raw (.bool (ir yd f n B k y g).2)):=by
 intro k
 induction k with
 |zero=>intro y hk hT hP g hg;exact ED hv hy hyl 0 y hk hT hP g hg fun j e=>by omega
 |succ k ih=>
  intro y hk hT hP g hg;refine ED hv hy hyl (k+1) y hk hT hP g hg fun j e c h1 h2 g hg=>?_
  obtain rfl:j=k:=by omega
  have hlh:=hv.lohi hk hT hP;exact ih (c::y) (by rw[List.length_cons];omega) (hT.cons (by omega)) (hv.step hk hP h1 h2).1 g hg
noncomputable def EA (yd:Nat->Int->γ->γ×Bool) (f:FF) (n:Nat) (B:Int) (g:γ):γ:=if n=1 then(yd 1 (2*isqF (B/dk f 1)+1) g).1 else(ir yd f n B (n-1) [] g).1
theorem Cu (hv:mN n f B):nF f n B n (bj n [])=dk f n*B:=by
 have hr:=hv.r.pd;have z:BF n (bk f n) (bj n []) (bj n [])=0:=by
  rw[rl hr (ae n) (x':=fun _=>0) (y':=fun _=>0) (fun i h1 h2=>by omega) (fun i h1 h2=>by omega)];exact kn fun _ _=>rfl
 unfold nF;rw[z,Int.mul_comm];omega
def Sr (n:Nat) (f:FF) (B:Int):Prop:=(n=1/\0<dk f 1/\dk f 1<=4611686018427387904/\0<=B/\B<=4611686018427387904)\/(2<=n/\mN n f B)
theorem Nv (h:Sr n f B) (hy:OV Tryz.prog L l n yd lv) (hyl: ∀m c g,lv g->(yd m c g).2=true->lv (yd m c g).1) (g:γ) (hg:lv g):
  mM Tryz.prog L 131 [.one (.ptr 0 0 0 0),.raw (.func (.yield l) #[] #[])] (nM 0 B n n [] (be (n+1) (dk f)) (dT n f n)) (nM 0 B n n [] (be (n+1) (dk f)) (dT n f n)) g (EA yd f n B g) (.tup []):=by
 have hDl:=aW (n+1) (dk f);have hDn:=aZ (dk f) (show n<n+1 by omega);refine Ii Tryz.func131 rfl (by kernel_rfl) (by simp[selfTV,bG]) (by simp[selfTV]) (pB 0 _ _ _ _ _ _) (pB 0 _ _ _ _ _ _) ?_;rw[Tryz.ntmps131];refine nK.weak (aF (tm:=(.one (.ptr 0 0 0 0)::.raw (.func (.yield l) #[] #[])::j16 (j16 (j4 (j4 (jk::jk::jk::[])))))) (l:=[(0,nM 0 B n n [] (be (n+1) (dk f)) (dT n f n))]) ⟨rfl,trivial⟩ (by simp[wk,af])) ?_;refine pE fun _ K=>?_;simp only[kd,aa];apply K
 rcases h with⟨rfl,hd0,hd1,h0,h1⟩|⟨hn2,hv⟩
 ·have hq0:0<=B/dk f 1:=Int.ediv_nonneg h0 (by omega);have hq1:B/dk f 1<=B:=Int.ediv_le_self _ h0;have hrt:=lL hq0 (by omega);have cR:=Ej (B/dk f 1) hq0 (by omega);have hyd:=hy 1 (2*isqF (B/dk f 1)+1) g hg (by omega) (by omega) (by omega) (by omega);have hM:EA yd f 1 B g=(yd 1 (2*isqF (B/dk f 1)+1) g).1:=if_pos rfl;rw[hM];have eq:Int.tdiv B (dk f 1)=B/dk f 1:=Int.tdiv_eq_ediv_of_nonneg h0;have hdne:(dk f 1=0)=False:=eq_false (by omega);obtain⟨g1,b,hgy⟩: ∃g1 b,yd 1 (2*isqF (B/dk f 1)+1) g=(g1,b):=⟨_,_,rfl⟩;rw[hgy]at hyd⊢;simp only at hyd⊢;generalize be (1+1) (dk f)=D at*
  generalize dT 1 f 1=M at*
  generalize dk f 1=d at*
  generalize B/d=q at*
  generalize isqF q=rt at*
  clear hy hgy hM;refine rn (pE fun _ K=>?_);simp(disch:=omega) only[kd];apply K
  first|refine OR rfl ?_|refine nW rfl (fun _=>?_) (fun h=>by simp at h<;>omega)
  refine rn ?_;refine yw bU hyd [⟨12,_,_,_,cR⟩] [] (by kernel_rfl) fun K hK=>?_
  simp(disch:=omega) only[kd,List.size_toArray,aa,Nat.reduceSub,Int.reduceToNat,hDn,eq,aM];refine hK _ ⟨rfl,?_⟩;clear hK K;simp only[ux];refine LH ⟨.inr rfl,rfl,_,aF (tm:=(.one (.ptr 0 0 0 0)::j16 (j16 (j4 (j4 (j4 ([]))))))) (l:=[(0,nM 0 B 1 1 [] D M)]) ⟨rfl,trivial⟩ ?_,fW _,rfl⟩;simp only[kd,yS,jY];simp[wk]
 have hn8:=hv.n8;have hPt:fD f n B n (bj n []):=ji hv.r.pd hv.b0;have cV:=N0 hv hy hyl (n-1) [] (by simp;omega) mZ.nil (by rw[show n-1+1=n by omega];exact hPt) g hg;rw[show n-1+1=n by omega,Cu hv]at cV;have hM:EA yd f n B g=(ir yd f n B (n-1) [] g).1:=if_neg (by omega);rw[hM];have hd:=hv.d (k:=n) (ae n);have hb0:=hv.b0;have hb1:=hv.b1;have hpr0:0<=dk f n*B:=Int.mul_nonneg (by omega) hb0;have hpr1:dk f n*B<=65536*1073741824:=Int.mul_le_mul (by omega) hb1 hb0 (by omega);have hn1:((n:Int)=1)=False:=eq_false (by omega);have e1:IntKind.i64.wrap ((n:Int)-1)=((n-1:Nat):Int):=by rw[aM (by omega) (by omega)];omega
 obtain⟨g1,b,hgy⟩: ∃g1 b,ir yd f n B (n-1) [] g=(g1,b):=⟨_,_,rfl⟩;rw[hgy]at cV⊢;simp only at cV⊢;generalize be (n+1) (dk f)=D at*
 generalize dT n f n=M at*
 generalize dk f n=d at*
 generalize hre:d*B=re at*
 clear hy hgy hM hv hPt;refine rn (pE fun _ K=>?_);simp only[kd,hn1];apply K
 first|refine OQ rfl (yx ?_)|refine nW rfl (fun h=>by simp at h<;>omega) (fun _=>yx ?_)
 show nK _ _ _ _ _ _;refine Ba bU cV.toL 0 [] [] (by omega) (by kernel_rfl) fun K hK=>?_
 simp(disch:=omega) only[kd,List.size_toArray,aa,Nat.reduceSub,e1,hDn,hre,aM];refine hK _ ⟨⟨rfl,(yf 0 0 _ _ _ _ _ _).symm⟩,?_⟩;clear hK K;refine⟨.inl rfl,rfl,_,aF (tm:=(j16 (j16 (j4 (j4 (j4 (jk::[]))))))) (l:=[(0,nM 0 B n n [] D M)]) ⟨?_,trivial⟩ ?_,fW _,rfl⟩
 ·rw[QW,eK];simp only[aX];exact yf 0 0 _ _ _ _ _ _
 simp only[kd,QW,jY,List.size_toArray,aa,Nat.reduceSub];simp[wk]
end
end
section
def f9 (P:Nat->Nat->Nat×Nat):AV->AV
 | .sl b r off len=> .sl (P b r).1 (P b r).2 off len
 | .ptr b r i j=> .ptr (P b r).1 (P b r).2 i j
 | .fn f b qs=>match qs with
  |[]=> .junk
  |q::l=>if(q::l).all (fun x=>(P b x.1).1==(P b q.1).1)then .fn f (P b q.1).1 ((q::l).map fun x=>((P b x.1).2,x.2))else .junk
 |x=>x
theorem Jk (P:Nat->Nat->Nat×Nat):lf (f9 P):=fun f b qs=>by
 cases qs with
 |nil=>exact .inl rfl
 |cons q l=>
  by_cases h:(q::l).all (fun x=>(P b x.1).1==(P b q.1).1)=true
  ·refine .inr ⟨_,_,if_pos h,by simp,fun n x hn=>⟨_,by rw[az,hn];rfl,?_⟩⟩;simp only[List.all_eq_true,beq_iff_eq]at h;simp only[f9];rw[h x (List.mem_of_getElem? hn)]
  exact .inl (if_neg h)
def zW (P:Nat->Nat->Nat×Nat):TV->TV
 | .one x=> .one (f9 P x)
 | .agg cs=> .agg (cs.map (f9 P))
 | .fn f cs=> .fn f (cs.map (f9 P))
 | .tup ts=> .tup (ts.map fun t=>(t.1,t.2.map (f9 P)))
def tA (P:Nat->Nat->Nat×Nat) (o:OObj):OObj:={o with elems:=o.elems.map (List.map (f9 P))}
open Classical in
theorem yq {s:AS} (P:Nat->Nat->Nat×Nat) (H':OH)
  (hof: ∀(b r:Nat) (o:OObj),(s.H b)[r]?=some o->(H' (P b r).1)[(P b r).2]?=some (tA P o))
  (hget: ∀(b r:Nat) (o':OObj),(H' b)[r]?=some o'-> ∃(b0 r0:Nat) (o:OObj),(s.H b0)[r0]?=some o/\o'=tA P o/\P b0 r0=(b,r))
  (hinj: ∀(b r b' r':Nat) (o o':OObj),(s.H b)[r]?=some o->(s.H b')[r']?=some o'->P b r=P b' r'->b=b'/\r=r')
  (hlo: ∀b r,(P b r).1<=4999->b<=4999)
  (hself: ∀(b r:Nat) (o':OObj),(H' b)[r]?=some o'->selfO b o'):bW s ⟨s.tmps.map (zW P),H'⟩:=by
 rintro w0 O X act w ⟨h1,hsz,ρ,hinv,htm⟩
 let ρ':Rho:=fun b r=>if h: ∃p:Nat×Nat,(∃o,(s.H p.1)[p.2]?=some o)/\P p.1 p.2=(b,r)then ρ h.choose.1 h.choose.2 else none
 have hρ: ∀(b r:Nat) (o:OObj),(s.H b)[r]?=some o->ρ' (P b r).1 (P b r).2=ρ b r:=fun b r o ho=>by
  have h: ∃p:Nat×Nat,(∃o,(s.H p.1)[p.2]?=some o)/\P p.1 p.2=((P b r).1,(P b r).2):=⟨(b,r),⟨o,ho⟩,rfl⟩;show(if h: ∃p:Nat×Nat,(∃o,(s.H p.1)[p.2]?=some o)/\P p.1 p.2=((P b r).1,(P b r).2)then ρ h.choose.1 h.choose.2 else none)=_;rw[dif_pos h];obtain⟨⟨o2,g1⟩,g2⟩:=h.choose_spec;obtain⟨e1,e2⟩:=hinj _ _ b r o2 o g1 ho g2;rw[e1,e2]
 have hXo:Xo X ρ' H'=Xo X ρ s.H:=by
  funext b;apply propext;constructor
  ·rintro(h|⟨x,r,o,c,g1,g2⟩)
   ·exact .inl h
   obtain⟨b0,r0,o',g3,_,g5⟩:=hget x r o g1;have:=hρ b0 r0 o' g3;rw[g5]at this;exact .inr ⟨b0,r0,o',c,g3,this.symm.trans g2⟩
  rintro(h|⟨x,r,o,c,g1,g2⟩)
  ·exact .inl h
  exact .inr ⟨_,_,_,c,hof x r o g1,(hρ x r o g1).trans g2⟩
 have hav: ∀(Y:Nat->Prop) x v,AV.rel ρ s.H Y w x v->AV.rel ρ' H' Y w (f9 P x) v:=fun Y=>fo (Jk P) fun x v hn h=>by
  cases x with
  |fn=>cases hn
  |p x=>exact h
  |junk=>trivial
  |sl b r off len=>
   obtain⟨o,g1,g2,g3⟩:=h;refine⟨_,hof b r o g1,by simpa[tA] using g2,?_⟩;rw[hρ b r o g1];rcases g3 with g3|⟨q,c,cap,k1,k2,k3,k4⟩
   ·exact .inl g3
   exact .inr ⟨q,c,cap,k1,k2,k3,fun hl=>k4 (hlo b r hl)⟩
  |ptr b r i j=>
   obtain⟨o,b',c,g1,g2,g3,g4⟩:=h;exact⟨_,b',c,hof b r o g1,by rw[hρ b r o g1];exact g2,by simpa[tA] using g3,g4⟩
 have hagg: ∀(Y:Nat->Prop) cs v,bJ ρ s.H Y w cs v->bJ ρ' H' Y w (cs.map (f9 P)) v:=fun Y cs v ⟨vs,g1,g2,g3⟩=>by
  refine⟨vs,g1,by simpa using g2,fun j x hx=>?_⟩;rw[az]at hx;obtain⟨y,hy,rfl⟩:=Option.map_eq_some_iff.1 hx;obtain⟨u,u1,u2,u3⟩:=g3 j y hy;exact⟨u,u1,u2,hav Y y u u3⟩
 have hr': ∀(b r:Nat) (o':OObj),(H' b)[r]?=some o'-> ∃(b0 r0:Nat) (o:OObj),(s.H b0)[r0]?=some o/\o'=tA P o/\P b0 r0=(b,r)/\ρ' b r=ρ b0 r0:=fun b r o' ho=>by
  obtain⟨b0,r0,o,g1,g2,g3⟩:=hget b r o' ho;have:=hρ b0 r0 o g1;rw[g3]at this;exact⟨b0,r0,o,g1,g2,g3,this⟩
 refine⟨h1,by simpa using hsz,ρ',⟨hinv.keep,fun b r o' ho=>?_,fun b r b' r' o o' x c c' ho ho' hb hb'=>?_,fun b r o x c ho hb=>?_,hinv.bar,fun b r o' ho=>?_⟩,fun t x hx=>?_⟩
 ·obtain⟨b0,r0,o,g1,rfl,_,g4⟩:=hr' b r o' ho;have hob:=hinv.objs _ _ o g1;rw[hXo];obtain⟨q1,q2,q3⟩:=hob;refine⟨fun z he=>?_,q2,?_⟩
  ·simp only[tA,am]at he;obtain⟨e',he',rfl⟩:=he;simp only[List.length_map,tA];exact q1 e' he'
  rw[g4];cases hr:ρ b0 r0 with
  |none=>rw[hr]at q3;simp only at q3⊢;simp[tA,q3]
  |some bc=>
   obtain⟨b2,c⟩:=bc;rw[hr]at q3;obtain⟨cells,p1,p2,p3,p4,p5⟩:=q3;refine⟨cells,p1,p2,by simpa[tA] using p3,p4,fun i z j x hi hj=>?_⟩;simp only[tA,az]at hi;obtain⟨e',he',rfl⟩:=Option.map_eq_some_iff.1 hi;simp only[az]at hj;obtain⟨x',hx',rfl⟩:=Option.map_eq_some_iff.1 hj;obtain⟨v,v1,v2,v3⟩:=p5 i e' j x' he' hx';exact⟨v,v1,v2,hav _ _ _ v3⟩
 ·obtain⟨b0,r0,o1,g1,_,g3,g4⟩:=hr' b r o ho;obtain⟨b1,r1,o2,k1,_,k3,k4⟩:=hr' b' r' o' ho';rw[g4]at hb;rw[k4]at hb';obtain⟨e1,e2⟩:=hinv.inj _ _ _ _ o1 o2 x c c' g1 k1 hb hb';subst e1 e2;rw[g3]at k3;injection k3 with e1 e2
  exact⟨e1,e2⟩
 ·obtain⟨b0,r0,o1,g1,_,_,g4⟩:=hr' b r o ho;rw[g4]at hb;exact hinv.old _ _ o1 x c g1 hb
 ·exact hself b r o' ho
 simp only[az]at hx;obtain⟨y,hy,rfl⟩:=Option.map_eq_some_iff.1 hx;obtain⟨v,v1,v2⟩:=htm t y hy;refine⟨v,v1,?_⟩;show TV.rel ρ' H' (Xo X ρ' H') w (zW P y) v;rw[hXo];cases y with
 |one x=>exact hav _ x v v2
 |agg cs=>exact hagg _ cs v v2
 |fn f cs=>obtain⟨u,h1,h2⟩:=v2;exact⟨u,hagg _ cs u h1,h2⟩
 |tup ts=>
  obtain⟨vs,g1,g2,g3⟩:=v2;refine⟨vs,g1,by simpa using g2,fun j c cs hj=>?_⟩;rw[az]at hj;obtain⟨z,hz,hzz⟩:=Option.map_eq_some_iff.1 hj;obtain⟨c',cs'⟩:=z;simp at hzz;obtain⟨rfl,rfl⟩:=hzz;obtain⟨u,u1,u2⟩:=g3 j c' cs' hz;refine⟨u,u1,?_⟩;rcases u2 with⟨u2,u3⟩|⟨u2,q',rfl,u4⟩
  ·exact .inl ⟨u2,hagg _ _ _ u3⟩
  exact .inr ⟨u2,_,rfl,hav _ _ _ u4⟩
section
variable {tm:List TV} {n:Nat} {A T:FF}
end
end
theorem xt {g:AV->AV} {l:List (List AV)} (h: ∀e∈l,∀z∈e,g z=z):l.map (List.map g)=l:=by
 have:l.map (List.map g)=l.map id:=List.map_congr_left fun e he=>by
  have:e.map g=e.map id:=List.map_congr_left fun z hz=>h e he z hz
  rw[this];simp
 rw[this];simp
def fG (o0:OObj) (a r0:Nat):AV->AV
 | .sl b r off len=>if b=a/\r=r0 then .p (.sl (((o0.elems.take (off+len)).drop off).map (List.map ri)))else .sl b r off len
 | .ptr b r i j=>if b=a/\r=r0 then .junk else .ptr b r i j
 | .fn f b qs=>if b=a then .junk else .fn f b qs
 |x=>x
theorem FB (o0:OObj) (a r0:Nat):lf (fG o0 a r0):=fun f b qs=>by
 by_cases h:b=a
 ·exact .inl (if_pos h)
 exact .inr ⟨b,qs,if_neg h,rfl,fun n q hn=>⟨q,hn,if_neg fun k=>h k.1⟩⟩
def DO (o0:OObj) (a r0:Nat):TV->TV
 | .one x=> .one (fG o0 a r0 x)
 | .agg cs=> .agg (cs.map (fG o0 a r0))
 | .fn f cs=> .fn f (cs.map (fG o0 a r0))
 | .tup ts=> .tup (ts.map fun t=>(t.1,t.2.map (fG o0 a r0)))
def oB (o0:OObj) (a r0:Nat) (o:OObj):OObj:={o with elems:=o.elems.map (List.map (fG o0 a r0))}
theorem B4 {o0:OObj} {a r0:Nat} {x:AV} (h:bG a x):bG a (fG o0 a r0 x):=by
 cases x with
 |sl b r off len=>simp only[fG];split<;>first|trivial|exact h
 |ptr b r i j=>simp only[fG];split<;>first|trivial|exact h
 |fn f b qs=>simp only[fG];split<;>first|trivial|exact h
 |_=>exact h
theorem zj {o0:OObj} {a r0 x:Nat} {y:AV} (hx:x≠a) (h:bG x y):fG o0 a r0 y=y:=by
 cases y with
 |sl b r off len=>have h:b=x:=h;subst h;exact if_neg fun k=>hx k.1
 |ptr b r i j=>have h:b=x:=h;subst h;exact if_neg fun k=>hx k.1
 |fn f b qs=>have h:b=x:=h.1;subst h;exact if_neg hx
 |_=>rfl
theorem rK {s:AS} (a r0:Nat) {o0:OObj} (ho0:(s.H a)[r0]?=some o0) (hp0:cU o0):bW s ⟨s.tmps.map (DO o0 a r0),aJ s.H a (((s.H a).set r0 {o0 with elems:=[]}).map (oB o0 a r0))⟩:=by
 rintro w0 O X act w ⟨h1,hsz,ρ,hinv,htm⟩;have htm:bq X ρ s act w:=htm;generalize hH1:aJ s.H a (((s.H a).set r0 {o0 with elems:=[]}).map (oB o0 a r0))=H1;generalize hρ1:(fun x y=>if x=a/\y=r0 then none else ρ x y:Rho)=ρ1;have hρ0:ρ1 a r0=none:=by rw[<- hρ1];exact if_pos ⟨rfl,rfl⟩
 have hρn: ∀x y,¬(x=a/\y=r0)->ρ1 x y=ρ x y:=fun x y h=>by rw[<- hρ1];exact if_neg h
 have hHn: ∀x,x≠a->H1 x=s.H x:=fun x h=>by rw[<- hH1];exact aN h
 have hHa: ∀y:Nat,(H1 a)[y]?=if y=r0 then some {o0 with elems:=[]}else((s.H a)[y]?).map (oB o0 a r0):=fun y=>by
  rw[<- hH1,aX,az,List.getElem?_set];by_cases hy:r0=y
  ·subst hy;rw[if_pos rfl,if_pos (List.getElem?_eq_some_iff.1 ho0).1,if_pos rfl];rfl
  rw[if_neg hy,if_neg (Ne.symm hy)]
 have hget: ∀(x y:Nat) q,(H1 x)[y]?=some q->(x=a/\y=r0/\q={o0 with elems:=[]})\/(¬(x=a/\y=r0)/\ ∃q0,(s.H x)[y]?=some q0/\q=oB o0 a r0 q0):=fun x y q h=>by
  by_cases hx:x=a
  ·subst hx;rw[hHa]at h;by_cases hy:y=r0
   ·rw[if_pos hy]at h;injection h with h
    exact .inl ⟨rfl,hy,h.symm⟩
   rw[if_neg hy]at h;obtain⟨q0,g1,g2⟩:=Option.map_eq_some_iff.1 h;exact .inr ⟨fun k=>hy k.2,q0,g1,g2.symm⟩
  rw[hHn x hx]at h;refine .inr ⟨fun k=>hx k.1,q,h,?_⟩;have hs:=hinv.self x y q h;have:q.elems.map (List.map (fG o0 a r0))=q.elems:=xt fun e he z hz=>zj hx (hs e he z hz)
  unfold oB;rw[this]
 have hof: ∀(x y:Nat) q,(s.H x)[y]?=some q-> ¬(x=a/\y=r0)-> ∃q',(H1 x)[y]?=some q'/\q'.es=q.es/\q'.elems.length=q.elems.length:=fun x y q h hn=>by
  by_cases hx:x=a
  ·subst hx;exact⟨oB o0 x r0 q,by rw[hHa,if_neg fun k=>hn ⟨rfl,k⟩,h];rfl,rfl,by simp[oB]⟩
  exact⟨q,by rw[hHn x hx];exact h,rfl,rfl⟩
 have hold: ∀(x y:Nat) q b c,(H1 x)[y]?=some q->ρ1 x y=some (b,c)-> ¬(x=a/\y=r0)/\ρ x y=some (b,c)/\ ∃q0,(s.H x)[y]?=some q0:=fun x y q b c h e=>by
  rcases hget x y q h with⟨rfl,rfl,_⟩|⟨hn,q0,g1,_⟩
  ·rw[hρ0]at e;cases e
  exact⟨hn,by rw[<- hρn x y hn];exact e,q0,g1⟩
 have hXo: ∀b,Xo X ρ1 H1 b->Xo X ρ s.H b:=fun b hb=>by
  rcases hb with hb|⟨x,y,q,n,g1,g2⟩
  ·exact .inl hb
  obtain⟨_,g3,q0,g4⟩:=hold x y q b n g1 g2;exact .inr ⟨x,y,q0,n,g4,g3⟩
 have hZb: ∀b c,ρ a r0=some (b,c)-> ¬Xo X ρ1 H1 b:=fun b c hr hX=>by
  rcases hX with hX|⟨x,y,q,n,g1,g2⟩
  ·exact(hinv.old a r0 o0 b c ho0 hr).2 hX
  obtain⟨g0,g3,q0,g4⟩:=hold x y q b n g1 g2;exact g0 (hinv.inj x y a r0 q0 o0 b n c g4 ho0 g3 hr)
 have hpure: ∀x u,isPure x=true->AV.rel ρ s.H (Xo X ρ s.H) w x u->bX (Xo X ρ1 H1) w (ri x) u:=fun x u hp h=>by
  cases x<;>first|exact bX.weaken (fun b _ hb=>hXo b hb) h|cases hp
 have hmap: ∀x v,AV.rel ρ s.H (Xo X ρ s.H) w x v->AV.rel ρ1 H1 (Xo X ρ1 H1) w (fG o0 a r0 x) v:=fo (FB o0 a r0) fun x v hn h=>by
  cases x with
  |fn=>cases hn
  |p x=>exact bX.weaken (fun b _ hb=>hXo b hb) h
  |sl b r off len=>
   simp only[fG];by_cases hb:b=a/\r=r0
   ·rw[if_pos hb];obtain⟨rfl,rfl⟩:=hb;exact mB (hinv.objs b r o0 ho0) ho0 (fun e he y hy u hu=>hpure y u (hp0 e he y hy) hu) (hZb) h
   rw[if_neg hb];obtain⟨o,g1,g2,g3⟩:=h;obtain⟨o',k1,k2,k3⟩:=hof b r o g1 hb;exact⟨o',k1,by omega,by rw[hρn b r hb,k2];exact g3⟩
  |ptr b r i j=>
   simp only[fG];by_cases hb:b=a/\r=r0
   ·rw[if_pos hb];trivial
   rw[if_neg hb];obtain⟨o,b',c,g1,g2,g3,g4⟩:=h;obtain⟨o',k1,k2,k3⟩:=hof b r o g1 hb;exact⟨o',b',c,k1,by rw[hρn b r hb];exact g2,by omega,by rw[k2];exact g4⟩
  |junk=>trivial
 have hagg: ∀cs v,bJ ρ s.H (Xo X ρ s.H) w cs v->bJ ρ1 H1 (Xo X ρ1 H1) w (cs.map (fG o0 a r0)) v:=fun cs v h=>by
  obtain⟨vs,g1,g2,g3⟩:=h;refine⟨vs,g1,by simpa using g2,fun j x hx=>?_⟩;rw[az]at hx;obtain⟨y,hy,rfl⟩:=Option.map_eq_some_iff.1 hx;obtain⟨u,u1,u2,u3⟩:=g3 j y hy;exact⟨u,u1,u2,hmap y u u3⟩
 refine⟨h1,by simpa using hsz,ρ1,⟨hinv.keep,fun x y q hq=>?_,fun x y x' y' q q' b c c' hq hq' e e'=>?_,fun x y q b c hq e=>?_,hinv.bar,fun x y q hq=>?_⟩,fun t x hx=>?_⟩
 ·rcases hget x y q hq with⟨rfl,rfl,rfl⟩|⟨hn,q0,g1,rfl⟩
  ·refine⟨fun e he=>(by cases he),(hinv.objs x y o0 ho0).2.1,?_⟩;rw[hρ0]
  obtain⟨q1,q2,q3⟩:=hinv.objs x y q0 g1;refine⟨fun e he=>?_,q2,?_⟩
  ·simp only[oB,am]at he;obtain⟨e',he',rfl⟩:=he;rw[List.length_map];exact q1 e' he'
  rw[hρn x y hn];cases hr:ρ x y with
  |none=>rw[hr]at q3;simp[oB,q3]
  |some bc=>
   obtain⟨b,c⟩:=bc;rw[hr]at q3;obtain⟨cells,p1,p2,p3,p4,p5⟩:=q3;refine⟨cells,p1,p2,by simpa[oB] using p3,p4,fun i e j z he hz=>?_⟩;simp only[oB,az]at he;obtain⟨e',he',rfl⟩:=Option.map_eq_some_iff.1 he;rw[az]at hz;obtain⟨z',hz',rfl⟩:=Option.map_eq_some_iff.1 hz;obtain⟨u,u1,u2,u3⟩:=p5 i e' j z' he' hz';exact⟨u,u1,u2,hmap z' u u3⟩
 ·obtain⟨_,g3,q0,g4⟩:=hold x y q b c hq e;obtain⟨_,g3',q0',g4'⟩:=hold x' y' q' b c' hq' e';exact hinv.inj x y x' y' q0 q0' b c c' g4 g4' g3 g3'
 ·obtain⟨_,g3,q0,g4⟩:=hold x y q b c hq e;exact hinv.old x y q0 b c g4 g3
 ·rcases hget x y q hq with⟨rfl,rfl,rfl⟩|⟨hn,q0,g1,rfl⟩
  ·intro e he;cases he
  intro e he z hz;simp only[oB,am]at he;obtain⟨e',he',rfl⟩:=he;simp only[am]at hz;obtain⟨z',hz',rfl⟩:=hz;have hs:=hinv.self x y q0 g1 e' he' z' hz';by_cases hx:x=a
  ·subst hx;exact B4 hs
  rw[zj hx hs];exact hs
 simp only[az]at hx;obtain⟨y,hy,rfl⟩:=Option.map_eq_some_iff.1 hx;obtain⟨v,v1,v2⟩:=htm t y hy;refine⟨v,v1,?_⟩;cases y with
 |one x=>exact hmap x v v2
 |agg cs=>exact hagg cs v v2
 |fn f cs=>obtain⟨u,h1,h2⟩:=v2;exact⟨u,hagg cs u h1,h2⟩
 |tup ts=>
  obtain⟨vs,g1,g2,g3⟩:=v2;refine⟨vs,g1,by simpa using g2,fun j b cs hj=>?_⟩;rw[az]at hj;obtain⟨z,hz,hzz⟩:=Option.map_eq_some_iff.1 hj;obtain⟨b',cs'⟩:=z;simp at hzz;obtain⟨rfl,rfl⟩:=hzz;obtain⟨u,u1,u2⟩:=g3 j b' cs' hz;refine⟨u,u1,?_⟩;rcases u2 with⟨u2,u3⟩|⟨u2,q,rfl,u4⟩
  ·exact .inl ⟨u2,hagg _ _ u3⟩
  exact .inr ⟨u2,_,rfl,hmap q u u4⟩
/-! A row at the end of another family. -/
def ld (a d m:Nat) (b r:Nat):Nat×Nat:=if b=a then(d,m+r)else(b,r)
theorem MW {a d m x:Nat} {y:AV} (hx:x≠a) (h:bG x y):f9 (ld a d m) y=y:=by
 cases y with
 |sl b r off len=>have h:b=x:=h;subst h;simp[f9,ld,hx]
 |ptr b r i j=>have h:b=x:=h;subst h;simp[f9,ld,hx]
 |fn f b qs=>
  obtain⟨h,hq⟩:=h;subst h;cases qs with
  |nil=>exact absurd rfl hq
  |cons q l=>simp[f9,ld,hx]
 |_=>rfl
theorem qa {a d m x:Nat} {o:OObj} (hx:x≠a) (h:selfO x o):tA (ld a d m) o=o:=by
 have:o.elems.map (List.map (f9 (ld a d m)))=o.elems:=xt fun e he z hz=>MW hx (h e he z hz)
 unfold tA;rw[this]
theorem zV {P:Nat->Nat->Nat×Nat} {o:OObj} (h:cU o):tA P o=o:=by
 have:o.elems.map (List.map (f9 P))=o.elems:=xt fun e he z hz=>by
  have:=h e he z hz;cases z<;>first|rfl|cases this
 unfold tA;rw[this]
theorem Hk {s:AS} (a d:Nat) {oa:OObj} (ha:s.H a=[oa]) (hpa:cU oa) (hne:d≠a) (hlo:d<=4999->a<=4999):bW s ⟨s.tmps.map (zW (ld a d (s.H d).length)),aJ (aJ s.H a []) d (s.H d++[oa])⟩:=by
 intro w0 O X act w hr;obtain⟨h1,hsz,ρ,hinv,htm⟩:=id hr;generalize hm:(s.H d).length=m;have hd1:aJ (aJ s.H a []) d (s.H d++[oa]) d=s.H d++[oa]:=aX;have ha1:aJ (aJ s.H a []) d (s.H d++[oa]) a=[]:=by rw[aN (Ne.symm hne),aX]
 have hn1: ∀x,x≠d->x≠a->aJ (aJ s.H a []) d (s.H d++[oa]) x=s.H x:=fun x h k=>by rw[aN h,aN k]
 refine yq (ld a d m) _ (fun b r o ho=>?_) (fun b r o ho=>?_) (fun b r b' r' o o' ho ho' he=>?_) (fun b r h=>?_) (fun b r o ho=>?_) w0 O X act w hr
 ·by_cases hb:b=a
  ·subst hb;rw[ha]at ho;cases r with
   |succ r=>simp at ho
   |zero=>
    injection ho with ho
    subst ho;rw[zV hpa];simp only[ld,if_pos];rw[hd1,ar (by omega),<- hm];simp
  rw[qa hb (hinv.self b r o ho)];simp only[ld,if_neg hb];by_cases hbd:b=d
  ·subst hbd;rw[hd1,aq (List.getElem?_eq_some_iff.1 ho).1];exact ho
  rw[hn1 b hbd hb];exact ho
 ·by_cases hb:b=d
  ·subst hb;rw[hd1]at ho;by_cases hr:r<m
   ·rw[aq (by omega)]at ho;exact⟨b,r,o,ho,(qa hne (hinv.self b r o ho)).symm,if_neg hne⟩
   rw[ar (by omega)]at ho;have hr0:r-(s.H b).length=0:=by
    have:=(List.getElem?_eq_some_iff.1 ho).1;simp at this;omega
   rw[hr0]at ho;injection ho with ho
   subst ho;refine⟨a,0,oa,by rw[ha];rfl,(zV hpa).symm,?_⟩;simp only[ld,if_pos];rw[show m+0=r by omega]
  by_cases hba:b=a
  ·subst hba;rw[ha1]at ho;simp at ho
  rw[hn1 b hb hba]at ho;exact⟨b,r,o,ho,(qa hba (hinv.self b r o ho)).symm,if_neg hba⟩
 ·have lt: ∀(r:Nat) o,(s.H d)[r]?=some o->r<m:=fun r o h=>by have:=(List.getElem?_eq_some_iff.1 h).1;omega
  unfold ld at he;by_cases hb:b=a
  ·rw[if_pos hb]at he;by_cases hb':b'=a
   ·rw[if_pos hb']at he;injection he with _ he
    exact⟨hb.trans hb'.symm,by omega⟩
   rw[if_neg hb']at he;injection he with e1 e2
   subst e1;have:=lt r' o' ho';omega
  rw[if_neg hb]at he;by_cases hb':b'=a
  ·rw[if_pos hb']at he;injection he with e1 e2
   subst e1;have:=lt r o ho;omega
  rw[if_neg hb']at he;injection he with e1 e2
  exact⟨e1,e2⟩
 ·unfold ld at h;by_cases hb:b=a
  ·rw[if_pos hb]at h;rw[hb];exact hlo h
  rw[if_neg hb]at h;exact h
 by_cases hb:b=d
 ·subst hb;rw[hd1]at ho;by_cases hr:r<m
  ·rw[aq (by omega)]at ho;exact hinv.self b r o ho
  rw[ar (by omega)]at ho;obtain rfl:o=oa:=by
   have:=List.mem_of_getElem? ho;simpa using this
  exact fun e he z hz=>cd (hpa e he z hz)
 by_cases hba:b=a
 ·subst hba;rw[ha1]at ho;simp at ho
 rw[hn1 b hb hba]at ho;exact hinv.self b r o ho
end Go.Proofs.YtalmoejhjceflaaGreat
