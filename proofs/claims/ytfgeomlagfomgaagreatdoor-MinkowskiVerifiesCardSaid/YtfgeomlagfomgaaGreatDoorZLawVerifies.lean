/-
  Proved: the statement MinkowskiVerifiesSaid: for every input the law quadformlaw14.MinkowskiVerifies returns true, and each argument reads afterwards as it read before. The package variable holds what the program says.
-/
import Derived.Test.YtfgeomlagfomgaaGreatDoorR23
import Derived.Test.YtfgeomlagfomgaaGreatDoorCards
import Derived.Test.YtfgeomlagfomgaaGreatDoorTie
import Derived.SevenTiedAt
import Derived.ProofKit
import Derived.Stop.Joined
set_option linter.all false
set_option maxRecDepth 100000
set_option maxHeartbeats 64000000
open Nat renaming reduceAdd → aa
open Nat renaming reduceEqDiff → ab
open List renaming replicate → ae
open Nat renaming reduceBEq → af
open Nat renaming reduceLeDiff → ah
open List renaming mem_map → ak
open List renaming getElem?_append_left → ao
open List renaming getElem?_append_right → ap
open List renaming mem_of_getElem? → au
open List renaming length_replicate → aw
open List renaming getElem?_map → ax
namespace Go.Proofs.YtfgeomlagfomgaaGreatDoor
open Go.RowKit
section
section
variable {P:Program} {w0 w:World} {O X:Nat->Prop} {s:AS} {a:Act}
theorem Jg (hrel:gn w0 O X s a w) {o:Oper} {c:Call} {f:FuncId} (ho:o.op= .call c) (hcal:c.callee= .value (.func f)) {args:List TV} {res:CallRes} (hcon:xx P f args res w) (hsafe:jl res) {ts:List TV} {d:Nat}
  (hev:gf s.ev c.args.toList=some ts) (harg:ArgsFz s.H ts args) (hd:res.fam≠[]->s.H d=[]) (hdst:o.dst=some d) {K:Act->World->Prop} {Q:Exit->Act->World->Prop}
  (hK: ∀v w',gn w0 O X (ja s d (fF d res.r) (res.fam.map (dj d))) (a.put o.dst v) w'->K (a.put o.dst v) w'):o.wp P a w K Q:=by
 obtain⟨h1,hsz,ρ,hinv,htm⟩:=hrel;have htm:b7 X ρ s a w:=htm;obtain⟨e1,e2⟩:=dV hev;obtain⟨q1,q2⟩:=qJ harg;have hXlt: ∀j,Xo X ρ s.H j->j<w.heap.size:=fun b hb=>by
  rcases hb with hb|⟨x,y,o',n,g1,g2⟩
  ·exact hinv.bar b hb
  exact cL (hinv.objs x y o' g1) g2
 have hrun:=m8 (w:=w) ho hcal (e:=a.eval) rfl hcon.1;unfold Oper.wp;rw[hrun];simp only[Oper.upon];have hsize:c.args.size=args.length:=by rw[q1];simpa using e1.symm
 refine(hcon.2 (fun _=>False) (c.args.map a.eval) (fun j hj=>hj.elim) (by simp[hsize]) fun j u hu=>?_).mono ?_
 ·obtain⟨t,ht,hat⟩:=q2 j u hu;obtain⟨y,hy,hyt⟩:=e2 j t ht;refine⟨a.eval y,?_,?_⟩
  ·rw[Array.getElem?_map];have:c.args[j]?=some y:=by simpa using hy
   rw[this];rfl
  have hr:=dn htm y t hyt;rcases hat with⟨hp,rfl⟩|⟨fa,r,off,len,rfl,hok,hfz⟩
  ·exact rS hp hr
  exact DZ hinv.objs hok hfz hr
 rintro e w1 ⟨v,rfl,ρc,hi,hr⟩;show K (a.put o.dst v) w1;have hfam: ∀(x r:Nat) o,(famH 0 res.fam x)[r]?=some o->o∈res.fam:=fun x r o ho=>by
  unfold famH at ho;split at ho
  ·exact au ho
  simp at ho
 have hob': ∀{Y Y':Nat->Prop} (x r:Nat) o,o∈res.fam->objRel ρc (famH 0 res.fam) Y w1 x r o->objRel ρc (famH 0 res.fam) Y' w1 x r o:=fun{Y Y'} x r o hmem hob=>by
  obtain⟨z1,z2,z3⟩:=hob;refine⟨z1,z2,?_⟩;cases hr0:ρc x r with
  |none=>rw[hr0]at z3;exact z3
  |some bc=>
   obtain⟨b,n⟩:=bc;rw[hr0]at z3;obtain⟨cells,p1,p2,p3,p4,p5⟩:=z3;refine⟨cells,p1,p2,p3,p4,fun i e j z he hz=>?_⟩;obtain⟨u,u1,u2,u3⟩:=p5 i e j z he hz;exact⟨u,u1,u2,nd (hsafe.2 o hmem e (au he) z (au hz)) u3⟩
 by_cases hpl:res.plain=true
 ·rw[hdst];have:=kL (P:=P) (it:=(⟨0,f,args,res⟩:dY P)) (d:=d) (v:=v) (w1:=w1) (ρc:=ρc) h1 hsz hinv htm rfl rfl (fun h:res.fam.map (dj d)≠[]=>hd (by simpa using h)) (by rw[if_pos hpl];exact hi) (by rw[if_pos hpl];exact hr);rw[<- hdst]at this⊢;exact hK v w1 this
 have hi':iF w (fun _=>False) (Xo X ρ s.H) (famH 0 res.fam) ρc w1:=
  ⟨hi.keep,fun x r o ho=>hob' x r o (hfam x r o ho) (hi.objs x r o ho),hi.inj,fun x r o b c ho hb=>by
   have:=hi.old x r o b c ho hb;refine⟨this.1,fun hX=>?_⟩;rcases this.1 with h|h
   ·have:=hXlt b hX;omega
   exact h,fun b hb=>Nat.lt_of_lt_of_le (hXlt b hb) hi.keep.size,hi.self⟩
 have:=kL (P:=P) (it:=(⟨0,f,args,res⟩:dY P)) (d:=d) (v:=v) (w1:=w1) (ρc:=ρc) h1 hsz hinv htm rfl rfl (fun h:res.fam.map (dj d)≠[]=>hd (by simpa using h)) (by rw[if_neg hpl];exact hi') (by rw[if_neg hpl];exact vd hsafe.1 hr);rw[hdst]at hK⊢;exact hK v w1 this
end
section
variable {P:Program} {b:Nat} {ty:TypeId} {cs:List PV} {s:AS}
theorem E4 (m:Nat) {f:FuncId} {args:List TV} {res:CallRes} (hcon:CallG P b ty f args cs res) (hsafe:jl res) (items:List (be P)) (lents:List (dI P b ty cs)) {id:Nat} {ops:Array Oper} {Q:Exit->AS->List PV->Prop} (hm:m<ops.toList.length)
  (h:db P (items.map be.a) [] (bQ ops (ops.toList.take m) 0) (some s) (fun s1=>La ops m f args res s1/\db P (items.map be.a++lents.map dI.a) [] (bQ ops (ops.toList.drop (m+1)) (m+1)) (some (GV ops m res s1)) (fun s'=>Q .normal s' cs))):de P b ty (.region id ops false) Q s cs:=fun w0 O X a w r0=>by
 obtain⟨s1,h1,⟨⟨ts0,q1,q2⟩,⟨d,qd,qe⟩⟩,h2⟩:=cn P (items.map be.a) [] ops _ 0 s _ h;obtain⟨s',h3,h4⟩:=cn P _ [] ops _ (m+1) _ _ h2;obtain⟨o,ho⟩: ∃o,ops[m]?=some o:=⟨ops[m],by simp at hm;simp[hm]⟩;have hdst:o.dst=some d:=by
  unfold cwD at qd;rw[ho]at qd;exact qd
 unfold cwTs at q1;rw[ho]at q1;simp only at q1;split at q1
 ·rename_i c hg hop1;split at q1
  ·rename_i f' hcal;split at q1
   ·rename_i ts hts;injection q1 with q1
    injection q1 with q1 q3
    subst q1 q3;refine wp_region ?_;have hsz:ops.size=(ops.toList.take m).length+(1+(ops.toList.drop (m+1)).length):=by simp at hm⊢;omega
    rw[hsz,List.range_eq_range',<- List.range'_append_1,Nat.zero_add];have hml:(ops.toList.take m).length=m:=by rw[List.length_take];omega
    refine jK (be.ok items) (ops.toList.take m) 0 s s1 a w (fun j o hj=>?_) h1 r0.1 fun a' w' r'=>?_
    ·rw[List.getElem?_take]at hj;split at hj
     ·simpa using hj
     cases hj
    rw[hml,Nat.add_comm 1,List.range'_succ];simp only[wpOps,ho];rw[if_pos (by simp[Region.wanted,hg])];have rG:mp b ty w0 O X s1 cs a' w':=⟨r',r0.2⟩;refine .inl (Jg r' hop1 hcal (hcon.2 w' rG.box) hsafe hts q2 qe hdst fun v w1 hr1=>?_);refine CM items lents (Q:=fun e a' w'=> ∃s' cs',Q e s' cs'/\mp b ty w0 O X s' cs' a' w') (ops.toList.drop (m+1)) (m+1) _ s' _ _ (fun j o hj=>?_) h3 ⟨?_,r0.2⟩ (fun a' w' hr=>⟨s',cs,h4,hr⟩)
    ·rw[List.getElem?_drop]at hj;simpa using hj
    unfold GV;rw[qd];exact hr1
   cases q1
  cases q1
 cases q1
theorem tc (m:Nat) {f:FuncId} {args:List TV} {res:CallRes} (hcon:CallG P b ty f args cs res) (hsafe:jl res) (items:List (be P)) (lents:List (dI P b ty cs)) {id:Nat} {ops:Array Oper} {y:Code} {Q:Exit->AS->List PV->Prop} (hm:m<ops.toList.length)
  (h: ∀K:AS->Prop,(∀s1,(La ops m f args res s1/\ ∀K:AS->Prop,(∀s',de P b ty y Q s' cs->K s')->db P (items.map be.a++lents.map dI.a) [] (bQ ops (ops.toList.drop (m+1)) (m+1)) (some (GV ops m res s1)) K)->K s1)->db P (items.map be.a) [] (bQ ops (ops.toList.take m) 0) (some s) K):de P b ty (.seq (.region id ops false) y) Q s cs:=
 bx (E4 m hcon hsafe items lents hm (h _ fun s1 ⟨q1,q2⟩=>⟨q1,q2 _ fun _ h=>h⟩))
end
end
theorem Ev (n:Nat) (hn1:1<=n) (hn:n<=4):CallC Tryz.prog 41 [.raw (.int .i64 (n:Int))] ⟨mxI 0 n n idF,.one (.sl 0 0 0 n)⟩:=by
 refine aI Tryz.func41 rfl (by kernel_rfl) ?_;rw[Tryz.ntmps41];refine aC fun _ K=>?_;simp only[kd,ae];apply K
 refine aC fun _ K=>?_;simp(disch:=omega) only[kd,aa];apply K
 refine aD (aC fun _ K=>?_);simp only[kd,aa];apply K;refine aT (G:=jP n) (fun g=>⟨(.raw (.int .i64 (n:Int))::jk::jk::.one (.sl 6 0 0 n)::j4 (.raw (.int .i64 (n:Int))::rN g.i::j4 (j4 (j4 (jk::jk::jk::[]))))),Hm [(6,kI 6 n n g.i (qz g.i))]⟩) (fun g=>n-g.i) ⟨0,by omega⟩ ?_ ?_
 ·refine aE ⟨?_,trivial⟩ ?_
  ·show[_]=_;simp[kI,fO,mat]
  simp[wk]
 rintro⟨i,hi⟩;simp only;by_cases hm:i<n
 ·have k1:=oV (i:=i) (n:=n) 6 n hm;have k2:=i4 (i:=i) (n:=n) 6 n hi;have k3:=aU i n (qz i);have k4:=lL (i:=i) (n:=n) (c:=n) 6 (qz i) hm (fun j hj=>by unfold qz;rw[if_neg (by omega)]);have k5:=qW (i:=i+1) (k:=i) (n:=n) 6 n (by omega);have k6:=i4 (i:=i+1) (n:=n) 6 n (by omega);have k7:=bS (n:=i+1) n (qz i) (i:=i) (by omega);have k8:=aR (qz i i) hm;refine aC fun _ K=>?_;simp(disch:=omega) only[kd];apply K
  refine bu rfl ?_;refine aD (aJ ?_);refine aC fun _ K=>?_;simp only[kd];apply K
  refine aC fun _ K=>?_;simp(disch:=omega) only[kd,aa,ab,k1,ah,aw,List.all_replicate,k3,k4,af];apply K
  refine bf.weak (aE (tm:=(.raw (.int .i64 (n:Int))::jk::jk::.one (.sl 6 0 0 n)::rN i::jk::jk::jk::rN n::rN i::j4 (j4 (j4 (jk::jk::jk::[]))))) (l:=[(6,kI 6 n n (i+1) (qz i))]) ⟨?_,trivial⟩ (by simp[wk])) ?_
  ·first|exact k4|rfl
  refine aL fun _ K=>?_;simp(disch:=omega) only[kd,aa,k5,k7,k8,da];apply K
  show bf _ _ _ _;refine aL fun _ K=>?_;simp(disch:=omega) only[kd,aO];apply K
  refine⟨⟨i+1,by omega⟩,by simp only;omega,aE ⟨?_,trivial⟩ ?_⟩
  ·show _::_=_::_;rw[cj fun x y _ _=>uJ i x y]
  simp[wk]
 have hin:i=n:=by omega
 subst hin;refine aC fun _ K=>?_;simp(disch:=omega) only[kd];apply K
 refine bD rfl ?_;show bf _ _ _ _;have e:kI 6 i i i (qz i)=mxI 6 i i idF:=by
  rw[lK];show _::_=_::_;rw[cj fun x y hx _=>yx x y hx]
 rw[e];refine aC fun _ K=>?_;simp only[kd];apply K
 refine aH ⟨.inr rfl,_,b8.refl _,?_⟩;refine⟨.one (.sl 6 0 0 i),6,?_,rfl,?_,rfl⟩
 ·simp(disch:=omega) only[kd,Tryz.results41]
 exact(bZ 6 0 _ _ _).symm
abbrev Rt (n:Nat) (o:sY):TV:= .tup [(false,[.p (.sl (ls (fR fI) (mat n n (opU o))))]),(false,[.p (.raw (.bool true))])]
abbrev Rs:TV:= .tup [(false,[.p (.sl [])]),(false,[.p (.raw (.bool false))])]
def Pm (n:Nat):Option sY->TV
 |some o=>Rt n o
 |none=>Rs
structure QU (n:Nat) (f:FF) where
 i:Nat
 hi:i<=n
 ok:scanR n f n 0=scanR n f (n-i) i
def CL (i c k:Nat):Nat->Nat->Int:=fun a b=>if b=i/\a<k then cnd i c a else idF a b
theorem JY (i c:Nat):CL i c 0=idF:=by funext a b;unfold CL;rw[if_neg (by omega)]
theorem JX (i c k a b:Nat):upd (CL i c k) k i (cnd i c k) a b=CL i c (k+1) a b:=by
 unfold upd CL;by_cases h1:a=k
 ·subst h1;by_cases h2:b=i
  ·subst h2;simp
  simp[h2]
 by_cases h2:b=i
 ·have:a<k+1↔a<k:=by omega
  simp[h1,h2,this]
 simp[h1,h2]
theorem MN {i c n a b:Nat} (ha:a<n):CL i c n a b=opU (.rep i c) a b:=by
 unfold CL opU dz;by_cases h:b=i
 ·simp[h,ha]
 simp[h]
theorem Pt (k a b:Nat):swp (k+1) k idF a b=opU (.swp (k+1)) a b:=by
 show _=if b=k+1 then idF a (k+1-1)else if b=k+1-1 then idF a (k+1)else idF a b
 rw[Nat.add_sub_cancel];by_cases h1:a=k+1
 ·subst h1;by_cases h3:b=k+1
  ·subst h3;simp[swp,idF]
  by_cases h4:b=k
  ·subst h4;simp[swp,idF]
  have: ¬k=b:=fun e=>h4 e.symm
  have: ¬k+1=b:=fun e=>h3 e.symm
  simp[swp,idF, *]
 by_cases h2:a=k
 ·subst h2;by_cases h3:b=a+1
  ·subst h3;simp[swp,idF]
  by_cases h4:b=a
  ·subst h4;simp[swp,idF]
  have: ¬a=b:=fun e=>h4 e.symm
  have: ¬a+1=b:=fun e=>h3 e.symm
  simp[swp,idF, *]
 by_cases h3:b=k+1
 ·subst h3;simp[swp,idF,h1,h2]
 by_cases h4:b=k
 ·subst h4;simp[swp,idF,h1,h2]
 simp[swp,idF, *]
theorem OV (i a b:Nat):upd idF i i (-1) a b=opU (.neg i) a b:=by
 unfold upd opU dz idF;by_cases h1:a=i
 ·subst h1;by_cases h2:b=a
  ·subst h2;simp
  simp[h2]
 by_cases h2:b=i
 ·subst h2;simp[h1]
 simp[h1,h2]
theorem My (n:Nat) (f:FF) (hn1:1<=n) (hn:n<=4) (hf: ∀i j,i<n->j<n-> -1125899906842624<=f i j/\f i j<=1125899906842624):
  CallC Tryz.prog 42 [slI (mat n n f)] ⟨[],Pm n (scanR n f n 0)⟩:=by
 have hml:=aU n n f;have hU:=Ev n hn1 hn;refine aI Tryz.func42 rfl (by kernel_rfl) ?_;rw[Tryz.ntmps42];refine aC fun _ K=>?_;simp only[kd,slI,ae];apply K
 refine aF [⟨2,_,_,_,hU⟩] [] fun _ K=>?_;simp only[kd,aa,hml];apply K
 refine bf.weak (aE (tm:=(slI (mat n n f)::jk::jk::jk::.one (.sl 10 0 0 n)::j16 (j16 (j16 (j16 (j16 (j4 (j4 (j4 ([])))))))))) (l:=[(10,mxI 10 n n idF)]) ⟨bZ 0 10 _ _ _,trivial⟩ (by simp[wk])) ?_;refine aD (aC fun _ K=>?_);simp only[kd,aa,slI,hml];apply K;refine aT (G:=QU n f) (fun g=>⟨(slI (mat n n f)::jk::jk::jk::.one (.sl 10 0 0 n)::j4 (jk::jk::jk::rN n::rN g.i::j16 (j16 (j16 (j16 (j16 (jk::jk::jk::[]))))))),Hm [(10,mxI 10 n n idF)]⟩) (fun g=>n-g.i) ⟨0,by omega,rfl⟩ ?_ ?_
 ·refine aE ⟨rfl,trivial⟩ ?_;simp[wk]
 rintro⟨i,hi,ok⟩;simp only;by_cases hm:i<n
 ·obtain⟨m,hnm⟩: ∃m,n-i=m+1:=⟨n-i-1,by omega⟩;rw[hnm,scanR]at ok;have cS:=uP n f i hm hn hf;have keyS: ∀z:TV,ro n f i=z->CallC Tryz.prog 39 [slI (mat n n f),.raw (.int .i64 (i:Int))] ⟨[],z⟩:=fun z hz=>hz▸cS
  have m2:=bs n f hm;have q2:=aR (f i) hm;by_cases hsw:0<i/\f i i<f (i-1) (i-1)
  ·rw[if_pos hsw]at ok;obtain⟨k,rfl⟩: ∃k,i=k+1:=⟨i-1,by omega⟩;have hlt:=hsw.2;rw[Nat.add_sub_cancel]at hlt;have gt:(0:Int)<((k+1:Nat):Int):=by omega
   have e0:IntKind.i64.wrap (((k+1:Nat):Int)-1)=(k:Int):=by rw[show((k+1:Nat):Int)-1=(k:Int) by omega];exact aO (by omega) (by omega)
   have m1:=bs n f (show k<n by omega);have q1:=aR (f k) (show k<n by omega);have g1:=bK (n:=n) (i:=k+1) 10 n (by omega);have g2:=bK (n:=n) (i:=k) 10 n (by omega);have g4:((fO 10 (ae n n)).set (k+1) [.sl 10 (k+1) 0 n])[k]?=some [.sl 10 (k+1) 0 n]:=by
    rw[List.getElem?_set_ne (by omega),g2]
   have hsw':=I3 (d:=10) idF (show k+1<n by omega) (show k<n by omega) (by omega);rw[ok];show bf _ _ _ _;have eU:mat n n (swp (k+1) k idF)=mat n n (opU (.swp (k+1))):=dR fun a b _ _=>Pt k a b
   refine aC fun _ K=>?_;simp(disch:=omega) only[kd,slI];apply K
   refine bu rfl ?_;refine aD (aJ ?_);refine aC fun _ K=>?_;simp only[kd];apply K
   refine aD (b9 aW (by kernel_rfl) fun _ K=>?_);simp(disch:=omega) only[kd,aa,gt,m2,fR,q2,e0,m1,q1,hlt];apply K;refine aS rfl ?_;refine b9 aW (by kernel_rfl) fun _ K=>?_;simp(disch:=omega) only[kd,aa,e0,g2,g1,g4,ah,reduceCtorEq];apply K
   refine bf.weak ((si 10 (k+1+1) (k+1) (mxI 10 n n (swp (k+1) k idF)) hsw').trans (aE (tm:=(j4 (.one (.sl 10 0 0 n)::j16 (j16 (j16 (j16 (j16 (j4 (j4 (j4 ([]))))))))))) (l:=[(10,mxI 10 n n (swp (k+1) k idF))]) ⟨rfl,trivial⟩ (by simp[wk,Gz,k9,pN,sw]))) ?_;refine bf.weak ((bC 10 (bU (d:=10) (n:=n) (c:=n) (f:=swp (k+1) k idF) rfl)).trans (aE (tm:=(j4 (slI (mat n n (opU (.swp (k+1))))::j16 (j16 (j16 (j16 (j16 (j4 (j4 (j4 ([]))))))))))) (l:=[]) trivial (by
    simp[wk];rw[<- eU];exact(gD (H:=Hm [(10,mxI 10 n n (swp (k+1) k idF))]) (d:=10) (n:=n) (c:=n) (f:=swp (k+1) k idF) rfl).symm))) ?_
   refine aC fun _ K=>?_;simp only[kd,aa,slI];apply K
   (refine aH ⟨.inr rfl,aG rfl ?_ rfl⟩;simp(disch:=omega) only[kd,Tryz.results42,Pm])
  rw[if_neg hsw]at ok;refine aC fun _ K=>?_;simp(disch:=omega) only[kd,slI];apply K
  refine bu rfl ?_;refine aD (aJ ?_);refine aC fun _ K=>?_;simp only[kd];apply K
  refine aD (jc (S:=⟨(slI (mat n n f)::jk::jk::jk::.one (.sl 10 0 0 n)::rN i::j4 (jk::jk::rN n::rN i::j16 (j16 (j16 (j16 (j16 (jk::jk::jk::[]))))))),Hm [(10,mxI 10 n n idF)]⟩) ?_ ?_)
  ·cases i with
   |zero=>
    refine b9 aW (by kernel_rfl) fun _ K=>?_;simp(disch:=omega) only[kd,aa];apply K
    refine aN rfl (aK (aE ⟨rfl,trivial⟩ ?_));simp[wk]
   |succ k=>
    have hlt: ¬f (k+1) (k+1)<f k k:=fun h=>hsw ⟨by omega,by rw[Nat.add_sub_cancel];exact h⟩
    have gt:(0:Int)<((k+1:Nat):Int):=by omega
    have e0:IntKind.i64.wrap (((k+1:Nat):Int)-1)=(k:Int):=by rw[show((k+1:Nat):Int)-1=(k:Int) by omega];exact aO (by omega) (by omega)
    have m1:=bs n f (show k<n by omega);have q1:=aR (f k) (show k<n by omega);refine b9 aW (by kernel_rfl) fun _ K=>?_;simp(disch:=omega) only[kd,aa,gt,m2,fR,q2,e0,m1,q1,hlt];apply K
    refine aN rfl (aK (aE ⟨rfl,trivial⟩ ?_));simp[wk]
  have g1:=bK (n:=n) (i:=i) 10 n hm;cases hF:lJ n f i with
  |some c=>
   rw[hF]at ok;have cS:=keyS (.one (.p (.sl (ls fI (bz n (cnd i c)))))) (by unfold ro;rw[hF]);obtain⟨y,l,hyl⟩: ∃y l,ls fI (bz n (cnd i c))=y::l:=by
    cases hq:ls fI (bz n (cnd i c))with
    |nil=>have:=congrArg List.length hq;rw[dW,bv]at this;simp at this;omega
    |cons y l=>exact⟨y,l,rfl⟩
   rw[hyl]at cS;rw[ok];show bf _ _ _ _;refine aD (aF [⟨2,_,_,_,cS⟩] [] fun _ K=>?_);simp only[kd,slI,aa];apply K;refine aC fun _ K=>?_;simp only[kd];apply K
   refine aS rfl ?_;refine bf.weak (aE (tm:=(slI (mat n n f)::jk::jk::jk::.one (.sl 10 0 0 n)::rN i::iC (bz n (cnd i c))::j16 (j16 (j16 (j16 (j16 (j4 (j4 (jk::jk::[]))))))))) (l:=[(10,mxI 10 n n idF)]) ⟨rfl,trivial⟩ (by simp[wk,iC,hyl])) ?_;refine aD (aC fun _ K=>?_);simp only[kd,aa,slI,iC,bv];apply K;refine aT (G:=jP n) (fun g=>⟨(slI (mat n n f)::jk::jk::jk::.one (.sl 10 0 0 n)::rN i::iC (bz n (cnd i c))::j16 (j16 (j16 (j4 (jk::rN n::rN g.i::j16 (j16 (jk::jk::jk::[]))))))),Hm [(10,mxI 10 n n (CL i c g.i))]⟩) (fun g=>n-g.i) ⟨0,by omega⟩ ?_ ?_
   ·refine aE ⟨?_,trivial⟩ ?_
    ·show _=mxI 10 n n (CL i c 0);rw[JY];rfl
    simp[wk]
   rintro⟨j,hj⟩;simp only;by_cases hjn:j<n
   ·have g2:=bK (n:=n) (i:=j) 10 n hjn;have r1:=bS (n:=n) n (CL i c j) (i:=j) hjn;have q1:=aR (CL i c j j) hm;have q3:=aR (cnd i c) hjn;refine aC fun _ K=>?_;simp(disch:=omega) only[kd,slI,iC];apply K
    refine bu rfl ?_;refine aD (aJ ?_);refine aC fun _ K=>?_;simp only[kd];apply K
    refine fH aW (by kernel_rfl) fun _ K=>?_;simp(disch:=omega) only[kd,aa,g2,q3,r1,q1,da];apply K
    show bf _ _ _ _;refine aL fun _ K=>?_;simp(disch:=omega) only[kd,aO];apply K
    refine⟨⟨j+1,by omega⟩,by simp only;omega,aE ⟨?_,trivial⟩ ?_⟩
    ·show _::_=_::_;rw[cj fun x y _ _=>JX i c j x y]
    simp[wk]
   have hjn':j=n:=by omega
   subst hjn';have eU:mat j j (CL i c j)=mat j j (opU (.rep i c)):=dR fun a b ha _=>MN ha
   refine aC fun _ K=>?_;simp(disch:=omega) only[kd,slI,iC];apply K
   refine bD rfl ?_;show bf _ _ _ _;refine bf.weak ((bC 10 (bU (d:=10) (n:=j) (c:=j) (f:=CL i c j) rfl)).trans (aE (tm:=(j4 (slI (mat j j (opU (.rep i c)))::j16 (j16 (j16 (j16 (j16 (j4 (j4 (j4 ([]))))))))))) (l:=[]) trivial (by
    simp[wk];rw[<- eU];exact(gD (H:=Hm [(10,mxI 10 j j (CL i c j))]) (d:=10) (n:=j) (c:=j) (f:=CL i c j) rfl).symm))) ?_
   refine aC fun _ K=>?_;simp only[kd,aa,slI];apply K
   (refine aH ⟨.inr rfl,aG rfl ?_ rfl⟩;simp(disch:=omega) only[kd,Tryz.results42,Pm])
  |none=>
   rw[hF]at ok;have cS:=keyS (.raw (.slice none 0 0)) (by unfold ro;rw[hF]);refine aD (aF [⟨2,_,_,_,cS⟩] [] fun _ K=>?_);simp only[kd,slI,aa];apply K;refine aC fun _ K=>?_;simp only[kd];apply K
   refine aN rfl (aK ?_);show bf _ _ _ _;by_cases hng:0<i/\f (i-1) i<0
   ·rw[if_pos hng]at ok;rw[ok];show bf _ _ _ _;obtain⟨k,rfl⟩: ∃k,i=k+1:=⟨i-1,by omega⟩;have hlt:=hng.2;rw[Nat.add_sub_cancel]at hlt;have gt:(0:Int)<((k+1:Nat):Int):=by omega
    have e0:IntKind.i64.wrap (((k+1:Nat):Int)-1)=(k:Int):=by rw[show((k+1:Nat):Int)-1=(k:Int) by omega];exact aO (by omega) (by omega)
    have m1:=bs n f (show k<n by omega);have q1:=aR (f k) hm;have r1:=bS (n:=n) n idF (i:=k+1) hm;have q3:=aR (idF (k+1)) hm;have eU:mat n n (upd idF (k+1) (k+1) (-1))=mat n n (opU (.neg (k+1))):=dR fun a b _ _=>OV (k+1) a b
    refine aC fun _ K=>?_;simp(disch:=omega) only[kd,aa,gt,e0,m1,fR,q1,hlt];apply K
    refine aS rfl ?_;refine aC fun _ K=>?_;simp(disch:=omega) only[kd,aa,g1,r1,q3,da];apply K
    refine bf.weak ((bC 10 (bU (d:=10) (n:=n) (c:=n) (f:=upd idF (k+1) (k+1) (-1)) rfl)).trans (aE (tm:=(j4 (slI (mat n n (opU (.neg (k+1))))::j16 (j16 (j16 (j16 (j16 (j4 (j4 (j4 ([]))))))))))) (l:=[]) trivial (by
     simp[wk];rw[<- eU];exact(gD (H:=Hm [(10,mxI 10 n n (upd idF (k+1) (k+1) (-1)))]) (d:=10) (n:=n) (c:=n) (f:=upd idF (k+1) (k+1) (-1)) rfl).symm))) ?_
    refine aC fun _ K=>?_;simp only[kd,aa,slI];apply K
    (refine aH ⟨.inr rfl,aG rfl ?_ rfl⟩;simp(disch:=omega) only[kd,Tryz.results42,Pm])
   rw[if_neg hng]at ok;cases i with
   |zero=>
    refine aC fun _ K=>?_;simp(disch:=omega) only[kd,aa];apply K
    refine aN rfl (aK ?_);show bf _ _ _ _;refine aL fun _ K=>?_;simp(disch:=omega) only[kd,aO];apply K
    refine⟨⟨0+1,by omega,?_⟩,by simp only;omega,aE ⟨rfl,trivial⟩ ?_⟩
    ·rw[ok,show n-(0+1)=m by omega]
    simp[wk]
   |succ k=>
    have hlt: ¬f k (k+1)<0:=fun h=>hng ⟨by omega,by rw[Nat.add_sub_cancel];exact h⟩
    have gt:(0:Int)<((k+1:Nat):Int):=by omega
    have e0:IntKind.i64.wrap (((k+1:Nat):Int)-1)=(k:Int):=by rw[show((k+1:Nat):Int)-1=(k:Int) by omega];exact aO (by omega) (by omega)
    have m1:=bs n f (show k<n by omega);have q1:=aR (f k) hm;refine aC fun _ K=>?_;simp(disch:=omega) only[kd,aa,gt,e0,m1,fR,q1,hlt];apply K
    refine aN rfl (aK ?_);show bf _ _ _ _;refine aL fun _ K=>?_;simp(disch:=omega) only[kd,aO];apply K
    refine⟨⟨(k+1)+1,by omega,?_⟩,by simp only;omega,aE ⟨rfl,trivial⟩ ?_⟩
    ·rw[ok,show n-((k+1)+1)=m by omega]
    simp[wk]
 have hin:i=n:=by omega
 subst hin;rw[Nat.sub_self,scanR]at ok;rw[ok];show bf _ _ _ _;refine aC fun _ K=>?_;simp(disch:=omega) only[kd,slI];apply K
 refine bD rfl ?_;show bf _ _ _ _;refine aC fun _ K=>?_;simp only[kd];apply K
 refine bf.weak (Do 2 rfl) ?_
 (refine aH ⟨.inr rfl,aG rfl ?_ rfl⟩;simp(disch:=omega) only[kd,Tryz.results42,Pm])
theorem Mc {n c i:Nat} (g:FF) (h:Nat->Int):((mat n c g).map mn).set i ⟨42,2,lc fZ (bz c h)⟩=(mat n c (fun r=>if r=i then h else g r)).map mn:=by
 rw[<- yg,List.map_set];rfl
theorem Gf (f:FF) (i a b:Nat):(fun r=>if r=i then f i else part f i 0 r) a b=part f (i+1) 0 a b:=by
 by_cases e:a=i
 ·subst e;simp[part]
 by_cases h:a<i
 ·simp[part,e,h,show a<i+1 by omega]
 simp[part,e,h,show ¬a<i+1 by omega]
theorem uE (n:Nat) (f:FF) (hn1:1<=n) (hn:n<=16) (hf: ∀i j,i<n->j<n->Sz (f i j) 1024):
  CallC Tryz.prog 160 [slM (mat n n f)] ⟨[],tZ (detF n f)⟩:=by
 have hml:=aU n n f;refine aI Tryz.func160 rfl (by kernel_rfl) ?_;rw[Tryz.ntmps160];refine aC fun _ K=>?_;simp(disch:=omega) only[kd,slM,ae,aa];apply K
 refine aC fun _ K=>?_;simp only[kd,aa,hml];apply K
 refine aC fun _ K=>?_;simp(disch:=omega) only[kd,aa,ab];apply K
 refine aD (aC fun _ K=>?_);simp only[kd,aa,hml];apply K;refine aT (G:=jP n) (fun g=>⟨(jk::jk::.one (.ptr 2 0 0 0)::rN n::.one (.sl 18 0 0 n)::j4 (j4 (j4 (jk::jk::slM (mat n n f)::rN n::rN g.i::j16 (j16 (j16 (j16 (j16 (j16 (j16 (j4 (j4 (j4 (jk::jk::jk::[])))))))))))))),Hm [(2,qL),(18,Bj 18 n n g.i (part f g.i 0))]⟩) (fun g=>n-g.i) ⟨0,by omega⟩ ?_ ?_
 ·refine(eK 18).trans (aE ⟨rfl,wv 18 n n _,trivial⟩ ?_);simp[wk]
 rintro⟨i,hi⟩;simp only;by_cases hm:i<n
 ·have hr:=bs n f hm;have hg:=yW (d:=18) (c:=n) hm;refine aC fun _ K=>?_;simp(disch:=omega) only[kd,slM];apply K
  refine bu rfl ?_;refine aD (aJ ?_);refine aC fun _ K=>?_;simp(disch:=omega) only[kd,aa,hr,fR];apply K
  simp only[Bj];refine aC fun _ K=>?_;simp(disch:=omega) only[kd,aa,ab,hg,ah,aw,List.all_replicate,aU,af];apply K
  refine bf.weak ((eK 18).trans (aE (tm:=(jk::jk::.one (.ptr 2 0 0 0)::rN n::.one (.sl 18 0 0 n)::rN i::.one (.p (.sl (ls fZ (bz n (f i)))))::j4 (j4 (j4 (slM (mat n n f)::rN n::rN i::j16 (j16 (j16 (j16 (j16 (j16 (j16 (j4 (j4 (j4 (jk::jk::jk::[]))))))))))))))) (l:=[(2,qL),(18,Bj 18 n n (i+1) (part f i 0))]) ⟨rfl,zG (part f i 0) hm (fun b _=>by simp[part]),trivial⟩ (by simp[wk]))) ?_;have a1:=Dy (d:=18) (n:=n) (c:=n) (show i<i+1 by omega);have a2:=Dz (d:=18) (n:=n) (c:=n) (show i+1<=n by omega);have a3:=em (n:=i+1) n (part f i 0) (show i<i+1 by omega);simp only[Bj];refine EZ 5 84 42 (.one (.p (.sl (ls fZ (bz n (f i)))))) n 18 (i+1) ⟨42,2,lc fZ (bz n (part f i 0 i))⟩ (lc fZ (bz n (f i))) [] [] (by simp only[vE]) (by simp only[qx]) (by omega) (by simp[uh,bv]) (by intro e he;obtain⟨z,_,rfl⟩:=List.mem_map.1 he;rfl) (by simp[wk]) (by decide) fun K hK=>?_
  simp(disch:=omega) only[kd,aa,slM,ab,a1];apply hK;clear hK K;refine⟨⟨rfl,a3,by simp[newsOf,IV],by simp[uh,bv]⟩,by simp,?_⟩;intro K hK;simp only[kd,aa,GW,cwD,ab];apply hK;clear hK K;show bf _ _ _ _;refine aL fun _ K=>?_;simp(disch:=omega) only[kd,aO];apply K
  refine⟨⟨i+1,by omega⟩,by simp only;omega,aE ⟨rfl,?_,trivial⟩ ?_⟩
  ·show _::_=_::_;rw[Mc,cx fun a b _ _=>Gf f i a b]
  simp[wk]
 have hin:i=n:=by omega
 subst i;have hS:=uc 1 (by omega) (by omega);rw[zF];have e:gK 18 n n (part f n 0)=gK 18 n n f:=by
  show _::_=_::_;rw[cx fun a b ha _=>jG f a b ha]
 rw[e];refine aC fun _ K=>?_;simp(disch:=omega) only[kd,slM];apply K
 refine bD rfl ?_;show bf _ _ _ _;refine aC fun _ K=>?_;simp only[kd];apply K
 refine aF [⟨0,_,_,_,hS⟩] [] fun _ K=>?_;simp(disch:=omega) only[kd,tZ,aa,ab];apply K
 refine aD (aC fun _ K=>?_);simp only[kd];apply K;refine aT (G:=Rg n f) (fun g=>⟨(jk::jk::.one (.ptr 2 0 0 0)::rN n::.one (.sl 18 0 0 n)::jk::jk::.raw (.bool g.neg)::.one (.ptr 8 0 0 0)::j16 (j4 (j4 (j4 (jk::jk::rN n::rN g.k::j16 (j16 (j16 (j16 (j16 (j16 (j4 (j4 (j4 ([])))))))))))))),Hm [(2,qL),(8,qy g.last),(18,gK 18 n n g.g)]⟩) (fun g=>n-g.k) ⟨0,f,1,false,1024,by omega,rfl,by omega,by omega,hf,l4 (by omega)⟩ ?_ ?_
 ·refine aE ⟨rfl,rfl,rfl,trivial⟩ ?_;simp[wk]
 rintro⟨k,g,last,neg,b,hk,hv,hl,hb,sgz,slz⟩;simp only;by_cases hm:k<n
 ·have h2k:=ip (k:=k) (by omega);have hbb:b<=67174400:=by omega
  have hvk:detG n k g last neg=if piv g n k k=n then 0 else detG n (k+1) (Jf k last (K6 n k g)) (K6 n k g k k) (neg !=decide (k<piv g n k k)):=by rw[detG,if_pos hm]
  refine aC fun _ K=>?_;simp(disch:=omega) only[kd];apply K
  refine bu rfl ?_;refine aD (aJ ?_);refine aC fun _ K=>?_;simp only[kd];apply K
  refine aC fun _ K=>?_;simp only[kd];apply K
  refine aD (jc (S:=⟨(jk::jk::.one (.ptr 2 0 0 0)::rN n::.one (.sl 18 0 0 n)::jk::jk::.raw (.bool neg)::.one (.ptr 8 0 0 0)::rN k::.raw (.int .i64 ((piv g n k k:Nat):Int))::j16 (j4 (j4 (j4 (.raw (.int .i64 (n:Int))::rN k::j16 (j16 (j16 (j16 (j16 (j16 (j4 (j4 (j4 ([])))))))))))))),Hm [(2,qL),(8,qy last),(18,gK 18 n n g)]⟩) ?_ ?_)
  ·refine aT (G:=Rj n k g) (fun q=>⟨(jk::jk::.one (.ptr 2 0 0 0)::rN n::.one (.sl 18 0 0 n)::jk::jk::.raw (.bool neg)::.one (.ptr 8 0 0 0)::rN k::rN q.p::j16 (j4 (j4 (j4 (.raw (.int .i64 (n:Int))::rN k::j16 (j16 (j16 (j16 (j16 (j16 (j4 (j4 (j4 ([])))))))))))))),Hm [(2,qL),(8,qy last),(18,gK 18 n n g)]⟩) (fun q=>n-q.p) ⟨k,by omega,by omega,rfl⟩ ?_ ?_
   ·refine aE ⟨rfl,rfl,rfl,trivial⟩ ?_;simp[wk]
   rintro⟨p,hkp,hp,hpv⟩;simp only;by_cases hpn:p<n
   ·have g1:=bK (n:=n) (i:=p) 18 n hpn;have g2:=em n g hpn;have g3:=aR (g p) hm;have hSg:=pL (g p k) ((sgz p k hpn hm).mono (by omega));by_cases h0:g p k=0
    ·rw[h0]at hSg g3;refine aD (aF [⟨11,_,_,_,hSg⟩] [] fun _ K=>?_);simp(disch:=omega) only[kd,tZ,sN,aa,ab,g1,g2,fZ,g3];apply K;refine aS rfl (aK ?_);refine aJ ?_;refine aL fun _ K=>?_;simp(disch:=omega) only[kd,aa,aO];apply K
     refine⟨⟨p+1,by omega,by omega,?_⟩,by simp only;omega,aE ⟨rfl,rfl,rfl,trivial⟩ ?_⟩
     ·rw[<- hpv,rc hpn h0]
     simp[wk]
    have hs0:=EA h0;refine aD (aF [⟨11,_,_,_,hSg⟩] [] fun _ K=>?_);simp(disch:=omega) only[kd,tZ,aa,ab,g1,g2,fZ,g3];apply K;refine aN rfl (bE ?_);show b8 _ _;have hpe:piv g n k k=p:=by rw[<- hpv,rb hpn h0]
    refine aE ⟨rfl,rfl,rfl,trivial⟩ ?_;simp[wk,hpe]
   have hpe:piv g n k k=p:=by rw[<- hpv,nZ hpn];omega
   refine aD (aC fun _ K=>?_);simp(disch:=omega) only[kd,aa];apply K;refine aN rfl (bE ?_);show b8 _ _;refine aE ⟨rfl,rfl,rfl,trivial⟩ ?_;simp[wk,hpe]
  have hpl:=yw (f:=g) (n:=n) (k:=k) (n-k) k rfl;have hpn':=CB (f:=g) (n:=n) (k:=k) (n-k) k rfl;generalize hpp:piv g n k k=p at*
  by_cases hpn:p=n
  ·rw[if_pos hpn]at hvk;refine aD (aC fun _ K=>?_);simp(disch:=omega) only[kd,aa];apply K;refine aS rfl ?_;refine aC fun _ K=>?_;simp(disch:=omega) only[kd,ab,aa];apply K
   refine bf.weak (eK 2) ?_;refine aH ⟨.inr rfl,aG rfl ?_ rfl⟩;rw[<- hv,hvk];simp(disch:=omega) only[kd,Tryz.results160,zH,ab,zO,yV,y9,aa,tZ];simp[ci,ls]
  rw[if_neg hpn]at hvk;obtain⟨hkp,hpk0⟩:=hpn' (by omega);refine aD (aC fun _ K=>?_);simp(disch:=omega) only[kd,aa];apply K;refine aN rfl (aK ?_);show bf _ _ _ _;refine aD (aC fun _ K=>?_);simp only[kd,aa];apply K;refine jc (S:=⟨(jk::jk::.one (.ptr 2 0 0 0)::rN n::.one (.sl 18 0 0 n)::jk::jk::.raw (.bool (neg !=decide (k<p)))::.one (.ptr 8 0 0 0)::rN k::j16 (j4 (j4 (j4 (jk::rN n::rN k::j16 (j16 (j16 (j16 (j16 (j16 (j4 (j4 (j4 ([])))))))))))))),Hm [(2,qL),(8,qy last),(18,gK 18 n n (swp p k g))]⟩) ?_ ?_
  ·by_cases hlt:k<p
   ·have g1:=bK (n:=n) (i:=p) 18 n (by omega);have g2:=bK (n:=n) (i:=k) 18 n (by omega);refine bP rfl (fun _=>?_) (fun h=>by simp at h<;>omega);have g4:((fO 18 (ae n n)).set k [.sl 18 (p+1) 0 n])[p]?=some [.sl 18 (p+1) 0 n]:=by
     rw[List.getElem?_set_ne (by omega),g1]
    have hsw:=yl (d:=18) g (by omega:p<n) hm (by omega);rw[List.set_comm _ _ (by omega:p≠k)]at hsw;refine b9 aW (by kernel_rfl) fun _ K=>?_;simp(disch:=omega) only[kd,aa,ab,g1,g2,g4,ah,reduceCtorEq];apply K
    refine aL fun _ K=>?_;simp only[kd,aa];apply K
    refine(si 18 (p+1) (k+1) (gK 18 n n (swp p k g)) hsw).trans (aE ⟨rfl,rfl,rfl,trivial⟩ ?_);simp[wk,Gz,k9,pN,sw,hlt]
   have hpk:p=k:=by omega
   subst hpk;refine bP rfl (fun h=>by simp at h<;>omega) (fun _=>aK ?_);show b8 _ _;rw[qr];refine aE ⟨rfl,rfl,rfl,trivial⟩ ?_;simp[wk]
  rw[K6,hpp]at hvk;have hkk:swp p k g k k≠0:=by
   unfold swp;by_cases h:k=p
   ·subst h;rw[if_pos rfl];exact hpk0
   rw[if_neg h,if_pos rfl];exact hpk0
  have hsz: ∀i j,i<n->j<n->Sz (swp p k g i j) b:=fun i j hi hj=>by
   unfold swp;split
   ·exact sgz k j hm hj
   split
   ·exact sgz p j (by omega) hj
   exact sgz i j hi hj
  generalize swp p k g=g' at*
  generalize(neg !=decide (k<p))=neg' at*
  have b2:=bK (n:=n) (i:=k) 18 n hm;have b4:=em n g' hm;have b5:=aR (g' k) hm;refine aC fun _ K=>?_;simp(disch:=omega) only[kd,aa,ab,b2,b4,fZ,b5];apply K
  refine aD (aC fun _ K=>?_);simp(disch:=omega) only[kd,aa,aO];apply K;refine aT (G:=QB n k) (fun q=>⟨(jk::jk::.one (.ptr 2 0 0 0)::rN n::.one (.sl 18 0 0 n)::jk::jk::.raw (.bool neg')::.one (.ptr 8 0 0 0)::rN k::jk::.one (.ptr 11 0 0 0)::rN q.i::j16 (j4 (j4 (jk::jk::rN n::rN k::j16 (j16 (j16 (j16 (j16 (j16 (j4 (j4 (j4 ([]))))))))))))),Hm [(2,qL),(8,qy last),(11,qy (g' k k)),(18,gK 18 n n (d6 k last g' q.i (k+1)))]⟩) (fun q=>n-q.i) ⟨k+1,by omega,by omega⟩ ?_ ?_
  ·rw[Em];refine aE ⟨rfl,rfl,rfl,rfl,trivial⟩ ?_;simp[wk]
  rintro⟨i,hki,hin⟩;simp only;by_cases hi:i<n
  ·refine aD (aC fun _ K=>?_);simp(disch:=omega) only[kd,aa];apply K;refine aS rfl (aK ?_);refine aD (aJ ?_);refine aC fun _ K=>?_;simp(disch:=omega) only[kd,aa,aO];apply K
   refine aT (G:=QB n k) (fun q=>⟨(jk::jk::.one (.ptr 2 0 0 0)::rN n::.one (.sl 18 0 0 n)::jk::jk::.raw (.bool neg')::.one (.ptr 8 0 0 0)::rN k::jk::.one (.ptr 11 0 0 0)::rN i::rN q.i::j16 (j4 (j4 (jk::rN n::rN k::j16 (j16 (j16 (j16 (j16 (j16 (j4 (j4 (j4 ([]))))))))))))),Hm [(2,qL),(8,qy last),(11,qy (g' k k)),(18,gK 18 n n (d6 k last g' i q.i))]⟩) (fun q=>n-q.i) ⟨k+1,by omega,by omega⟩ ?_ ?_
   ·refine aE ⟨rfl,rfl,rfl,rfl,trivial⟩ ?_;simp[wk]
   rintro⟨j,hkj,hjn⟩;simp only;by_cases hj:j<n
   ·have a1:=bK (n:=n) (i:=i) 18 n hi;have a2:=bK (n:=n) (i:=k) 18 n hm;have a3:=em n (d6 k last g' i j) hi;have a4:=em n (d6 k last g' i j) hm;have a5:(bz n (d6 k last g' i j k))[k]?=some (g' k k):=by rw[aR _ hm,iz _ _ (by omega)]
    have a6:(bz n (d6 k last g' i j i))[j]?=some (g' i j):=by rw[aR _ hj,iz _ _ (by omega)]
    have a7:(bz n (d6 k last g' i j i))[k]?=some (g' i k):=by rw[aR _ hm,iz _ _ (by omega)]
    have a8:(bz n (d6 k last g' i j k))[j]?=some (g' k j):=by rw[aR _ hj,iz _ _ (by omega)]
    have z1:=hsz k k hm hm;have z2:=hsz i j hi hj;have z3:=hsz i k hi hm;have z4:=hsz k j hm hj;have c1:=x7 (g' k k) (g' i j) (z1.mono (by omega)) (z2.mono (by omega));have c2:=x7 (g' i k) (g' k j) (z3.mono (by omega)) (z4.mono (by omega));have c3:=IH (g' k k*g' i j) (g' i k*g' k j) ((z1.mul z2).mono (by omega)) ((z3.mul z4).mono (by omega));have c4:=wI (g' k k*g' i j-g' i k*g' k j) last hl (((z1.mul z2).sub (z3.mul z4)).mono (by omega)) (slz.mono (by omega));refine aD (aC fun _ K=>?_);simp(disch:=omega) only[kd,aa];apply K;refine aS rfl (aK ?_);refine aD (aJ ?_);refine bo aW [⟨8,_,_,_,c1⟩,⟨23,_,_,_,c2⟩,⟨24,_,_,_,c3⟩] [] (by kernel_rfl) fun _ K=>?_;simp(disch:=omega) only[kd,tZ,aa,ab,a1,a3,fZ,a6,a7,a2,a4,a8,af];apply K
    refine d8 aW [⟨7,_,_,_,c4⟩] [] (by kernel_rfl) fun _ K=>?_;simp(disch:=omega) only[kd,tZ,cZ,aa,ab,a1,a3,fZ,a6,j7];apply K
    show bf _ _ _ _;refine aL fun _ K=>?_;simp(disch:=omega) only[kd,aa,aO];apply K
    refine⟨⟨j+1,by omega,by omega⟩,by simp only;omega,aE ⟨rfl,rfl,rfl,?_,trivial⟩ ?_⟩
    ·show _::_=_::_;rw[cx fun a b _ _=>El last g' hki hkj a b]
    simp[wk]
   have hjn':j=n:=by omega
   subst hjn';refine aD (aC fun _ K=>?_);simp(disch:=omega) only[kd,aa];apply K;refine aN rfl (bE ?_);show bf _ _ _ _;refine aL fun _ K=>?_;simp(disch:=omega) only[kd,aa,aO];apply K
   refine⟨⟨i+1,by omega,by omega⟩,by simp only;omega,aE ⟨rfl,rfl,rfl,?_,trivial⟩ ?_⟩
   ·show _::_=_::_;rw[cx fun a b _ hb=>Je last g' i a b hb]
   simp[wk]
  have hin':i=n:=by omega
  subst hin';have a2:=bK (n:=i) (i:=k) 18 i hm;have a4:=em i (d6 k last g' i (k+1)) hm;have a5:(bz i (d6 k last g' i (k+1) k))[k]?=some (g' k k):=by rw[aR _ hm,iz _ _ (by omega)]
  refine aD (aC fun _ K=>?_);simp(disch:=omega) only[kd,aa];apply K;refine aN rfl (bE ?_);show bf _ _ _ _;refine aL fun _ K=>?_;simp(disch:=omega) only[kd,ab,aa];apply K
  show bf _ _ _ _;refine aL fun _ K=>?_;simp(disch:=omega) only[kd,aO];apply K
  refine⟨⟨k+1,Jf k last g',g' k k,neg',2*b+1,by omega,by rw[<- hvk,hv],hkk,by rw[Nat.pow_succ];omega,fun x y hx hy=>?_,(hsz k k hm hm).mono (by omega)⟩,by simp only;omega,aE ⟨rfl,rfl,?_,trivial⟩ ?_⟩
  ·unfold Jf;split
   ·exact((((hsz k k hm hm).mul (hsz x y hx hy)).sub ((hsz x k hx hm).mul (hsz k y hm hy))).ediv last).mono (by omega)
   exact(hsz x y hx hy).mono (by omega)
  ·show _::_=_::_;rw[cx fun a b ha _=>Jd last g' a b ha]
  simp[wk]
 have hkn:k=n:=by omega
 subst hkn;rw[detG,if_neg hm]at hv;have h2k:=ip (k:=k) hn;have hN:=OO last (slz.mono (by omega));have hNo:=pJ last (slz.mono (by omega));refine aC fun _ K=>?_;simp(disch:=omega) only[kd];apply K
 refine bD rfl ?_;show bf _ _ _ _;refine aD (aC fun _ K=>?_);simp only[kd];apply K;cases neg with
 |true=>
  rw[if_pos rfl]at hv;refine aS rfl ?_;refine aF [⟨1,_,_,_,hN⟩] [] fun _ K=>?_;simp(disch:=omega) only[kd,tZ,aa,ab];apply K
  rw[<- hv]
  (refine aH ⟨.inr rfl,aG rfl ?_ rfl⟩;simp(disch:=omega) only[kd,Tryz.results160,ab,aa,tZ])
 |false=>
  rw[if_neg (by simp)]at hv;refine aN rfl (aK ?_);show bf _ _ _ _;refine aF [⟨1,_,_,_,hNo⟩] [] fun _ K=>?_;simp(disch:=omega) only[kd,tZ,aa,ab];apply K
  rw[<- hv]
  (refine aH ⟨.inr rfl,aG rfl ?_ rfl⟩;simp(disch:=omega) only[kd,Tryz.results160,ab,aa,tZ])
abbrev oS (z:Int) (b:Bool):TV:= .tup [(true,cZ z),(false,[.p (.raw (.bool b))])]
theorem DA:cZ 0=[.p (.raw (.bool false)),.p (.sl [])]:=by unfold cZ;rw[show(0:Int).natAbs=0 from rfl,ci];rfl
theorem OT (n:Nat) (f:FF) (hn1:1<=n) (hn:n<=16) (hf: ∀i j,i<n->j<n->Sz (f i j) 1024):
  CallC Tryz.prog 139 [slM (mat n n f)] ⟨[],oS (detF n f) true⟩:=by
 have hS:=vm (mat n n f);rw[fW (iy f hn1 hn hn1 hn),aU,fb f hn1]at hS;have hD:=uE n f hn1 hn hf;generalize detF n f=d at*
 refine aI Tryz.func139 rfl (by kernel_rfl) ?_;rw[Tryz.ntmps139];refine aC fun _ K=>?_;simp(disch:=omega) only[kd,slM,ae,aa];apply K
 refine aF [⟨1,_,_,_,hS⟩] [] fun _ K=>?_;simp only[kd,slM,aa];apply K
 refine aD (aC fun _ K=>?_);simp(disch:=omega) only[kd,aa];apply K;refine aN rfl (aK ?_);show bf _ _ _ _;refine aF [⟨1,_,_,_,hD⟩] [] fun _ K=>?_;simp(disch:=omega) only[kd,slM,tZ,aa];apply K
 (refine aH ⟨.inr rfl,aG rfl ?_ rfl⟩;simp(disch:=omega) only[kd,Tryz.results139,aa,oS,cZ])
theorem L8 (n c:Nat) (f:FF) (hn1:1<=n) (hn:n<=16) (hc1:1<=c) (hc:c<=16) (hne:n≠c):
  CallC Tryz.prog 139 [slM (mat n c f)] ⟨[],oS 0 false⟩:=by
 have hS:=vm (mat n c f);rw[fW (iy f hn1 hn hc1 hc),aU,fb f hn1]at hS;rw[oS,DA];refine aI Tryz.func139 rfl (by kernel_rfl) ?_;rw[Tryz.ntmps139];refine aC fun _ K=>?_;simp(disch:=omega) only[kd,slM,ae,aa];apply K
 refine aF [⟨1,_,_,_,hS⟩] [] fun _ K=>?_;simp only[kd,slM,aa];apply K
 refine aD (aC fun _ K=>?_);simp(disch:=omega) only[kd,aa];apply K;refine aS rfl ?_;refine aC fun _ K=>?_;simp(disch:=omega) only[kd,aa];apply K
 refine bf.weak (eK 2) ?_;refine aH ⟨.inr rfl,aG rfl ?_ rfl⟩;simp(disch:=omega) only[kd,Tryz.results139,zH,zO,yV,y9,aa]
theorem O6 (n:Nat) (f:FF) (hn1:1<=n) (hn:n<=16) (hf: ∀i j,i<n->j<n->Sz (f i j) 1024):
  CallC Tryz.prog 127 [slM (mat n n f)] ⟨[],oS (detF n f) true⟩:=by
 have hS:=pw (mat n n f);rw[yM f hn1 hn]at hS;have hD:=f7 n f hn1 hn hf;generalize detF n f=d at*
 refine aI Tryz.func127 rfl (by kernel_rfl) ?_;rw[Tryz.ntmps127];refine aC fun _ K=>?_;simp(disch:=omega) only[kd,slM,ae,aa];apply K
 refine aD (aF [⟨1,_,_,_,hS⟩] [] fun _ K=>?_);simp only[kd,slM,aa];apply K;refine aC fun _ K=>?_;simp only[kd];apply K
 refine aN rfl (aK ?_);show bf _ _ _ _;refine aF [⟨1,_,_,_,hD⟩] [] fun _ K=>?_;simp(disch:=omega) only[kd,slM,tZ,aa];apply K
 (refine aH ⟨.inr rfl,aG rfl ?_ rfl⟩;simp(disch:=omega) only[kd,Tryz.results127,aa,oS,cZ])
theorem Mv (n c:Nat) (f:FF) (hn1:1<=n) (hne:n≠c):
  CallC Tryz.prog 127 [slM (mat n c f)] ⟨[],oS 0 false⟩:=by
 have hS:=pw (mat n c f);rw[Ki f hn1 hne]at hS;rw[oS,DA];refine aI Tryz.func127 rfl (by kernel_rfl) ?_;rw[Tryz.ntmps127];refine aC fun _ K=>?_;simp(disch:=omega) only[kd,slM,ae,aa];apply K
 refine aD (aF [⟨1,_,_,_,hS⟩] [] fun _ K=>?_);simp only[kd,slM,aa];apply K;refine aC fun _ K=>?_;simp only[kd];apply K
 refine aS rfl ?_;refine aC fun _ K=>?_;simp(disch:=omega) only[kd,aa];apply K
 refine bf.weak (eK 2) ?_;refine aH ⟨.inr rfl,aG rfl ?_ rfl⟩;simp(disch:=omega) only[kd,Tryz.results127,zH,zO,yV,y9,aa]
theorem H9 (a:Int):decide (oy a 1=0)=decide (a=1):=by
 unfold oy;split
 ·have:a≠1:=by omega
  simp[this]
 split<;>simp_all
theorem Mz (n:Nat) (f:FF) (hn1:1<=n) (hn:n<=16) (hf: ∀i j,i<n->j<n->Sz (f i j) 1024):
  CallC Tryz.prog 98 [slM (mat n n f)] ⟨[],.raw (.bool (decide ((dk f n).natAbs=1)))⟩:=by
 have hD:=O6 n f hn1 hn hf;have hsz:=lG hn hf;have hab:=tH n f;rw[<- hab];generalize detF n f=d at*
 have hA:=Dr d (hsz.mono (by omega));have hS:=fX 1 (by omega) (by omega);have hC:=sS d.natAbs 1 ((hsz.le (x:=(d.natAbs:Int)) (by simp)).mono (by omega)) (l4 (by omega));have hc1:=H9 d.natAbs;have hc2:decide (((d.natAbs:Nat):Int)=1)=decide (d.natAbs=1):=by
  by_cases h:d.natAbs=1<;>simp[h]<;>omega
 rw[hc2]at hc1;refine aI Tryz.func98 rfl (by kernel_rfl) ?_;rw[Tryz.ntmps98];refine aC fun _ K=>?_;simp only[kd,slM,ae];apply K
 refine aF [⟨1,_,_,_,hD⟩] [] fun _ K=>?_;simp(disch:=omega) only[kd,slM,oS,cZ,aa];apply K
 refine aF [⟨3,_,_,_,hA⟩,⟨4,_,_,_,hS⟩,⟨5,_,_,_,hC⟩] [] fun _ K=>?_;simp(disch:=omega) only[kd,tZ,aa,af,hc1];apply K
 (refine aH ⟨.inr rfl,aG rfl ?_ rfl⟩;simp(disch:=omega) only[kd,Tryz.results98])
theorem JN (n c:Nat) (f:FF) (hn1:1<=n) (hne:n≠c):
  CallC Tryz.prog 98 [slM (mat n c f)] ⟨[],.raw (.bool false)⟩:=by
 have hD:=Mv n c f hn1 hne;refine aI Tryz.func98 rfl (by kernel_rfl) ?_;rw[Tryz.ntmps98];refine aC fun _ K=>?_;simp only[kd,slM,ae];apply K
 refine aF [⟨1,_,_,_,hD⟩] [] fun _ K=>?_;simp(disch:=omega) only[kd,slM,oS,cZ,aa];apply K
 refine aC fun _ K=>?_;simp(disch:=omega) only[kd,aa];apply K
 (refine aH ⟨.inr rfl,aG rfl ?_ rfl⟩;simp(disch:=omega) only[kd,Tryz.results98])
theorem Bb {n:Nat} (f:FF) (hn1:1<=n) (hn:n<=8):vH (mat n n f)=decide ((detF n f).natAbs=1):=by
 rw[tH];by_cases h:(dk f n).natAbs=1
 ·rw[vI ((zj f hn1 hn).2 h)];simp[h]
 rw[l8 (fun h'=>h ((zj f hn1 hn).1 h'))];simp[h]
theorem Ba {n c:Nat} (f:FF) (hn:8<n):vH (mat n c f)=false:=l8 fun h=>by
 have:=h.2.2.1;rw[aU]at this;omega
theorem EN {n c:Nat} (f:FF) (hn1:1<=n) (hn:n≠c):vH (mat n c f)=false:=l8 fun h=>by
 have:=h.2.1;rw[aU,fb f hn1]at this;omega
theorem JB (n c:Nat) (f:FF) (hn1:1<=n) (hn:n<=16) (hc1:1<=c) (hc:c<=16) (hf: ∀i j,pr (f i j)):
  CallC Tryz.prog 111 [slI (mat n c f)] ⟨[],.raw (.bool (vH (mat n c f)))⟩:=by
 have hF:=rR n c f hn1 hn hc1 hc (fun i j _ _=>hf i j);have hml:=aU n c f;by_cases h8:8<n
 ·rw[Ba f h8];refine aI Tryz.func111 rfl (by kernel_rfl) ?_;rw[Tryz.ntmps111];refine aC fun _ K=>?_;simp only[kd,slI,ae];apply K
  refine aF [⟨1,_,_,_,hF⟩] [] fun _ K=>?_;simp only[kd,slI,yY,aa];apply K
  refine aD (aC fun _ K=>?_);simp(disch:=omega) only[kd,aa,hml];apply K;refine aS rfl ?_;refine aC fun _ K=>?_;simp only[kd];apply K
  (refine aH ⟨.inr rfl,aG rfl ?_ rfl⟩;simp(disch:=omega) only[kd,Tryz.results111])
 by_cases hnc:n=c
 ·subst hnc;have hD:=OT n f hn1 hn (fun i j _ _=>(hf i j).sz (by omega));have hsz:=lG hn (fun i j _ _=>(hf i j).sz (k:=1024) (by omega));rw[Bb f hn1 (by omega)];generalize detF n f=d at*
  have hI:=z7 d (hsz.mono (by omega));unfold iY at hI;by_cases hd1:d=1
  ·subst hd1;rw[if_pos (by omega)]at hI;refine aI Tryz.func111 rfl (by kernel_rfl) ?_;rw[Tryz.ntmps111];refine aC fun _ K=>?_;simp only[kd,slI,ae];apply K
   refine aF [⟨1,_,_,_,hF⟩] [] fun _ K=>?_;simp only[kd,slI,yY,aa];apply K
   refine aD (aC fun _ K=>?_);simp(disch:=omega) only[kd,aa,hml];apply K;refine aN rfl (aK ?_);show bf _ _ _ _;refine aF [⟨1,_,_,_,hD⟩] [] fun _ K=>?_;simp(disch:=omega) only[kd,slM,oS,cZ,aa];apply K
   refine aF [⟨1,_,_,_,hI⟩] [] fun _ K=>?_;simp(disch:=omega) only[kd,tZ,aa];apply K
   refine aC fun _ K=>?_;simp(disch:=omega) only[kd,aa,reduceCtorEq];apply K
   (refine aH ⟨.inr rfl,aG rfl ?_ rfl⟩;simp(disch:=omega) only[kd,Tryz.results111])
  by_cases hd2:d= -1
  ·subst hd2;rw[if_pos (by omega)]at hI;refine aI Tryz.func111 rfl (by kernel_rfl) ?_;rw[Tryz.ntmps111];refine aC fun _ K=>?_;simp only[kd,slI,ae];apply K
   refine aF [⟨1,_,_,_,hF⟩] [] fun _ K=>?_;simp only[kd,slI,yY,aa];apply K
   refine aD (aC fun _ K=>?_);simp(disch:=omega) only[kd,aa,hml];apply K;refine aN rfl (aK ?_);show bf _ _ _ _;refine aF [⟨1,_,_,_,hD⟩] [] fun _ K=>?_;simp(disch:=omega) only[kd,slM,oS,cZ,aa];apply K
   refine aF [⟨1,_,_,_,hI⟩] [] fun _ K=>?_;simp(disch:=omega) only[kd,tZ,aa];apply K
   refine aC fun _ K=>?_;simp(disch:=omega) only[kd,aa,reduceCtorEq];apply K
   (refine aH ⟨.inr rfl,aG rfl ?_ rfl⟩;simp(disch:=omega) only[kd,Tryz.results111])
  have hno:decide (d.natAbs=1)=false:=decide_eq_false (by omega);rw[hno];by_cases hfit: -9223372036854775808<=d/\d<=9223372036854775807
  ·rw[if_pos hfit]at hI;refine aI Tryz.func111 rfl (by kernel_rfl) ?_;rw[Tryz.ntmps111];refine aC fun _ K=>?_;simp only[kd,slI,ae];apply K
   refine aF [⟨1,_,_,_,hF⟩] [] fun _ K=>?_;simp only[kd,slI,yY,aa];apply K
   refine aD (aC fun _ K=>?_);simp(disch:=omega) only[kd,aa,hml];apply K;refine aN rfl (aK ?_);show bf _ _ _ _;refine aF [⟨1,_,_,_,hD⟩] [] fun _ K=>?_;simp(disch:=omega) only[kd,slM,oS,cZ,aa];apply K
   refine aF [⟨1,_,_,_,hI⟩] [] fun _ K=>?_;simp(disch:=omega) only[kd,tZ,aa];apply K
   refine aC fun _ K=>?_;simp(disch:=omega) only[kd,aa];apply K
   (refine aH ⟨.inr rfl,aG rfl ?_ rfl⟩;simp(disch:=omega) only[kd,Tryz.results111])
  rw[if_neg hfit]at hI;refine aI Tryz.func111 rfl (by kernel_rfl) ?_;rw[Tryz.ntmps111];refine aC fun _ K=>?_;simp only[kd,slI,ae];apply K
  refine aF [⟨1,_,_,_,hF⟩] [] fun _ K=>?_;simp only[kd,slI,yY,aa];apply K
  refine aD (aC fun _ K=>?_);simp(disch:=omega) only[kd,aa,hml];apply K;refine aN rfl (aK ?_);show bf _ _ _ _;refine aF [⟨1,_,_,_,hD⟩] [] fun _ K=>?_;simp(disch:=omega) only[kd,slM,oS,cZ,aa];apply K
  refine aF [⟨1,_,_,_,hI⟩] [] fun _ K=>?_;simp(disch:=omega) only[kd,tZ,aa];apply K
  refine aC fun _ K=>?_;simp(disch:=omega) only[kd,aa,reduceCtorEq];apply K
  (refine aH ⟨.inr rfl,aG rfl ?_ rfl⟩;simp(disch:=omega) only[kd,Tryz.results111])
 rw[EN f hn1 hnc];have hD:=L8 n c f hn1 hn hc1 hc hnc;have hI:=z7 0 ((sO 1).mono (by omega));rw[iY,if_pos (by omega)]at hI;refine aI Tryz.func111 rfl (by kernel_rfl) ?_;rw[Tryz.ntmps111];refine aC fun _ K=>?_;simp only[kd,slI,ae];apply K
 refine aF [⟨1,_,_,_,hF⟩] [] fun _ K=>?_;simp only[kd,slI,yY,aa];apply K
 refine aD (aC fun _ K=>?_);simp(disch:=omega) only[kd,aa,hml];apply K;refine aN rfl (aK ?_);show bf _ _ _ _;refine aF [⟨1,_,_,_,hD⟩] [] fun _ K=>?_;simp(disch:=omega) only[kd,slM,oS,cZ,aa];apply K
 refine aF [⟨1,_,_,_,hI⟩] [] fun _ K=>?_;simp(disch:=omega) only[kd,tZ,aa];apply K
 refine aC fun _ K=>?_;simp(disch:=omega) only[kd,aa];apply K
 (refine aH ⟨.inr rfl,aG rfl ?_ rfl⟩;simp(disch:=omega) only[kd,Tryz.results111])
theorem O3 (M:List (List Int)) (hM:MI M):CallC Tryz.prog 111 [slI M] ⟨[],.raw (.bool (vH M))⟩:=by
 by_cases hs:xz M
 ·have e:=sh hs;have h1:=hs.1;have h2:=hs.2.1;have h3:=hs.2.2 _ (au (gh hs.1));have hf:=fun i j=>hM.ent i j
  rw[e];exact JB _ _ _ h1 h2 h3.1 h3.2.1 hf
 have hF:=yu M hs;rw[l8 (fun h=>hs h.1)];refine aI Tryz.func111 rfl (by kernel_rfl) ?_;rw[Tryz.ntmps111];refine aC fun _ K=>?_;simp only[kd,slI,ae];apply K
 refine aF [⟨1,_,_,_,hF⟩] [] fun _ K=>?_;simp only[kd,slI,Iw,aa];apply K
 refine aD (aC fun _ K=>?_);simp(disch:=omega) only[kd,aa,reduceCtorEq];apply K;refine aS rfl ?_;refine aC fun _ K=>?_;simp only[kd];apply K
 (refine aH ⟨.inr rfl,aG rfl ?_ rfl⟩;simp(disch:=omega) only[kd,Tryz.results111])
theorem JO (n c:Nat) (f:FF) (hn1:1<=n) (hn:n<=16) (hc1:1<=c) (hc:c<=16) (hf: ∀i j,pr (f i j)):
  CallC Tryz.prog 50 [slI (mat n c f)] ⟨[],.raw (.bool (vH (mat n c f)))⟩:=by
 have hF:=oF n c f hn1 hn hc1 hc (fun i j _ _=>hf i j);have hml:=aU n c f;by_cases h8:8<n
 ·rw[Ba f h8];refine aI Tryz.func50 rfl (by kernel_rfl) ?_;rw[Tryz.ntmps50];refine aC fun _ K=>?_;simp only[kd,slI,ae];apply K
  refine aF [⟨1,_,_,_,hF⟩] [] fun _ K=>?_;simp only[kd,slI,yY,aa];apply K
  refine aC fun _ K=>?_;simp(disch:=omega) only[kd,aa,hml];apply K
  (refine aH ⟨.inr rfl,aG rfl ?_ rfl⟩;simp(disch:=omega) only[kd,Tryz.results50])
 by_cases hnc:n=c
 ·subst hnc;have hU:=Mz n f hn1 hn (fun i j _ _=>(hf i j).sz (by omega));rw[Bb f hn1 (by omega),tH];generalize decide ((dk f n).natAbs=1)=b at*
  refine aI Tryz.func50 rfl (by kernel_rfl) ?_;rw[Tryz.ntmps50];refine aC fun _ K=>?_;simp only[kd,slI,ae];apply K
  refine aF [⟨1,_,_,_,hF⟩] [] fun _ K=>?_;simp only[kd,slI,yY,aa];apply K
  refine aF [⟨8,_,_,_,hU⟩] [] fun _ K=>?_;simp(disch:=omega) only[kd,slM,aa,hml];apply K
  (refine aH ⟨.inr rfl,aG rfl ?_ rfl⟩;simp(disch:=omega) only[kd,Tryz.results50])
 rw[EN f hn1 hnc];have hU:=JN n c f hn1 hnc;refine aI Tryz.func50 rfl (by kernel_rfl) ?_;rw[Tryz.ntmps50];refine aC fun _ K=>?_;simp only[kd,slI,ae];apply K
 refine aF [⟨1,_,_,_,hF⟩] [] fun _ K=>?_;simp only[kd,slI,yY,aa];apply K
 refine aF [⟨8,_,_,_,hU⟩] [] fun _ K=>?_;simp(disch:=omega) only[kd,slM,aa,hml];apply K
 (refine aH ⟨.inr rfl,aG rfl ?_ rfl⟩;simp(disch:=omega) only[kd,Tryz.results50])
theorem O7 (M:List (List Int)) (hM:MI M):CallC Tryz.prog 50 [slI M] ⟨[],.raw (.bool (vH M))⟩:=by
 by_cases hs:xz M
 ·have e:=sh hs;have h1:=hs.1;have h2:=hs.2.1;have h3:=hs.2.2 _ (au (gh hs.1));have hf:=fun i j=>hM.ent i j
  rw[e];exact JO _ _ _ h1 h2 h3.1 h3.2.1 hf
 have hF:=rA M hs;rw[l8 (fun h=>hs h.1)];refine aI Tryz.func50 rfl (by kernel_rfl) ?_;rw[Tryz.ntmps50];refine aC fun _ K=>?_;simp only[kd,slI,ae];apply K
 refine aF [⟨1,_,_,_,hF⟩] [] fun _ K=>?_;simp only[kd,slI,Iw,aa];apply K
 refine aC fun _ K=>?_;simp(disch:=omega) only[kd,aa];apply K
 (refine aH ⟨.inr rfl,aG rfl ?_ rfl⟩;simp(disch:=omega) only[kd,Tryz.results50])
open Classical in
noncomputable def A5 (M t:List (List Int)):CallRes:=if t.length=M.length/\mg t then tW M (mb t)else⟨mxI 0 0 0 (fun _ _=>0),kP 0 false⟩
theorem vz {M t:List (List Int)} (h: ¬(t.length=M.length/\mg t)):A5 M t=⟨mxI 0 0 0 (fun _ _=>0),kP 0 false⟩:=if_neg h
theorem rr {M t:List (List Int)} (h:t.length=M.length/\mg t):A5 M t=tW M (mb t):=if_pos h
theorem B9 (M l:List (List Int)): ∃k b F,tW M l=⟨mxI 0 k k F,kP k b⟩/\k<=l.length:=by
 by_cases h:PH M l
 ·exact⟨_,_,_,nI h,Nat.le_refl _⟩
 exact⟨_,_,_,tX h,Nat.zero_le _⟩
theorem wz (t:List (List Int)):(mb t).length=t.length:=aU _ _ _
theorem yv (M t:List (List Int)) (ht:MI t):CallC Tryz.prog 71 [slI M,slI t] (A5 M t):=by
 by_cases hlen:t.length=M.length
 ·have cU:=O3 t ht;by_cases hu:mg t
  ·rw[vI hu]at cU;have e:=hu.eq;have hcols:mb t=mat t.length t.length (trF (ent t)):=rfl;have hn8:=hu.2.2.1;have hn1:=hu.1.1;have cG:=Es M (mb t) (by rw[wz];omega);rw[rr ⟨hlen,hu⟩];obtain⟨k,bb,V,hk,_⟩:=B9 M (mb t);rw[hk]at cG⊢;clear hk;rw[hcols]at cG;clear hcols hu;have hlM:=hlen.symm;generalize ent t=g at*
   generalize hnn:t.length=n at*
   clear ht;subst e;have hml:=aU n n g;refine aI Tryz.func71 rfl (by kernel_rfl) ?_;rw[Tryz.ntmps71];refine aC fun _ K=>?_;simp only[kd,slI,aa,ae];apply K
   refine aD (aF [⟨7,_,_,_,cU⟩] [] fun _ K=>?_);simp(disch:=omega) only[kd,slI,aa,hml,hlM];apply K;refine aN rfl (aK ?_);show bf _ _ _ _;refine aC fun _ K=>?_;simp(disch:=omega) only[kd,aa,hml];apply K
   refine aD (aC fun _ K=>?_);simp only[kd,aa];apply K;refine aT (G:=jP n) (fun q=>⟨(slI M::slI (mat n n g)::j4 (.one (.sl 22 0 0 n)::j16 (jk::rN n::rN q.i::j16 (j4 (j4 (j4 ([]))))))),Hm [(22,kI 22 n n q.i (trF g))]⟩) (fun q=>n-q.i) ⟨0,by omega⟩ ?_ ?_
   ·refine aE ⟨?_,trivial⟩ ?_
    ·show[_]=_;simp[kI,fO,mat]
    simp[wk]
   rintro⟨i,hi⟩;simp only;by_cases hm:i<n
   ·have hmi:=aU i n (trF g);have hsl:(fO 22 (ae i n)).length=i:=by rw[cq,aw]
    have hrl:((mat i n (trF g)).map i9).length=i:=by rw[List.length_map,hmi]
    refine aC fun _ K=>?_;simp(disch:=omega) only[kd,slI];apply K
    refine bu rfl ?_;refine aD (aJ ?_);refine aC fun _ K=>?_;simp only[kd];apply K
    refine aC fun _ K=>?_;simp only[kd,aa,hml];apply K
    refine aT (G:=jP n) (fun q=>⟨(slI M::slI (mat n n g)::j4 (.one (.sl 22 0 0 n)::rN i::j16 (.raw (.int .i64 (n:Int))::rN i::jk::jk::slI (mat n n g)::rN n::rN q.i::j16 (j4 (jk::jk::jk::[]))))),Hm [(22,OM 22 n n (trF g) i q.i)]⟩) (fun q=>n-q.i) ⟨0,by omega⟩ ?_ ?_
    ·refine aE ⟨rfl,trivial⟩ ?_;simp[wk]
    rintro⟨j,hj⟩;simp only;by_cases hm2:j<n
    ·have hr:=bs n g hm2;have hjr:=aR (g j) hm;cases j with
     |zero=>
      rw[OM,D2 (trF g) hm];refine aC fun _ K=>?_;simp(disch:=omega) only[kd,slI];apply K
      refine bu rfl ?_;refine aD (aJ ?_);refine aC fun _ K=>?_;simp(disch:=omega) only[kd,aa,hr,fR];apply K
      refine fH aW (by kernel_rfl) fun _ K=>?_;simp(disch:=omega) only[kd,aa,jh hsl,hjr,Nat.reduceMul,ah,ab,ji hsl,hmi,af];apply K
      show bf _ _ _ _;refine aL fun _ K=>?_;simp(disch:=omega) only[kd,aO];apply K
      refine⟨⟨1,by omega⟩,by simp only;omega,aE ⟨?_,trivial⟩ ?_⟩
      ·rfl
      simp[wk]
     |succ j=>
      have h01:(0==i+1)=false:=by simp
      rw[OM,LV];refine aC fun _ K=>?_;simp(disch:=omega) only[kd,slI];apply K
      refine bu rfl ?_;refine aD (aJ ?_);refine aC fun _ K=>?_;simp(disch:=omega) only[kd,aa,hr,fR];apply K
      refine fH aW (by kernel_rfl) fun _ K=>?_;simp(disch:=omega) only[kd,aa,i9,jh hsl,hjr,Nat.reduceMul,ah,jh hrl,bv,List.map_append,vr,List.map_replicate,AL,Ae,ji hrl,h01,ji hsl,reduceCtorEq,List.length_append,hrl];apply K
      show bf _ _ _ _;refine aL fun _ K=>?_;simp(disch:=omega) only[kd,aO];apply K
      refine⟨⟨j+1+1,by omega⟩,by simp only;omega,aE ⟨?_,trivial⟩ ?_⟩
      ·show _=LV 22 n n (trF g) i (j+1);rw[LV,i9,oh (j+1)];rfl
      simp[wk]
    have hjc:j=n:=by omega
    subst hjc;refine aC fun _ K=>?_;simp(disch:=omega) only[kd,slI];apply K
    refine bD rfl ?_;show bf _ _ _ _;rw[IE _ (by omega) hm];refine aL fun _ K=>?_;simp(disch:=omega) only[kd,aO];apply K
    refine⟨⟨i+1,by omega⟩,by simp only;omega,aE ⟨rfl,trivial⟩ ?_⟩;simp[wk]
   have hin:i=n:=by omega
   subst hin;refine aC fun _ K=>?_;simp(disch:=omega) only[kd,slI];apply K
   refine bD rfl ?_;show bf _ _ _ _;rw[lK];refine bf.weak ((bC 22 (bU (d:=22) (n:=i) (c:=i) (f:=trF g) rfl)).trans (aE (tm:=(slI M::j4 (jk::slI (mat i i (trF g))::j16 (j16 (j4 (j4 (j4 (jk::jk::jk::[])))))))) (l:=[]) trivial (by simp[wk];exact⟨rfl,(gD (H:=Hm [(22,mxI 22 i i (trF g))]) (d:=22) (n:=i) (c:=i) (f:=trF g) rfl).symm⟩))) ?_;refine aF [⟨2,_,_,_,cG⟩] [] fun _ K=>?_;simp only[kd,slI,kP,aa];apply K
   refine aH ⟨.inr rfl,CJ (d:=51) (c:=k) (F:=V) ?_ ?_ (by decide)⟩
   ·exact bZ 0 51 _ _ _
   simp(disch:=omega) only[kd,Tryz.results71]
  rw[l8 hu]at cU;rw[vz (fun h=>hu h.2)];refine aI Tryz.func71 rfl (by kernel_rfl) ?_;rw[Tryz.ntmps71];refine aC fun _ K=>?_;simp only[kd,slI,aa,ae];apply K
  refine aD (aF [⟨7,_,_,_,cU⟩] [] fun _ K=>?_);simp(disch:=omega) only[kd,slI,aa,hlen];apply K;refine aS rfl ?_;refine aC fun _ K=>?_;simp only[kd];apply K
  refine aH ⟨.inr rfl,uX rfl rfl ?_⟩;simp(disch:=omega) only[kd,Tryz.results71]
 rw[vz (fun h=>hlen h.1)];refine aI Tryz.func71 rfl (by kernel_rfl) ?_;rw[Tryz.ntmps71];refine aC fun _ K=>?_;simp only[kd,slI,aa,ae];apply K
 refine aD (aC fun _ K=>?_);simp(disch:=omega) only[kd,aa,reduceCtorEq];apply K;refine aS rfl ?_;refine aC fun _ K=>?_;simp only[kd];apply K
 refine aH ⟨.inr rfl,uX rfl rfl ?_⟩;simp(disch:=omega) only[kd,Tryz.results71]
/-! Congruence of the conditions. -/
theorem MinkP.congr {f g:FF} {n:Nat} (h: ∀i j,i<n->j<n->f i j=g i j) (hm:MinkP f n):MinkP g n:=by
 refine⟨fun i hi=>?_,fun i hi hv=>hm.2 i hi ?_⟩
 ·rw[<- h i i (by omega) (by omega),<- h (i+1) (i+1) hi hi,<- h i (i+1) (by omega) hi];exact hm.1 i hi
 obtain⟨c,h1,h2⟩:=hv;refine⟨c,h1,?_⟩;rw[h i i hi hi];have e:nrm n f (cnd i c)=nrm n g (cnd i c):=ea h (fun _ _=>rfl) (fun _ _=>rfl);rw[e];exact h2
theorem PD.congr {f g:FF} {n:Nat} (h: ∀i j,i<n->j<n->f i j=g i j) (hp:PD f n):PD g n:=by
 refine⟨fun i hi j hj=>?_,fun k hk=>?_⟩
 ·rw[<- h i j hi hj,<- h j i hj hi];exact hp.1 i hi j hj
 rw[<- gR (f:=f) fun i j hi hj=>h i j (by omega) (by omega)];exact hp.2 k hk
def P5 (M t:List (List Int)):Prop:=t.length=M.length/\mg t/\PH M (mb t)
def NJ (M Rm t:List (List Int)):Prop:=P5 M t/\ox Rm/\mat t.length t.length (vG M (mb t))=Rm
open Classical in
noncomputable def vK (M Rm t:List (List Int)):Int:=
 if bF M=true then(if M.length<=4 then(if oI Rm M.length/\oI t M.length then(if NJ M Rm t then 0 else 10)else 3)else 7)else 6
theorem GD {M t:List (List Int)} (h:P5 M t):A5 M t=⟨mxI 0 t.length t.length (vG M (mb t)),kP t.length true⟩:=by
 rw[rr ⟨h.1,h.2.1⟩,nI h.2.2,wz]
theorem GC {M t:List (List Int)} (h: ¬P5 M t): ∃F,A5 M t=⟨mxI 0 0 0 F,kP 0 false⟩:=by
 by_cases h1:t.length=M.length/\mg t
 ·rw[rr h1,tX fun h2=>h ⟨h1.1,h1.2,h2⟩];exact⟨_,rfl⟩
 rw[vz h1];exact⟨_,rfl⟩
theorem im (M Rm t:List (List Int)) (ht:MI t) (hb1:Rm.length<=1000000) (hb2:t.length<=1000000):
  CallG Tryz.prog 0 138 33 [slI M,slI Rm,slI t] je ⟨[],.raw (.int .i64 (vK M Rm t))⟩:=by
 have c1:=lU M;by_cases h1:bF M=true
 ·rw[h1]at c1;by_cases h2:M.length<=4
  ·by_cases h3:oI Rm M.length
   ·have q1:=j1 Rm M.length true (by simp[h3]) hb1;by_cases h4:oI t M.length
    ·have q2:=j1 t M.length true (by simp[h4]) hb2;have cT:=yv M t ht;have cMR:=fun(b:Bool) (hb:b=true↔ox Rm)=>jg Rm b hb
     have cE:=fun F (b:Bool) (hb:b=true↔F=Rm)=>zU F Rm b hb
     have eY:NJ M Rm t->vK M Rm t=0:=fun h=>by
      unfold vK;rw[if_pos h1,if_pos h2,if_pos ⟨h3,h4⟩,if_pos h]
     have eN: ¬NJ M Rm t->vK M Rm t=10:=fun h=>by
      unfold vK;rw[if_pos h1,if_pos h2,if_pos ⟨h3,h4⟩,if_neg h]
     refine dq Tryz.func33 rfl (by kernel_rfl) ?_;rw[Tryz.ntmps33];refine aM fun _ K=>?_;simp only[kd,slI,aa,ae];apply K
     refine bx (bV ?_);refine cw [⟨1,_,_,_,c1⟩] [] fun _ K=>?_;simp only[kd,slI,aa];apply K
     refine cJ rfl ?_;refine aM fun _ K=>?_;simp(disch:=omega) only[kd,aa];apply K
     refine cJ rfl ?_;refine bx (cw [⟨3,_,_,_,q1⟩] [] fun _ K=>?_);simp only[kd,slI,aa];apply K;refine cJ rfl ?_;refine tb [⟨3,_,_,_,q2⟩] [] fun _ K=>?_;simp only[kd,slI,aa];apply K
     show de _ _ _ _ _ _ _;refine cJ rfl (eB ?_);show de _ _ _ _ _ _ _;by_cases h5:P5 M t
     ·rw[GD h5]at cT;obtain⟨n,hn⟩: ∃n,n=t.length:=⟨_,rfl⟩;obtain⟨F,hF⟩: ∃F,F=vG M (mb t):=⟨_,rfl⟩;rw[<- hn,<- hF]at cT;have eP:NJ M Rm t↔ox Rm/\mat n n F=Rm:=by
       unfold NJ;rw[<- hn,<- hF];simp[h5]
      refine cw [⟨2,_,_,_,cT⟩] [] fun _ K=>?_;simp only[kd,slI,kP,aa];apply K
      refine de.weak (aE (tm:=(jk::slI Rm::j4 (jk::.one (.sl 31 0 0 n)::.raw (.bool true)::j16 (j16 (j4 (jk::jk::[])))))) (l:=[(31,mxI 31 n n F)]) ⟨bZ 0 31 _ _ _,trivial⟩ (by simp[wk])) ?_;refine de.weak ((bC 31 (bU (d:=31) (n:=n) (c:=n) (f:=F) rfl)).trans (aE (tm:=(jk::slI Rm::j4 (jk::slI (mat n n F)::.raw (.bool true)::j16 (j16 (j4 (jk::jk::[])))))) (l:=[]) trivial (by
       simp[wk]
       (repeat' apply And.intro)<;>first|rfl|exact(gD (H:=Hm [(31,mxI 31 n n F)]) (d:=31) (n:=n) (c:=n) (f:=F) rfl).symm))) ?_
      have fl:=aU n n F;have fr: ∀p∈mat n n F,p.length<=1000000:=fun p hp=>by
       obtain⟨i,_,rfl⟩:=List.mem_map.1 hp;rw[bv];omega
      generalize mat n n F=FM at*
      by_cases h6:ox Rm
      ·have cI:=cMR true (by simp[h6]);by_cases h7:FM=Rm
       ·rw[eY (eP.2 ⟨h6,h7⟩)];have cQ:=cE FM true (by simp[h7]) (by omega) fr;refine bx (cy [⟨4,_,_,_,cI,rfl⟩] [⟨10,_,_,_,cQ⟩] [] fun _ K=>?_);simp(disch:=omega) only[kd,slI,dI.a,aa,af];apply K;refine cJ rfl (eB ?_);show de _ _ _ _ _ _ _;refine aM fun _ K=>?_;simp only[kd];apply K
        (refine cX ⟨.inr rfl,rfl,aG rfl ?_ rfl⟩;simp(disch:=omega) only[kd,Tryz.results33])
       rw[eN fun h=>h7 (eP.1 h).2];have cQ:=cE FM false (by simp[h7]) (by omega) fr;refine bx (cy [⟨4,_,_,_,cI,rfl⟩] [⟨10,_,_,_,cQ⟩] [] fun _ K=>?_);simp(disch:=omega) only[kd,slI,dI.a,aa,af];apply K;refine dU rfl ?_;refine aM fun _ K=>?_;simp only[kd];apply K
       (refine cX ⟨.inr rfl,rfl,aG rfl ?_ rfl⟩;simp(disch:=omega) only[kd,Tryz.results33])
      rw[eN fun h=>h6 (eP.1 h).1];have cI:=cMR false (by simp[h6]);refine bx (cy [⟨4,_,_,_,cI,rfl⟩] [] [] fun _ K=>?_);simp(disch:=omega) only[kd,slI,dI.a,aa,reduceCtorEq,af];apply K;refine dU rfl ?_;refine aM fun _ K=>?_;simp only[kd];apply K
      (refine cX ⟨.inr rfl,rfl,aG rfl ?_ rfl⟩;simp(disch:=omega) only[kd,Tryz.results33])
     obtain⟨F,hF⟩:=GC h5;rw[hF]at cT;rw[eN fun h=>h5 h.1];refine cw [⟨2,_,_,_,cT⟩] [] fun _ K=>?_;simp only[kd,slI,kP,aa];apply K
     refine de.weak (aE (tm:=(jk::slI Rm::j4 (jk::jk::.raw (.bool false)::j16 (j16 (j4 (jk::jk::[])))))) (l:=[]) trivial (by simp[wk])) ?_;refine bx (aM fun _ K=>?_);simp only[kd,aa,slI,reduceCtorEq];apply K;refine dU rfl ?_;refine aM fun _ K=>?_;simp only[kd];apply K
     (refine cX ⟨.inr rfl,rfl,aG rfl ?_ rfl⟩;simp(disch:=omega) only[kd,Tryz.results33])
    have q2:=j1 t M.length false (by simp[h4]) hb2;have eV:vK M Rm t=3:=by
     unfold vK;rw[if_pos h1,if_pos h2,if_neg fun h=>h4 h.2]
    rw[eV];refine dq Tryz.func33 rfl (by kernel_rfl) ?_;rw[Tryz.ntmps33];refine aM fun _ K=>?_;simp only[kd,slI,aa,ae];apply K
    refine bx (bV ?_);refine cw [⟨1,_,_,_,c1⟩] [] fun _ K=>?_;simp only[kd,slI,aa];apply K
    refine cJ rfl ?_;refine aM fun _ K=>?_;simp(disch:=omega) only[kd,aa];apply K
    refine cJ rfl ?_;refine bx (cw [⟨3,_,_,_,q1⟩] [] fun _ K=>?_);simp only[kd,slI,aa];apply K;refine cJ rfl ?_;refine tb [⟨3,_,_,_,q2⟩] [] fun _ K=>?_;simp only[kd,slI,aa];apply K
    show de _ _ _ _ _ _ _;refine dU rfl ?_;refine aM fun _ K=>?_;simp only[kd];apply K
    (refine cX ⟨.inr rfl,rfl,aG rfl ?_ rfl⟩;simp(disch:=omega) only[kd,Tryz.results33])
   have q1:=j1 Rm M.length false (by simp[h3]) hb1;have eV:vK M Rm t=3:=by
    unfold vK;rw[if_pos h1,if_pos h2,if_neg fun h=>h3 h.1]
   rw[eV];refine dq Tryz.func33 rfl (by kernel_rfl) ?_;rw[Tryz.ntmps33];refine aM fun _ K=>?_;simp only[kd,slI,aa,ae];apply K
   refine bx (bV ?_);refine cw [⟨1,_,_,_,c1⟩] [] fun _ K=>?_;simp only[kd,slI,aa];apply K
   refine cJ rfl ?_;refine aM fun _ K=>?_;simp(disch:=omega) only[kd,aa];apply K
   refine cJ rfl ?_;refine bx (cw [⟨3,_,_,_,q1⟩] [] fun _ K=>?_);simp only[kd,slI,aa];apply K;refine dU rfl (eB ?_);show de _ _ _ _ _ _ _;refine dU rfl ?_;refine aM fun _ K=>?_;simp only[kd];apply K
   (refine cX ⟨.inr rfl,rfl,aG rfl ?_ rfl⟩;simp(disch:=omega) only[kd,Tryz.results33])
  have eV:vK M Rm t=7:=by
   unfold vK;rw[if_pos h1,if_neg h2]
  rw[eV];have h2':(4:Int)<(M.length:Int):=by omega
  refine dq Tryz.func33 rfl (by kernel_rfl) ?_;rw[Tryz.ntmps33];refine aM fun _ K=>?_;simp only[kd,slI,aa,ae];apply K
  refine bx (bV ?_);refine cw [⟨1,_,_,_,c1⟩] [] fun _ K=>?_;simp only[kd,slI,aa];apply K
  refine cJ rfl ?_;refine aM fun _ K=>?_;simp(disch:=omega) only[kd,aa];apply K
  refine dU rfl ?_;refine aM fun _ K=>?_;simp only[kd];apply K
  (refine cX ⟨.inr rfl,rfl,aG rfl ?_ rfl⟩;simp(disch:=omega) only[kd,Tryz.results33])
 have eV:vK M Rm t=6:=by unfold vK;rw[if_neg h1]
 rw[eV];rw[show bF M=false by simpa using h1]at c1;refine dq Tryz.func33 rfl (by kernel_rfl) ?_;rw[Tryz.ntmps33];refine aM fun _ K=>?_;simp only[kd,slI,aa,ae];apply K
 refine bx (bV ?_);refine cw [⟨1,_,_,_,c1⟩] [] fun _ K=>?_;simp only[kd,slI,aa];apply K
 refine dU rfl ?_;refine aM fun _ K=>?_;simp only[kd];apply K
 (refine cX ⟨.inr rfl,rfl,aG rfl ?_ rfl⟩;simp(disch:=omega) only[kd,Tryz.results33])
section
structure Li (n:Nat) (h:FF) (Q:FF):Prop where
 n1:1<=n
 n4:n<=4
 red:RedR h n
 inb:InB2 n h 262144 Q
 mink:MinkP (gmB n h Q) n
section
variable {n:Nat} {h Q:FF}
theorem Li.gb (k:Li n h Q) {i j:Nat} (hi:i<n) (hj:j<n): -262144<=gmB n h Q i j/\gmB n h Q i j<=262144:=mM k.red.pd k.inb hi hj 262144 (by decide)
theorem Li.ent (k:Li n h Q) {i j:Nat} (hi:i<n) (hj:j<n): -1099511627776<=Q i j/\Q i j<=1099511627776:=
 (show Bo n h (Q i)from k.inb.nr i hi).co k.n1 k.n4 k.red j hj
end
end
section
theorem Pk (d e:Nat) (l:List Nat):(fO d l).map (List.map (uY d e))=fO e l:=by
 apply List.ext_getElem?;intro k;simp only[fO,ax,List.getElem?_mapIdx];cases l[k]? with
 |none=>rfl
 |some c=>simp[uY,sw]
theorem Pa (d e:Nat) (r:List Int):y5 d e (i9 r)=i9 r:=by
 simp only[y5,i9,lc,List.map_map]
 congr 1
theorem I1 (d e n c:Nat) (f:FF):(mxI d n c f).map (y5 d e)=mxI e n c f:=by
 simp only[mxI,List.map_cons,List.map_map]
 congr 1
 ·simp[y5,Pk]
 exact List.map_congr_left fun r _=>Pa d e r
section
variable {n:Nat} {h t:FF}
theorem DJ (h:FF) {a b:Nat} (ha:a<n) (hb:b<n):cngF n h idF a b=h a b:=by
 have e: ∀x y,BF n h x y=cK (fun i=>x i*cK (fun j=>h i j*y j) n) n:=fun _ _=>rfl
 rw[dK,e,aY n (G:=fun i=>h i b*idF i a) (fun i _=>by rw[vw hb];exact Int.mul_comm _ _)];exact vw (y:=fun i=>h i b) ha
theorem InC2.one (hn1:1<=n) (hn:n<=8) (hr:RedR h n):InC2 n h 262144 idF:=by
 refine⟨fun a ha=>?_,?_⟩
 ·rw[DJ h ha ha];have:=il hn1 hn hr a ha a ha;omega
 rw[show idF=fun i j=>if i=j then 1 else 0 from rfl,Ij];rfl
theorem InC2.rows {W:Int} (k:InC2 n h W t):InB2 n h W (trF t):=⟨fun a ha=>by have:=k.nr a ha;rw[dK]at this;exact this,k.dt⟩
theorem InC2.ent (k:InC2 n h 262144 t) (hn1:1<=n) (hn:n<=4) (hr:RedR h n) {i j:Nat} (hi:i<n) (hj:j<n): -1099511627776<=t i j/\t i j<=1099511627776:=
 (show Bo n h (trF t j)from k.rows.nr j hj).co hn1 hn hr i hi
theorem InC2.cb (k:InC2 n h 262144 t) (hr:RedR h n) {i j:Nat} (hi:i<n) (hj:j<n): -262144<=cngF n h t i j/\cngF n h t i j<=262144:=by
 have:=mM hr.pd k.rows hi hj 262144 (by decide);rw[x5]at this;exact this
theorem O1 (o:sY) (i j:Nat): -1<=opU o i j/\opU o i j<=1:=by
 have hI: ∀a b,0<=idF a b/\idF a b<=1:=fun a b=>by unfold idF;split<;>omega
 cases o with
 |swp k=>simp only[opU];have h1:=hI i (k-1);have h2:=hI i k;have h3:=hI i j;(repeat' split)<;>omega
 |rep k c=>
  simp only[opU,dz];split
  ·unfold cnd;have:=DO c i;(repeat' split)<;>omega
  have:=hI i j;omega
 |neg k=>
  simp only[opU,dz];have h1:=hI i k;have h2:=hI i j
  split<;>omega
theorem IZ (A:FF) {i j:Nat} (hj:j<n):gm n A idF i j=A i j:=by rw[gU];exact vw hj
end
theorem AC (n:Nat) (A B C:FF) (hn1:1<=n) (hn:n<=4) (hA: ∀i j:Nat,i<n->j<n->pr (A i j)) (hB: ∀i j:Nat,i<n->j<n->pr (B i j)) (hC: ∀i j:Nat,i<n->j<n->pr (C i j)) (hm: ∀i j,i<n->j<n->gm n A B i j=C i j):
  CallC Tryz.prog 43 [slI (mat n n A),slI (mat n n B)] ⟨mxI 0 n n C,.one (.sl 0 0 0 n)⟩:=by
 have c1:=vM n n A hn1 (by omega) hn1 (by omega) (fun i j hi hj=>hA i j hi hj);have c2:=vM n n B hn1 (by omega) hn1 (by omega) (fun i j hi hj=>hB i j hi hj);have c3:=nw n n n A B hn1 (by omega) hn1 (by omega) hn1 (by omega) (fun i j hi hj=>(hA i j hi hj).sz (by omega)) (fun i j hi hj=>(hB i j hi hj).sz (by omega));have c4:=s6 n n C hn1 (by omega) hn1 (by omega) hC;rw[dR fun i j hi hj=>hm i j hi hj]at c3;refine aI Tryz.func43 rfl (by kernel_rfl) ?_;rw[Tryz.ntmps43];refine aC fun _ K=>?_;simp only[kd,slI,aa,ae];apply K
 refine aF [⟨1,_,_,_,c1⟩,⟨3,_,_,_,c2⟩,⟨4,_,_,_,c3⟩,⟨5,_,_,_,c4⟩] [] fun _ K=>?_;simp only[kd,slI,kP,aa,af];apply K
 refine bf.weak (aE (tm:=(j4 (jk::.one (.sl 13 0 0 n)::j4 (j4 (jk::jk::jk::[]))))) (l:=[(13,mxI 13 n n C)]) ⟨bZ 0 13 _ _ _,trivial⟩ (by simp[wk])) ?_;refine aC fun _ K=>?_;simp only[kd];apply K
 refine aH ⟨.inr rfl,_,b8.refl _,?_⟩;refine⟨.one (.sl 13 0 0 n),13,?_,rfl,?_,rfl⟩
 ·simp(disch:=omega) only[kd,Tryz.results43]
 exact(bZ 13 0 _ _ _).symm
structure RM (n:Nat) (h t:FF) (o:sY):Prop where
 c1:CallC Tryz.prog 23 [slI (mat n n (cngF n h t))] ⟨[],slM (mat n n (cngF n h t))⟩
 c2:CallC Tryz.prog 23 [slI (mat n n (opU o))] ⟨[],slM (mat n n (opU o))⟩
 c3:CallC Tryz.prog 26 [slM (mat n n (cngF n h t)),slM (mat n n (opU o))] ⟨[],slM (mat n n (cngF n h (opC n t o)))⟩
 c4:CallC Tryz.prog 44 [slM (mat n n (cngF n h (opC n t o)))] ⟨[],.tup [(false,[.p (.sl (ls (fR fI) (mat n n (cngF n h (opC n t o)))))]),(false,[.p (.raw (.bool true))])]⟩
 c5:CallC Tryz.prog 43 [slI (mat n n t),slI (mat n n (opU o))] ⟨mxI 0 n n (opC n t o),.one (.sl 0 0 0 n)⟩
theorem R5 {n:Nat} {h t:FF} {o:sY} (hn1:1<=n) (hn:n<=4) (hr:RedR h n) (k:InC2 n h 262144 t) (ho:scanR n (cngF n h t) n 0=some o):RM n h t o:=by
 have k':=k.op ho;have hi:o.i<n:=by have:=(lZ n 0 o ho).2.1;omega
 have iA: ∀{t:FF},InC2 n h 262144 t-> ∀i j:Nat,i<n->j<n->pr (cngF n h t i j):=fun k i j hi hj=>by have:=k.cb hr hi hj;constructor<;>omega
 have iT: ∀{t:FF},InC2 n h 262144 t-> ∀i j:Nat,i<n->j<n->pr (t i j):=fun k i j hi hj=>by have:=k.ent hn1 hn hr hi hj;constructor<;>omega
 have iU: ∀i j:Nat,i<n->j<n->pr (opU o i j):=fun i j _ _=>by have:=O1 o i j;constructor<;>omega
 have c3:=mo n (cngF n h t) (opU o) hn1 (by omega) (fun i j hi hj=>(iA k i j hi hj).sz (by omega)) (fun i j hi hj=>(iU i j hi hj).sz (by omega));rw[dR fun i j hi' hj'=>OA (h:=h) (t:=t) hi hi' hj']at c3;exact⟨vM n n _ hn1 (by omega) hn1 (by omega) (fun i j hi hj=>iA k i j hi hj),vM n n _ hn1 (by omega) hn1 (by omega) (fun i j hi hj=>iU i j hi hj),c3,
  Hb n n _ hn1 (by omega) hn1 (by omega) (fun i j hi hj=>iA k' i j hi hj),AC n t (opU o) (opC n t o) hn1 hn (iT k) iU (iT k') (fun i j _ hj=>Cq hi hj)⟩
theorem R4 {n:Nat} {h t:FF} (hn1:1<=n) (hn:n<=4) (hr:RedR h n) (k:InC2 n h 262144 t):
  CallC Tryz.prog 43 [slI (mat n n (cngF n h t)),slI (mat n n idF)] ⟨mxI 0 n n (cngF n h t),.one (.sl 0 0 0 n)⟩:=by
 have iA: ∀i j:Nat,i<n->j<n->pr (cngF n h t i j):=fun i j hi hj=>by have:=k.cb hr hi hj;constructor<;>omega
 have iI: ∀i j:Nat,i<n->j<n->pr (idF i j):=fun i j _ _=>by unfold idF;split<;>constructor<;>omega
 exact AC n _ idF _ hn1 hn iA iI iA (fun i j _ hj=>IZ _ hj)
structure RN (n:Nat) (h R:FF) where
 t:Nat->Nat->Int
 rch:RchR n h t R
 inc:InC2 n h 262144 t
theorem RchR.end_ {n:Nat} {h t R:FF} (k:RchR n h t R) (ho:scanR n (cngF n h t) n 0=none):R=t:=by
 cases k with
 |done t _=>rfl
 |step _ _ o h1 _=>rw[ho]at h1;cases h1
theorem RchR.next_ {n:Nat} {h t R:FF} {o:sY} (k:RchR n h t R) (ho:scanR n (cngF n h t) n 0=some o):RchR n h (opC n t o) R:=by
 cases k with
 |done t h1=>rw[ho]at h1;cases h1
 |step _ _ o' h1 h2=>rw[ho]at h1;cases h1;exact h2
theorem Qq {n:Nat} {h t:FF} {o:sY} (hr:RedR h n) (ho:scanR n (cngF n h t) n 0=some o):(FP n (cngF n h (opC n t o))).toNat<(FP n (cngF n h t)).toNat:=by
 have h1:=IY ho;have h2:=o5 (n:=n) (t:=opC n t o) hr.pd;omega
end
section
def uI (P:Nat->Nat->Nat×Nat):AV->AV
 | .sl b r off len=> .sl (P b r).1 (P b r).2 off len
 | .ptr b r i j=> .ptr (P b r).1 (P b r).2 i j
 |x=>x
def CC (P:Nat->Nat->Nat×Nat):TV->TV
 | .one x=> .one (uI P x)
 | .agg cs=> .agg (cs.map (uI P))
 | .fn f cs=> .fn f (cs.map (uI P))
 | .tup ts=> .tup (ts.map fun t=>(t.1,t.2.map (uI P)))
def y4 (P:Nat->Nat->Nat×Nat) (o:OObj):OObj:={o with elems:=o.elems.map (List.map (uI P))}
open Classical in
theorem zk {s:AS} (P:Nat->Nat->Nat×Nat) (H':OH)
  (hof: ∀(b r:Nat) (o:OObj),(s.H b)[r]?=some o->(H' (P b r).1)[(P b r).2]?=some (y4 P o))
  (hget: ∀(b r:Nat) (o':OObj),(H' b)[r]?=some o'-> ∃(b0 r0:Nat) (o:OObj),(s.H b0)[r0]?=some o/\o'=y4 P o/\P b0 r0=(b,r))
  (hinj: ∀(b r b' r':Nat) (o o':OObj),(s.H b)[r]?=some o->(s.H b')[r']?=some o'->P b r=P b' r'->b=b'/\r=r')
  (hlo: ∀b r,(P b r).1<=4999->b<=4999)
  (hself: ∀(b r:Nat) (o':OObj),(H' b)[r]?=some o'->selfO b o'):b8 s ⟨s.tmps.map (CC P),H'⟩:=by
 rintro w0 O X act w ⟨h1,hsz,ρ,hinv,htm⟩
 let ρ':fo:=fun b r=>if h: ∃p:Nat×Nat,(∃o,(s.H p.1)[p.2]?=some o)/\P p.1 p.2=(b,r)then ρ h.choose.1 h.choose.2 else none
 have hρ: ∀(b r:Nat) (o:OObj),(s.H b)[r]?=some o->ρ' (P b r).1 (P b r).2=ρ b r:=fun b r o ho=>by
  have h: ∃p:Nat×Nat,(∃o,(s.H p.1)[p.2]?=some o)/\P p.1 p.2=((P b r).1,(P b r).2):=⟨(b,r),⟨o,ho⟩,rfl⟩;show(if h: ∃p:Nat×Nat,(∃o,(s.H p.1)[p.2]?=some o)/\P p.1 p.2=((P b r).1,(P b r).2)then ρ h.choose.1 h.choose.2 else none)=_;rw[dif_pos h];obtain⟨⟨o2,g1⟩,g2⟩:=h.choose_spec;obtain⟨e1,e2⟩:=hinj _ _ b r o2 o g1 ho g2;rw[e1,e2]
 have hXo:Xo X ρ' H'=Xo X ρ s.H:=by
  funext b;apply propext;constructor
  ·rintro(h|⟨x,r,o,c,g1,g2⟩)
   ·exact .inl h
   obtain⟨b0,r0,o',g3,_,g5⟩:=hget x r o g1;have:=hρ b0 r0 o' g3;rw[g5]at this;exact .inr ⟨b0,r0,o',c,g3,this.symm.trans g2⟩
  rintro(h|⟨x,r,o,c,g1,g2⟩)
  ·exact .inl h
  exact .inr ⟨_,_,_,c,hof x r o g1,(hρ x r o g1).trans g2⟩
 have hav: ∀(Y:Nat->Prop) x v,AV.rel ρ s.H Y w x v->AV.rel ρ' H' Y w (uI P x) v:=fun Y x v h=>by
  cases x with
  |p x=>exact h
  |junk=>trivial
  |sl b r off len=>
   obtain⟨o,g1,g2,g3⟩:=h;refine⟨_,hof b r o g1,by simpa[y4] using g2,?_⟩;rw[hρ b r o g1];rcases g3 with g3|⟨q,c,cap,k1,k2,k3,k4⟩
   ·exact .inl g3
   exact .inr ⟨q,c,cap,k1,k2,k3,fun hl=>k4 (hlo b r hl)⟩
  |ptr b r i j=>
   obtain⟨o,b',c,g1,g2,g3,g4⟩:=h;exact⟨_,b',c,hof b r o g1,by rw[hρ b r o g1];exact g2,by simpa[y4] using g3,g4⟩
 have hagg: ∀(Y:Nat->Prop) cs v,bX ρ s.H Y w cs v->bX ρ' H' Y w (cs.map (uI P)) v:=fun Y cs v ⟨vs,g1,g2,g3⟩=>by
  refine⟨vs,g1,by simpa using g2,fun j x hx=>?_⟩;rw[ax]at hx;obtain⟨y,hy,rfl⟩:=Option.map_eq_some_iff.1 hx;obtain⟨u,u1,u2,u3⟩:=g3 j y hy;exact⟨u,u1,u2,hav Y y u u3⟩
 have hr': ∀(b r:Nat) (o':OObj),(H' b)[r]?=some o'-> ∃(b0 r0:Nat) (o:OObj),(s.H b0)[r0]?=some o/\o'=y4 P o/\P b0 r0=(b,r)/\ρ' b r=ρ b0 r0:=fun b r o' ho=>by
  obtain⟨b0,r0,o,g1,g2,g3⟩:=hget b r o' ho;have:=hρ b0 r0 o g1;rw[g3]at this;exact⟨b0,r0,o,g1,g2,g3,this⟩
 refine⟨h1,by simpa using hsz,ρ',⟨hinv.keep,fun b r o' ho=>?_,fun b r b' r' o o' x c c' ho ho' hb hb'=>?_,fun b r o x c ho hb=>?_,hinv.bar,fun b r o' ho=>?_⟩,fun t x hx=>?_⟩
 ·obtain⟨b0,r0,o,g1,rfl,_,g4⟩:=hr' b r o' ho;have hob:=hinv.objs _ _ o g1;rw[hXo];obtain⟨q1,q2,q3⟩:=hob;refine⟨fun z he=>?_,q2,?_⟩
  ·simp only[y4,ak]at he;obtain⟨e',he',rfl⟩:=he;simp only[List.length_map,y4];exact q1 e' he'
  rw[g4];cases hr:ρ b0 r0 with
  |none=>rw[hr]at q3;simp only at q3⊢;simp[y4,q3]
  |some bc=>
   obtain⟨b2,c⟩:=bc;rw[hr]at q3;obtain⟨cells,p1,p2,p3,p4,p5⟩:=q3;refine⟨cells,p1,p2,by simpa[y4] using p3,p4,fun i z j x hi hj=>?_⟩;simp only[y4,ax]at hi;obtain⟨e',he',rfl⟩:=Option.map_eq_some_iff.1 hi;simp only[ax]at hj;obtain⟨x',hx',rfl⟩:=Option.map_eq_some_iff.1 hj;obtain⟨v,v1,v2,v3⟩:=p5 i e' j x' he' hx';exact⟨v,v1,v2,hav _ _ _ v3⟩
 ·obtain⟨b0,r0,o1,g1,_,g3,g4⟩:=hr' b r o ho;obtain⟨b1,r1,o2,k1,_,k3,k4⟩:=hr' b' r' o' ho';rw[g4]at hb;rw[k4]at hb';obtain⟨e1,e2⟩:=hinv.inj _ _ _ _ o1 o2 x c c' g1 k1 hb hb';subst e1 e2;rw[g3]at k3;injection k3 with e1 e2
  exact⟨e1,e2⟩
 ·obtain⟨b0,r0,o1,g1,_,_,g4⟩:=hr' b r o ho;rw[g4]at hb;exact hinv.old _ _ o1 x c g1 hb
 ·exact hself b r o' ho
 simp only[ax]at hx;obtain⟨y,hy,rfl⟩:=Option.map_eq_some_iff.1 hx;obtain⟨v,v1,v2⟩:=htm t y hy;refine⟨v,v1,?_⟩;show TV.rel ρ' H' (Xo X ρ' H') w (CC P y) v;rw[hXo];cases y with
 |one x=>exact hav _ x v v2
 |agg cs=>exact hagg _ cs v v2
 |fn f cs=>obtain⟨u,h1,h2⟩:=v2;exact⟨u,hagg _ cs u h1,h2⟩
 |tup ts=>
  obtain⟨vs,g1,g2,g3⟩:=v2;refine⟨vs,g1,by simpa using g2,fun j c cs hj=>?_⟩;rw[ax]at hj;obtain⟨z,hz,hzz⟩:=Option.map_eq_some_iff.1 hj;obtain⟨c',cs'⟩:=z;simp at hzz;obtain⟨rfl,rfl⟩:=hzz;obtain⟨u,u1,u2⟩:=g3 j c' cs' hz;refine⟨u,u1,?_⟩;rcases u2 with⟨u2,u3⟩|⟨u2,q',rfl,u4⟩
  ·exact .inl ⟨u2,hagg _ _ _ u3⟩
  exact .inr ⟨u2,_,rfl,hav _ _ _ u4⟩
def kE (q:Nat->Nat×Nat) (n c:Nat) (f:FF):List OObj:=⟨27,1,(ae n c).mapIdx fun i c=>[.sl (q (i+1)).1 (q (i+1)).2 0 c]⟩::(mat n c f).map i9
theorem dA (q:Nat->Nat×Nat) (n c:Nat) (f:FF):(kE q n c f).length=n+1:=by simp[kE,mat]
theorem O9 (P:Nat->Nat->Nat×Nat) (r:List Int):y4 P (i9 r)=i9 r:=by
 simp only[y4,i9,lc,List.map_map]
 congr 1
theorem yk {P:Nat->Nat->Nat×Nat} {q q':Nat->Nat×Nat} (n c:Nat) (f:FF) (h: ∀i,i<n->P (q (i+1)).1 (q (i+1)).2=q' (i+1)):(kE q n c f).map (y4 P)=kE q' n c f:=by
 simp only[kE,List.map_cons,List.map_map]
 congr 1
 ·simp only[y4]
  congr 1
  apply List.ext_getElem?;intro i;simp only[ax,List.getElem?_mapIdx,List.getElem?_replicate];by_cases hi:i<n
  ·simp[hi,uI,h i hi]
  simp[hi]
 exact List.map_congr_left fun r _=>O9 P r
theorem pS {q:Nat->Nat×Nat} {d n c:Nat} {f:FF} (h: ∀r,(q r).1=d): ∀(r:Nat) o,(kE q n c f)[r]?=some o->selfO d o
 |0,o,ho=>by
  simp[kE]at ho;subst ho;intro e he x hx;obtain⟨i,hi⟩:=List.mem_iff_getElem?.1 he;simp only[List.getElem?_mapIdx,List.getElem?_replicate]at hi;by_cases hn:i<n
  ·simp[hn]at hi;subst hi;simp at hx;subst hx;exact h _
  simp[hn]at hi
 |r+1,o,ho=>by
  simp only[kE,List.getElem?_cons_succ,ax]at ho;obtain⟨l,_,rfl⟩:=Option.map_eq_some_iff.1 ho;intro e he x hx;simp only[i9,lc,ak]at he;obtain⟨y,_,rfl⟩:=he;simp only[ak]at hx;obtain⟨z,_,rfl⟩:=hx;trivial
def pR (d n:Nat) (A T:FF):List OObj:=kE (fun r=>(d,r)) n n A++kE (fun r=>(d,n+1+r)) n n T
theorem Eg (d e n:Nat) (A T:FF):(pR d n A T).map (dj e)=pR e n A T:=by
 have h: ∀(q:Nat->Nat×Nat) f,(kE q n n f).map (dj e)=kE (fun r=>(e,(q r).2)) n n f:=fun q f=>by
  simp only[kE,List.map_cons,List.map_map]
  congr 1
  ·simp only[dj]
   congr 1
   apply List.ext_getElem?;intro i;simp only[ax,List.getElem?_mapIdx,List.getElem?_replicate];by_cases hi:i<n<;>simp[hi,fd]
  exact List.map_congr_left fun r _=>by simp[dj,i9,uk]
 rw[pR,List.map_append,h,h,pR]
section
variable {tm:List TV} {n:Nat} {A T:FF}
def NP (a e k:Nat):Nat->Nat->Nat×Nat:=fun b r=>if b=e then(a,k+r)else(b,r)
theorem Hc (a e:Nat) (hne:a≠e) (ha:a<=4999) (he:e<=4999):b8 ⟨tm,Hm [(a,mxI a n n A),(e,mxI e n n T)]⟩ ⟨tm.map (CC (NP a e (n+1))),Hm [(a,pR a n A T)]⟩:=by
 have pa: ∀r,NP a e (n+1) a r=(a,r):=fun r=>if_neg hne
 have pe: ∀r,NP a e (n+1) e r=(a,n+1+r):=fun r=>if_pos rfl
 have mA:(kE (fun r=>(a,r)) n n A).map (y4 (NP a e (n+1)))=kE (fun r=>(a,r)) n n A:=yk n n A fun i _=>pa _
 have mE:(kE (fun r=>(e,r)) n n T).map (y4 (NP a e (n+1)))=kE (fun r=>(a,n+1+r)) n n T:=yk n n T fun i _=>pe _
 have hA:Hm [(a,mxI a n n A),(e,mxI e n n T)] a=kE (fun r=>(a,r)) n n A:=if_pos rfl;have hE:Hm [(a,mxI a n n A),(e,mxI e n n T)] e=kE (fun r=>(e,r)) n n T:=(if_neg (Ne.symm hne)).trans (if_pos rfl);have hN: ∀b,b≠a->b≠e->Hm [(a,mxI a n n A),(e,mxI e n n T)] b=[]:=fun b h1 h2=>(if_neg h1).trans (if_neg h2)
 have kA:Hm [(a,pR a n A T)] a=kE (fun r=>(a,r)) n n A++kE (fun r=>(a,n+1+r)) n n T:=if_pos rfl;have kN: ∀b,b≠a->Hm [(a,pR a n A T)] b=[]:=fun b h1=>if_neg h1
 have lt: ∀{q:Nat->Nat×Nat} {f:FF} {r:Nat} {o:OObj},(kE q n n f)[r]?=some o->r<n+1:=fun h=>by
  obtain⟨h1,_⟩:=List.getElem?_eq_some_iff.1 h;rwa[dA]at h1
 have cs: ∀(b r:Nat) (o:OObj),(Hm [(a,mxI a n n A),(e,mxI e n n T)] b)[r]?=some o->(b=a/\(kE (fun r=>(a,r)) n n A)[r]?=some o)\/(b=e/\(kE (fun r=>(e,r)) n n T)[r]?=some o):=fun b r o ho=>by
  by_cases h1:b=a
  ·subst h1;rw[hA]at ho;exact .inl ⟨rfl,ho⟩
  by_cases h2:b=e
  ·subst h2;rw[hE]at ho;exact .inr ⟨rfl,ho⟩
  rw[hN b h1 h2]at ho;simp at ho
 refine zk (s:=⟨tm,Hm [(a,mxI a n n A),(e,mxI e n n T)]⟩) (NP a e (n+1)) (Hm [(a,pR a n A T)]) (fun b r o ho=>?_) (fun b r o' ho=>?_) (fun b r b' r' o o' ho ho' hp=>?_) (fun b r h=>?_) (fun b r o' ho=>?_)
 ·rcases cs b r o ho with⟨rfl,g⟩|⟨rfl,g⟩
  ·rw[pa,kA,ao (by rw[dA];exact lt g),<- mA,ax,g];rfl
  rw[pe];show(Hm [(a,pR a n A T)] a)[n+1+r]?=_;rw[kA,ap (by rw[dA];omega),dA,show n+1+r-(n+1)=r by omega,<- mE,ax,g];rfl
 ·by_cases h1:b=a
  ·subst h1;rw[kA]at ho;rcases Nat.lt_or_ge r (n+1)with hl|hl
   ·rw[ao (by rw[dA];exact hl),<- mA,ax]at ho;obtain⟨o,g1,g2⟩:=Option.map_eq_some_iff.1 ho;exact⟨b,r,o,(congrArg (fun l:List OObj=>l[r]?) hA).trans g1,g2.symm,pa r⟩
   rw[ap (by rw[dA];exact hl),dA,<- mE,ax]at ho;obtain⟨o,g1,g2⟩:=Option.map_eq_some_iff.1 ho;exact⟨e,r-(n+1),o,(congrArg (fun l:List OObj=>l[r-(n+1)]?) hE).trans g1,g2.symm,by rw[pe,show n+1+(r-(n+1))=r by omega]⟩
  rw[kN b h1]at ho;simp at ho
 ·rcases cs b r o ho with⟨rfl,g⟩|⟨rfl,g⟩<;>rcases cs b' r' o' ho' with⟨rfl,g'⟩|⟨rfl,g'⟩
  ·rw[pa,pa]at hp;injection hp with _ h2;exact⟨rfl,h2⟩
  ·rw[pa,pe]at hp;injection hp with _ h2;have:=lt g;omega
  ·rw[pa,pe]at hp;injection hp with _ h2;have:=lt g';omega
  rw[pe,pe]at hp;injection hp with _ h2;exact⟨rfl,by omega⟩
 ·by_cases h1:b=e
  ·rw[h1];exact he
  rw[NP,if_neg h1]at h;exact h
 by_cases h1:b=a
 ·subst h1;rw[kA]at ho;rcases Nat.lt_or_ge r (n+1)with hl|hl
  ·rw[ao (by rw[dA];exact hl)]at ho;exact pS (q:=fun r=>(b,r)) (fun _=>rfl) r o' ho
  rw[ap (by rw[dA];exact hl)]at ho;exact pS (q:=fun r=>(b,n+1+r)) (fun _=>rfl) _ o' ho
 rw[kN b h1]at ho;simp at ho
def M4 (e k:Nat):Nat->Nat->Nat×Nat:=fun b r=>if b=0/\k<=r then(e,r-k)else(b,r)
theorem zl (e:Nat) (hne:0≠e):b8 ⟨tm,famH 0 (pR 0 n A T)⟩ ⟨tm.map (CC (M4 e (n+1))),Hm [(0,mxI 0 n n A),(e,mxI e n n T)]⟩:=by
 have pa: ∀r,r<n+1->M4 e (n+1) 0 r=(0,r):=fun r h=>if_neg (by omega)
 have pe: ∀r,M4 e (n+1) 0 (n+1+r)=(e,r):=fun r=>(if_pos ⟨rfl,by omega⟩).trans (by rw[show n+1+r-(n+1)=r by omega])
 have mA:(kE (fun r=>(0,r)) n n A).map (y4 (M4 e (n+1)))=kE (fun r=>(0,r)) n n A:=yk n n A fun i hi=>pa _ (by show i+1<n+1;omega)
 have mE:(kE (fun r=>(0,n+1+r)) n n T).map (y4 (M4 e (n+1)))=kE (fun r=>(e,r)) n n T:=yk n n T fun i _=>pe _
 have kA:famH 0 (pR 0 n A T) 0=kE (fun r=>(0,r)) n n A++kE (fun r=>(0,n+1+r)) n n T:=if_pos rfl;have kN: ∀b,b≠0->famH 0 (pR 0 n A T) b=[]:=fun b h1=>if_neg h1
 have hA:Hm [(0,mxI 0 n n A),(e,mxI e n n T)] 0=kE (fun r=>(0,r)) n n A:=if_pos rfl;have hE:Hm [(0,mxI 0 n n A),(e,mxI e n n T)] e=kE (fun r=>(e,r)) n n T:=(if_neg (Ne.symm hne)).trans (if_pos rfl);have hN: ∀b,b≠0->b≠e->Hm [(0,mxI 0 n n A),(e,mxI e n n T)] b=[]:=fun b h1 h2=>(if_neg h1).trans (if_neg h2)
 have lt: ∀{q:Nat->Nat×Nat} {f:FF} {r:Nat} {o:OObj},(kE q n n f)[r]?=some o->r<n+1:=fun h=>by
  obtain⟨h1,_⟩:=List.getElem?_eq_some_iff.1 h;rwa[dA]at h1
 have cs: ∀(b r:Nat) (o:OObj),(famH 0 (pR 0 n A T) b)[r]?=some o->b=0/\((r<n+1/\(kE (fun r=>(0,r)) n n A)[r]?=some o)\/ ∃r',r=n+1+r'/\(kE (fun r=>(0,n+1+r)) n n T)[r']?=some o):=fun b r o ho=>by
  by_cases h1:b=0
  ·subst h1;refine⟨rfl,?_⟩;rw[kA]at ho;rcases Nat.lt_or_ge r (n+1)with hl|hl
   ·rw[ao (by rw[dA];exact hl)]at ho;exact .inl ⟨hl,ho⟩
   rw[ap (by rw[dA];exact hl),dA]at ho;exact .inr ⟨r-(n+1),by omega,ho⟩
  rw[kN b h1]at ho;simp at ho
 refine zk (s:=⟨tm,famH 0 (pR 0 n A T)⟩) (M4 e (n+1)) (Hm [(0,mxI 0 n n A),(e,mxI e n n T)]) (fun b r o ho=>?_) (fun b r o' ho=>?_) (fun b r b' r' o o' ho ho' hp=>?_) (fun b r h=>?_) (fun b r o' ho=>?_)
 ·obtain⟨rfl,⟨hl,g⟩|⟨r',rfl,g⟩⟩:=cs b r o ho
  ·rw[pa r hl];show(Hm [(0,mxI 0 n n A),(e,mxI e n n T)] 0)[r]?=_;rw[hA,<- mA,ax,g];rfl
  rw[pe];show(Hm [(0,mxI 0 n n A),(e,mxI e n n T)] e)[r']?=_;rw[hE,<- mE,ax,g];rfl
 ·by_cases h1:b=0
  ·subst h1;rw[hA]at ho;have hl:=lt ho;rw[<- mA,ax]at ho;obtain⟨o,g1,g2⟩:=Option.map_eq_some_iff.1 ho;exact⟨0,r,o,by show(famH 0 (pR 0 n A T) 0)[r]?=_;rw[kA,ao (by rw[dA];exact hl)];exact g1,g2.symm,pa r hl⟩
  by_cases h2:b=e
  ·subst h2;rw[hE,<- mE,ax]at ho;obtain⟨o,g1,g2⟩:=Option.map_eq_some_iff.1 ho;exact⟨0,n+1+r,o,by
    show(famH 0 (pR 0 n A T) 0)[n+1+r]?=_;rw[kA,ap (by rw[dA];omega),dA,show n+1+r-(n+1)=r by omega];exact g1,g2.symm,pe r⟩
  rw[hN b h1 h2]at ho;simp at ho
 ·obtain⟨rfl,⟨hl,_⟩|⟨q,rfl,_⟩⟩:=cs b r o ho<;>obtain⟨rfl,⟨hl',_⟩|⟨q',rfl,_⟩⟩:=cs b' r' o' ho'
  ·rw[pa _ hl,pa _ hl']at hp;injection hp with _ h2;exact⟨rfl,h2⟩
  ·rw[pa _ hl,pe]at hp;injection hp with h2 _;exact absurd h2 hne
  ·rw[pe,pa _ hl']at hp;injection hp with h2 _;exact absurd h2.symm hne
  rw[pe,pe]at hp;injection hp with _ h2;exact⟨rfl,by omega⟩
 ·rw[M4]at h;split at h
  ·omega
  exact h
 by_cases h1:b=0
 ·subst h1;rw[hA]at ho;exact pS (q:=fun r=>(0,r)) (fun _=>rfl) r o' ho
 by_cases h2:b=e
 ·subst h2;rw[hE]at ho;exact pS (q:=fun r=>(b,r)) (fun _=>rfl) r o' ho
 rw[hN b h1 h2]at ho;simp at ho
end
end
section
abbrev Qo (n:Nat) (G R:FF):CallRes:=⟨pR 0 n G R,.tup [(false,[.sl 0 0 0 n]),(false,[.sl 0 (n+1) 0 n]),(false,[.p (.raw (.int .i64 0))])]⟩
theorem CG (n:Nat) (h R:FF) (hn1:1<=n) (hn:n<=4) (hr:RedR h n) (hR:RchR n h idF R):
  CallC Tryz.prog 17 [slI (mat n n h)] (Qo n (cngF n h R) R):=by
 have hml:=aU n n h;have c1:=rB (mat n n h) (Oc hn1 (by omega) hr);rw[qa hn1 (by omega) hr]at c1;have cU:=Ev n hn1 hn;have h4: ¬(4:Int)<(n:Int):=by omega
 have e0:mat n n (cngF n h idF)=mat n n h:=dR fun i j hi hj=>DJ h hi hj
 refine aI Tryz.func17 rfl (by kernel_rfl) ?_;rw[Tryz.ntmps17];refine aC fun _ K=>?_;simp only[kd,aa,slI,ae];apply K
 refine aD (aF [⟨1,_,_,_,c1⟩] [] fun _ K=>?_);simp only[kd,slI,aa];apply K;refine aN rfl (aK ?_);show bf _ _ _ _;refine aD (aC fun _ K=>?_);simp only[kd,aa,hml,h4];apply K;refine aN rfl (aK ?_);show bf _ _ _ _;refine aF [⟨3,_,_,_,cU⟩] [] fun _ K=>?_;simp only[kd,aa,hml];apply K
 refine bf.weak (aE (tm:=(slI (mat n n h)::j4 (slI (mat n n h)::.one (.sl 18 0 0 n)::j16 (j16 (j4 (jk::[])))))) (l:=[(18,mxI 18 n n idF)]) ⟨bZ 0 18 _ _ _,trivial⟩ (by simp[wk])) ?_;refine bf.weak ((Dn 18 43 (by decide) (by decide)).trans (aE (tm:=(slI (mat n n h)::j4 (slI (mat n n h)::.one (.sl 43 0 0 n)::j16 (j16 (j4 (jk::[])))))) (l:=[(43,mxI 43 n n idF)]) ⟨I1 18 43 n n idF,trivial⟩ (by simp[wk,MM,uY,sw]))) ?_;refine aT (G:=RN n h R) (fun g=>⟨(slI (mat n n h)::j4 (slI (mat n n (cngF n h g.t))::.one (.sl 43 0 0 n)::j16 (j16 (j4 (jk::[]))))),Hm [(43,mxI 43 n n g.t)]⟩) (fun g=>(FP n (cngF n h g.t)).toNat) ⟨idF,hR,InC2.one hn1 (by omega) hr⟩ ?_ ?_
 ·refine aE ⟨rfl,trivial⟩ ?_;simp[wk,e0]
 rintro⟨t,rch,inc⟩;simp only;have cS:=My n (cngF n h t) hn1 hn (fun i j hi hj=>by have:=inc.cb hr hi hj;omega);refine aJ ?_;cases ho:scanR n (cngF n h t) n 0 with
 |none=>
  obtain rfl:=rch.end_ ho;have cE:=R4 hn1 hn hr inc;rw[ho]at cS;refine aF [⟨1,_,_,_,cS⟩] [] fun _ K=>?_;simp only[kd,slI,Pm,Rs,aa];apply K
  refine aD (aC fun _ K=>?_);simp only[kd];apply K;refine aS rfl ?_;refine wc 4 [⟨3,_,_,_,cU⟩,⟨4,_,_,_,cE⟩] [] (by simp) (by decide) fun _ K=>?_;simp only[kd,slI,aa,hml,ab];apply K
  refine⟨_,(aE (tm:=(j4 (jk::jk::.one (.sl 43 0 0 n)::j16 (jk::jk::jk::slI (mat n n (cngF n h R))::jk::jk::.one (.sl 29 0 0 n)::j4 (j4 (j4 (jk::jk::[]))))))) (l:=[(29,mxI 29 n n idF),(43,mxI 43 n n R)]) ⟨bZ 0 29 _ _ _,rfl,trivial⟩ (by simp[wk])).trans ((bC 29 (bU (d:=29) (n:=n) (c:=n) (f:=idF) rfl)).trans (aE (tm:=(j4 (jk::jk::.one (.sl 43 0 0 n)::j16 (jk::jk::jk::slI (mat n n (cngF n h R))::jk::jk::slI (mat n n idF)::j4 (j4 (j4 (jk::jk::[]))))))) (l:=[(43,mxI 43 n n R)]) ⟨rfl,trivial⟩ (by
   simp[wk]
   (repeat' apply And.intro)<;>first|rfl|exact(gD (H:=Hm [(29,mxI 29 n n idF),(43,mxI 43 n n R)]) (d:=29) (n:=n) (c:=n) (f:=idF) rfl).symm))),by simp[wk],?_⟩
  intro _ K;simp only[kd,slI,aa,af,ab];apply K;refine bf.weak (aE (tm:=(jk::jk::.one (.sl 30 0 0 n)::.one (.sl 43 0 0 n)::.raw (.int .i64 0)::j16 (j16 (j4 (jk::jk::jk::[]))))) (l:=[(30,mxI 30 n n (cngF n h R)),(43,mxI 43 n n R)]) ⟨bZ 0 30 _ _ _,rfl,trivial⟩ (by simp[wk])) ?_;refine bf.weak ((Hc 30 43 (n:=n) (A:=cngF n h R) (T:=R) (by decide) (by decide) (by decide)).trans (aE (tm:=(jk::jk::.one (.sl 30 0 0 n)::.one (.sl 30 (n+1) 0 n)::.raw (.int .i64 0)::j16 (j16 (j4 (jk::jk::jk::[]))))) (l:=[(30,pR 30 n (cngF n h R) R)]) ⟨rfl,trivial⟩ (by simp[wk,CC,uI,NP]))) ?_;refine aH ⟨.inr rfl,_,b8.refl _,?_⟩;refine⟨.tup [(false,[.sl 30 0 0 n]),(false,[.sl 30 (n+1) 0 n]),(false,[.p (.raw (.int .i64 0))])],30,?_,qj (by simp[iv,ew]) (by decide),?_,rfl⟩
  ·simp(disch:=omega) only[kd,Tryz.results17]
  exact(Eg 30 0 _ _ _).symm
 |some o=>
  have rch':=rch.next_ ho;have inc':=inc.op ho;have mu:=Qq hr ho;obtain⟨d1,d2,d3,d4,d5⟩:=R5 hn1 hn hr inc ho;rw[ho]at cS;refine aF [⟨1,_,_,_,cS⟩] [] fun _ K=>?_;simp only[kd,slI,Pm,Rt,aa];apply K
  refine aD (aC fun _ K=>?_);simp only[kd];apply K;refine aN rfl (aK ?_);show bf _ _ _ _;refine aF [⟨1,_,_,_,d1⟩,⟨3,_,_,_,d2⟩,⟨4,_,_,_,d3⟩,⟨5,_,_,_,d4⟩] [] fun _ K=>?_;simp only[kd,slI,aa,af];apply K
  refine bf.weak ((bC 43 (bU (d:=43) (n:=n) (c:=n) (f:=t) rfl)).trans (aE (tm:=(slI (mat n n h)::j4 (slI (mat n n (cngF n h (opC n t o)))::slI (mat n n t)::slI (mat n n (opU o))::j16 (j16 (j4 ([])))))) (l:=[]) trivial (by
   simp[wk]
   (repeat' apply And.intro)<;>first|rfl|exact(gD (H:=Hm [(43,mxI 43 n n t)]) (d:=43) (n:=n) (c:=n) (f:=t) rfl).symm))) ?_
  refine jx [⟨2,_,_,_,d5⟩] [] fun _ K=>?_;simp only[kd,slI,aa];apply K
  refine⟨⟨opC n t o,rch',inc'⟩,mu,aE ⟨bZ 0 43 _ _ _,trivial⟩ ?_⟩;simp[wk]
abbrev RY (n:Nat) (G R:FF):CallRes:=⟨mxI 0 n n G,.tup [(false,[.sl 0 0 0 n]),(false,[.p (.sl (ls (fR fI) (mat n n R)))]),(false,[.p (.raw (.int .i64 0))])]⟩
abbrev RZ (n:Nat) (G R:FF):CallRes:=⟨mxI 0 n n R,.tup [(false,[.p (.sl (ls (fR fI) (mat n n G)))]),(false,[.sl 0 0 0 n]),(false,[.p (.raw (.int .i64 0))])]⟩
theorem CF {P:Program} {f:FuncId} {args:List TV} {n:Nat} {G R:FF} (h:CallC P f args (Qo n G R)):CallC P f args (RY n G R):=by
 refine h.weak (((zl 60 (by decide)).trans (bC 60 (bU (d:=60) (n:=n) (c:=n) (f:=R) rfl))).trans (aE ⟨rfl,trivial⟩ ?_));have e1:=xZ (H:=Hm [(0,mxI 0 n n G),(60,mxI 60 n n R)]) (d:=60) (n:=n) (c:=n) (f:=R) rfl;have e2:eG (Hm [(0,mxI 0 n n G),(60,mxI 60 n n R)]) 60 (.sl 0 0 0 n)= .sl 0 0 0 n:=rfl;have e3: ∀x,eG (Hm [(0,mxI 0 n n G),(60,mxI 60 n n R)]) 60 (.p x)= .p x:=fun _=>rfl
 simp[wk,CC,uI,M4,fD,e1,e2,e3]
theorem JM {P:Program} {f:FuncId} {args:List TV} {n:Nat} {G R:FF} (h:CallC P f args (Qo n G R)):CallC P f args (RZ n G R):=by
 refine h.weak (((zl 60 (by decide)).trans (bC 0 (bU (d:=0) (n:=n) (c:=n) (f:=G) rfl))).trans ((aE (tm:=[.tup [(false,[.p (.sl (ls (fR fI) (mat n n G)))]),(false,[.sl 60 0 0 n]),(false,[.p (.raw (.int .i64 0))])]]) (l:=[(60,mxI 60 n n R)]) ⟨rfl,trivial⟩ ?_).trans
  ((Dn 60 0 (by decide) (by decide)).trans (aE ⟨I1 60 0 n n R,trivial⟩ ?_))))
 ·have e1:=xZ (H:=Hm [(0,mxI 0 n n G),(60,mxI 60 n n R)]) (d:=0) (n:=n) (c:=n) (f:=G) rfl;have e2:eG (Hm [(0,mxI 0 n n G),(60,mxI 60 n n R)]) 0 (.sl 60 0 0 n)= .sl 60 0 0 n:=rfl;have e3: ∀x,eG (Hm [(0,mxI 0 n n G),(60,mxI 60 n n R)]) 0 (.p x)= .p x:=fun _=>rfl
  simp[wk,CC,uI,M4,fD,e1,e2,e3]
 simp[wk,MM,uY,sw]
theorem AM (n:Nat) (G R:FF):jl (Qo n G R):=by
 refine⟨rfl,?_⟩;have h: ∀(q:Nat->Nat×Nat) (f:FF),∀o∈kE q n n f,∀e∈o.elems,∀x∈e,m9 x=true:=fun q f o ho e he x hx=>by
  rcases List.mem_cons.1 ho with rfl|ho
  ·obtain⟨i,hi⟩:=List.mem_iff_getElem?.1 he;simp only[List.getElem?_mapIdx,List.getElem?_replicate]at hi;by_cases hn:i<n
   ·simp[hn]at hi;subst hi;simp at hx;subst hx;rfl
   simp[hn]at hi
  obtain⟨l,_,rfl⟩:=List.mem_map.1 ho;simp only[i9,lc,ak]at he;obtain⟨y,_,rfl⟩:=he;simp only[fI,List.map_cons,List.map_nil,List.mem_singleton]at hx;subst hx;rfl
 intro o ho;rcases List.mem_append.1 ho with ho|ho
 ·exact h _ _ o ho
 exact h _ _ o ho
theorem Eh {n:Nat} (q:Nat->Nat×Nat) (f:FF) {i:Nat} (hi:i<n):(kE q n n f)[i+1]?=some (i9 (bz n (f i))):=by
 simp only[kE,List.getElem?_cons_succ];rw[ax,bs _ _ hi];rfl
theorem Rr {H:OH} {d n:Nat} {q:Nat->Nat×Nat} {f:FF} (h: ∀i,i<=n->(H d)[(q i).2]?=(kE q n n f)[i]?):fD H d (.one (.sl d (q 0).2 0 n))=slI (mat n n f):=by
 have e:((ae n n).mapIdx fun i c=>[AV.sl (q (i+1)).1 (q (i+1)).2 0 c]).map (List.map (gQ H d))=ls (fR fI) (mat n n f):=by
  apply List.ext_getElem?;intro i;rw[ax,eZ];simp only[List.getElem?_mapIdx,List.getElem?_replicate];by_cases hi:i<n
  ·rw[bs _ _ hi];have hr:=(h (i+1) (by omega)).trans (Eh q f hi);simp only[hi,if_true,Option.map_some,List.map_cons,List.map_nil,gQ,hr,i9,fR,fE,pP,nK];rw[List.drop_zero,List.take_of_length_le (by rw[bv];omega)]
  rw[List.getElem?_eq_none (l:=mat n n f) (by rw[aU];omega)];simp[hi]
 have h0:=h 0 (by omega);rw[show(kE q n n f)[0]?=some ⟨27,1,(ae n n).mapIdx fun i c=>[AV.sl (q (i+1)).1 (q (i+1)).2 0 c]⟩from rfl]at h0;simp only[fD,eG,if_true,h0];rw[List.drop_zero,List.take_of_length_le (by simp),e]
section
variable {H:OH} {d n:Nat} {A T:FF}
theorem Q7 (h:H d=pR d n A T):fD H d (.one (.sl d 0 0 n))=slI (mat n n A):=Rr (q:=fun r=>(d,r)) fun i hi=>by
 rw[h,pR,ao (by rw[dA];show i<n+1;omega)]
theorem Q8 (h:H d=pR d n A T):fD H d (.one (.sl d (n+1) 0 n))=slI (mat n n T):=Rr (q:=fun r=>(d,n+1+r)) fun i hi=>by
 rw[h,pR,ap (by rw[dA];show n+1<=n+1+i;omega),dA,show n+1+i-(n+1)=i by omega]
theorem Iy (h:H d=pR d n A T):r6 H d:=fun r o ho e he x hx=>by
 have key: ∀(q:Nat->Nat×Nat) (f:FF),(∀i,(q i).1=d)->(∀i,i<n+1->(H d)[(q i).2]?=(kE q n n f)[i]?)->o∈kE q n n f->isPure x=true\/ ∃r' off len o',x= .sl d r' off len/\(H d)[r']?=some o'/\n6 o':=fun q f hq hg hm=>by
  rcases List.mem_cons.1 hm with rfl|hm
  ·obtain⟨i,hi⟩:=List.mem_iff_getElem?.1 he;simp only[List.getElem?_mapIdx,List.getElem?_replicate]at hi;by_cases hn:i<n
   ·simp[hn]at hi;subst hi;simp at hx;subst hx;exact .inr ⟨_,0,n,i9 (bz n (f i)),by rw[hq],(hg (i+1) (by omega)).trans (Eh q f hn),dy _ _ _⟩
   simp[hn]at hi
  obtain⟨l,_,rfl⟩:=List.mem_map.1 hm;exact .inl (dy _ _ l e he x hx)
 rw[h]at ho;rcases List.mem_append.1 (au ho)with hm|hm
 ·exact key (fun r=>(d,r)) A (fun _=>rfl) (fun i hi=>by rw[h,pR,ao (by rw[dA];exact hi)]) hm
 exact key (fun r=>(d,n+1+r)) T (fun _=>rfl) (fun i hi=>by rw[h,pR,ap (by rw[dA];show n+1<=n+1+i;omega),dA,show n+1+i-(n+1)=i by omega]) hm
end
theorem CallC.g {P:Program} {b:Nat} {ty:TypeId} {f:FuncId} {args:List TV} {cs:List PV} {res:CallRes} (h:CallC P f args res):CallG P b ty f args cs res:=⟨h.1,fun w _=>⟨h.1,fun X vs=>h.2 X w vs⟩⟩
end
theorem CH {n:Nat} {h:FF} (hn1:1<=n) (hn:n<=4) (hr:RedR h n): ∃R,RchR n h idF R/\InC2 n h 262144 R/\MinkP (cngF n h R) n:=by
 obtain⟨R,hR⟩:=AF hr.pd (W:=262144) _ idF rfl (InC2.one hn1 (by omega) hr);obtain⟨h1,h2⟩:=JQ hR (InC2.one hn1 (by omega) hr);exact⟨R,hR,h1,h2⟩
/-! Both say the same. -/
theorem PC {M Rm t:List (List Int)} (hM:bF M=true) (h4:M.length<=4) (hR:oI Rm M.length) (hT:oI t M.length):
  NJ M Rm t↔ox Rm/\mg t/\ ∀i j,i<M.length->j<M.length->cngF M.length (ent M) (ent t) i j=ent Rm i j:=by
 obtain⟨h1,h8,hsq,hr⟩:=(dN M).1 hM;have eC:mb t=mat M.length M.length (trF (ent t)):=by unfold mb;rw[hT.1]
 have eR:Rm=mat M.length M.length (ent Rm):=by
  have:=j6 (M:=Rm) (m:=M.length) hR.2;rwa[hR.1]at this
 unfold NJ P5;rw[eC,hT.1];generalize ent t=g at*
 have hgd: ∀i,i<M.length->(mat M.length M.length (trF g)).getD i []=bz M.length (trF g i):=fun i hi=>jF _ hi
 have hlen:=aU M.length M.length (trF g);constructor
 ·rintro⟨⟨_,hu,hg⟩,hm,he⟩;refine⟨hm,hu,fun i j hi hj=>?_⟩;have pg:=hg.2 i (by rw[hlen];exact hi) j (by rw[hlen];exact hj);have hx:=pg.x;have hy:=pg.y;rw[hgd i hi]at hx;rw[hgd j hj]at hy;rw[<- EO hM rfl hi hj hx hy,<- he,pG _ hi hj]
 rintro⟨hm,hu,hc⟩;have hb:=fun i j (hi:i<M.length) (hj:j<M.length)=>hm.1.entB (i:=i) (j:=j) (by rw[hR.1];exact hi) (by rw[hR.1];exact hj)
 have hfit: ∀i,i<M.length->FitB M.length (bz M.length (trF g i))=true:=fun i hi=>jD fun j hj=>by
  have hN:BF M.length (ent M) (trF g i) (trF g i)<=1125899906842624:=by
   have e:BF M.length (ent M) (trF g i) (trF g i)=cngF M.length (ent M) g i i:=(dK _ _ _ _ _).symm;rw[e,hc i i hi hi];exact(hb i i hi hi).2
  have hp:((2^M.length:Nat):Int)<=16:=by
   have:2^M.length<=2^4:=Nat.pow_le_pow_right (by omega) h4;omega
  have hk:=Fm hr (trF g i) (N:=1125899906842624) (by omega) hN (M:=134217728) (by omega) (M.length-j-1) j (by omega);have hq:2^(M.length-j-1)<=2^3:=Nat.pow_le_pow_right (by omega) (by omega);have:134217728*2^(M.length-j-1)<=134217728*2^3:=Nat.mul_le_mul_left _ hq;omega
 have hv: ∀i j,i<M.length->j<M.length->vG M (mat M.length M.length (trF g)) i j=ent Rm i j:=fun i j hi hj=>by
  rw[EO hM rfl hi hj (hfit i hi) (hfit j hj),hc i j hi hj]
 refine⟨⟨rfl,hu,hM,fun i hi j hj=>?_⟩,hm,?_⟩
 ·rw[hlen]at hi hj;have:=hb i j hi hj;exact⟨by rw[hgd i hi];exact hfit i hi,by rw[hgd j hj];exact hfit j hj,by rw[hv i j hi hj];omega,by rw[hv i j hi hj];omega⟩
 rw[dR hv];exact eR.symm
open Classical in
noncomputable def CO (M Rm t:List (List Int)):Int:=
 if bF M=true then(if M.length<=4 then(if oI Rm M.length/\oI t M.length then(if ox Rm/\mg t/\(∀i j,i<M.length->j<M.length->cngF M.length (ent M) (ent t) i j=ent Rm i j)then 0 else 10)else 3)else 7)else 6
theorem pn (M Rm t:List (List Int)):vK M Rm t=CO M Rm t:=by
 unfold vK CO;by_cases h1:bF M=true
 ·rw[if_pos h1,if_pos h1];by_cases h2:M.length<=4
  ·rw[if_pos h2,if_pos h2];by_cases h3:oI Rm M.length/\oI t M.length
   ·rw[if_pos h3,if_pos h3];have:=PC h1 h2 h3.1 h3.2;by_cases h4:NJ M Rm t
    ·rw[if_pos h4,if_pos (this.1 h4)]
    rw[if_neg h4,if_neg fun h=>h4 (this.2 h)]
   rw[if_neg h3,if_neg h3]
  rw[if_neg h2,if_neg h2]
 rw[if_neg h1,if_neg h1]
/-! Matrices of the reference that are equal. -/
structure Ry (n:Nat) (f g:FF) where
 i:Nat
 hi:i<=n
 ok: ∀a,a<i-> ∀b,b<n->f a b=g a b
structure Rz (n i:Nat) (f g:FF) where
 j:Nat
 hj:j<=n
 ok: ∀b,b<j->f i b=g i b
theorem JL (n:Nat) (f g:FF) (hn1:1<=n) (hn:n<=16) (hf: ∀i j,i<n->j<n->Sz (f i j) 1024) (hg: ∀i j,i<n->j<n->Sz (g i j) 1024) (r:Bool) (hr:r=true↔ ∀i j,i<n->j<n->f i j=g i j):
  CallC Tryz.prog 51 [slM (mat n n f),slM (mat n n g)] ⟨[],.raw (.bool r)⟩:=by
 have hS1:=ny (mat n n f);have hS2:=ny (mat n n g);rw[fW (iy f hn1 hn hn1 hn),aU,fb f hn1]at hS1;rw[fW (iy g hn1 hn hn1 hn),aU,fb g hn1]at hS2;have hml:=aU n n f;refine aI Tryz.func51 rfl (by kernel_rfl) ?_;rw[Tryz.ntmps51];refine aC fun _ K=>?_;simp only[kd,slM,aa,ae];apply K
 refine aF [⟨1,_,_,_,hS1⟩] [] fun _ K=>?_;simp only[kd,slM,aa];apply K
 refine aF [⟨1,_,_,_,hS2⟩] [] fun _ K=>?_;simp only[kd,slM,aa];apply K
 refine aD (aC fun _ K=>?_);simp(disch:=omega) only[kd,aa];apply K;refine aN rfl (aK ?_);show bf _ _ _ _;refine aD (aC fun _ K=>?_);simp only[kd,aa,hml];apply K;refine aT (G:=Ry n f g) (fun q=>⟨(slM (mat n n f)::slM (mat n n g)::j16 (j16 (j4 (j4 (.raw (.int .i64 (n:Int))::rN q.i::j16 (j4 (j4 (j4 ([]))))))))),Hm []⟩) (fun q=>n-q.i) ⟨0,by omega,fun a ha=>by omega⟩ ?_ ?_
 ·refine aE trivial ?_;simp[wk]
 rintro⟨i,hi,ok⟩;simp only;by_cases hm:i<n
 ·have a1:=bs n f hm;have a2:=bs n g hm;have l1:=bv n (f i);refine aC fun _ K=>?_;simp(disch:=omega) only[kd,slM];apply K
  refine bu rfl ?_;refine aD (aJ ?_);refine aC fun _ K=>?_;simp only[kd];apply K
  refine aC fun _ K=>?_;simp(disch:=omega) only[kd,aa,a1,fR,l1];apply K
  refine aT (G:=Rz n i f g) (fun q=>⟨(slM (mat n n f)::slM (mat n n g)::j4 (j4 (jk::rN i::j16 (j4 (j4 (j4 (jk::jk::rN n::rN i::j4 (jk::jk::rN n::rN q.j::j16 (j4 ([])))))))))),Hm []⟩) (fun q=>n-q.j) ⟨0,by omega,fun a ha=>by omega⟩ ?_ ?_
  ·refine aE trivial ?_;simp[wk]
  rintro⟨j,hj,okj⟩;simp only;by_cases hm2:j<n
  ·have a3:=aR (f i) hm2;have a4:=aR (g i) hm2;have c1:=sS (f i j) (g i j) ((hf i j hm hm2).mono (by omega)) ((hg i j hm hm2).mono (by omega));by_cases he:f i j=g i j
   ·rw[he,qO]at c1;rw[he]at a3;refine aC fun _ K=>?_;simp(disch:=omega) only[kd,slM];apply K
    refine bu rfl ?_;refine aD (aJ ?_);refine aC fun _ K=>?_;simp only[kd];apply K
    refine bo aW [⟨14,_,_,_,c1⟩] [] (by kernel_rfl) fun _ K=>?_;simp(disch:=omega) only[kd,tZ,aa,a1,fR,a3,fZ,a2,a4];apply K
    refine aN rfl (aK ?_);show bf _ _ _ _;refine aL fun _ K=>?_;simp(disch:=omega) only[kd,aO];apply K
    refine⟨⟨j+1,by omega,fun b hb=>?_⟩,by simp only;omega,aE trivial ?_⟩
    ·by_cases e:b=j
     ·subst e;exact he
     exact okj b (by omega)
    simp[wk]
   have hr0:r=false:=by
    cases r with
    |false=>rfl
    |true=>exact absurd (hr.1 rfl i j hm hm2) he
   subst hr0;have hne:=tE he;refine aC fun _ K=>?_;simp(disch:=omega) only[kd,slM];apply K
   refine bu rfl ?_;refine aD (aJ ?_);refine aC fun _ K=>?_;simp only[kd];apply K
   refine bo aW [⟨14,_,_,_,c1⟩] [] (by kernel_rfl) fun _ K=>?_;simp(disch:=omega) only[kd,tZ,aa,a1,fR,a3,fZ,a2,a4];apply K
   refine aS rfl ?_;refine aC fun _ K=>?_;simp only[kd];apply K
   (refine aH ⟨.inr rfl,aG rfl ?_ rfl⟩;simp(disch:=omega) only[kd,Tryz.results51])
  refine aC fun _ K=>?_;simp(disch:=omega) only[kd,slM];apply K
  refine bD rfl ?_;show bf _ _ _ _;refine aL fun _ K=>?_;simp(disch:=omega) only[kd,aO];apply K
  refine⟨⟨i+1,by omega,fun a ha b hb=>?_⟩,by simp only;omega,aE trivial ?_⟩
  ·by_cases e:a=i
   ·subst e;exact okj b (by omega)
   exact ok a (by omega) b hb
  simp[wk]
 have hr1:r=true:=hr.2 fun a b ha hb=>ok a (by omega) b hb
 subst hr1;refine aC fun _ K=>?_;simp(disch:=omega) only[kd,slM];apply K
 refine bD rfl ?_;show bf _ _ _ _;refine aC fun _ K=>?_;simp only[kd];apply K
 (refine aH ⟨.inr rfl,aG rfl ?_ rfl⟩;simp(disch:=omega) only[kd,Tryz.results51])
theorem n7 (M:List (List Int)) (n:Nat) (hn:n<=1000000) (r:Bool) (hr:r=true↔oI M n):CallC Tryz.prog 49 [slI M,.raw (.int .i64 (n:Int))] ⟨[],.raw (.bool r)⟩:=by
 by_cases hl:M.length=n
 ·have hl':(M.length:Int)=(n:Int):=by omega
  refine aI Tryz.func49 rfl (by kernel_rfl) ?_;rw[Tryz.ntmps49];refine aC fun _ K=>?_;simp only[kd,slI,aa,ae];apply K
  refine aD (aC fun _ K=>?_);simp(disch:=omega) only[kd,aa,hl'];apply K;refine aN rfl (aK ?_);show bf _ _ _ _;refine aD (aC fun _ K=>?_);simp only[kd,aa];apply K;refine aT (G:=P2 M n) (fun g=>⟨(jk::rN n::j4 (j4 (jk::slI M::rN M.length::rN g.i::j4 (j4 ([]))))),Hm []⟩) (fun g=>M.length-g.i) ⟨0,by omega,fun a ha=>by omega⟩ ?_ ?_
  ·refine aE trivial ?_;simp[wk]
  rintro⟨i,hi,ok⟩;simp only;by_cases hm:i<M.length
  ·obtain⟨q,hq⟩: ∃q,M[i]?=some q:=⟨M[i],List.getElem?_eq_getElem hm⟩;refine aC fun _ K=>?_;simp(disch:=omega) only[kd,slI];apply K
   refine bu rfl ?_;refine aD (aJ ?_);refine aC fun _ K=>?_;simp(disch:=omega) only[kd,aa,hq,fR];apply K
   by_cases hql:q.length=n
   ·refine aC fun _ K=>?_;simp(disch:=omega) only[kd,aa,hql];apply K
    refine aN rfl (aK ?_);show bf _ _ _ _;refine aL fun _ K=>?_;simp(disch:=omega) only[kd,aO];apply K
    refine⟨⟨i+1,by omega,fun a ha q' hq'=>?_⟩,by simp only;omega,aE trivial ?_⟩
    ·by_cases e:a=i
     ·subst e;rw[hq]at hq';injection hq' with hq'
      rw[<- hq'];exact hql
     exact ok a (by omega) q' hq'
    simp[wk]
   have hr0:r=false:=by
    cases r with
    |false=>rfl
    |true=>exact absurd ((hr.1 rfl).2 q (au hq)) hql
   subst hr0;refine aC fun _ K=>?_;simp(disch:=omega) only[kd,aa];apply K
   refine aS rfl ?_;refine aC fun _ K=>?_;simp only[kd];apply K
   (refine aH ⟨.inr rfl,aG rfl ?_ rfl⟩;simp(disch:=omega) only[kd,Tryz.results49])
  have hr1:r=true:=hr.2 ⟨hl,Kj fun a ha=>ok a (by omega)⟩;subst hr1;refine aC fun _ K=>?_;simp(disch:=omega) only[kd,slI];apply K
  refine bD rfl ?_;show bf _ _ _ _;refine aC fun _ K=>?_;simp only[kd];apply K
  (refine aH ⟨.inr rfl,aG rfl ?_ rfl⟩;simp(disch:=omega) only[kd,Tryz.results49])
 have hr0:r=false:=by
  cases r with
  |false=>rfl
  |true=>exact absurd (hr.1 rfl).1 hl
 subst hr0;have hl': ¬(M.length:Int)=(n:Int):=by omega
 refine aI Tryz.func49 rfl (by kernel_rfl) ?_;rw[Tryz.ntmps49];refine aC fun _ K=>?_;simp only[kd,slI,aa,ae];apply K
 refine aD (aC fun _ K=>?_);simp only[kd,aa,hl'];apply K;refine aS rfl ?_;refine aC fun _ K=>?_;simp only[kd];apply K
 (refine aH ⟨.inr rfl,aG rfl ?_ rfl⟩;simp(disch:=omega) only[kd,Tryz.results49])
theorem iq (M Rm t:List (List Int)) (hM:MI M) (hR:MI Rm) (ht:MI t):
  CallC Tryz.prog 19 [slI M,slI Rm,slI t] ⟨[],.raw (.int .i64 (CO M Rm t))⟩:=by
 have c1:=rB M hM;by_cases h1:bF M=true
 ·rw[h1]at c1;by_cases h2:M.length<=4
  ·obtain⟨r1,r8,_,_⟩:=(dN M).1 h1;by_cases h3:oI Rm M.length
   ·have q1:=n7 Rm M.length (by omega) true (by simp[h3]);by_cases h4:oI t M.length
    ·have q2:=n7 t M.length (by omega) true (by simp[h4]);have hMs:oI M M.length:=by
      obtain⟨_,_,hsq,_⟩:=(dN M).1 h1;exact⟨rfl,fun q hq=>by
       obtain⟨i,hi⟩:=List.mem_iff_getElem?.1 hq;have:=(eW h1).2.2.1 i (List.getElem?_eq_some_iff.1 hi).1;rw[List.getD_eq_getElem?_getD,hi]at this;exact this⟩
     have eY:(ox Rm/\mg t/\ ∀i j,i<M.length->j<M.length->cngF M.length (ent M) (ent t) i j=ent Rm i j)->CO M Rm t=0:=fun h=>by
      unfold CO;rw[if_pos h1,if_pos h2,if_pos ⟨h3,h4⟩,if_pos h]
     have eN: ¬(ox Rm/\mg t/\ ∀i j,i<M.length->j<M.length->cngF M.length (ent M) (ent t) i j=ent Rm i j)->CO M Rm t=10:=fun h=>by
      unfold CO;rw[if_pos h1,if_pos h2,if_pos ⟨h3,h4⟩,if_neg h]
     have e1:=j6 (M:=M) (m:=M.length) hMs.2;have e2:=j6 (M:=Rm) (m:=M.length) h3.2;have e3:=j6 (M:=t) (m:=M.length) h4.2;rw[h3.1]at e2;rw[h4.1]at e3;have b1:=fun i j=>hM.ent i j
     have b2:=fun i j=>hR.ent i j
     have b3:=fun i j=>ht.ent i j
     have cO1:=vM M.length M.length (ent M) r1 (by omega) r1 (by omega) fun i j _ _=>b1 i j
     have cO2:=vM M.length M.length (ent Rm) r1 (by omega) r1 (by omega) fun i j _ _=>b2 i j
     have cO3:=vM M.length M.length (ent t) r1 (by omega) r1 (by omega) fun i j _ _=>b3 i j
     have cC:=mo M.length (ent M) (ent t) r1 (by omega) (fun i j _ _=>(b1 i j).sz (by omega)) (fun i j _ _=>(b3 i j).sz (by omega));have csz: ∀i j:Nat,i<M.length->j<M.length->Sz (cngF M.length (ent M) (ent t) i j) 1024:=fun i j _ _=>
      (yi (b:=2+2+M.length) (c:=2) (fun p hp=>yi (b:=2) (c:=2) (fun q _=>(b3 q i).sz (by omega)) (fun q _=>(b1 q p).sz (by omega))) (fun p _=>(b3 p j).sz (by omega))).mono (by omega)
     have cE:=fun(b:Bool) (hb:b=true↔ ∀i j,i<M.length->j<M.length->cngF M.length (ent M) (ent t) i j=ent Rm i j)=>JL M.length _ _ r1 (by omega) csz (fun i j _ _=>(b2 i j).sz (by omega)) b hb
     have cU:=O7 t ht;rw[<- e1]at cO1;rw[<- e2]at cO2;rw[<- e3]at cO3;rw[<- e1,<- e3]at cC;refine aI Tryz.func19 rfl (by kernel_rfl) ?_;rw[Tryz.ntmps19];refine aC fun _ K=>?_;simp only[kd,slI,aa,ae];apply K
     refine aD (aF [⟨1,_,_,_,c1⟩] [] fun _ K=>?_);simp only[kd,slI,aa];apply K;refine aN rfl (aK ?_);show bf _ _ _ _;refine aD (aC fun _ K=>?_);simp(disch:=omega) only[kd,aa];apply K;refine aN rfl (aK ?_);show bf _ _ _ _;refine aD (aF [⟨3,_,_,_,q1⟩,⟨9,_,_,_,q2⟩] [] fun _ K=>?_);simp(disch:=omega) only[kd,slI,aa,af];apply K;refine aN rfl (aK ?_);show bf _ _ _ _;by_cases h5:ox Rm
     ·have cI:=jj Rm true (by simp[h5]);by_cases h6:mg t
      ·rw[vI h6]at cU;by_cases h7: ∀i j,i<M.length->j<M.length->cngF M.length (ent M) (ent t) i j=ent Rm i j
       ·have cQ:=cE true ⟨fun _=>h7,fun _=>rfl⟩;rw[<- e2]at cQ;rw[eY ⟨h5,h6,h7⟩];refine aD (aF [⟨1,_,_,_,cI⟩,⟨5,_,_,_,cU⟩,⟨10,_,_,_,cO1⟩,⟨12,_,_,_,cO3⟩,⟨13,_,_,_,cC⟩,⟨15,_,_,_,cO2⟩,⟨16,_,_,_,cQ⟩] [] fun _ K=>?_);simp(disch:=omega) only[kd,slI,slM,aa,af];apply K;refine aN rfl (aK ?_);show bf _ _ _ _;refine aC fun _ K=>?_;simp only[kd];apply K
        (refine aH ⟨.inr rfl,aG rfl ?_ rfl⟩;simp(disch:=omega) only[kd,Tryz.results19])
       have cQ:=cE false ⟨fun h=>(by cases h),fun h=>absurd h h7⟩;rw[<- e2]at cQ;rw[eN fun h=>h7 h.2.2];refine aD (aF [⟨1,_,_,_,cI⟩,⟨5,_,_,_,cU⟩,⟨10,_,_,_,cO1⟩,⟨12,_,_,_,cO3⟩,⟨13,_,_,_,cC⟩,⟨15,_,_,_,cO2⟩,⟨16,_,_,_,cQ⟩] [] fun _ K=>?_);simp(disch:=omega) only[kd,slI,slM,aa,af];apply K;refine aS rfl ?_;refine aC fun _ K=>?_;simp only[kd];apply K
       (refine aH ⟨.inr rfl,aG rfl ?_ rfl⟩;simp(disch:=omega) only[kd,Tryz.results19])
      rw[l8 h6]at cU;rw[eN fun h=>h6 h.2.1];refine aD (aF [⟨1,_,_,_,cI⟩,⟨5,_,_,_,cU⟩] [] fun _ K=>?_);simp(disch:=omega) only[kd,slI,aa,af,reduceCtorEq];apply K;refine aS rfl ?_;refine aC fun _ K=>?_;simp only[kd];apply K
      (refine aH ⟨.inr rfl,aG rfl ?_ rfl⟩;simp(disch:=omega) only[kd,Tryz.results19])
     have cI:=jj Rm false (by simp[h5]);rw[eN fun h=>h5 h.1];refine aD (aF [⟨1,_,_,_,cI⟩] [] fun _ K=>?_);simp only[kd,slI,aa,reduceCtorEq,af];apply K;refine aS rfl ?_;refine aC fun _ K=>?_;simp only[kd];apply K
     (refine aH ⟨.inr rfl,aG rfl ?_ rfl⟩;simp(disch:=omega) only[kd,Tryz.results19])
    have q2:=n7 t M.length (by omega) false (by simp[h4]);have eV:CO M Rm t=3:=by unfold CO;rw[if_pos h1,if_pos h2,if_neg fun h=>h4 h.2]
    rw[eV];refine aI Tryz.func19 rfl (by kernel_rfl) ?_;rw[Tryz.ntmps19];refine aC fun _ K=>?_;simp only[kd,slI,aa,ae];apply K
    refine aD (aF [⟨1,_,_,_,c1⟩] [] fun _ K=>?_);simp only[kd,slI,aa];apply K;refine aN rfl (aK ?_);show bf _ _ _ _;refine aD (aC fun _ K=>?_);simp(disch:=omega) only[kd,aa];apply K;refine aN rfl (aK ?_);show bf _ _ _ _;refine aD (aF [⟨3,_,_,_,q1⟩,⟨9,_,_,_,q2⟩] [] fun _ K=>?_);simp(disch:=omega) only[kd,slI,aa,af];apply K;refine aS rfl ?_;refine aC fun _ K=>?_;simp only[kd];apply K
    (refine aH ⟨.inr rfl,aG rfl ?_ rfl⟩;simp(disch:=omega) only[kd,Tryz.results19])
   have q1:=n7 Rm M.length (by omega) false (by simp[h3]);have eV:CO M Rm t=3:=by unfold CO;rw[if_pos h1,if_pos h2,if_neg fun h=>h3 h.1]
   rw[eV];refine aI Tryz.func19 rfl (by kernel_rfl) ?_;rw[Tryz.ntmps19];refine aC fun _ K=>?_;simp only[kd,slI,aa,ae];apply K
   refine aD (aF [⟨1,_,_,_,c1⟩] [] fun _ K=>?_);simp only[kd,slI,aa];apply K;refine aN rfl (aK ?_);show bf _ _ _ _;refine aD (aC fun _ K=>?_);simp(disch:=omega) only[kd,aa];apply K;refine aN rfl (aK ?_);show bf _ _ _ _;refine aD (aF [⟨3,_,_,_,q1⟩] [] fun _ K=>?_);simp only[kd,slI,aa,reduceCtorEq,af];apply K;refine aS rfl ?_;refine aC fun _ K=>?_;simp only[kd];apply K
   (refine aH ⟨.inr rfl,aG rfl ?_ rfl⟩;simp(disch:=omega) only[kd,Tryz.results19])
  have eV:CO M Rm t=7:=by unfold CO;rw[if_pos h1,if_neg h2]
  rw[eV];have h2':(4:Int)<(M.length:Int):=by omega
  refine aI Tryz.func19 rfl (by kernel_rfl) ?_;rw[Tryz.ntmps19];refine aC fun _ K=>?_;simp only[kd,slI,aa,ae];apply K
  refine aD (aF [⟨1,_,_,_,c1⟩] [] fun _ K=>?_);simp only[kd,slI,aa];apply K;refine aN rfl (aK ?_);show bf _ _ _ _;refine aD (aC fun _ K=>?_);simp(disch:=omega) only[kd,aa];apply K;refine aS rfl ?_;refine aC fun _ K=>?_;simp only[kd];apply K
  (refine aH ⟨.inr rfl,aG rfl ?_ rfl⟩;simp(disch:=omega) only[kd,Tryz.results19])
 have eV:CO M Rm t=6:=by unfold CO;rw[if_neg h1]
 rw[eV];rw[show bF M=false by simpa using h1]at c1;refine aI Tryz.func19 rfl (by kernel_rfl) ?_;rw[Tryz.ntmps19];refine aC fun _ K=>?_;simp only[kd,slI,aa,ae];apply K
 refine aD (aF [⟨1,_,_,_,c1⟩] [] fun _ K=>?_);simp only[kd,slI,aa];apply K;refine aS rfl ?_;refine aC fun _ K=>?_;simp only[kd];apply K
 (refine aH ⟨.inr rfl,aG rfl ?_ rfl⟩;simp(disch:=omega) only[kd,Tryz.results19])
theorem fG {n c:Nat} {f:FF} (h: ∀i j,i<n->j<c->pr (f i j)):MI (mat n c f):=fun r hr z hz=>by
 obtain⟨i,hi,rfl⟩:=List.mem_map.1 hr;obtain⟨j,hj,rfl⟩:=List.mem_map.1 hz;exact h i j (List.mem_range.1 hi) (List.mem_range.1 hj)
theorem sf {n:Nat} {f:FF} {a b:Nat} {v:Int} (h: ∀i j,i<n->j<n->pr (f i j)) (hv:pr v): ∀i j,i<n->j<n->pr (upd f a b v i j):=fun i j hi hj=>by
 rcases ov f a b v i j with e|e
 ·rw[e];exact hv
 rw[e];exact h i j hi hj
theorem Qx (x:Int): -1<=Int.tmod x 2/\Int.tmod x 2<=1:=by
 have h1:=Int.tmod_lt_of_pos x (show(0:Int)<2 by omega);have h2:=Int.lt_tmod_of_pos x (show(0:Int)<2 by omega);omega
abbrev OU (d n i:Nat) (x:AV) (f:FF):List OObj:=⟨27,1,(fO d (ae n n)).set i [x]⟩::(mat n n f).map i9
def Dg (d i j:Nat) (x:AV):Prop:=x= .sl d (i+1) 0 j\/(j=0/\x= .p (.sl []))
theorem yj {d n i:Nat} {x:AV} {f:FF} {k:Nat} (hk:k<n):(OU d n i x f)[k+1]?=some (i9 (bz n (f k))):=by
 rw[List.getElem?_cons_succ,ax,bs _ _ hk];rfl
theorem Ao {d n i k:Nat} {x:AV} (hk:k<n):((fO d (ae n n)).set i [x])[k]?=some [if k=i then x else AV.sl d (k+1) 0 n]:=by
 rw[List.getElem?_set];by_cases e:i=k
 ·subst e;rw[if_pos rfl,if_pos (by rw[cq,aw];exact hk),if_pos rfl]
 rw[if_neg e,bK d n hk,if_neg (Ne.symm e)]
theorem zY {H:OH} {d n i j:Nat} {x:AV} {f:FF} (h:H d=OU d n i x f) (hx:Dg d i j x):r6 H d:=fun r o ho e he y hy=>by
 rw[h]at ho;cases r with
 |succ r=>
  rw[List.getElem?_cons_succ,ax]at ho;obtain⟨l,hl,rfl⟩:=Option.map_eq_some_iff.1 ho;exact .inl (dy _ _ l e he y hy)
 |zero=>
  simp at ho;subst ho;simp only at he;obtain⟨k,hk⟩:=List.mem_iff_getElem?.1 he;have hkn:k<n:=by
   have:=(List.getElem?_eq_some_iff.1 hk).1;rwa[List.length_set,cq,aw]at this
  rw[Ao hkn]at hk;injection hk with hk
  subst hk;simp only[List.mem_singleton]at hy;by_cases e:k=i
  ·rw[if_pos e]at hy;rcases hx with hx|⟨_,hx⟩
   ·exact .inr ⟨k+1,0,j,i9 (bz n (f k)),by rw[hy,hx,e],by rw[h];exact yj hkn,dy _ _ _⟩
   rw[hy,hx];exact .inl rfl
  rw[if_neg e]at hy;exact .inr ⟨k+1,0,n,i9 (bz n (f k)),hy,by rw[h];exact yj hkn,dy _ _ _⟩
theorem Qd {H:OH} {d n i j:Nat} {x:AV} {f:FF} (h:H d=OU d n i x f) (hx:Dg d i j x):fD H d (.one (.sl d 0 0 n))=slI ((mat n n f).set i ((bz n (f i)).take j)):=by
 have row: ∀k l,k<n->gQ H d (.sl d (k+1) 0 l)= .sl (ls fI ((bz n (f k)).take l)):=fun k l hk=>by
  have hr:(H d)[k+1]?=some (i9 (bz n (f k))):=by rw[h];exact yj hk
  simp only[gQ,hr,i9,fE,pP,nK,List.drop_zero,Nat.zero_add]
 have e:(((fO d (ae n n)).set i [x]).map (List.map (gQ H d)))=ls (fR fI) ((mat n n f).set i ((bz n (f i)).take j)):=by
  apply List.ext_getElem?;intro k;rw[ax,eZ];by_cases hk:k<n
  ·rw[Ao hk,List.getElem?_set];simp only[Option.map_some,List.map_cons,List.map_nil,fR];by_cases hki:i=k
   ·subst hki;rw[if_pos rfl,if_pos rfl,if_pos (by rw[aU];exact hk)];rcases hx with hx|⟨hj,hx⟩
    ·rw[hx,row i j hk];rfl
    rw[hx,hj];rfl
   rw[if_neg hki,bs _ _ hk,if_neg (Ne.symm hki),row k n hk,List.take_of_length_le (by rw[bv];omega)];rfl
  rw[List.getElem?_eq_none (by rw[List.length_set,cq,aw];omega),List.getElem?_eq_none (by rw[List.length_set,aU];omega)];rfl
 simp only[fD,eG,if_true,h,List.getElem?_cons_zero];rw[List.drop_zero,List.take_of_length_le (by rw[List.length_set,cq,aw];omega),e]
theorem MI.cut {M:List (List Int)} (h:MI M) (i:Nat) {r:List Int} (hr: ∀z∈r,pr z):MI (M.set i r):=fun q hq=>by
 rcases List.mem_or_eq_of_mem_set hq with h1|h1
 ·exact h q h1
 rw[h1];exact hr
theorem LD {ops:Array Oper} {m d n:Nat} {G R:FF} {s:AS} (hd:cwD ops m=some d):GV ops m (Qo n G R) s=AS.put ⟨s.tmps,bi s.H d (pR d n G R)⟩ (some d) (.tup [(false,[.sl d 0 0 n]),(false,[.sl d (n+1) 0 n]),(false,[.p (.raw (.int .i64 0))])]):=by
 unfold GV;rw[hd];simp only[ja,Eg,fF,List.map_cons,List.map_nil,fd];rfl
theorem vT (dim kind:Nat) (L B:List Int) (wh q:Nat) (c:Int) (hL:I8 L) (hdim:dim<=255) (hkind:kind<=255) (hwh:wh<=255) (hq:q<=255) (hc: -128<=c/\c<=127):
  CallG Tryz.prog 0 138 10 [tL dim kind L B,.raw (.int .u8 (wh:Int)),.raw (.int .u8 (q:Int)),.raw (.int .i8 c)] je ⟨[],.raw (.bool true)⟩:=by
 obtain⟨n,hn⟩: ∃n,n=1+dim%4:=⟨_,rfl⟩;have hn1:1<=n:=by omega
 have hn4:n<=4:=by have:=Nat.mod_lt dim (show 0<4 by omega);omega
 obtain⟨h,T,hr,hT⟩:=N7 kind L (n:=n) hn1 (by omega);have cF:=Lc dim kind L B 4 n h T hL hdim hkind (by omega) (by omega) hn hr hT;have cH:=Dh dim kind L B 4 n h T hL hdim hkind (by omega) (by omega) hn hr hT;rw[show((4:Nat):Int)=4 from rfl]at cF cH;obtain⟨R,hR,inc,_⟩:=CH hn1 hn4 hr;have cAT:=CG n h R hn1 hn4 hr hR;have iG: ∀i j,i<n->j<n->pr (cngF n h R i j):=fun i j hi hj=>by have:=inc.cb hr hi hj;constructor<;>omega
 have bG: ∀i j,i<n->j<n-> -262144<=cngF n h R i j/\cngF n h R i j<=262144:=fun i j hi hj=>inc.cb hr hi hj
 have bR: ∀i j,i<n->j<n-> -1099511627776<=R i j/\R i j<=1099511627776:=fun i j hi hj=>inc.ent hn1 hn4 hr hi hj
 have iR: ∀i j,i<n->j<n->pr (R i j):=fun i j hi hj=>by have:=bR i j hi hj;constructor<;>omega
 have bH: ∀i j,i<n->j<n-> -262144<=h i j/\h i j<=262144:=fun i j hi hj=>by have:=il hn1 (by omega) hr i hi j hj;omega
 have iH: ∀i j,i<n->j<n->pr (h i j):=fun i j hi hj=>by have:=bH i j hi hj;constructor<;>omega
 have mH:=fG iH;have cA:=Dw;generalize cngF n h R=G at*
 clear hR inc hr hT;obtain⟨i,ei⟩: ∃i,i=q%n:=⟨_,rfl⟩;obtain⟨j,ej⟩: ∃j,j=q/16%n:=⟨_,rfl⟩;have hi:i<n:=by rw[ei];exact Nat.mod_lt _ (by omega)
 have hj:j<n:=by rw[ej];exact Nat.mod_lt _ (by omega)
 have e1:IntKind.i64.wrap (q:Int)=(q:Int):=aO (by omega) (by omega);have e2:Int.tmod (q:Int) (n:Int)=(i:Int):=by rw[ei];exact(Int.ofNat_tmod q n).symm
 have e3:IntKind.i64.wrap (Int.tdiv (q:Int) 16)=((q/16:Nat):Int):=by
  rw[show Int.tdiv (q:Int) 16=((q/16:Nat):Int)from(Int.ofNat_tdiv q 16).symm];exact aO (by omega) (by omega)
 have e4:Int.tmod ((q/16:Nat):Int) (n:Int)=(j:Int):=by rw[ej];exact(Int.ofNat_tmod _ n).symm
 obtain⟨e,he⟩: ∃e,e=Int.tmod c 2:=⟨_,rfl⟩;have he':Int.tmod c 2=e:=he.symm;have hbe: -1<=e/\e<=1:=by rw[he];exact Qx c
 have e5:IntKind.i64.wrap e=e:=aO (by omega) (by omega);clear ei ej he;have hne:(n:Int)≠0:=by omega
 have w1:Int.tmod (wh:Int) 6=((wh%6:Nat):Int):=(Int.ofNat_tmod wh 6).symm;have g1:=bK (n:=n) (i:=i) 19 n hi;have g2:=bK (n:=n) (i:=j) 19 n hj;have hml:=aU n n G;have h6:wh%6=0\/wh%6=1\/wh%6=2\/wh%6=3\/wh%6=4\/wh%6=5:=by omega
 rcases h6 with h0|h0|h0|h0|h0|h0
 ·rw[h0]at w1;have cR:=CF cAT;refine dq Tryz.func10 rfl (by kernel_rfl) ?_;rw[Tryz.ntmps10];refine aM fun _ K=>?_;simp(disch:=omega) only[kd,tL,aa,ae];apply K
  refine cw [⟨1,_,_,_,cF⟩] [] fun _ K=>?_;simp only[kd,tL,slI,aa];apply K
  refine cw [⟨1,_,_,_,cR⟩] [] fun _ K=>?_;simp only[kd,slI,aa,ab];apply K
  refine de.weak (aE (tm:=(jk::.raw (.int .u8 (wh:Int))::.raw (.int .u8 (q:Int))::.raw (.int .i8 c)::j4 (jk::slI (mat n n h)::.one (.sl 19 0 0 n)::slI (mat n n R)::j16 (j16 (j16 (j16 (j16 (j16 (j4 (j4 (jk::jk::jk::[]))))))))))) (l:=[(19,mxI 19 n n G)]) ⟨bZ 0 19 _ _ _,trivial⟩ (by simp[wk])) ?_;refine ef aW (by kernel_rfl) fun _ K=>?_;simp(disch:=omega) only[kd,aa,slI,e1,e2,e3,e4];apply K
  refine bx (aM fun _ K=>?_);simp(disch:=omega) only[kd,w1];apply K;refine bV ?_;refine aM fun _ K=>?_;simp(disch:=omega) only[kd];apply K
  refine dU rfl ?_;obtain⟨v,hv⟩: ∃v,v=G i j+e:=⟨_,rfl⟩;have hbv:=bG i j hi hj;have e6:IntKind.i64.wrap (G i j+e)=v:=by rw[hv];exact aO (by omega) (by omega)
  have r1:=bS (n:=n) n G (i:=i) hi;have q1:=aR (G i) hj;refine aM fun _ K=>?_;simp(disch:=omega) only[kd,aa,g1,r1,q1,he',e5,e6,da];apply K
  refine de.weak (aE (tm:=(j4 (j4 (jk::slI (mat n n h)::.one (.sl 19 0 0 n)::slI (mat n n R)::jk::rN i::rN j::j16 (j16 (j16 (j16 (j16 (j16 (j4 (j4 ([])))))))))))) (l:=[(19,mxI 19 n n (upd G i j v))]) ⟨rfl,trivial⟩ (by simp[wk])) ?_;have i1:=sf (a:=i) (b:=j) (v:=v) iG ⟨by omega,by omega⟩;generalize upd G i j v=F1 at*
  have r3:=bS (n:=n) n F1 (i:=i) hi;have r4:=bS (n:=n) n F1 (i:=j) hj;have q5:=aR (F1 i) hj;have q6:=aR (F1 j) hi;refine gA aW (by kernel_rfl) fun _ K=>?_;simp(disch:=omega) only[kd,aa,slI,g2,g1,r3,q5,r4,q6,da];apply K
  show de _ _ _ _ _ _ _;refine de.weak (aE (tm:=(j4 (j4 (jk::slI (mat n n h)::.one (.sl 19 0 0 n)::slI (mat n n R)::j16 (j16 (j16 (j16 (j16 (j16 (j4 (j4 (jk::jk::jk::[])))))))))))) (l:=[(19,mxI 19 n n (upd F1 j i (F1 i j)))]) ⟨rfl,trivial⟩ (by simp[wk])) ?_;have i2:=sf (a:=j) (b:=i) (v:=F1 i j) i1 (i1 i j hi hj);generalize upd F1 j i (F1 i j)=F2 at*
  refine de.weak ((bC 19 (bU (d:=19) (n:=n) (c:=n) (f:=F2) rfl)).trans (aE (tm:=(j4 (j4 (jk::slI (mat n n h)::slI (mat n n F2)::slI (mat n n R)::j16 (j16 (j16 (j16 (j16 (j16 (j4 (j4 (jk::jk::jk::[])))))))))))) (l:=[]) trivial (by
   simp[wk]
   (repeat' apply And.intro)<;>first|rfl|exact(gD (H:=Hm [(19,mxI 19 n n F2)]) (d:=19) (n:=n) (c:=n) (f:=F2) rfl).symm))) ?_
  have cV:=im (mat n n h) (mat n n F2) (mat n n R) (fG iR) (by rw[aU];omega) (by rw[aU];omega);have cW:=iq (mat n n h) (mat n n F2) (mat n n R) mH (fG i2) (fG iR);rw[<- pn]at cW;generalize vK (mat n n h) (mat n n F2) (mat n n R)=ee at*
  refine cy [⟨3,_,_,_,cV,rfl⟩,⟨10,_,_,_,cA,rfl⟩] [⟨7,_,_,_,cW⟩] [] fun _ K=>?_;simp(disch:=omega) only[kd,slI,dI.a,aa,af];apply K
  (refine cX ⟨.inr rfl,rfl,aG rfl ?_ rfl⟩;simp(disch:=omega) only[kd,Tryz.results10])
 ·rw[h0]at w1;have cR:=JM cAT;refine dq Tryz.func10 rfl (by kernel_rfl) ?_;rw[Tryz.ntmps10];refine aM fun _ K=>?_;simp(disch:=omega) only[kd,tL,aa,ae];apply K
  refine cw [⟨1,_,_,_,cF⟩] [] fun _ K=>?_;simp only[kd,tL,slI,aa];apply K
  refine cw [⟨1,_,_,_,cR⟩] [] fun _ K=>?_;simp only[kd,slI,aa,ab];apply K
  refine de.weak (aE (tm:=(jk::.raw (.int .u8 (wh:Int))::.raw (.int .u8 (q:Int))::.raw (.int .i8 c)::j4 (jk::slI (mat n n h)::slI (mat n n G)::.one (.sl 19 0 0 n)::j16 (j16 (j16 (j16 (j16 (j16 (j4 (j4 (jk::jk::jk::[]))))))))))) (l:=[(19,mxI 19 n n R)]) ⟨bZ 0 19 _ _ _,trivial⟩ (by simp[wk])) ?_;refine ef aW (by kernel_rfl) fun _ K=>?_;simp(disch:=omega) only[kd,aa,slI,e1,hml,e2,e3,e4];apply K
  refine bx (aM fun _ K=>?_);simp(disch:=omega) only[kd,w1];apply K;refine bV ?_;refine aM fun _ K=>?_;simp(disch:=omega) only[kd];apply K
  refine cJ rfl ?_;refine aM fun _ K=>?_;simp(disch:=omega) only[kd];apply K
  refine dU rfl ?_;obtain⟨v,hv⟩: ∃v,v=R i j+e:=⟨_,rfl⟩;have hbv:=bR i j hi hj;have e6:IntKind.i64.wrap (R i j+e)=v:=by rw[hv];exact aO (by omega) (by omega)
  have r1:=bS (n:=n) n R (i:=i) hi;have q1:=aR (R i) hj;refine cd fun _ K=>?_;simp(disch:=omega) only[kd,aa,g1,r1,q1,he',e5,e6,da];apply K
  show de _ _ _ _ _ _ _;refine de.weak (aE (tm:=(j4 (j4 (jk::slI (mat n n h)::slI (mat n n G)::.one (.sl 19 0 0 n)::j16 (j16 (j16 (j16 (j16 (j16 (j4 (j4 (jk::jk::jk::[])))))))))))) (l:=[(19,mxI 19 n n (upd R i j v))]) ⟨rfl,trivial⟩ (by simp[wk])) ?_;have i1:=sf (a:=i) (b:=j) (v:=v) iR ⟨by omega,by omega⟩;generalize upd R i j v=F1 at*
  refine de.weak ((bC 19 (bU (d:=19) (n:=n) (c:=n) (f:=F1) rfl)).trans (aE (tm:=(j4 (j4 (jk::slI (mat n n h)::slI (mat n n G)::slI (mat n n F1)::j16 (j16 (j16 (j16 (j16 (j16 (j4 (j4 (jk::jk::jk::[])))))))))))) (l:=[]) trivial (by
   simp[wk]
   (repeat' apply And.intro)<;>first|rfl|exact(gD (H:=Hm [(19,mxI 19 n n F1)]) (d:=19) (n:=n) (c:=n) (f:=F1) rfl).symm))) ?_
  have cV:=im (mat n n h) (mat n n G) (mat n n F1) (fG i1) (by rw[aU];omega) (by rw[aU];omega);have cW:=iq (mat n n h) (mat n n G) (mat n n F1) mH (fG iG) (fG i1);rw[<- pn]at cW;generalize vK (mat n n h) (mat n n G) (mat n n F1)=ee at*
  refine cy [⟨3,_,_,_,cV,rfl⟩,⟨10,_,_,_,cA,rfl⟩] [⟨7,_,_,_,cW⟩] [] fun _ K=>?_;simp(disch:=omega) only[kd,slI,dI.a,aa,af];apply K
  (refine cX ⟨.inr rfl,rfl,aG rfl ?_ rfl⟩;simp(disch:=omega) only[kd,Tryz.results10])
 ·rw[h0]at w1;have cR:=CF cAT;refine dq Tryz.func10 rfl (by kernel_rfl) ?_;rw[Tryz.ntmps10];refine aM fun _ K=>?_;simp(disch:=omega) only[kd,tL,aa,ae];apply K
  refine cw [⟨1,_,_,_,cF⟩] [] fun _ K=>?_;simp only[kd,tL,slI,aa];apply K
  refine cw [⟨1,_,_,_,cR⟩] [] fun _ K=>?_;simp only[kd,slI,aa,ab];apply K
  refine de.weak (aE (tm:=(jk::.raw (.int .u8 (wh:Int))::.raw (.int .u8 (q:Int))::.raw (.int .i8 c)::j4 (jk::slI (mat n n h)::.one (.sl 19 0 0 n)::slI (mat n n R)::j16 (j16 (j16 (j16 (j16 (j16 (j4 (j4 (jk::jk::jk::[]))))))))))) (l:=[(19,mxI 19 n n G)]) ⟨bZ 0 19 _ _ _,trivial⟩ (by simp[wk])) ?_;refine de.weak ((bC 19 (bU (d:=19) (n:=n) (c:=n) (f:=G) rfl)).trans (aE (tm:=(jk::.raw (.int .u8 (wh:Int))::.raw (.int .u8 (q:Int))::.raw (.int .i8 c)::j4 (jk::slI (mat n n h)::slI (mat n n G)::slI (mat n n R)::j16 (j16 (j16 (j16 (j16 (j16 (j4 (j4 (jk::jk::jk::[]))))))))))) (l:=[]) trivial (by
   simp[wk]
   (repeat' apply And.intro)<;>first|rfl|exact(gD (H:=Hm [(19,mxI 19 n n G)]) (d:=19) (n:=n) (c:=n) (f:=G) rfl).symm))) ?_
  refine ef aW (by kernel_rfl) fun _ K=>?_;simp(disch:=omega) only[kd,aa,slI,e1,hml,e2,e3,e4];apply K
  refine bx (aM fun _ K=>?_);simp(disch:=omega) only[kd,w1];apply K;refine bV ?_;refine aM fun _ K=>?_;simp(disch:=omega) only[kd];apply K
  refine cJ rfl ?_;refine aM fun _ K=>?_;simp(disch:=omega) only[kd];apply K
  refine cJ rfl ?_;refine aM fun _ K=>?_;simp(disch:=omega) only[kd];apply K
  refine dU rfl ?_;have hs:(0<=i/\i<=n/\ ∀(c:List PV),c∈ls (fR fI) (mat n n G)->c.length=1)=True:=eq_true ⟨by omega,by omega,fun c hc=>by
   obtain⟨r,_,rfl⟩:=List.mem_map.1 hc;rfl⟩
  refine cd fun _ K=>?_;simp(disch:=omega) only[kd,aa,hml,hs];apply K
  show de _ _ _ _ _ _ _;have cV:=im (mat n n h) ((mat n n G).take i) (mat n n R) (fG iR) (by rw[List.length_take,aU];omega) (by rw[aU];omega);have cW:=iq (mat n n h) ((mat n n G).take i) (mat n n R) mH (fun r hr=>fG iG r (List.mem_of_mem_take hr)) (fG iR);rw[<- pn]at cW;generalize vK (mat n n h) ((mat n n G).take i) (mat n n R)=ee at*
  refine cy [⟨3,_,_,_,cV,rfl⟩,⟨10,_,_,_,cA,rfl⟩] [⟨7,_,_,_,cW⟩] [] fun _ K=>?_;simp(disch:=omega) only[kd,slI,dI.a,aa,af];apply K
  (refine cX ⟨.inr rfl,rfl,aG rfl ?_ rfl⟩;simp(disch:=omega) only[kd,Tryz.results10])
 ·rw[h0]at w1;have cR:=JM cAT;refine dq Tryz.func10 rfl (by kernel_rfl) ?_;rw[Tryz.ntmps10];refine aM fun _ K=>?_;simp(disch:=omega) only[kd,tL,aa,ae];apply K
  refine cw [⟨1,_,_,_,cF⟩] [] fun _ K=>?_;simp only[kd,tL,slI,aa];apply K
  refine cw [⟨1,_,_,_,cR⟩] [] fun _ K=>?_;simp only[kd,slI,aa,ab];apply K
  refine de.weak (aE (tm:=(jk::.raw (.int .u8 (wh:Int))::.raw (.int .u8 (q:Int))::.raw (.int .i8 c)::j4 (jk::slI (mat n n h)::slI (mat n n G)::.one (.sl 19 0 0 n)::j16 (j16 (j16 (j16 (j16 (j16 (j4 (j4 (jk::jk::jk::[]))))))))))) (l:=[(19,mxI 19 n n R)]) ⟨bZ 0 19 _ _ _,trivial⟩ (by simp[wk])) ?_;refine ef aW (by kernel_rfl) fun _ K=>?_;simp(disch:=omega) only[kd,aa,slI,e1,hml,e2,e3,e4];apply K
  refine bx (aM fun _ K=>?_);simp(disch:=omega) only[kd,w1];apply K;refine bV ?_;refine aM fun _ K=>?_;simp(disch:=omega) only[kd];apply K
  refine cJ rfl ?_;refine aM fun _ K=>?_;simp(disch:=omega) only[kd];apply K
  refine cJ rfl ?_;refine aM fun _ K=>?_;simp(disch:=omega) only[kd];apply K
  refine cJ rfl ?_;refine aM fun _ K=>?_;simp(disch:=omega) only[kd];apply K
  refine dU rfl ?_;have r1:=bS (n:=n) n R (i:=i) hi;by_cases hj0:0<j
  ·have hs:(0<j/\j<=n)=True:=eq_true ⟨hj0,by omega⟩;refine cd fun _ K=>?_;simp(disch:=omega) only[kd,aa,g1,r1,hs,Nat.sub_zero];apply K
   show de _ _ _ _ _ _ _;refine de.weak (aE (tm:=(j4 (j4 (jk::slI (mat n n h)::slI (mat n n G)::.one (.sl 19 0 0 n)::j16 (j16 (j16 (j16 (j16 (j16 (j4 (j4 (jk::jk::jk::[])))))))))))) (l:=[(19,OU 19 n i (.sl 19 (i+1) 0 j) R)]) ⟨rfl,trivial⟩ (by simp[wk])) ?_;have ck:Dg 19 i j (.sl 19 (i+1) 0 j):= .inl rfl;refine de.weak ((bC 19 (zY (d:=19) (n:=n) (i:=i) (j:=j) (f:=R) rfl ck)).trans (aE (tm:=(j4 (j4 (jk::slI (mat n n h)::slI (mat n n G)::slI ((mat n n R).set i ((bz n (R i)).take j))::j16 (j16 (j16 (j16 (j16 (j16 (j4 (j4 (jk::jk::jk::[])))))))))))) (l:=[]) trivial (by
    simp[wk]
    (repeat' apply And.intro)<;>first|rfl|exact(Qd (H:=Hm [(19,OU 19 n i (.sl 19 (i+1) 0 j) R)]) (d:=19) (n:=n) (i:=i) (j:=j) (f:=R) rfl ck).symm))) ?_
   have mT:MI ((mat n n R).set i ((bz n (R i)).take j)):=(fG iR).cut i fun z hz=>fG iR _ (au (bs n R hi)) z (List.mem_of_mem_take hz)
   have cV:=im (mat n n h) (mat n n G) ((mat n n R).set i ((bz n (R i)).take j)) mT (by rw[aU];omega) (by rw[List.length_set,aU];omega);have cW:=iq (mat n n h) (mat n n G) ((mat n n R).set i ((bz n (R i)).take j)) mH (fG iG) mT;rw[<- pn]at cW;generalize vK (mat n n h) (mat n n G) ((mat n n R).set i ((bz n (R i)).take j))=ee at*
   refine cy [⟨3,_,_,_,cV,rfl⟩,⟨10,_,_,_,cA,rfl⟩] [⟨7,_,_,_,cW⟩] [] fun _ K=>?_;simp(disch:=omega) only[kd,slI,dI.a,aa,af];apply K
   (refine cX ⟨.inr rfl,rfl,aG rfl ?_ rfl⟩;simp(disch:=omega) only[kd,Tryz.results10])
  have hs:(0<j/\j<=n)=False:=eq_false (by omega);refine cd fun _ K=>?_;simp(disch:=omega) only[kd,aa,g1,r1,hs,Nat.sub_zero];apply K
  show de _ _ _ _ _ _ _;refine de.weak (aE (tm:=(j4 (j4 (jk::slI (mat n n h)::slI (mat n n G)::.one (.sl 19 0 0 n)::j16 (j16 (j16 (j16 (j16 (j16 (j4 (j4 (jk::jk::jk::[])))))))))))) (l:=[(19,OU 19 n i (.p (.sl [])) R)]) ⟨rfl,trivial⟩ (by simp[wk])) ?_;have ck:Dg 19 i j (.p (.sl [])):= .inr ⟨by omega,rfl⟩;refine de.weak ((bC 19 (zY (d:=19) (n:=n) (i:=i) (j:=j) (f:=R) rfl ck)).trans (aE (tm:=(j4 (j4 (jk::slI (mat n n h)::slI (mat n n G)::slI ((mat n n R).set i ((bz n (R i)).take j))::j16 (j16 (j16 (j16 (j16 (j16 (j4 (j4 (jk::jk::jk::[])))))))))))) (l:=[]) trivial (by
   simp[wk]
   (repeat' apply And.intro)<;>first|rfl|exact(Qd (H:=Hm [(19,OU 19 n i (.p (.sl [])) R)]) (d:=19) (n:=n) (i:=i) (j:=j) (f:=R) rfl ck).symm))) ?_
  have mT:MI ((mat n n R).set i ((bz n (R i)).take j)):=(fG iR).cut i fun z hz=>fG iR _ (au (bs n R hi)) z (List.mem_of_mem_take hz)
  have cV:=im (mat n n h) (mat n n G) ((mat n n R).set i ((bz n (R i)).take j)) mT (by rw[aU];omega) (by rw[List.length_set,aU];omega);have cW:=iq (mat n n h) (mat n n G) ((mat n n R).set i ((bz n (R i)).take j)) mH (fG iG) mT;rw[<- pn]at cW;generalize vK (mat n n h) (mat n n G) ((mat n n R).set i ((bz n (R i)).take j))=ee at*
  refine cy [⟨3,_,_,_,cV,rfl⟩,⟨10,_,_,_,cA,rfl⟩] [⟨7,_,_,_,cW⟩] [] fun _ K=>?_;simp(disch:=omega) only[kd,slI,dI.a,aa,af];apply K
  (refine cX ⟨.inr rfl,rfl,aG rfl ?_ rfl⟩;simp(disch:=omega) only[kd,Tryz.results10])
 ·rw[h0]at w1;have k1:=bK (n:=n) (i:=i) 16 n hi;refine dq Tryz.func10 rfl (by kernel_rfl) ?_;rw[Tryz.ntmps10];refine aM fun _ K=>?_;simp(disch:=omega) only[kd,tL,aa,ae];apply K
  refine cw [⟨1,_,_,_,cH⟩] [] fun _ K=>?_;simp only[kd,tL,aa,ab];apply K
  refine de.weak (aE (tm:=(jk::.raw (.int .u8 (wh:Int))::.raw (.int .u8 (q:Int))::.raw (.int .i8 c)::j4 (jk::.one (.sl 16 0 0 n)::j16 (j16 (j16 (j16 (j16 (j16 (j4 (j4 (j4 (jk::[])))))))))))) (l:=[(16,mxI 16 n n h)]) ⟨bZ 0 16 _ _ _,trivial⟩ (by simp[wk])) ?_
  first|refine tc 1 cAT.g (AM n G R) [] [] (by decide) fun K hK=>?_|refine bx (tc 1 cAT.g (AM n G R) [] [] (by decide) fun K hK=>?_)
  simp only[kd];apply hK;clear hK K;refine⟨⟨⟨_,rfl,.inr ⟨16,0,0,n,rfl,bU (d:=16) (n:=n) (c:=n) (f:=h) rfl,gD (d:=16) (n:=n) (c:=n) (f:=h) rfl⟩,trivial⟩,⟨19,rfl,fun _=>rfl⟩⟩,?_⟩;intro K hK;rw[LD (d:=19) rfl];simp only[kd,aa];apply hK;clear hK K;refine de.weak (aE (tm:=(jk::.raw (.int .u8 (wh:Int))::.raw (.int .u8 (q:Int))::.raw (.int .i8 c)::j4 (jk::.one (.sl 16 0 0 n)::.one (.sl 19 0 0 n)::.one (.sl 19 (n+1) 0 n)::j16 (j16 (j16 (j16 (j16 (j16 (j4 (j4 (jk::jk::jk::[]))))))))))) (l:=[(16,mxI 16 n n h),(19,pR 19 n G R)]) ⟨rfl,rfl,trivial⟩ (by simp[wk])) ?_;refine de.weak ((bC 19 (Iy (d:=19) (n:=n) (A:=G) (T:=R) rfl)).trans (aE (tm:=(jk::.raw (.int .u8 (wh:Int))::.raw (.int .u8 (q:Int))::.raw (.int .i8 c)::j4 (jk::.one (.sl 16 0 0 n)::slI (mat n n G)::slI (mat n n R)::j16 (j16 (j16 (j16 (j16 (j16 (j4 (j4 (jk::jk::jk::[]))))))))))) (l:=[(16,mxI 16 n n h)]) ⟨rfl,trivial⟩ (by
   simp[wk]
   (repeat' apply And.intro)<;>first|rfl|exact(Q7 (H:=Hm [(16,mxI 16 n n h),(19,pR 19 n G R)]) (d:=19) (n:=n) (A:=G) (T:=R) rfl).symm|exact(Q8 (H:=Hm [(16,mxI 16 n n h),(19,pR 19 n G R)]) (d:=19) (n:=n) (A:=G) (T:=R) rfl).symm))) ?_
  refine ef aW (by kernel_rfl) fun _ K=>?_;simp(disch:=omega) only[kd,aa,slI,e1,hml,e2,e3,e4];apply K
  refine bx (aM fun _ K=>?_);simp(disch:=omega) only[kd,w1];apply K;refine bV ?_;refine aM fun _ K=>?_;simp(disch:=omega) only[kd];apply K
  refine cJ rfl ?_;refine aM fun _ K=>?_;simp(disch:=omega) only[kd];apply K
  refine cJ rfl ?_;refine aM fun _ K=>?_;simp(disch:=omega) only[kd];apply K
  refine cJ rfl ?_;refine aM fun _ K=>?_;simp(disch:=omega) only[kd];apply K
  refine cJ rfl ?_;refine aM fun _ K=>?_;simp(disch:=omega) only[kd];apply K
  refine dU rfl ?_;obtain⟨v,hv⟩: ∃v,v=h i i+e:=⟨_,rfl⟩;have hbv:=bH i i hi hi;have e6:IntKind.i64.wrap (h i i+e)=v:=by rw[hv];exact aO (by omega) (by omega)
  have r1:=bS (n:=n) n h (i:=i) hi;have q1:=aR (h i) hi;refine cd fun _ K=>?_;simp(disch:=omega) only[kd,aa,k1,r1,q1,he',e5,e6,da];apply K
  show de _ _ _ _ _ _ _;refine de.weak (aE (tm:=(j4 (j4 (jk::.one (.sl 16 0 0 n)::slI (mat n n G)::slI (mat n n R)::j16 (j16 (j16 (j16 (j16 (j16 (j4 (j4 (jk::jk::jk::[])))))))))))) (l:=[(16,mxI 16 n n (upd h i i v))]) ⟨rfl,trivial⟩ (by simp[wk])) ?_;have i1:=sf (a:=i) (b:=i) (v:=v) iH ⟨by omega,by omega⟩;generalize upd h i i v=F1 at*
  refine de.weak ((bC 16 (bU (d:=16) (n:=n) (c:=n) (f:=F1) rfl)).trans (aE (tm:=(j4 (j4 (jk::slI (mat n n F1)::slI (mat n n G)::slI (mat n n R)::j16 (j16 (j16 (j16 (j16 (j16 (j4 (j4 (jk::jk::jk::[])))))))))))) (l:=[]) trivial (by
   simp[wk]
   (repeat' apply And.intro)<;>first|rfl|exact(gD (H:=Hm [(16,mxI 16 n n F1)]) (d:=16) (n:=n) (c:=n) (f:=F1) rfl).symm))) ?_
  have cV:=im (mat n n F1) (mat n n G) (mat n n R) (fG iR) (by rw[aU];omega) (by rw[aU];omega);have cW:=iq (mat n n F1) (mat n n G) (mat n n R) (fG i1) (fG iG) (fG iR);rw[<- pn]at cW;generalize vK (mat n n F1) (mat n n G) (mat n n R)=ee at*
  refine cy [⟨3,_,_,_,cV,rfl⟩,⟨10,_,_,_,cA,rfl⟩] [⟨7,_,_,_,cW⟩] [] fun _ K=>?_;simp(disch:=omega) only[kd,slI,dI.a,aa,af];apply K
  (refine cX ⟨.inr rfl,rfl,aG rfl ?_ rfl⟩;simp(disch:=omega) only[kd,Tryz.results10])
 rw[h0]at w1;have cR:=CF cAT;refine dq Tryz.func10 rfl (by kernel_rfl) ?_;rw[Tryz.ntmps10];refine aM fun _ K=>?_;simp(disch:=omega) only[kd,tL,aa,ae];apply K
 refine cw [⟨1,_,_,_,cF⟩] [] fun _ K=>?_;simp only[kd,tL,slI,aa];apply K
 refine cw [⟨1,_,_,_,cR⟩] [] fun _ K=>?_;simp only[kd,slI,aa,ab];apply K
 refine de.weak (aE (tm:=(jk::.raw (.int .u8 (wh:Int))::.raw (.int .u8 (q:Int))::.raw (.int .i8 c)::j4 (jk::slI (mat n n h)::.one (.sl 19 0 0 n)::slI (mat n n R)::j16 (j16 (j16 (j16 (j16 (j16 (j4 (j4 (jk::jk::jk::[]))))))))))) (l:=[(19,mxI 19 n n G)]) ⟨bZ 0 19 _ _ _,trivial⟩ (by simp[wk])) ?_;refine de.weak ((bC 19 (bU (d:=19) (n:=n) (c:=n) (f:=G) rfl)).trans (aE (tm:=(jk::.raw (.int .u8 (wh:Int))::.raw (.int .u8 (q:Int))::.raw (.int .i8 c)::j4 (jk::slI (mat n n h)::slI (mat n n G)::slI (mat n n R)::j16 (j16 (j16 (j16 (j16 (j16 (j4 (j4 (jk::jk::jk::[]))))))))))) (l:=[]) trivial (by
  simp[wk]
  (repeat' apply And.intro)<;>first|rfl|exact(gD (H:=Hm [(19,mxI 19 n n G)]) (d:=19) (n:=n) (c:=n) (f:=G) rfl).symm))) ?_
 refine ef aW (by kernel_rfl) fun _ K=>?_;simp(disch:=omega) only[kd,aa,slI,e1,hml,e2,e3,e4];apply K
 refine bx (aM fun _ K=>?_);simp(disch:=omega) only[kd,w1];apply K;refine bV ?_;refine aM fun _ K=>?_;simp(disch:=omega) only[kd];apply K
 refine cJ rfl ?_;refine aM fun _ K=>?_;simp(disch:=omega) only[kd];apply K
 refine cJ rfl ?_;refine aM fun _ K=>?_;simp(disch:=omega) only[kd];apply K
 refine cJ rfl ?_;refine aM fun _ K=>?_;simp(disch:=omega) only[kd];apply K
 refine cJ rfl ?_;refine aM fun _ K=>?_;simp(disch:=omega) only[kd];apply K
 refine cJ rfl ?_;refine eB ?_;show de _ _ _ _ _ _ _;have cV:=im (mat n n h) (mat n n G) (mat n n R) (fG iR) (by rw[aU];omega) (by rw[aU];omega);have cW:=iq (mat n n h) (mat n n G) (mat n n R) mH (fG iG) (fG iR);rw[<- pn]at cW;generalize vK (mat n n h) (mat n n G) (mat n n R)=ee at*
 refine cy [⟨3,_,_,_,cV,rfl⟩,⟨10,_,_,_,cA,rfl⟩] [⟨7,_,_,_,cW⟩] [] fun _ K=>?_;simp(disch:=omega) only[kd,slI,dI.a,aa,af];apply K
 (refine cX ⟨.inr rfl,rfl,aG rfl ?_ rfl⟩;simp(disch:=omega) only[kd,Tryz.results10])
section
open Go.ChangeShapes Go.WideShapes Go.ChangeAt Go.WideMaps Go.WideElems Go.RowKit
theorem ku (os:Os) (started:os.Started) (H:Type) (enc:TypeId×Value->H):
  ReturnsInHanded {} Tryz.checked os 10 .any (fun w args=>(Rows.minkowskiVerifiesSpec.pre enc Tryz.prog Tryz.f10 [] false w args/\laidMetH Tryz.prog rM w)/\sizedMet enc Tryz.prog Tryz.f10 (OpenSpec.ofChange Rows.minkowskiVerifiesSpec) false w args) (Rows.minkowskiVerifiesSpec.post enc Tryz.prog Tryz.f10 false true false false):=by
 refine returnsInHanded_of_change_and (C:=Tryz.checked) (X:=fun w _=>laidMetH Tryz.prog rM w) (fun _ _ _ hh h=>h.of_heap hh) Tryz.ownKnob_ started (by kernel_rfl) Tryz.func10
  (ChangeSpec.witness_shaped (enc:=enc) (C:=Tryz.checked) (os:=os) (X:=fun w _=>laidMetH Tryz.prog rM w) false (World.doorLaid Tryz.prog 400 os) #[.agg #[.int .u8 0,.int .u8 0,.slice none 0 0,.slice none 0 0],.int .u8 0,.int .u8 0,.int .i8 0] 8 rfl (World.shaped_of_RefB (by kernel_rfl) (by kernel_rfl)) (by kernel_rfl) (by kernel_rfl) (by kernel_rfl) (zQ os _)) ?_
 intro W base args ds gs before hval0 hW hcnd hsz0 hL _;have hval: ∀(j:Nat) t v,Tryz.f10.params[j]?=some t->args[j]?=some v->Value.okWide Tryz.prog W .any base t v:=hval0;have hW':=hW;obtain⟨p,q,hA0,hV,rfl,hfz,hnd⟩:=hW;have hA:DataW.TrodAll enc Tryz.prog W 0 (fun _=>true) true Tryz.f10.params.toList args.toList ds p:=hA0;rw[Tryz.params10]at hA hval;obtain⟨v0,vs0,d0,ds0,p0,q0,hargs,rfl,rfl,h0,r0⟩:=trodAll_cons hA;obtain⟨v1,vs1,d1,ds1,p1,q1,rfl,rfl,rfl,h1,r1⟩:=trodAll_cons r0;obtain⟨v2,vs2,d2,ds2,p2,q2,rfl,rfl,rfl,h2,r2⟩:=trodAll_cons r1;obtain⟨v3,vs3,d3,ds3,p3,q3,rfl,rfl,rfl,h3,r3⟩:=trodAll_cons r2;obtain⟨rfl,rfl,rfl⟩:=trodAll_nil r3;obtain rfl:args= #[v0,v1,v2,v3]:=by cases args;simp_all
 obtain⟨rfl,rfl⟩:=trodVars_none hV;have k0:=h0;have lt0: ∀x∈p0,x.block<W.heap.size:=by obtain⟨m,hm⟩:=k0;exact DataW.trod_lt m _ _ _ hm
 obtain⟨u00,u01,u02,u03,y00,y01,y02,y03,n0,rfl,rfl,rfl,q00,q01,q02,q03⟩:=Go.Joins.open_agg4 Tryz.underlying32 (by kernel_rfl) (by kernel_rfl) (hval 0 32 v0 rfl rfl) h0;obtain⟨dim0,rfl,hd0⟩:=uD Tryz.underlying5 q00;obtain⟨kind0,rfl,hk0⟩:=uD Tryz.underlying5 q01;obtain⟨L0,rL0,hL0⟩:=uC Tryz.underlying30 Tryz.underlying23 (by kernel_rfl) q02;obtain⟨B0,rB0,hB0⟩:=uC Tryz.underlying30 Tryz.underlying23 (by kernel_rfl) q03;obtain⟨a1,rfl,rfl,rfl,w1⟩:=open_int Tryz.underlying5 (hval 1 5 v1 rfl rfl) h1;obtain⟨a2,rfl,rfl,rfl,w2⟩:=open_int Tryz.underlying5 (hval 2 5 v2 rfl rfl) h2;obtain⟨a3,rfl,rfl,rfl,w3⟩:=open_int Tryz.underlying23 (hval 3 23 v3 rfl rfl) h3;clear hA0 hval0 hsz0;obtain⟨bn1,hbn1⟩: ∃bn:Nat,a1=(bn:Int):=⟨a1.toNat,by have:=jM w1;omega⟩;have hw1:=jM w1;subst hbn1;obtain⟨bn2,hbn2⟩: ∃bn:Nat,a2=(bn:Int):=⟨a2.toNat,by have:=jM w2;omega⟩;have hw2:=jM w2;subst hbn2;refine((vT dim0 kind0 L0 B0 bn1 bn2 a3 hL0 hd0 hk0 (by omega) (by omega) (Bc w3)).law (rF hL) (vs:= #[.agg #[.int .u8 (dim0:Int),.int .u8 (kind0:Int),u02,u03],.int .u8 (bn1:Int),.int .u8 (bn2:Int),.int .i8 a3]) rfl (NL (vs:=[.agg #[.int .u8 (dim0:Int),.int .u8 (kind0:Int),u02,u03],.int .u8 (bn1:Int),.int .u8 (bn2:Int),.int .i8 a3]) rfl (fun j t v ht hv=>by
  match j,ht,hv with
  |0,ht,hv=>simp at ht hv;subst ht;subst hv;exact Qp rL0 rB0
  |1,ht,hv=>simp at ht hv;subst ht;subst hv;exact cz.raw _ rfl
  |2,ht,hv=>simp at ht hv;subst ht;subst hv;exact cz.raw _ rfl
  |3,ht,hv=>simp at ht hv;subst ht;subst hv;exact cz.raw _ rfl
  |j+4,ht,hv=>simp at ht))).mono fun e W' ⟨he,bel0⟩=>?_
 have bel:Below W.heap.size W W':=bel0;subst he;exact⟨_,rfl,_,_,_,[],_,[],hW',trodAll_mk1 (shut_bool Tryz.underlying4 _),(trodAll_cons_mk (Below.trod Tryz.laidOut_ (by kernel_rfl) (of_decide_eq_true (by kernel_rfl)) k0 bel lt0) (trodAll_cons_mk (shut_int Tryz.underlying5 w1) (trodAll_cons_mk (shut_int Tryz.underlying5 w2) (trodAll_cons_mk (shut_int Tryz.underlying23 w3) trodAll_mk0)))),rfl,bel.frame _,fun h=>by cases h⟩
theorem gJ:Rows.MinkowskiVerifiesSaid:=
 OpenClaim.holds_of_wide 10 Tryz.f10 rfl rfl rfl rfl rfl rfl rfl ⟨rfl,rfl,rfl,rfl,rfl⟩ rfl rfl rfl rfl rfl (by kernel_rfl) Tryz.func10 (by kernel_rfl)
  (of_decide_eq_true (by kernel_rfl)) (by unfold Func.isWrapper;first|(rw[if_pos (by decide+kernel)];kernel_rfl)|(rw[if_neg (by decide+kernel)];exact⟨rfl,rfl⟩))
  (fun os started H enc _=>ku os started H enc)
#print axioms gJ
/-- The tied card. -/
theorem minkowskiVerifies_card:Rows.MinkowskiVerifiesCardSaid:=
 Claim7.holds_tied_plain_at .later [] [.data] true (true, "b370a838ee78542826e78cbca499d325b4268683991bfe0a4729bbd0218e4133") false
  gJ (fun _ h=>by cases h) (by kernel_rfl) (fun _ h=>by cases h) minkowskiVerifies_row_tie rfl ⟨rfl,rfl⟩ (by kernel_rfl) rfl
  (fun f fn hf hfn=>by
   obtain rfl : f = 10 := Option.some.inj ((show Tryz.prog.funcNamed "quadform/quadformlaw14.MinkowskiVerifies" = some 10 by kernel_rfl).symm.trans hf) |>.symm;obtain rfl:fn=Tryz.f10:=(Option.some.inj (Tryz.func10.symm.trans hfn)).symm;exact⟨by kernel_rfl,fun j t ht=>by
    rw[Tryz.params10]at ht;have hm:t∈[32,5,5,23]:=by simpa using Array.mem_of_getElem? ht
    have hall:([32,5,5,23].all fun u=>!Tryz.prog.wantsStandIn u)=true:=by kernel_rfl
    exact(show Tryz.prog.wantsStandIn t=false by simpa using List.all_eq_true.1 hall t hm)⟩)
  (by kernel_rfl)
#print axioms minkowskiVerifies_card
end
end Go.Proofs.YtfgeomlagfomgaaGreatDoor
