/-
  Proved: the statement MinkowskiNearSaid: for every input the law quadformlaw14.MinkowskiNear returns true, and each argument reads afterwards as it read before. The package variable holds what the program says.
-/
import Derived.Test.YtfgeomlagfomgaaGreatDoorP24
import Derived.Test.YtfgeomlagfomgaaGreatDoorCards
import Derived.Test.YtfgeomlagfomgaaGreatDoorTie
import Derived.SevenTiedAt
import Derived.ProofKit
import Derived.Stop.Joined
set_option linter.all false
set_option maxRecDepth 100000
set_option maxHeartbeats 64000000
open Nat renaming reduceAdd → aa
namespace Go.Proofs.YtfgeomlagfomgaaGreatDoor
open Go.RowKit
section
section
variable {P:Program} {w0 w:World} {O X:Nat->Prop} {s:AS} {a:Act}
theorem Ix (hrel:gp w0 O X s a w) {o:Oper} {c:Call} {f:FuncId} (ho:o.op= .call c) (hcal:c.callee= .value (.func f)) {args:List TV} {res:CallRes} (hcon:wQ P f args res w) (hsafe:jL res) {ts:List TV} {d:Nat}
  (hev:fv s.ev c.args.toList=some ts) (harg:ArgsFz s.H ts args) (hd:res.fam≠[]->s.H d=[]) (hdst:o.dst=some d) {K:Act->World->Prop} {Q:Exit->Act->World->Prop}
  (hK: ∀v w',gp w0 O X (je s d (fj d res.r) (res.fam.map (renO d))) (a.put o.dst v) w'->K (a.put o.dst v) w'):o.wp P a w K Q:=by
 obtain⟨h1,hsz,ρ,hinv,htm⟩:=hrel;have htm:bX X ρ s a w:=htm;obtain⟨e1,e2⟩:=dn hev;obtain⟨q1,q2⟩:=qj harg;have hXlt: ∀j,Xo X ρ s.H j->j<w.heap.size:=fun b hb=>by
  rcases hb with hb|⟨x,y,o',n,g1,g2⟩
  ·exact hinv.bar b hb
  exact b8 (hinv.objs x y o' g1) g2
 have hrun:=kB (w:=w) ho hcal (e:=a.eval) rfl hcon.1;unfold Oper.wp;rw[hrun];simp only[Oper.upon];have hsize:c.args.size=args.length:=by rw[q1];simpa using e1.symm
 refine(hcon.2 (fun _=>False) (c.args.map a.eval) (fun j hj=>hj.elim) (by simp[hsize]) fun j u hu=>?_).mono ?_
 ·obtain⟨t,ht,hat⟩:=q2 j u hu;obtain⟨y,hy,hyt⟩:=e2 j t ht;refine⟨a.eval y,?_,?_⟩
  ·rw[Array.getElem?_map];have:c.args[j]?=some y:=by simpa using hy
   rw[this];rfl
  have hr:=cY htm y t hyt;rcases hat with⟨hp,rfl⟩|⟨fa,r,off,len,rfl,hok,hfz⟩
  ·exact rq hp hr
  exact Do hinv.objs hok hfz hr
 rintro e w1 ⟨v,rfl,ρc,hi,hr⟩;show K (a.put o.dst v) w1;have hfam: ∀(x r:Nat) o,(famH 0 res.fam x)[r]?=some o->o∈res.fam:=fun x r o ho=>by
  unfold famH at ho;split at ho
  ·exact List.mem_of_getElem? ho
  simp at ho
 have hob': ∀{Y Y':Nat->Prop} (x r:Nat) o,o∈res.fam->objRel ρc (famH 0 res.fam) Y w1 x r o->objRel ρc (famH 0 res.fam) Y' w1 x r o:=fun{Y Y'} x r o hmem hob=>by
  obtain⟨z1,z2,z3⟩:=hob;refine⟨z1,z2,?_⟩;cases hr0:ρc x r with
  |none=>rw[hr0]at z3;exact z3
  |some bc=>
   obtain⟨b,n⟩:=bc;rw[hr0]at z3;obtain⟨cells,p1,p2,p3,p4,p5⟩:=z3;refine⟨cells,p1,p2,p3,p4,fun i e j z he hz=>?_⟩;obtain⟨u,u1,u2,u3⟩:=p5 i e j z he hz;exact⟨u,u1,u2,mM (hsafe.2 o hmem e (List.mem_of_getElem? he) z (List.mem_of_getElem? hz)) u3⟩
 by_cases hpl:res.plain=true
 ·rw[hdst];have:=kh (P:=P) (it:=(⟨0,f,args,res⟩:dI P)) (d:=d) (v:=v) (w1:=w1) (ρc:=ρc) h1 hsz hinv htm rfl rfl (fun h:res.fam.map (renO d)≠[]=>hd (by simpa using h)) (by rw[if_pos hpl];exact hi) (by rw[if_pos hpl];exact hr);rw[<- hdst]at this⊢;exact hK v w1 this
 have hi':Inv w (fun _=>False) (Xo X ρ s.H) (famH 0 res.fam) ρc w1:=
  ⟨hi.keep,fun x r o ho=>hob' x r o (hfam x r o ho) (hi.objs x r o ho),hi.inj,fun x r o b c ho hb=>by
   have:=hi.old x r o b c ho hb;refine⟨this.1,fun hX=>?_⟩;rcases this.1 with h|h
   ·have:=hXlt b hX;omega
   exact h,fun b hb=>Nat.lt_of_lt_of_le (hXlt b hb) hi.keep.size,hi.self⟩
 have:=kh (P:=P) (it:=(⟨0,f,args,res⟩:dI P)) (d:=d) (v:=v) (w1:=w1) (ρc:=ρc) h1 hsz hinv htm rfl rfl (fun h:res.fam.map (renO d)≠[]=>hd (by simpa using h)) (by rw[if_neg hpl];exact hi') (by rw[if_neg hpl];exact uz hsafe.1 hr);rw[hdst]at hK⊢;exact hK v w1 this
end
section
variable {P:Program} {b:Nat} {ty:TypeId} {cs:List PV} {s:AS}
theorem En (m:Nat) {f:FuncId} {args:List TV} {res:CallRes} (hcon:CallG P b ty f args cs res) (hsafe:jL res) (items:List (aY P)) (lents:List (dU P b ty cs)) {id:Nat} {ops:Array Oper} {Q:Exit->AS->List PV->Prop} (hm:m<ops.toList.length)
  (h:cz P (items.map aY.a) [] (bJ ops (ops.toList.take m) 0) (some s) (fun s1=>Ko ops m f args res s1/\cz P (items.map aY.a++lents.map dU.a) [] (bJ ops (ops.toList.drop (m+1)) (m+1)) (some (Kh ops m res s1)) (fun s'=>Q .normal s' cs))):dJ P b ty (.region id ops false) Q s cs:=fun w0 O X a w r0=>by
 obtain⟨s1,h1,⟨⟨ts0,q1,q2⟩,⟨d,qd,qe⟩⟩,h2⟩:=ck P (items.map aY.a) [] ops _ 0 s _ h;obtain⟨s',h3,h4⟩:=ck P _ [] ops _ (m+1) _ _ h2;obtain⟨o,ho⟩: ∃o,ops[m]?=some o:=⟨ops[m],by simp at hm;simp[hm]⟩;have hdst:o.dst=some d:=by
  unfold cwD at qd;rw[ho]at qd;exact qd
 unfold cwTs at q1;rw[ho]at q1;simp only at q1;split at q1
 ·rename_i c hg hop1;split at q1
  ·rename_i f' hcal;split at q1
   ·rename_i ts hts;injection q1 with q1
    injection q1 with q1 q3
    subst q1 q3;refine wp_region ?_;have hsz:ops.size=(ops.toList.take m).length+(1+(ops.toList.drop (m+1)).length):=by simp at hm⊢;omega
    rw[hsz,List.range_eq_range',<- List.range'_append_1,Nat.zero_add];have hml:(ops.toList.take m).length=m:=by rw[List.length_take];omega
    refine kA (aY.ok items) (ops.toList.take m) 0 s s1 a w (fun j o hj=>?_) h1 r0.1 fun a' w' r'=>?_
    ·rw[List.getElem?_take]at hj;split at hj
     ·simpa using hj
     cases hj
    rw[hml,Nat.add_comm 1,List.range'_succ];simp only[wpOps,ho];rw[if_pos (by simp[Region.wanted,hg])];have rG:l8 b ty w0 O X s1 cs a' w':=⟨r',r0.2⟩;refine .inl (Ix r' hop1 hcal (hcon.2 w' rG.box) hsafe hts q2 qe hdst fun v w1 hr1=>?_);refine Cd items lents (Q:=fun e a' w'=> ∃s' cs',Q e s' cs'/\l8 b ty w0 O X s' cs' a' w') (ops.toList.drop (m+1)) (m+1) _ s' _ _ (fun j o hj=>?_) h3 ⟨?_,r0.2⟩ (fun a' w' hr=>⟨s',cs,h4,hr⟩)
    ·rw[List.getElem?_drop]at hj;simpa using hj
    unfold Kh;rw[qd];exact hr1
   cases q1
  cases q1
 cases q1
theorem sI (m:Nat) {f:FuncId} {args:List TV} {res:CallRes} (hcon:CallG P b ty f args cs res) (hsafe:jL res) (items:List (aY P)) (lents:List (dU P b ty cs)) {id:Nat} {ops:Array Oper} {y:Code} {Q:Exit->AS->List PV->Prop} (hm:m<ops.toList.length)
  (h: ∀K:AS->Prop,(∀s1,(Ko ops m f args res s1/\ ∀K:AS->Prop,(∀s',dJ P b ty y Q s' cs->K s')->cz P (items.map aY.a++lents.map dU.a) [] (bJ ops (ops.toList.drop (m+1)) (m+1)) (some (Kh ops m res s1)) K)->K s1)->cz P (items.map aY.a) [] (bJ ops (ops.toList.take m) 0) (some s) K):dJ P b ty (.seq (.region id ops false) y) Q s cs:=
 bI (En m hcon hsafe items lents hm (h _ fun s1 ⟨q1,q2⟩=>⟨q1,q2 _ fun _ h=>h⟩))
end
theorem Ad (v:Value):jL ⟨[],.raw v⟩:=⟨rfl,fun o ho=>by simp at ho⟩
theorem KT {ops:Array Oper} {m d:Nat} {v:Value} {s:AS} (hd:cwD ops m=some d):Kh ops m ⟨[],.raw v⟩ s=s.put (some d) (.raw v):=by
 unfold Kh;rw[hd];rfl
end
theorem E4 (dim kind:Nat) (L B:List Int) (q:Nat) (c:Int) (hL:I8 L) (hdim:dim<=255) (hkind:kind<=255) (hq:q<=255) (hc: -128<=c/\c<=127):
  CallG Tryz.prog 0 138 4 [tL dim kind L B,.raw (.int .u8 (q:Int)),.raw (.int .i8 c)] ip ⟨[],.raw (.bool true)⟩:=by
 obtain⟨n,hn⟩: ∃n,n=1+dim%4:=⟨_,rfl⟩;have hn1:1<=n:=by omega
 have hn4:n<=4:=by have:=Nat.mod_lt dim (show 0<4 by omega);omega
 obtain⟨h,hr,cF⟩:=Gk dim kind L B 4 n hL hdim hkind (by omega) (by omega) hn;rw[show((4:Nat):Int)=4 from rfl]at cF;obtain⟨R,hR,inc,mk⟩:=un hn1 hn4 hr;have cR:=wv n h R hn1 hn4 hr hR;have hp:PD (cngF n h R) n:=by
  have:=inc.rows.pd hr.pd;rw[nk]at this;exact this
 have hb: ∀i j,i<n->j<n-> -262144<=cngF n h R i j/\cngF n h R i j<=262144:=fun i j hi hj=>inc.cb hr hi hj
 have mr:wS (mat n n (cngF n h R)):=Ik hn1 hn4 (fun i j hi hj=>by have:=hb i j hi hj;omega) hp mk;have c1:=iW (mat n n (cngF n h R)) true (by simp[mr]);obtain⟨r,hr1⟩: ∃r:Bool,r=true↔wS (mat n n h):=by
  classical
  exact⟨decide (wS (mat n n h)),by simp⟩
 have c2:=iW (mat n n h) r hr1;have c3:=pD (mat n n h) r hr1;have cA:=CX;generalize cngF n h R=G at*
 generalize mat n n R=TR at*
 generalize mat n n h=M at*
 clear mr hp mk inc hR hr hr1;obtain⟨i,ei⟩: ∃i,i=q%n:=⟨_,rfl⟩;obtain⟨j,ej⟩: ∃j,j=q/16%n:=⟨_,rfl⟩;have hi:i<n:=by rw[ei];exact Nat.mod_lt _ (by omega)
 have hj:j<n:=by rw[ej];exact Nat.mod_lt _ (by omega)
 have e1:IntKind.i64.wrap (q:Int)=(q:Int):=aO (by omega) (by omega);have e2:Int.tmod (q:Int) (n:Int)=(i:Int):=by rw[ei];exact(Int.ofNat_tmod q n).symm
 have e3:IntKind.i64.wrap (Int.tdiv (q:Int) 16)=((q/16:Nat):Int):=by
  rw[show Int.tdiv (q:Int) 16=((q/16:Nat):Int)from(Int.ofNat_tdiv q 16).symm];exact aO (by omega) (by omega)
 have e4:Int.tmod ((q/16:Nat):Int) (n:Int)=(j:Int):=by rw[ej];exact(Int.ofNat_tmod _ n).symm
 obtain⟨e,he⟩: ∃e,e=Int.tmod c 3:=⟨_,rfl⟩;have he':Int.tmod c 3=e:=he.symm;have hbe: -2<=e/\e<=2:=by rw[he];exact Nk c
 have hG:=hb i j hi hj;obtain⟨v,hv⟩: ∃v,v=G i j+e:=⟨_,rfl⟩;have e5:IntKind.i64.wrap e=e:=aO (by omega) (by omega);have e6:IntKind.i64.wrap (G i j+e)=v:=by rw[hv];exact aO (by omega) (by omega)
 clear ei ej he hv;have hne:(n:Int)≠0:=by omega
 have g1:=bK (n:=n) (i:=i) 17 n hi;have g2:=bK (n:=n) (i:=j) 17 n hj;refine fG Tryz.func4 rfl (by kernel_rfl) ?_;rw[Tryz.ntmps4];refine aR fun _ K=>?_;simp(disch:=omega) only[kd,tL,aa,List.replicate];apply K
 refine fD [⟨1,_,_,_,cF⟩] [] fun _ K=>?_;simp only[kd,tL,slI,aa];apply K
 refine fD [⟨1,_,_,_,cR⟩] [] fun _ K=>?_;simp only[kd,slI,aa,Nat.reduceEqDiff];apply K
 refine dJ.weak (aE (tm:=(jk::.raw (.int .u8 (q:Int))::.raw (.int .i8 c)::j4 (slI M::.one (.sl 17 0 0 n)::j16 (j16 (j16 (j16 (jk::jk::[]))))))) (l:=[(17,mxI 17 n n G)]) ⟨bU 0 17 _ _ _,trivial⟩ (by simp[wk])) ?_
 first|refine sI 1 c1 (Ad _) [⟨7,_,_,_,c3⟩] [⟨5,_,_,_,c2,rfl⟩] (by decide) fun K hK=>?_|refine bI (sI 1 c1 (Ad _) [⟨7,_,_,_,c3⟩] [⟨5,_,_,_,c2,rfl⟩] (by decide) fun K hK=>?_)
 simp only[kd,slI];apply hK;clear hK K;refine⟨⟨⟨_,rfl,.inr ⟨17,0,0,n,rfl,cu (d:=17) (n:=n) (c:=n) (f:=G) rfl,iH (d:=17) (n:=n) (c:=n) (f:=G) rfl⟩,trivial⟩,⟨22,rfl,fun h=>(h rfl).elim⟩⟩,?_⟩;intro K hK;rw[KT (d:=22) rfl];simp(disch:=omega) only[kd,slI,dU.a,aa,Nat.reduceBEq];apply hK;clear hK K;refine gz rfl (eh ?_);show dJ _ _ _ _ _ _ _;refine fX be (by kernel_rfl) fun _ K=>?_;simp(disch:=omega) only[kd,aa,e1,e2,e3,e4];apply K
 have r1:=cd (n:=n) n G (i:=i) hi;have q1:=aT (G i) hj;refine aR fun _ K=>?_;simp(disch:=omega) only[kd,aa,g1,r1,q1,he',e5,e6,dK];apply K
 refine dJ.weak (aE (tm:=(j4 (j4 (.one (.sl 17 0 0 n)::jk::jk::rN i::rN j::j16 (j16 (j16 (j4 (j4 (j4 (jk::jk::[])))))))))) (l:=[(17,mxI 17 n n (upd G i j v))]) ⟨rfl,trivial⟩ (by simp[wk])) ?_;generalize upd G i j v=F1;have r3:=cd (n:=n) n F1 (i:=i) hi;have r4:=cd (n:=n) n F1 (i:=j) hj;have q5:=aT (F1 i) hj;have q6:=aT (F1 j) hi;refine fX be (by kernel_rfl) fun _ K=>?_;simp(disch:=omega) only[kd,aa,g2,g1,r3,q5,r4,q6,dK];apply K
 refine dJ.weak (aE (tm:=(j4 (j4 (.one (.sl 17 0 0 n)::j16 (j16 (j16 (j16 (jk::jk::[])))))))) (l:=[(17,mxI 17 n n (upd F1 j i (F1 i j)))]) ⟨rfl,trivial⟩ (by simp[wk])) ?_;generalize upd F1 j i (F1 i j)=F2;refine dJ.weak ((bH 17 (cu (d:=17) (n:=n) (c:=n) (f:=F2) rfl)).trans (aE (tm:=(j4 (j4 (slI (mat n n F2)::j16 (j16 (j16 (j16 (jk::jk::[])))))))) (l:=[]) trivial (by
  simp[wk]
  (repeat' apply And.intro)<;>first|rfl|exact(iH (H:=Hm [(17,mxI 17 n n F2)]) (d:=17) (n:=n) (c:=n) (f:=F2) rfl).symm))) ?_
 obtain⟨r',hr'⟩: ∃r:Bool,r=true↔wS (mat n n F2):=by
  classical
  exact⟨decide (wS (mat n n F2)),by simp⟩
 have c4:=iW (mat n n F2) r' hr';have c5:=pD (mat n n F2) r' hr';generalize mat n n F2=N at*
 refine dm [⟨1,_,_,_,c4,rfl⟩,⟨6,_,_,_,cA,rfl⟩] [⟨3,_,_,_,c5⟩] [] fun _ K=>?_;simp(disch:=omega) only[kd,slI,dU.a,aa,Nat.reduceBEq];apply K
 (refine fc ⟨.inr rfl,rfl,aJ rfl ?_ rfl⟩;simp(disch:=omega) only[kd,Tryz.results4])
section
open Go.ChangeShapes Go.WideShapes Go.ChangeAt Go.WideMaps Go.WideElems Go.RowKit
theorem mB (os:Os) (started:os.Started) (H:Type) (enc:TypeId×Value->H):
  ReturnsInHanded {} Tryz.checked os 4 .any (fun w args=>(Rows.minkowskiNearSpec.pre enc Tryz.prog Tryz.f4 [] false w args/\laidMetH Tryz.prog rj w)/\sizedMet enc Tryz.prog Tryz.f4 (OpenSpec.ofChange Rows.minkowskiNearSpec) false w args) (Rows.minkowskiNearSpec.post enc Tryz.prog Tryz.f4 false true false false):=by
 refine returnsInHanded_of_change_and (C:=Tryz.checked) (X:=fun w _=>laidMetH Tryz.prog rj w) (fun _ _ _ hh h=>h.of_heap hh) Tryz.ownKnob_ started (by kernel_rfl) Tryz.func4
  (ChangeSpec.witness_shaped (enc:=enc) (C:=Tryz.checked) (os:=os) (X:=fun w _=>laidMetH Tryz.prog rj w) false (World.doorLaid Tryz.prog 400 os) #[.agg #[.int .u8 0,.int .u8 0,.slice none 0 0,.slice none 0 0],.int .u8 0,.int .i8 0] 8 rfl (World.shaped_of_RefB (by kernel_rfl) (by kernel_rfl)) (by kernel_rfl) (by kernel_rfl) (by kernel_rfl) (yY os _)) ?_
 intro W base args ds gs before hval0 hW hcnd hsz0 hL _;have hval: ∀(j:Nat) t v,Tryz.f4.params[j]?=some t->args[j]?=some v->Value.okWide Tryz.prog W .any base t v:=hval0;have hW':=hW;obtain⟨p,q,hA0,hV,rfl,hfz,hnd⟩:=hW;have hA:DataW.TrodAll enc Tryz.prog W 0 (fun _=>true) true Tryz.f4.params.toList args.toList ds p:=hA0;rw[Tryz.params4]at hA hval;obtain⟨v0,vs0,d0,ds0,p0,q0,hargs,rfl,rfl,h0,r0⟩:=trodAll_cons hA;obtain⟨v1,vs1,d1,ds1,p1,q1,rfl,rfl,rfl,h1,r1⟩:=trodAll_cons r0;obtain⟨v2,vs2,d2,ds2,p2,q2,rfl,rfl,rfl,h2,r2⟩:=trodAll_cons r1;obtain⟨rfl,rfl,rfl⟩:=trodAll_nil r2;obtain rfl:args= #[v0,v1,v2]:=by cases args;simp_all
 obtain⟨rfl,rfl⟩:=trodVars_none hV;have k0:=h0;have lt0: ∀x∈p0,x.block<W.heap.size:=by obtain⟨m,hm⟩:=k0;exact DataW.trod_lt m _ _ _ hm
 obtain⟨u00,u01,u02,u03,y00,y01,y02,y03,n0,rfl,rfl,rfl,q00,q01,q02,q03⟩:=Go.Joins.open_agg4 Tryz.underlying32 (by kernel_rfl) (by kernel_rfl) (hval 0 32 v0 rfl rfl) h0;obtain⟨dim0,rfl,hd0⟩:=lG Tryz.underlying5 q00;obtain⟨kind0,rfl,hk0⟩:=lG Tryz.underlying5 q01;obtain⟨L0,rL0,hL0⟩:=lF Tryz.underlying30 Tryz.underlying23 (by kernel_rfl) q02;obtain⟨B0,rB0,hB0⟩:=lF Tryz.underlying30 Tryz.underlying23 (by kernel_rfl) q03;obtain⟨a1,rfl,rfl,rfl,w1⟩:=open_int Tryz.underlying5 (hval 1 5 v1 rfl rfl) h1;obtain⟨a2,rfl,rfl,rfl,w2⟩:=open_int Tryz.underlying23 (hval 2 23 v2 rfl rfl) h2;clear hA0 hval0 hsz0;obtain⟨bn1,hbn1⟩: ∃bn:Nat,a1=(bn:Int):=⟨a1.toNat,by have:=uU w1;omega⟩;have hw1:=uU w1;subst hbn1;refine((E4 dim0 kind0 L0 B0 bn1 a2 hL0 hd0 hk0 (by omega) (Ay w2)).law (rb hL) (vs:= #[.agg #[.int .u8 (dim0:Int),.int .u8 (kind0:Int),u02,u03],.int .u8 (bn1:Int),.int .i8 a2]) rfl (M1 (vs:=[.agg #[.int .u8 (dim0:Int),.int .u8 (kind0:Int),u02,u03],.int .u8 (bn1:Int),.int .i8 a2]) rfl (fun j t v ht hv=>by
  match j,ht,hv with
  |0,ht,hv=>simp at ht hv;subst ht;subst hv;exact Nd rL0 rB0
  |1,ht,hv=>simp at ht hv;subst ht;subst hv;exact cq.raw _ rfl
  |2,ht,hv=>simp at ht hv;subst ht;subst hv;exact cq.raw _ rfl
  |j+3,ht,hv=>simp at ht))).mono fun e W' ⟨he,bel0⟩=>?_
 have bel:Below W.heap.size W W':=bel0;subst he;exact⟨_,rfl,_,_,_,[],_,[],hW',trodAll_mk1 (shut_bool Tryz.underlying4 _),(trodAll_cons_mk (Below.trod Tryz.laidOut_ (by kernel_rfl) (of_decide_eq_true (by kernel_rfl)) k0 bel lt0) (trodAll_cons_mk (shut_int Tryz.underlying5 w1) (trodAll_cons_mk (shut_int Tryz.underlying23 w2) trodAll_mk0))),rfl,bel.frame _,fun h=>by cases h⟩
theorem iO:Rows.MinkowskiNearSaid:=
 OpenClaim.holds_of_wide 4 Tryz.f4 rfl rfl rfl rfl rfl rfl rfl ⟨rfl,rfl,rfl,rfl,rfl⟩ rfl rfl rfl rfl rfl (by kernel_rfl) Tryz.func4 (by kernel_rfl)
  (of_decide_eq_true (by kernel_rfl)) (by unfold Func.isWrapper;first|(rw[if_pos (by decide+kernel)];kernel_rfl)|(rw[if_neg (by decide+kernel)];exact⟨rfl,rfl⟩))
  (fun os started H enc _=>mB os started H enc)
#print axioms iO
/-- The tied card. -/
theorem minkowskiNear_card:Rows.MinkowskiNearCardSaid:=
 Claim7.holds_tied_plain_at .later [] [.data] true (true, "b370a838ee78542826e78cbca499d325b4268683991bfe0a4729bbd0218e4133") false
  iO (fun _ h=>by cases h) (by kernel_rfl) (fun _ h=>by cases h) minkowskiNear_row_tie rfl ⟨rfl,rfl⟩ (by kernel_rfl) rfl
  (fun f fn hf hfn=>by
   obtain rfl : f = 4 := Option.some.inj ((show Tryz.prog.funcNamed "quadform/quadformlaw14.MinkowskiNear" = some 4 by kernel_rfl).symm.trans hf) |>.symm;obtain rfl:fn=Tryz.f4:=(Option.some.inj (Tryz.func4.symm.trans hfn)).symm;exact⟨by kernel_rfl,fun j t ht=>by
    rw[Tryz.params4]at ht;have hm:t∈[32,5,23]:=by simpa using Array.mem_of_getElem? ht
    have hall:([32,5,23].all fun u=>!Tryz.prog.wantsStandIn u)=true:=by kernel_rfl
    exact(show Tryz.prog.wantsStandIn t=false by simpa using List.all_eq_true.1 hall t hm)⟩)
  (by kernel_rfl)
#print axioms minkowskiNear_card
end
end Go.Proofs.YtfgeomlagfomgaaGreatDoor
