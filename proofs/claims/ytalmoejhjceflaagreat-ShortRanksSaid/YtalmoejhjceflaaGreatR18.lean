/-
  Part 19 of a proof (walks and plain facts).
-/
import Derived.Test.YtalmoejhjceflaaGreatR17
import Derived.Shelf.Small.Bits
import Derived.Ground.NamesProg
import Derived.Test.YtalmoejhjceflaaGreatProg
import Derived.RangeFuncRecord
import Derived.OrdersIn
set_option linter.all false
set_option maxRecDepth 100000
set_option maxHeartbeats 64000000
namespace Go.Proofs.YtalmoejhjceflaaGreat
open Go.RowKit Go.Proofs.Tryz
variable {b:Exit->Act->World->Prop} {c:Array Oper} {e:AS->Act->World->Prop} {f g:Code} {h j:List OObj} {s:AS} {n:Nat} {l:Int×List Int} {m:Act->World->Prop} {o:List Nat} {p:FuncId} {q:Oper} {r:Operand} {t:TV}
theorem vY: ∀(x y:List Int),dj x y= -1\/dj x y=0\/dj x y=1
 |[],[]=>by simp[dj]
 |[],_::_=>by simp[dj]
 |_::_,[]=>by simp[dj]
 |a::x,b::y=>by
  have:=vY x y;unfold dj;split
  ·simp
  split
  ·simp
  exact this
theorem sD: ∀(x y:List Int),dj y x= - dj x y
 |[],[]=>by simp[dj]
 |[],_::_=>by simp[dj]
 |_::_,[]=>by simp[dj]
 |a::x,b::y=>by
  have:=sD x y;unfold dj;by_cases c:a<b
  ·rw[if_pos c,if_neg (by omega),if_pos c];rfl
  by_cases e:b<a
  ·rw[if_pos e,if_neg c,if_pos e]
  rw[if_neg e,if_neg c,if_neg c,if_neg e,this]
theorem mo: ∀{x y z:List Int},dj x y<0->dj y z<0->dj x z<0
 |[],[],_,h,_=>by simp[dj]at h
 |_::_,[],_,h,_=>by simp[dj]at h
 |[],_::_,[],_,h=>by simp[dj]at h
 |[],_::_,_::_,_,_=>by simp[dj]
 |_::_,_::_,[],_,h=>by simp[dj]at h
 |a::x,b::y,c::z,f,e=>by
  unfold dj at f e⊢;by_cases m:a<b
  ·by_cases j:b<c
   ·rw[if_pos (by omega)];omega
   rw[if_neg j]at e;by_cases g:c<b
   ·rw[if_pos g]at e;omega
   rw[if_pos (by omega)];omega
  rw[if_neg m]at f;by_cases g:b<a
  ·rw[if_pos g]at f;omega
  rw[if_neg g]at f;by_cases j:b<c
  ·rw[if_pos (by omega)];omega
  rw[if_neg j]at e;by_cases l:c<b
  ·rw[if_pos l]at e;omega
  rw[if_neg l]at e;rw[if_neg (by omega),if_neg (by omega)];exact mo f e
def Bk (a b:Int×List Int):Prop:=a.1<b.1\/a.1=b.1/\dj a.2 b.2<0
instance (a b:Int×List Int):Decidable (Bk a b):=inferInstanceAs (Decidable (_\/_))
def nP (x:Int×List Int):List (Int×List Int)->List (Int×List Int)
 |[]=>[x]
 |a::l=>if Bk a x then a::nP x l else if Bk x a then x::a::l else a::l
def ji (l:List (Int×List Int)):List (Int×List Int):=l.foldl (fun acc x=>nP x acc) []
theorem pG (a:Int×List Int): ¬Bk a a:=by
 unfold Bk;rw[jM];omega
theorem zx {a c:Int×List Int} (e:Bk a l) (g:Bk l c):Bk a c:=by
 unfold Bk at*
 rcases e with e|⟨e,f⟩<;>rcases g with g|⟨g,h⟩
 ·omega
 ·omega
 ·omega
 exact .inr ⟨by omega,mo f h⟩
theorem sP {a:Int×List Int} (f: ¬Bk a l) (g: ¬Bk l a):a=l:=by
 unfold Bk at*
 have h:=sD a.2 l.2;have c:a.1=l.1:=by omega
 have e:dj a.2 l.2=0:=by omega
 exact Prod.ext c (qu e)
def Ik (l:List (Int×List Int)):Prop:=l.Pairwise Bk
theorem Iy: ∀{l m:List (Int×List Int)},Ik l->Ik m->(∀x,x∈l↔x∈m)->l=m
 |[],[],_,_,_=>rfl
 |[],b::m,_,_,h=>by have:=(h b).2 aa4;simp at this
 |a::l,[],_,_,h=>by have:=(h a).1 aa4;simp at this
 |a::l,b::m,r,s,h=>by
  obtain⟨f,n⟩:=aci.1 r;obtain⟨g,o⟩:=aci.1 s;have e:a=b:=by
   rcases aaR.1 ((h a).1 aa4)with e|p
   ·exact e
   rcases aaR.1 ((h b).2 aa4)with e|q
   ·exact e.symm
   exact absurd (zx (g a p) (f b q)) (pG b)
  subst e;rw[Iy n o (fun x=>?_)];constructor
  ·intro j;rcases aaR.1 ((h x).1 (aa0 _ j))with e|c
   ·subst e;exact absurd (f x j) (pG x)
   exact c
  intro j;rcases aaR.1 ((h x).2 (aa0 _ j))with e|c
  ·subst e;exact absurd (g x j) (pG x)
  exact c
theorem xn {x y:Int×List Int}: ∀{l:List (Int×List Int)},y∈nP x l↔y=x\/y∈l
 |[]=>by simp[nP]
 |a::l=>by
  unfold nP;split
  ·rw[aaR,xn,aaR];constructor
   ·rintro(h|h|h)
    ·exact .inr (.inl h)
    ·exact .inl h
    exact .inr (.inr h)
   rintro(h|h|h)
   ·exact .inr (.inl h)
   ·exact .inl h
   exact .inr (.inr h)
  split
  ·rw[aaR]
  rename_i b c;have e:=sP c b;constructor
  ·exact .inr
  rintro(h|h)
  ·rw[h,e];exact aa4
  exact h
theorem D9 {x:Int×List Int}: ∀{l:List (Int×List Int)},Ik l->Ik (nP x l)
 |[],_=>by simp[nP,Ik]
 |a::l,h=>by
  obtain⟨f,g⟩:=aci.1 h;unfold nP;split
  ·rename_i b;refine aci.2 ⟨fun y c=>?_,D9 g⟩;rcases xn.1 c with e|c
   ·rw[e];exact b
   exact f y c
  split
  ·rename_i b;refine aci.2 ⟨fun y c=>?_,h⟩;rcases aaR.1 c with e|c
   ·rw[e];exact b
   exact zx b (f y c)
  exact h
theorem ww: ∀(l acc:List (Int×List Int)),Ik acc->Ik (l.foldl (fun acc x=>nP x acc) acc)/\ ∀y,y∈l.foldl (fun acc x=>nP x acc) acc↔y∈l\/y∈acc
 |[],acc,h=>⟨h,fun y=>by simp⟩
 |x::l,acc,h=>by
  obtain⟨b,c⟩:=ww l (nP x acc) (D9 h);refine⟨b,fun y=>?_⟩;show y∈l.foldl _ (nP x acc)↔_;rw[c,xn,aaR];constructor
  ·rintro(h|h|h)
   ·exact .inl (.inr h)
   ·exact .inl (.inl h)
   exact .inr h
  rintro((h|h)|h)
  ·exact .inr (.inl h)
  ·exact .inl h
  exact .inr (.inr h)
theorem MA (l:List (Int×List Int)):Ik (ji l):=(ww l [] (by simp[Ik])).1
theorem As {b:List (Int×List Int)}:l∈ji b↔l∈b:=by
 unfold ji;rw[(ww b [] (by simp[Ik])).2];simp
/-! Insertion. -/
def MK (x:Int×List Int):List (Int×List Int)->Nat
 |[]=>0
 |a::l=>if Bk a x then MK x l+1 else 0
theorem Pv (x:Int×List Int): ∀l,MK x l<=l.length
 |[]=>aar _
 |a::l=>by unfold MK;have:=Pv x l;split<;>simp<;>omega
theorem Ea (x:Int×List Int): ∀l:List (Int×List Int),nP x l=match l[MK x l]? with
  |some a=>if Bk x a then l.take (MK x l)++x::l.drop (MK x l)else l
  |none=>l.take (MK x l)++x::l.drop (MK x l)
 |[]=>rfl
 |a::l=>by
  unfold nP MK;split
  ·rw[Ea x l];simp only[abI];cases l[MK x l]? with
   |none=>rfl
   |some b=>simp only;split<;>rfl
  simp only[ac0];split<;>rfl
theorem PE (x:Int×List Int) (l:List (Int×List Int)):(nP x l).length<=l.length+1:=by
 rw[Ea];have b:(l.take (MK x l)++x::l.drop (MK x l)).length=l.length+1:=by
  have:=Pv x l;simp;omega
 split
 ·split
  ·omega
  omega
 omega
section
section
variable {P:Program} {k:Nat} {s s':AS} {Q:Exit->AS->Prop}
theorem xM {m:Nat} {p:Nat->Bool} (g:m<=n) (b: ∀j,j<m->p j=true) (f: ∀j,j<n->m<=j->p j=false):l5 n p=List.range m:=by
 unfold l5;have e:List.range n=List.range m++List.range' m (n-m):=by
  have:=abr (s:=0) (m:=m) (n:=n-m);grind [List.range_eq_range']
 rw[e,aef,ad6.2 (fun j c=>b j (aa9.1 c)),adO.2,aa8];grind
end
end
end Go.Proofs.YtalmoejhjceflaaGreat
namespace Go.Proofs
open Go.Shelf
def Tryz.lays133_ren:Go.Shelf.Ren:=⟨fun|133=>211|128=>184|n=>n,fun|51=>165|3=>3|4=>4|46=>164|5=>5|9=>9|n=>n,fun|n=>n⟩
theorem Tryz.lays133:Go.Proofs.Lays.n133 prog Tryz.lays133_ren:={
 mixed:=by kernel_rfl
 f128:=func184.trans (congrArg some (by kernel_rfl))
 f133:=func211.trans (congrArg some (by kernel_rfl))
 t3:=underlying3
 a3:=isAgg3
 z3:=sizeOf3
 v3:=zeroValue3
 t4:=underlying4
 a4:=isAgg4
 z4:=sizeOf4
 v4:=zeroValue4
 t5:=underlying5
 a5:=isAgg5
 z5:=sizeOf5
 v5:=zeroValue5
 t9:=underlying9
 a9:=isAgg9
 z9:=sizeOf9
 v9:=zeroValue9
 t46:=underlying164
 a46:=isAgg164
 z46:=sizeOf164
 v46:=zeroValue164
 t51:=underlying165
 a51:=isAgg165
 z51:=sizeOf165
 v51:=zeroValue165}
end Go.Proofs
namespace Go.Proofs.YtalmoejhjceflaaGreat
open Go.RowKit Go.Proofs.Tryz
variable {b:Exit->Act->World->Prop} {c:Array Oper} {e:AS->Act->World->Prop} {f g:Code} {h j:List OObj} {s:AS} {n:Nat} {l:Int×List Int} {m:Act->World->Prop} {o:List Nat} {p:FuncId} {q:Oper} {r:Operand} {t:TV}
theorem WF {w0 w:World} {O X:Nat->Prop} {l:Rho} {P:Act} (a:Nat) (Z:qB s.H a) (g:Inv w0 O X s.H l w) (ab:aV X l s P w):Inv w0 O X (ax s.H a []) l w/\aV X l ⟨s.tmps.map (ew s.H a),ax s.H a []⟩ P w:=by
 have A: ∀(x y:Nat) o,(ax s.H a [] x)[y]?=some o->x≠a/\(s.H x)[y]?=some o:=fun x y o C=>by
  grind [aM,aG]
 have Q: ∀b,Xo X l (ax s.H a []) b->Xo X l s.H b:=fun b B=>by
  rcases B with B|⟨x,y,o,n,q,E⟩
  ·exact .inl B
  exact .inr ⟨x,y,o,n,(A x y o q).2,E⟩
 have R: ∀(r:Nat) o,(s.H a)[r]?=some o-> ∀b c,l a r=some (b,c)-> ¬Xo X l (ax s.H a []) b:=fun r o C b c T Y=>by
  rcases Y with Y|⟨x,y,K,n,q,E⟩
  ·exact(g.old a r o b c C T).2 Y
  obtain⟨J,W⟩:=A x y K q;exact J (g.inj x y a r K o b n c W C E T).1
 have D: ∀x u,isPure x=true->AV.rel l s.H (Xo X l s.H) w x u->bM (Xo X l (ax s.H a [])) w (uq x) u:=fun x u S h=>by
  cases x<;>first|exact bM.weaken (fun b _ B=>Q b B) h|cases S
 have L: ∀(r:Nat) o,(s.H a)[r]?=some o-> ∀e∈o.elems,∀x∈e,∀u,AV.rel l s.H (Xo X l s.H) w x u->bM (Xo X l (ax s.H a [])) w (kC s.H a x) u:=fun r o C e M x J u U=>by
  rcases Z r o C e M x J with S|⟨r',ac,len,K,rfl,m,aa⟩
  ·have:=D x u S U;cases x<;>first|exact this|cases S
  simp only[kC,m];exact kN (g.objs a r' K m) m (fun e M y hy u U=>D y u (aa e M y hy) U) (R r' K m) U
 have I: ∀x v,AV.rel l s.H (Xo X l s.H) w x v->AV.rel l (ax s.H a []) (Xo X l (ax s.H a [])) w (dF s.H a x) v:=gp (DQ s.H a) fun x v hn h=>by
  cases x with
  |fn=>cases hn
  |p x=>exact bM.weaken (fun b _ B=>Q b B) h
  |sl b r ac len=>
   simp only[dF];by_cases B:b=a
   ·subst B;rw[if_pos rfl];have h':=h;obtain⟨o,q,E,g3⟩:=h;rw[q];exact kN (g.objs b r o q) q (L r o q) (R r o q) h'
   rw[if_neg B];obtain⟨o,q,E⟩:=h;exact⟨o,by grind [aG],E⟩
  |ptr b r i j=>
   simp only[dF];by_cases B:b=a
   ·subst B;rw[if_pos rfl];trivial
   rw[if_neg B];obtain⟨o,b',c,q,E⟩:=h;exact⟨o,b',c,by grind [aG],E⟩
  |junk=>trivial
 have G: ∀F v,bH l s.H (Xo X l s.H) w F v->bH l (ax s.H a []) (Xo X l (ax s.H a [])) w (F.map (dF s.H a)) v:=fun F v h=>by
  obtain⟨vs,q,E,g3⟩:=h;refine⟨vs,q,by grind,fun j x J=>?_⟩;grind
 refine⟨⟨g.keep,fun x y o C=>?_,fun x y x' y' o K b c c' C m=>g.inj x y x' y' o K b c c' (A x y o C).2 (A x' y' K m).2,fun x y o b c C=>g.old x y o b c (A x y o C).2,g.bar,fun x y o C=>g.self x y o (A x y o C).2⟩,fun t x J=>?_⟩
 ·obtain⟨J,m⟩:=A x y o C;obtain⟨q1,q2,q3⟩:=g.objs x y o m;refine⟨q1,q2,?_⟩;cases T:l x y with
  |none=>grind
  |some bc=>
   obtain⟨b,c⟩:=bc;rw[T]at q3;obtain⟨cells,p1,p2,p3,p4,p5⟩:=q3;refine⟨cells,p1,p2,p3,p4,fun i e j z M hz=>?_⟩;obtain⟨u,u1,u2,u3⟩:=p5 i e j z M hz;have N:=g.self x y o m e (aai M) z (aai hz);have:=I z u u3;refine⟨u,u1,u2,?_⟩;cases z with
   |sl z _ _ _=>have N:z=x:=N;grind [dF]
   |ptr z _ _ _=>have N:z=x:=N;grind [dF]
   |fn _ z _=>have N:z=x:=N.1;grind [dF]
   |p z=>exact this
   |junk=>trivial
 simp only[aam]at J;obtain⟨y,hy,rfl⟩:=aak.1 J;obtain⟨v,v1,V⟩:=ab t y hy;refine⟨v,v1,?_⟩;cases y with
 |one x=>exact I x v V
 |agg F=>exact G F v V
 |fn f F=>obtain⟨u,h1,h2⟩:=V;exact⟨u,G F u h1,h2⟩
 |tup ts=>
  obtain⟨vs,q,E,g3⟩:=V;refine⟨vs,q,by grind,fun j b F hj=>?_⟩;grind
theorem qg (a k:Nat) {L:TypeId} {cs:List PV} (N:s.H a=[⟨L,n,[cs.map AV.p]⟩]) (Q:s.tmps[k]?=some (.one (.ptr a 0 0 0))):bG s ⟨(s.tmps.map (ew s.H a)).set k (.one (.p (.ptr cs))),ax s.H a []⟩:=by
 rintro w0 O X F w ⟨T,V,A,h,q⟩;have q:aV X A s F w:=q;have l:(s.H a)[0]?=some ⟨L,n,[cs.map AV.p]⟩:=by rw[N];rfl
 have K:qB s.H a:=fun r o E e P x g=>by
  rw[N]at E;cases r with
  |succ r=>simp at E
  |zero=>
   simp at E;subst E;simp at P;subst P;obtain⟨y,_,rfl⟩:=aau.1 g;exact .inl rfl
 obtain⟨z,D⟩:=WF a K h q;refine⟨T,by grind,A,z,fun t x g=>?_⟩;by_cases e:t=k
 ·subst e;simp only at g;have U:=(aao.1 Q).1;rw[abA (by grind)]at g;injection g with g
  subst g;obtain⟨v,v1,o,b,c,m,B,M,rfl⟩:=q t _ Q;rw[l]at m;injection m with m
  subst m;refine⟨_,v1,?_⟩;obtain⟨q1,q2,S⟩:=h.objs a 0 _ l;rw[B]at S;obtain⟨cells,Y,p2,p3,p4,Z⟩:=S;have I: ∀b,Xo X A (ax s.H a []) b->Xo X A s.H b:=fun b C=>by
   rcases C with C|⟨x,y,o,f,m,B⟩
   ·exact .inl C
   by_cases g:x=a
   ·grind [aM]
   rw[aG g]at m;exact .inr ⟨x,y,o,f,m,B⟩
  have J: ¬Xo X A (ax s.H a []) b:=fun G=>by
   rcases G with G|⟨x,y,W,f,m,M⟩
   ·exact(h.old a 0 _ b c l B).2 G
   by_cases g:x=a
   ·grind [aM]
   rw[aG g]at m;exact g (h.inj x y a 0 W _ b f c m l M B).1
  show bM _ w (.ptr cs) _;rw[show(0:Nat)*(⟨L,n,[cs.map AV.p]⟩:OObj).es+0=0 by simp];have R: ∀(j:Nat) x,cs[j]?=some x-> ∃u:Value,cells[j]?=some u/\bM (Xo X A (ax s.H a [])) w x u:=fun j x g=>by
   obtain⟨u,u1,u2,u3⟩:=Z 0 (cs.map AV.p) j (.p x) rfl (by grind);refine⟨u,by grind,bM.weaken (fun b _ C=>I b C) u3⟩
  refine bM.ptr b 0 cs (fun j=>(cells[j]?).getD undef) J (aaD.1 Y).1 (fun j x g=>?_) (fun j x g=>?_)
  ·grind [cell_of_row]
  grind
 simp only at g;rw[abq (acE e)]at g;exact D t x g
end Go.Proofs.YtalmoejhjceflaaGreat
namespace Go.Proofs
open Go.Shelf
def Tryz.lays129_ren:Go.Shelf.Ren:=⟨fun|129=>185|n=>n,fun|53=>116|3=>3|4=>4|46=>164|5=>5|9=>9|n=>n,fun|n=>n⟩
theorem Tryz.lays129:Go.Proofs.Lays.n129 prog Tryz.lays129_ren:={
 mixed:=by kernel_rfl
 f129:=func185.trans (congrArg some (by kernel_rfl))
 t3:=underlying3
 a3:=isAgg3
 z3:=sizeOf3
 v3:=zeroValue3
 t4:=underlying4
 a4:=isAgg4
 z4:=sizeOf4
 v4:=zeroValue4
 t5:=underlying5
 a5:=isAgg5
 z5:=sizeOf5
 v5:=zeroValue5
 t9:=underlying9
 a9:=isAgg9
 z9:=sizeOf9
 v9:=zeroValue9
 t46:=underlying164
 a46:=isAgg164
 z46:=sizeOf164
 v46:=zeroValue164
 t53:=underlying116
 a53:=isAgg116
 z53:=sizeOf116
 v53:=zeroValue116}
end Go.Proofs
namespace Go.Proofs.YtalmoejhjceflaaGreat
open Go.RowKit Go.Proofs.Tryz
variable {b:Exit->Act->World->Prop} {c:Array Oper} {e:AS->Act->World->Prop} {f g:Code} {h j:List OObj} {s:AS} {n:Nat} {l:Int×List Int} {m:Act->World->Prop} {o:List Nat} {p:FuncId} {q:Oper} {r:Operand} {t:TV}
section
abbrev FW (b:Option Nat):Fence:={Fence.wide with round:=b}
section
variable {P:Program} {w0 w:World} {O X:Nat->Prop} {s s':AS} {a:Act} {ks:List Nat}
theorem jI {f:Option Nat} (j:f=none\/ ∀c,q.op≠ .defer c) (h:q.wp P a w m b):q.wpIn (FW f) n P a w m b:=by
 refine⟨fun _ _=>trivial,?_⟩;have e:Oper.semAt (FW f).round a.eval q=execOp a.eval q:=by
  rcases j with rfl|j
  ·rfl
  grind [Oper.semAt_eq]
 rw[e];unfold Oper.wp at h;generalize(execOp a.eval q).run P w=r at h⊢;have l:(FW f).depth.isSome=true->1<=n:=fun h=>by simp[Fence.wide]at h
 cases r with
 |ok x g=>
  cases x<;>simp only[Oper.upon,Oper.uponIn]at h⊢ <;>first
   |exact h
   |exact⟨l,CallsIn.mono (callsIn_wide.2 h) (fun e t u=>by omega)⟩
   |exact⟨l,fun c p _=>let ⟨v,g,r,s⟩:=h c p;⟨v,g,r,stepsIn_wide.2 s⟩⟩
 |halt x g=>cases x<;>simp only[Oper.upon,Oper.uponIn]at h⊢ <;>exact h
theorem uV {e:List (ao P)} {i:Nat} {g:AS} (p:c[i]?=some q) (h:aU P (e.map ao.a) o c i q s=some g) (r:dx w0 O X s a w) (l: ∀v j,dx w0 O X g (a.put q.dst v) j->m (a.put q.dst v) j):wpOpIn (FW none) n P c b i m a w:=by
 have f:=iv (Q:=b) (ao.ok e) r h l;unfold wpOpIn;rw[p];simp only;split at f
 ·grind [jI]
 rename_i t;rw[if_neg t];exact⟨fun _ _=>trivial,f⟩
def vj (ks:List Nat) (a b:Act):Prop:= ∀k∈ks,b.tmps[k]?=a.tmps[k]?
def cW (ks:List Nat) (b:Array Oper):Bool:=ks.all fun k=>gk k b
theorem lJ (h:cW o c=true) (e:c[n]?=some q) (v:Value):vj o a (a.put q.dst v):=fun k b=>by
 grind [cW,vI,wV]
theorem vj.trans {b c e:Act} (h:vj ks b c) (g:vj ks c e):vj ks b e:=fun k f=>(g k f).trans (h k f)
theorem rr {n:Nat} {c:List (ao P)} {z:List Nat} {b:Array Oper} (t:cW ks b=true) {Q:Exit->Act->World->Prop} {suf:List Nat}: ∀(l:List Oper) (m:Nat) (s s':AS) (a:Act) (w:World),(∀(j:Nat) o,l[j]?=some o->b[m+j]?=some o)->
  ib P (c.map ao.a) z b (l.zipIdx m) s=some s'->dx w0 O X s a w->(∀f g,vj ks a f->dx w0 O X s' f g->wpOpsIn (FW none) n P b Q suf f g)->wpOpsIn (FW none) n P b Q (List.range' m l.length++suf) a w
 |[],m,s,s',a,w,_,h,r,p=>by
  simp only[acV,ib]at h;injection h with h
  subst h;exact p a w (fun _ _=>rfl) r
 |o::l,m,s,s',a,w,u,h,r,p=>by
  simp only[acb,ib]at h;split at h
  ·rename_i B q;simp only[aaP,abb,aca];rw[wpOpsIn_cons];have x:b[m]?=some o:=by have:=u 0 o rfl;omega
   exact uV x q r fun v g y=>rr t l (m+1) B s' _ _ (fun j o C=>by have:=u (j+1) o (by grind);grind) h y fun f g e A=>p f g ((lJ t x v).trans e) A
  cases h
theorem BO {n:Nat} {f:List (ao P)} {suf:List Nat}: ∀(l:List Oper) (k:Nat) (s s':AS) (a:Act) (w:World),(∀(j:Nat) e,l[j]?=some e->c[k+j]?=some e)->
  ib P (f.map ao.a) o c (l.zipIdx k) s=some s'->dx w0 O X s a w->(∀g m,dx w0 O X s' g m->wpOpsIn (FW none) n P c b suf g m)->wpOpsIn (FW none) n P c b (List.range' k l.length++suf) a w:=fun l k s s' a w q h r p=>
 rr (ks:=[]) rfl l k s s' a w q h r fun g m _ t=>p g m t
/-! Ways to say how a state and a world stand to one another. -/
def MN (R:AS->Act->World->Prop):Prop:= ∀s a w,R s a w-> ∃(g:World) (b c:Nat->Prop),dx g b c s a w/\ ∀s' e f,dx g b c s' e f->R s' e f
theorem DV:MN (dx w0 O X):=fun _ _ _ h=>⟨w0,O,X,h,fun _ _ _ h=>h⟩
def AB (P:Program) (o:Oper) (c e:Act->World->Prop):Prop:= ∀(a:Act) (w:World) (K:Act->World->Prop) (Q:Exit->Act->World->Prop),c a w->(∀v b,e (a.put o.dst v) b->K (a.put o.dst v) b)->o.wpIn (FW none) 0 P a w K Q
def vp (P:Program) (b:Array Oper) (m:Nat) (c e:Act->World->Prop):Prop:= ∃o,b[m]?=some o/\o.guard=none/\AB P o c e
def yD (ks:List Nat) (R:AS->Act->World->Prop):Prop:= ∀s a w,R s a w-> ∃(g:World) (c e:Nat->Prop),dx g c e s a w/\ ∀s' b f,vj ks a b->dx g c e s' b f->R s' b f
theorem MN.k (M:MN e):yD [] e:=fun s a w h=>
 have⟨w1,O1,X1,h1,h2⟩:=M s a w h
 ⟨w1,O1,X1,h1,fun s' b c _ r=>h2 s' b c r⟩
theorem rO {R1 R2:AS->Act->World->Prop} (A:yD ks R1) (B:yD ks R2) (m:Nat) (e:List (ao P)) (z:List Nat) {id:Nat} (y:cW ks c=true) (Z:m<c.toList.length) {t u x:AS} (G:ib P (e.map ao.a) z c ((c.toList.take m).zipIdx 0) s=some t) (q:vp P c m (R1 t) (R2 u)) (H:ib P (e.map ao.a) z c ((c.toList.drop (m+1)).zipIdx (m+1)) u=some x) (M:R1 s a w) (I: ∀f g,R2 x f g->b .normal f g):(Code.region id c false).wp P b a w:=by
 refine(wpIn_wide (n:=0)).1 (wpIn_region (F:=FW none) ?_);obtain⟨wa,Oa,Xa,U,N⟩:=A s a w M;obtain⟨o,L,J,p⟩:=q;have r:c.size=(c.toList.take m).length+(1+(c.toList.drop (m+1)).length):=by grind
 rw[r,aaX,<- abr,aa6];have h:(c.toList.take m).length=m:=by grind
 refine rr y (c.toList.take m) 0 s t a w (fun j o K=>?_) G U fun f g D S=>?_
 ·grind
 rw[h,ab5 1,abb,wpOpsIn_cons];unfold wpOpIn;rw[L];simp only;rw[if_pos (by simp[Region.wanted,J])];refine p f g _ _ (N _ _ _ D S) fun v W l=>?_
 obtain⟨wb,Ob,Xb,V,R⟩:=B _ _ _ l;have:=rr (n:=0) (Q:=b) (suf:=[]) y (c.toList.drop (m+1)) (m+1) u x _ W (fun j o K=>by
  grind) H V (fun C Y E T=>I C Y (R _ _ _ E T))
 grind
/-! A drawn region whose last operation comes behind all others. -/
def wc (o:Oper):Oper:={o with op:= .move (.const (.bool false))}
def yn:Nat->List Oper->List Oper
 |_,[]=>[]
 |0,o::l=>wc o::l
 |m+1,o::l=>o::yn m l
def jO (b:Array Oper) (m:Nat):Array Oper:=⟨yn m b.toList⟩
theorem Dn: ∀(m:Nat) (l:List Oper) (i:Nat),(yn m l)[i]?=if i=m then(l[i]?).map wc else l[i]?
 |m,[],i=>by simp[yn]
 |0,o::l,0=>rfl
 |0,o::l,i+1=>by simp[yn]
 |m+1,o::l,0=>by simp[yn]
 |m+1,o::l,i+1=>by simp[yn,Dn m l i]
theorem Do: ∀(m:Nat) (l:List Oper),(yn m l).length=l.length
 |m,[]=>by simp[yn]
 |0,o::l=>rfl
 |m+1,o::l=>by simp[yn,Do m l]
section
variable {ops:Array Oper} {m:Nat}
theorem jD (i:Nat):(jO ops m)[i]?=if i=m then(ops[i]?).map wc else ops[i]?:=by
 grind [Dn,jO]
theorem iV:(jO ops m).size=ops.size:=by simp[jO,Do]
theorem SJ (g:Nat):((jO ops m)[g]?).bind (·.dst)=(ops[g]?).bind (·.dst):=by
 rw[jD];split
 ·cases ops[g]?<;>rfl
 rfl
theorem np {b:List (df P)} {i:Nat}:aU P b o (jO ops m) i q s=aU P b o ops i q s:=by
 grind [aU,SJ]
theorem zU {b:Array Bool} {i:Nat}:i∈Region.ready .any (jO ops m) b↔i∈Region.ready .any ops b:=by
 grind [mem_ready,jD,wc]
theorem C6 {Qn:Act->World->Prop} {Wp:Nat->(Act->World->Prop)->Act->World->Prop}: ∀f,qn (jO ops m) Qn Wp f=qn ops Qn Wp f:=by
 have c: ∀b,Region.ready .any (jO ops m) b=[]↔Region.ready .any ops b=[]:=fun b=>by
  simp only[ac6,zU]
 intro f
 induction f with
 |zero=>grind [qn]
 |succ f e=>simp_all[qn,zU]
theorem uz {n:Nat} {Q:Exit->Act->World->Prop}: ∀f,qn ops (Q .normal) (fun i K a w=>wpOpIn (FW none) n P ops Q i K a w) f=wpAnyIn (FW none) n P .any ops Q f
 |0=>rfl
 |f+1=>by
  funext l a w;simp only[qn,wpAnyIn,uz f]
end
def Gk (b:Array Oper):Bool:=decide (0<b.size)&&(bY [] (jO b (b.size-1))&&(List.range (b.size-1)).all fun i=>((pj (jO b (b.size-1)).toList []).getD (b.size-1) 0).testBit i)
theorem v8 {R1 R2:AS->Act->World->Prop} (N:yD ks R1) (V:P.follows .mixedOrders=true) (f:List (ao P)) (q:List Nat) {id:Nat} (hk:cW ks c=true) (hE:Gk c=true) {C L:AS} (h1:ib P (f.map ao.a) q c ((c.toList.take (c.size-1)).zipIdx 0) s=some C) (aa:vp P c (c.size-1) (R1 C) (R2 L)) (t:R1 s a w) (hQ: ∀a' M,R2 L a' M->b .normal a' M):(Code.region id c true).wp P b a w:=by
 simp only[Gk,aaO,decide_eq_true_eq,aat,aa9]at hE;obtain⟨ac,hd,G⟩:=hE;obtain⟨o,ho,hg,Z⟩:=aa;generalize hm:c.size-1=m at*
 have ab:m<c.size:=by omega
 have U:(c.toList.take m).length=m:=by grind
 have u:dy P (f.map ao.a) q (jO c m) (List.range m) s=some C:=by
  have:=gS (P:=P) (items:=f.map ao.a) (ow:=q) (c.toList.take m) 0 s (fun j o B=>by
   rw[acg]at B;split at B
   ·simpa using B
   cases B)
  rw[h1,U,<- aaX]at this;rw[this];have key: ∀(l:List Nat) (s:AS),(∀i∈l,i<m)->dy P (f.map ao.a) q (jO c m) l s=dy P (f.map ao.a) q c l s:=fun l=>by
   induction l with
   |nil=>intros;rfl
   |cons i l ih=>
    intro s hl;have hi:=hl i (by simp);have e:dX P (f.map ao.a) q (jO c m) i s=dX P (f.map ao.a) q c i s:=by
     grind [dX,jD,np]
    simp only[dy,e];cases dX P (f.map ao.a) q c i s with
    |none=>rfl
    |some L=>grind
  grind
 have S:(jO c m)[m]?=some (wc o):=by grind [jD]
 have T:aU P (f.map ao.a) q (jO c m) m (wc o) C=some (C.put o.dst (.raw (.bool false))):=by
  unfold aU;rw[show(wc o).guard=none from hg];rfl
 have J:dy P (f.map ao.a) q (jO c m) (List.range (jO c m).size) s=some (C.put o.dst (.raw (.bool false))):=by
  rw[iV,show c.size=m+1 by omega,abg,je,u];grind [dy,dX]
 refine(wpIn_wide (n:=0)).1 (wpIn_region_any (F:=FW none) V ?_);have ah:R1 s a {w with drawn:=w.drawn+1}:=by
  obtain⟨wa,Oa,Xa,⟨q1,q2,ρ,I,A⟩,ka⟩:=N s a w t;have e:Ext w {w with drawn:=w.drawn+1}:=⟨rfl,rfl,rfl,aar _,fun _ _=>rfl⟩;have A:aV Xa ρ s a w:=A;exact ka _ _ _ (fun _ _=>rfl) ⟨q1,q2,ρ,I.grow e,A.grow e⟩
 have y:kV s:=by obtain⟨wa,Oa,Xa,r,_⟩:=N s a w t;exact eP r
 rw[<- uz,<- C6 (m:=m)];refine mc (sep:=[]) (lF hd (by simp)) hd (fun p s a w=>if p m then R2 L a w else R1 s a w) ⟨y,fun x hx=>by simp at hx⟩ J (fun p a w E t=>?_) (fun p i o' s' al a w K h W R hs t hK=>?_) c.size (Array.replicate c.size false) s a _ (by simp[iV]) ?_ ?_ ?_ ?_
 ·rw[if_pos (E m (by grind))]at t;exact hQ a w t
 ·obtain⟨hc,ad,g⟩:=R;have ae:i<c.size:=by grind [iV]
  have D:dJ p i i=true:=by simp[dJ]
  by_cases H:i=m
  ·subst H;rw[S]at h;injection h with h
   subst h;have Y:l5 (jO c i).size p=List.range i:=xM (by grind) (fun j B=>by
    grind [mn,dJ]) (fun j af ag=>by
    grind [iV])
   rw[Y,u]at g;injection g with g
   subst g;rw[W,if_neg (by decide)]at t;unfold wpOpIn;rw[ho];simp only;rw[if_pos (by simp[Region.wanted,hg])];exact Z a w K b t fun v M h2=>hK v M (by rw[if_pos D];exact h2)
  have z:p m=false:=by
   cases z:p m with
   |false=>rfl
   |true=>
    have:=mn hc (m+1) m (by omega) (by grind) z (G i (by omega));grind
  rw[z,if_neg (by decide)]at t;rw[jD,if_neg H]at h;rw[np]at hs;obtain⟨wa,Oa,Xa,ra,ka⟩:=N _ _ _ t;grind [uV,dJ,lJ]
 ·intro j o ho hp;have B:j<c.size:=by grind [iV]
  simp_all
 ·grind [iV]
 ·have:l5 (jO c m).size (fun j=>(Array.replicate c.size false).getD j true)=[]:=by
   simp_all[l5,iV]
  rw[this];rfl
 simp_all
end
end
section
structure f5 (γ:Type) where
 B:Nat->Prop
 G:γ->(Nat->Prop)->World->Prop
 sp: ∀(g:γ) (Y:Nat->Prop) (w w':World),(∀j,B j->w'.heap[j]?=w.heap[j]?)->(∀j,¬Y j->w'.heap[j]?=w.heap[j]?)->G g Y w->G g Y w'
def YY:f5 Unit:=⟨fun _=>False,fun _ _ _=>True,fun _ _ _ _ _ _ h=>h⟩
section
variable {P:Program} {γ:Type} {L:f5 γ} {g g':γ} {w0 w:World} {O X Y:Nat->Prop} {s s':AS} {a:Act}
def fi (L:f5 γ) (Y:Nat->Prop) (w0:World) (O X:Nat->Prop) (g:γ) (s:AS) (a:Act) (w:World):Prop:=dx w0 O X s a w/\(∀j,L.B j->O j/\X j)/\(∀j,O j\/w0.heap.size<=j->Y j)/\L.G g Y w
theorem fi.rebase (h:fi L Y w0 O X g s a w): ∃Own:Nat->Prop,dx w Own X s a w/\ ∀D q p,dx w Own X D q p->fi L Y w0 O X g D q p:=by
 obtain⟨⟨G,z,E,b,A⟩,v,y,I⟩:=h;refine⟨fun j=> ∃(x r:Nat) (o:OObj) (c:Nat),(s.H x)[r]?=some o/\E x r=some (j,c),⟨G,z,E,⟨Keep.refl w,b.objs,b.inj,fun x r o j c n f=>⟨.inr ⟨x,r,o,c,n,f⟩,(b.old x r o j c n f).2⟩,b.bar,b.self⟩,A⟩,?_⟩;rintro D q p ⟨M,B,F,e,C⟩;have l: ∀j,(∃(x r:Nat) (o:OObj) (c:Nat),(s.H x)[r]?=some o/\E x r=some (j,c))->(w0.heap.size<=j\/O j)/\ ¬X j:=fun j ⟨x,r,o,c,t,u⟩=>b.old x r o j c t u
 refine⟨⟨M,B,F,⟨⟨e.keep.os.trans b.keep.os,e.keep.tape.trans b.keep.tape,e.keep.output.trans b.keep.output,aap b.keep.size e.keep.size,fun j f K=>?_⟩,e.objs,e.inj,fun x r o j c n f=>?_,e.bar,e.self⟩,C⟩,v,y,?_⟩
 ·rw[e.keep.block j (aaA f b.keep.size) (fun m=>by
   grind)]
  exact b.keep.block j f K
 ·obtain⟨t,u⟩:=e.old x r o j c n f;refine⟨?_,u⟩;rcases t with g|g
  ·exact .inl (aap b.keep.size g)
  grind
 refine L.sp g Y w p (fun j f=>e.keep.block j (b.bar j (v j f).2) (fun m=>(l j m).2 (v j f).2)) (fun j f=>?_) I;by_cases J:j<w.heap.size
 ·exact e.keep.block j J fun m=>f (y j (l j m).1.symm)
 exact absurd (y j (.inr (aap b.keep.size (by omega)))) f
theorem sQ:MN (fi L Y w0 O X g):=fun _ _ w h=>by
 obtain⟨Own,b,c⟩:=h.rebase;grind
def r9 (P:Program) (L:f5 γ) (c:Code) (Q:Exit->AS->γ->Prop) (s:AS) (g:γ):Prop:=
 ∀(Y:Nat->Prop) (w0:World) (O X:Nat->Prop) (a:Act) (w:World),fi L Y w0 O X g s a w->c.wp P (fun e b f=> ∃s' g',Q e s' g'/\fi L Y w0 O X g' s' b f) a w
def rP (next:AS->γ->Prop) (Q:Exit->AS->γ->Prop):Exit->AS->γ->Prop
 | .normal,s,k=>next s k
 |e,s,k=>Q e s k
def FS (id:Nat) (Q:Exit->AS->γ->Prop):Exit->AS->γ->Prop
 | .exit b,s,k=>if b=id then Q .normal s k else Q (.exit b) s k
 |e,s,k=>Q e s k
variable {Q:Exit->AS->γ->Prop}
theorem VS (h:bf P f (fun e s'=>Q e s' g) s):r9 P L f Q s g:=fun Y w0 O X a w r=>by
 obtain⟨Own,l,m⟩:=r.rebase;exact wp_mono (h _ _ _ _ _ l) fun e n o ⟨s',b,j⟩=>⟨s',g,b,m _ _ _ j⟩
theorem fi.weak (h:bG s s') (r:fi L Y w0 O X g s a w):fi L Y w0 O X g s' a w:=by
 obtain⟨Own,b,c⟩:=r.rebase;exact c _ _ _ (h _ _ _ _ _ b)
theorem r9.weak (h:bG s s') (k:r9 P L f Q s' g):r9 P L f Q s g:=fun _ _ _ _ _ _ r=>k _ _ _ _ _ _ (r.weak h)
theorem M9 (h:Q .normal s g):r9 P L .skip Q s g:=fun _ _ _ _ _ _ r=>wp_skip ⟨s,g,h,r⟩
theorem R3 (h:Q .ret s g):r9 P L .ret Q s g:=fun _ _ _ _ _ _ r=>wp_ret ⟨s,g,h,r⟩
theorem ux {y:Code} (h:r9 P L f (rP (r9 P L y Q) Q) s g):r9 P L (.seq f y) Q s g:=fun _ _ _ _ _ _ r=>
 wp_seq (wp_mono (h _ _ _ _ _ _ r) fun e a w ⟨s',g',b,c⟩=>by
  cases e with
  |normal=>exact b _ _ _ _ _ _ c
  |_=>exact⟨s',g',b,c⟩)
theorem CO {y:Code} {v:Bool} (m:s.ev r=some (.raw (.bool v))) (p:v=true->r9 P L f Q s g) (n:v=false->r9 P L y Q s g):r9 P L (.cond r f y) Q s g:=fun _ _ _ _ _ _ b=>by
 obtain⟨⟨q,o,t,j,e⟩,_⟩:=id b;have l:=(aX (bz e r _ m)).1;exact wp_cond_split l (fun h=>p h _ _ _ _ _ _ b) (fun h=>n h _ _ _ _ _ _ b)
theorem VR {y:Code} (b:s.ev r=some (.raw (.bool true))) (h:r9 P L f Q s g):r9 P L (.cond r f y) Q s g:=CO b (fun _=>h) (fun h=>by cases h)
theorem VQ {y:Code} (b:s.ev r=some (.raw (.bool false))) (h:r9 P L y Q s g):r9 P L (.cond r f y) Q s g:=CO b (fun h=>by cases h) (fun _=>h)
theorem Na (b:List (ao P)) (e:List Nat) {id:Nat} (h: ∀K:AS->Prop,(∀s',r9 P L f Q s' g->K s')->aS P (b.map ao.a) e (aJ c c.toList 0) (some s) K):r9 P L (.seq (.region id c false) f) Q s g:=
 ux (VS (m9 b e h))
theorem se {id:Nat} (h: ∀K:AS->Prop,(∀s',r9 P L f Q s' g->K s')->aS P [] [] (aJ c c.toList 0) (some s) K):r9 P L (.seq (.region id c false) f) Q s g:=Na [] [] h
structure qa (P:Program) (L:f5 γ) (f:FuncId) (args:List TV) (F F':List OObj) (g g':γ) (r:TV):Prop where
 able:callable P f=true
 sA: ∀t∈args,selfTV 0 t
 sR:selfTV 0 r
 sF: ∀o∈F,selfO 0 o
 sF': ∀o∈F',selfO 0 o
 calls: ∀(X Y:Nat->Prop) (w:World) (vs:Array Value) (ρ:Rho),Inv w (fun j=>famB F ρ j\/L.B j) X (famH 0 F) ρ w->(∀j,L.B j->X j)->(∀j,(famB F ρ j\/L.B j)\/w.heap.size<=j->Y j)->L.G g Y w->vs.size=args.length->
  (∀(j:Nat) t,args[j]?=some t-> ∃v:Value,vs[j]?=some v/\t.rel ρ (famH 0 F) (Xo X ρ (famH 0 F)) w v)->
  Calls P f vs w fun e w'=> ∃v,e= .returned v/\ ∃ρ':Rho,Inv w (fun j=>famB F ρ j\/L.B j) X (famH 0 F') ρ' w'/\L.G g' Y w'/\r.rel ρ' (famH 0 F') (Xo X ρ' (famH 0 F')) w' v
theorem NC {C:Func} {args:List TV} (hf:P.funcs[p]?=some C) (hb:C.body=some f) (hn:callable P p=true) (sA: ∀m∈args,selfTV 0 m) (sR:selfTV 0 t) (sF: ∀o∈h,selfO 0 o) (sF': ∀o∈j,selfO 0 o) (b:r9 P L f (fun e s k=>(e= .normal\/e= .ret)/\k=g'/\ ∃s',bG s s'/\Yt P C j t s') ⟨args++List.replicate (C.ntmps-args.length) .undef,famH 0 h⟩ g):qa P L p args h j g g' t:=by
 refine⟨hn,sA,sR,sF,sF',fun X Y w vs T u V Z W K I=>?_⟩;refine calls_of_wp hf hb ?_;have G:dx w (fun l=>famB h T l\/L.B l) X ⟨args++List.replicate (C.ntmps-args.length) .undef,famH 0 h⟩ {tmps:=vs++Array.replicate (C.ntmps-vs.size) undef,defers:=[]} w:=by
  refine⟨rfl,by simp[K],T,u,fun m x D=>?_⟩;by_cases ht:m<args.length
  ·grind
  rw[aaE (by omega),aba]at D;split at D
  ·rename_i aa;injection D with D
   subst D;refine⟨undef,?_,eJ⟩;grind
  cases D
 refine wp_mono (b Y _ _ _ _ _ ⟨G,fun l R=>⟨.inr R,V l R⟩,Z,W⟩) fun e U w' ⟨s1,k,⟨J,hk,s2,hw,q,H⟩,y,_,_,E⟩=>?_
 subst hk;obtain⟨N,ab,A,n,z⟩:=hw _ _ _ _ _ y;have z:aV X A s2 U w':=z;rw[q]at n;obtain⟨v,S,M⟩:=fF (by rw[q];exact n) z H;rw[q]at M;rcases J with rfl|rfl
 ·exact⟨N,v,S,v,rfl,A,n,E,M⟩
 exact⟨N,v,S,v,rfl,A,n,E,M⟩
def pu (o:Oper) (s:AS):Option (FuncId×List TV):=match o.op with
 | .call c=>match c.callee with
  | .value (.func f)=>(fA s.ev c.args.toList).map fun e=>(f,e)
  | .value (.tmp k)=>match FU (s.ev (.tmp k)),fA s.ev c.args.toList with
   |some (f,b),some e=>some (f,e++b)
   |_,_=>none
  |_=>none
 |_=>none
def cxTs (b:Array Oper) (m:Nat) (s:AS):Option (FuncId×List TV):=match b[m]? with
 |some o=>if o.guard.isNone then pu o s else none
 |none=>none
structure Cu (ops:Array Oper) (m:Nat) (f:FuncId) (args:List TV) (fa:Nat) (F:List OObj) (s:AS):Prop where
 ts:cxTs ops m s=some (f,args.map (renTV fa))
 fam:s.H fa=F.map (renO fa)
theorem L2 {args:List TV} (m:qa P L p args h j g g' t) (ad:n<=4999) (u:pu q s=some (p,args.map (renTV n))) (M:s.H n=h.map (renO n)):
  AB P q (fi L Y w0 O X g s) (fi L Y w0 O X g' (AS.put ⟨s.tmps.map (aP (kF n)),ax s.H n (j.map (renO n))⟩ q.dst (renTV n t))):=fun a w K Q ⟨⟨h1,af,ρ,A,x⟩,hB,hY,hG⟩ hK=>by
 have x:aV X ρ s a w:=x;obtain⟨X1,U,g1,g2,g3,gF,g4⟩:=ws (B:=L.B) h1 af A x hB m.sR m.sF m.sF' ad M;refine jI (.inl rfl) ?_;have key: ∀vs:Array Value,(execOp a.eval q).run P w= .ok (.enter p vs) w->vs.size=args.length->(∀(b:Nat) l,args[b]?=some l-> ∃v:Value,vs[b]?=some v/\(renTV n l).rel ρ s.H (Xo X ρ s.H) w v)->q.wp P a w K Q:=fun vs S ah E=>by
  unfold Oper.wp;rw[S];simp only[Oper.upon];have ab: ∀b,(famB h U b\/L.B b)\/w.heap.size<=b->Y b:=fun b C=>hY b (by
   rcases C with(C|C)|C
   ·obtain⟨y,q,c,k1,k2⟩:=gF b C;exact(A.old n y q b c k1 k2).1.symm
   ·grind
   exact .inr (aap A.keep.size C))
  refine(m.calls X1 Y w vs U g1 g2 ab hG ah fun b l V=>?_).mono ?_
  ·obtain⟨v,v1,v2⟩:=E b l V;exact⟨v,v1,g3 l v (m.sA l (aai V)) v2⟩
  rintro e w1 ⟨v,rfl,al,hi,aa,ae⟩;exact hK v w1 ⟨g4 v w1 al hi ae q.dst,hB,hY,aa⟩
 unfold pu at u;split at u
 ·rename_i c R;split at u
  ·rename_i f' z;obtain⟨ts,G,e⟩:=aak.1 u;injection e with e W
   subst e W;obtain⟨e1,Z⟩:=bV G;have I:c.args.size=args.length:=by grind
   refine key _ (jf R z rfl m.able) (by simp[I]) fun b l V=>?_
   obtain⟨y,hy,J⟩:=Z b (renTV n l) (by grind);refine⟨a.eval y,?_,bz x y _ J⟩;grind
  ·rename_i k z;split at u
   ·rename_i f' D ts ac G;injection u with u
    injection u with e W
    subst e;obtain⟨e1,Z⟩:=bV G;obtain⟨us,k1,k2,k3⟩:=jJ (v:=a.eval (.tmp k)) (fun t0 ag=>bz x (.tmp k) t0 ag) ac;have N:args.length=c.args.size+us.size:=by
     have:=congrArg List.length W;grind
    refine key _ (jT R z k1 m.able) (by simp[N]) fun b l V=>?_
    have T:(ts++D)[b]?=some (renTV n l):=by grind
    by_cases C:b<ts.length
    ·rw[aaB C]at T;obtain⟨y,hy,J⟩:=Z b _ T;refine⟨a.eval y,?_,bz x y _ J⟩;grind
    grind
   cases u
  cases u
 cases u
theorem LZ {args:List TV} (l:qa P L p args h j g g' t) (q:n<=4999) {m:Nat} (b:Cu c m p args n h s):
  vp P c m (fi L Y w0 O X g s) (fi L Y w0 O X g' (X0 c m t n j s)):=by
 obtain⟨e,v⟩:=b;unfold cxTs at e;split at e
 ·rename_i o u;split at e
  ·rename_i x;refine⟨o,u,by simp_all,?_⟩;grind [X0,cwD,L2]
  cases e
 cases e
theorem Kl (o:P.follows .mixedOrders=true) {args:List TV} (l:qa P L p args h j g g' t) (m:Nat) (e:List (ao P)) (u:List Nat) {id:Nat} (n:m<=4999) (z:Gk c=true) (b:aS P (e.map ao.a) u (aJ c (c.toList.take (c.size-1)) 0) (some s) (fun v=>Cu c (c.size-1) p args m h v/\Q .normal (X0 c (c.size-1) t m j v) g')):r9 P L (.region id c true) Q s g:=fun Y w0 O X a w B=>by
 obtain⟨v,x,q,y⟩:=aR P (e.map ao.a) u c _ 0 s _ b;exact v8 (ks:=[]) (R1:=fi L Y w0 O X g) (R2:=fi L Y w0 O X g') sQ.k o e u rfl z x (LZ l n q) B fun C D A=>⟨_,g',y,A⟩
theorem TI:fi YY (fun _=>True) w0 O X () s a w↔dx w0 O X s a w:=⟨fun h=>h.1,fun h=>⟨h,fun _ h=>h.elim,fun _ _=>trivial,trivial⟩⟩
end
end
end Go.Proofs.YtalmoejhjceflaaGreat
