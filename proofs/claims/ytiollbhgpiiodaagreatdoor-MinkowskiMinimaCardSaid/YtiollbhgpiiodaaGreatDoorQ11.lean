/-
  Part 12 of a proof (walks and plain facts).
-/
import Derived.Test.YtiollbhgpiiodaaGreatDoorQ10
set_option linter.all false
set_option maxRecDepth 100000
set_option maxHeartbeats 64000000
open Nat renaming reduceAdd → aa
open Nat renaming reduceEqDiff → ab
open Nat renaming le_refl → ac
open List renaming replicate → ae
open Nat renaming reduceBEq → af
open Nat renaming reduceLeDiff → ah
open List renaming all_eq_true → ai
open Int renaming reduceToNat → am
open List renaming mem_of_getElem? → aw
open List renaming length_map → ax
namespace Go.Proofs.YtiollbhgpiiodaaGreatDoor
open Go.RowKit
theorem xR: ∀(x y:List Int),fq y x= - fq x y
 |[],[]=>by simp[fq]
 |[],_::_=>by simp[fq]
 |_::_,[]=>by simp[fq]
 |a::x,b::y=>by
  have:=xR x y;unfold fq;by_cases h1:a<b
  ·rw[if_pos h1,if_neg (by omega),if_pos h1];rfl
  by_cases h2:b<a
  ·rw[if_pos h2,if_neg h1,if_pos h2]
  rw[if_neg h2,if_neg h1,if_neg h1,if_neg h2,this]
theorem vh: ∀{x y z:List Int},fq x y<0->fq y z<0->fq x z<0
 |[],[],_,h,_=>by simp[fq]at h
 |_::_,[],_,h,_=>by simp[fq]at h
 |[],_::_,[],_,h=>by simp[fq]at h
 |[],_::_,_::_,_,_=>by simp[fq]
 |_::_,_::_,[],_,h=>by simp[fq]at h
 |a::x,b::y,c::z,h1,h2=>by
  unfold fq at h1 h2⊢;by_cases p1:a<b
  ·by_cases p2:b<c
   ·rw[if_pos (by omega)];omega
   rw[if_neg p2]at h2;by_cases p3:c<b
   ·rw[if_pos p3]at h2;omega
   rw[if_pos (by omega)];omega
  rw[if_neg p1]at h1;by_cases p3:b<a
  ·rw[if_pos p3]at h1;omega
  rw[if_neg p3]at h1;by_cases p2:b<c
  ·rw[if_pos (by omega)];omega
  rw[if_neg p2]at h2;by_cases p4:c<b
  ·rw[if_pos p4]at h2;omega
  rw[if_neg p4]at h2;rw[if_neg (by omega),if_neg (by omega)];exact vh h1 h2
def w7 (a b:Int×List Int):Prop:=a.1<b.1\/a.1=b.1/\fq a.2 b.2<0
instance (a b:Int×List Int):Decidable (w7 a b):=inferInstanceAs (Decidable (_\/_))
def nW (x:Int×List Int):List (Int×List Int)->List (Int×List Int)
 |[]=>[x]
 |a::l=>if w7 a x then a::nW x l else if w7 x a then x::a::l else a::l
theorem I1 {a b c:Int×List Int} (h1:w7 a b) (h2:w7 b c):w7 a c:=by
 unfold w7 at*
 rcases h1 with h1|⟨h1,h1'⟩<;>rcases h2 with h2|⟨h2,h2'⟩
 ·omega
 ·omega
 ·omega
 exact .inr ⟨by omega,vh h1' h2'⟩
theorem I0 {a b:Int×List Int} (h1: ¬w7 a b) (h2: ¬w7 b a):a=b:=by
 unfold w7 at*
 have ha:=xR a.2 b.2;have e1:a.1=b.1:=by omega
 have e2:fq a.2 b.2=0:=by omega
 exact Prod.ext e1 (tW e2)
def RW (l:List (Int×List Int)):Prop:=l.Pairwise w7
theorem ws {x y:Int×List Int}: ∀{l:List (Int×List Int)},y∈nW x l↔y=x\/y∈l
 |[]=>by simp[nW]
 |a::l=>by
  unfold nW;split
  ·rw[List.mem_cons,ws,List.mem_cons];constructor
   ·rintro(h|h|h)
    ·exact .inr (.inl h)
    ·exact .inl h
    exact .inr (.inr h)
   rintro(h|h|h)
   ·exact .inr (.inl h)
   ·exact .inl h
   exact .inr (.inr h)
  split
  ·rw[List.mem_cons]
  rename_i h1 h2;have e:=I0 h2 h1;constructor
  ·exact .inr
  rintro(h|h)
  ·rw[h,e];exact List.mem_cons_self
  exact h
theorem Cz {x:Int×List Int}: ∀{l:List (Int×List Int)},RW l->RW (nW x l)
 |[],_=>by simp[nW,RW]
 |a::l,h=>by
  obtain⟨h1,h2⟩:=List.pairwise_cons.1 h;unfold nW;split
  ·rename_i hlt;refine List.pairwise_cons.2 ⟨fun y hy=>?_,Cz h2⟩;rcases ws.1 hy with e|hy
   ·rw[e];exact hlt
   exact h1 y hy
  split
  ·rename_i hlt;refine List.pairwise_cons.2 ⟨fun y hy=>?_,h⟩;rcases List.mem_cons.1 hy with e|hy
   ·rw[e];exact hlt
   exact I1 hlt (h1 y hy)
  exact h
/-! Insertion. -/
def Cu (x:Int×List Int):List (Int×List Int)->Nat
 |[]=>0
 |a::l=>if w7 a x then Cu x l+1 else 0
theorem EQ (x:Int×List Int): ∀l,Cu x l<=l.length
 |[]=>ac _
 |a::l=>by unfold Cu;have:=EQ x l;split<;>simp<;>omega
theorem MD (x:Int×List Int): ∀(l:List (Int×List Int)) (i:Nat) a,l[i]?=some a->i<Cu x l->w7 a x
 |[],i,a,h,_=>by simp at h
 |b::l,i,a,h,hi=>by
  unfold Cu at hi;split at hi
  ·cases i with
   |zero=>simp at h;subst h;assumption
   |succ i=>exact MD x l i a (by simpa using h) (by omega)
  omega
theorem MC (x:Int×List Int): ∀(l:List (Int×List Int)) a,l[Cu x l]?=some a-> ¬w7 a x
 |[],a,h=>by simp at h
 |b::l,a,h=>by
  unfold Cu at h;split at h
  ·exact MC x l a (by simpa using h)
  simp at h;subst h;assumption
theorem wt (x:Int×List Int): ∀l:List (Int×List Int),nW x l=match l[Cu x l]? with
  |some a=>if w7 x a then l.take (Cu x l)++x::l.drop (Cu x l)else l
  |none=>l.take (Cu x l)++x::l.drop (Cu x l)
 |[]=>rfl
 |a::l=>by
  unfold nW Cu;split
  ·rw[wt x l];simp only[List.getElem?_cons_succ];cases l[Cu x l]? with
   |none=>rfl
   |some b=>simp only;split<;>rfl
  simp only[List.getElem?_cons_zero];split<;>rfl
theorem ML (x:Int×List Int) (l:List (Int×List Int)):(nW x l).length<=l.length+1:=by
 rw[wt];have h1:(l.take (Cu x l)++x::l.drop (Cu x l)).length=l.length+1:=by
  have:=EQ x l;simp;omega
 split
 ·split
  ·omega
  omega
 omega
section
section
variable {P:Program} {k:Nat} {s s':AS} {Q:Exit->AS->Prop}
theorem vN {ρ:Rho} {H:OH} {Y:Nat->Prop} {w:World} {x:AV} {v:Value} {fa:Nat} (hl:(H fa).length<=1) (h:AV.rel ρ H Y w x v):bs (kM fa) x=x:=by
 cases x with
 |p x=>rfl
 |junk=>rfl
 |sl a r off len=>
  obtain⟨o,h1,_⟩:=h;refine if_neg ?_;simp only[kM,Bool.and_eq_true,beq_iff_eq,bne_iff_ne];rintro⟨rfl,h2⟩;have:=(List.getElem?_eq_some_iff.1 h1).1;omega
 |ptr a r i j=>
  obtain⟨o,b,c,h1,_⟩:=h;refine if_neg ?_;simp only[kM,Bool.and_eq_true,beq_iff_eq,bne_iff_ne];rintro⟨rfl,h2⟩;have:=(List.getElem?_eq_some_iff.1 h1).1;omega
theorem sn {ρ:Rho} {H:OH} {Y:Nat->Prop} {w:World} {cs:List AV} {v:Value} {fa:Nat} (hl:(H fa).length<=1) (h:bX ρ H Y w cs v):cs.map (bs (kM fa))=cs:=by
 obtain⟨vs,_,_,h3⟩:=h
 conv=>rhs;rw[<- List.map_id cs]
 refine List.map_congr_left fun x hx=>?_
 obtain⟨j,hj⟩:=List.getElem?_of_mem hx;obtain⟨u,_,_,u3⟩:=h3 j x hj;exact vN hl u3
theorem LX {ρ:Rho} {H:OH} {Y:Nat->Prop} {w:World} {t:TV} {v:Value} {fa:Nat} (hl:(H fa).length<=1) (h:t.rel ρ H Y w v):bo (kM fa) t=t:=by
 cases t with
 |one x=>exact congrArg TV.one (vN hl h)
 |agg cs=>exact congrArg TV.agg (sn hl h)
 |fn f cs=>obtain⟨u,h1,_⟩:=h;exact congrArg (TV.fn f) (sn hl h1)
 |tup ts=>
  obtain⟨vs,_,_,h3⟩:=h;refine congrArg TV.tup ?_
  conv=>rhs;rw[<- List.map_id ts]
  refine List.map_congr_left fun x hx=>?_
  obtain⟨b,cs⟩:=x;obtain⟨j,hj⟩:=List.getElem?_of_mem hx;obtain⟨u,_,u2⟩:=h3 j b cs hj;rcases u2 with⟨_,u3⟩|⟨_,x,rfl,u4⟩
  ·exact congrArg (Prod.mk b) (sn hl u3)
  simp only[List.map_cons,List.map_nil,vN hl u4,id]
theorem IY {w0 w:World} {O X:Nat->Prop} {a:Act} {fa:Nat} (hl:(s.H fa).length<=1) (h:fW w0 O X s a w):s.tmps.map (bo (kM fa))=s.tmps:=by
 obtain⟨_,_,ρ,_,htm⟩:=h
 conv=>rhs;rw[<- List.map_id s.tmps]
 refine List.map_congr_left fun x hx=>?_
 obtain⟨j,hj⟩:=List.getElem?_of_mem hx;obtain⟨u,_,u2⟩:=htm j x hj;exact LX hl u2
def K2 (fa:Nat) (F':List OObj) (s:AS):AS:=⟨s.tmps,be s.H fa (F'.map (renO fa))⟩
def UK (ops:Array Oper) (m:Nat) (r:TV) (fa:Nat) (F':List OObj) (s:AS):AS:=AS.put (K2 fa F' s) (cwD ops m) r
theorem tV {fa:Nat} {F':List OObj} {d:Option Tmp} {t:TV}:K2 fa F' (s.put d t)=(K2 fa F' s).put d t:=by cases d<;>rfl
def SZ (ops:Array Oper) (m:Nat):Bool:=(match ops[m]? with|some o=>o.dst.isSome|none=>false)&&((List.range m).all fun i=>((qu ops.toList []).getD m 0).testBit i)&&
 (List.range ops.size).all fun j=>decide (j<=m)||(((qu ops.toList []).getD j 0).testBit m&&match ops[j]? with|some o=>ud o.op&&o.guard.isNone|none=>false)
theorem Fc {items:List (dD P)} {ow:List Nat} {ops:Array Oper} {i:Nat} {o:Oper} (h1:ud o.op=true) (h2:o.guard=none):bZ P items ow ops i o s=(jc P s.ev o.op).map (s.put o.dst):=by
 unfold bZ;rw[h2];simp only;unfold eI;rw[if_pos h1]
theorem yG {M:dD P} {items:List (dD P)} {ow:List Nat} {ops:Array Oper} {i:Nat} {o:Oper} (hi:M.i≠i):bZ P (M::items) ow ops i o s=bZ P items ow ops i o s:=by
 have e:(M::items).find? (·.i==i)=items.find? (·.i==i):=by
  rw[List.find?_cons];have:(M.i==i)=false:=by simpa using hi
  rw[this]
 have e2: ∀(d:Nat) (ev:Operand->Option TV) (H:OH) (op:Op),di P (M::items) ow i d ev H op=di P items ow i d ev H op:=fun d ev H op=>by
  cases op with
  |call c=>
   unfold di;rw[e]
  |_=>rfl
 unfold bZ eI;simp only[e2]
theorem CR {M:dD P} {items:List (dD P)} {ow:List Nat} {ops:Array Oper}: ∀(l:List Nat) (s:AS),(∀i∈l,M.i≠i)->ff P (M::items) ow ops l s=ff P items ow ops l s
 |[],_,_=>rfl
 |i::l,s,h=>by
  simp only[ff];have:gK P (M::items) ow ops i s=gK P items ow ops i s:=by
   unfold gK;split
   ·exact yG (h i (by simp))
   rfl
  rw[this];cases gK P items ow ops i s with
  |none=>rfl
  |some s1=>exact CR l s1 fun j hj=>h j (by simp[hj])
theorem G8 {fa:Nat} {F':List OObj} {it it':List (dD P)} {ow:List Nat} {ops:Array Oper}: ∀(l:List Nat) (s s':AS),(∀j∈l,∃o,ops[j]?=some o/\ud o.op=true/\o.guard=none)->ff P it ow ops l (K2 fa F' s)=some s'-> ∃t,ff P it' ow ops l s=some t/\s'=K2 fa F' t
 |[],s,s',_,h=>by
  simp only[ff]at h;injection h with h
  exact⟨s,rfl,h.symm⟩
 |j::l,s,s',hl,h=>by
  obtain⟨o,h1,h2,h3⟩:=hl j (by simp);simp only[ff]at h⊢;obtain⟨s1,g1,g2⟩:=Option.bind_eq_some_iff.1 h;unfold gK at g1⊢;rw[h1]at g1⊢;simp only at g1⊢;rw[Fc h2 h3]at g1⊢;obtain⟨t,k1,k2⟩:=Option.map_eq_some_iff.1 g1;rw[show jc P (AS.ev s) o.op=some t from k1];rw[<- tV]at k2;subst k2;simp only[Option.map_some,Option.bind_some];exact G8 l _ _ (fun i hi=>hl i (by simp[hi])) g2
theorem Nj {n m:Nat} {p:Nat->Bool} (hm:m<=n) (h1: ∀j,j<m->p j=true) (h2: ∀j,j<n->m<=j->p j=false):rr n p=List.range m:=by
 unfold rr;have hr:List.range n=List.range m++List.range' m (n-m):=by
  have:=List.range'_append_1 (s:=0) (m:=m) (n:=n-m);rw[show m+(n-m)=n by omega,Nat.zero_add]at this;rw[List.range_eq_range',List.range_eq_range'];exact this.symm
 rw[hr,List.filter_append,List.filter_eq_self.2 (fun j hj=>h1 j (List.mem_range.1 hj)),List.filter_eq_nil_iff.2,List.append_nil];intro j hj;have:=List.mem_range'_1.1 hj;simp[h2 j (by omega) this.1]
theorem Ig (hmx:P.follows .mixedOrders=true) (m:Nat) {f:FuncId} {args:List TV} {ka n:Nat} {F F':List OObj} {v1:Value} (hcon:i5 P f args ka n F F' (.raw v1)) (fa:Nat) (items:List (aM P)) (ow:List Nat) {id:Nat} {ops:Array Oper} (hd:ce [] ops=true) (hkd:eP k ops=true) (hE:SZ ops m=true) (hk:ka<args.length) (hlen:0<n) (hpure:gm ka 0 args=true)
  (hself: ∀o∈F,selfO 0 o) (hself': ∀o∈F',selfO 0 o) (hfa:fa<=4999) (hF:F.length=1) (hFp:F.all (fun o=>o.elems.all fun e=>e.all isPure)=true) (hm:m<ops.size)
  (h:bD P (items.map aM.a) ow (aY ops (ops.toList.take m) 0) (some s) (fun s1=>Kj ops m f args ka n fa F s1/\bD P [] ow (aY ops (ops.toList.drop (m+1)) (m+1)) (some (UK ops m (.raw v1) fa F' s1)) (Q .normal))):eR P k (.region id ops true) Q s:=fun v0 w0 O X a w r=>by
 obtain⟨s1,h1,⟨q1,q2⟩,h2⟩:=bK P (items.map aM.a) ow ops _ 0 s _ h;obtain⟨s2,h3,h4⟩:=bK P [] ow ops _ (m+1) _ _ h2;obtain⟨o,ho⟩: ∃o,ops[m]?=some o:=⟨ops[m],by simp[hm]⟩;have hdst:cwD ops m=o.dst:=by unfold cwD;rw[ho];rfl
 unfold cwTs at q1;rw[ho]at q1;simp only at q1;split at q1
 case h_2=>cases q1
 rename_i c hg hop1;split at q1
 case h_2=>cases q1
 rename_i f' hcal;split at q1
 case h_2=>cases q1
 rename_i ts hts;injection q1 with q1
 injection q1 with q1 q3
 subst q1 q3;simp only[SZ,Bool.and_eq_true,ai,List.mem_range,Bool.or_eq_true,decide_eq_true_eq]at hE;obtain⟨⟨hE0,hE1⟩,hE2⟩:=hE;rw[ho]at hE0;obtain⟨d,hdd⟩:=Option.isSome_iff_exists.1 hE0;have hlenH:(s1.H fa).length=1:=by rw[q2,ax,hF]
 let M:dD P:=⟨m,f',(args.set ka (.one (.sl fa 0 0 n))).map (ia s1.H),⟨[],.raw v1⟩⟩
 -- the operations ahead
 have hml:(ops.toList.take m).length=m:=by rw[List.length_take];simp;omega
 have g1:ff P (items.map aM.a) ow ops (List.range m) s=some s1:=by
  have:=jV (P:=P) (items:=items.map aM.a) (ow:=ow) (ops.toList.take m) 0 s (fun j o hj=>by
   rw[List.getElem?_take]at hj;split at hj
   ·simpa using hj
   cases hj)
  rw[h1,hml,<- List.range_eq_range']at this;exact this.symm
 have g1':ff P (M::items.map aM.a) ow ops (List.range m) s=some s1:=by
  rw[CR _ _ fun i hi=>?_]
  ·exact g1
  have:=List.mem_range.1 hi;show m≠i;omega
 -- the call, as if it left memory as it is
 have hstep1:bZ P (M::items.map aM.a) ow ops m o s1=some (s1.put o.dst (.raw v1)):=by
  obtain⟨dst,op,aft,pos,aft2,grd⟩:=o;simp only at hop1 hg hdd;subst hop1 hg hdd;obtain⟨callee,cargs,tys⟩:=c;simp only at hcal;subst hcal;have hok:(args.set ka (.one (.sl fa 0 0 n))).all (eE true s1.H)=true:=by
   rw[ai];intro t ht;obtain⟨j,hj⟩:=List.getElem?_of_mem ht;by_cases hjk:j=ka
   ·subst hjk;rw[List.getElem?_set_self hk]at hj;injection hj with hj
    subst hj;obtain⟨o1,hF1⟩: ∃o1,F=[o1]:=List.length_eq_one_iff.1 hF;subst hF1;simp only[eE,q2,List.map_cons,List.map_nil,List.getElem?_cons_zero,Bool.true_and,renO];simp only[List.all_cons,List.all_nil,Bool.and_true,ai]at hFp;rw[List.all_map,ai];intro e he;simp only[Function.comp,List.all_map,ai];intro x hx;have:=hFp e he x hx;cases x<;>first|rfl|cases this
   rw[List.getElem?_set_ne (Ne.symm hjk)]at hj;have:=kW (i:=0) hpure (by omega) hj;cases t with
   |one x=>cases x<;>first|rfl|cases this
   |agg cs=>exact this
   |fn g cs=>exact this
   |tup ts=>cases this
  simp only[bZ,eI,ud,Pv,Ou,gG,di,Bool.false_eq_true,if_false,List.find?_cons,beq_self_eq_true,M,hts];rw[if_pos ⟨trivial,trivial,hok,rfl⟩];rfl
 have hsplit:List.range ops.size=List.range m++m::List.range' (m+1) (ops.size-(m+1)):=by
  have:=List.range'_append_1 (s:=0) (m:=m) (n:=ops.size-m);rw[show m+(ops.size-m)=ops.size by omega,Nat.zero_add,show ops.size-m=ops.size-(m+1)+1 by omega,List.range'_succ]at this;rw[List.range_eq_range',List.range_eq_range'];exact this.symm
 have hend: ∀j,m<j->j<ops.size->((qu ops.toList []).getD j 0).testBit m=true/\ ∃o,ops[j]?=some o/\ud o.op=true/\o.guard=none:=fun j hj1 hj2=>by
  rcases hE2 j hj2 with h|⟨h,h'⟩
  ·omega
  refine⟨h,?_⟩;split at h'
  ·rename_i oj hoj;rw[Bool.and_eq_true]at h';exact⟨oj,hoj,h'.1,by simpa using h'.2⟩
  cases h'
 have g2:ff P [] ow ops (List.range' (m+1) (ops.size-(m+1))) (K2 fa F' (s1.put o.dst (.raw v1)))=some s2:=by
  have:=jV (P:=P) (items:=[]) (ow:=ow) (ops.toList.drop (m+1)) (m+1) (UK ops m (.raw v1) fa F' s1) (fun j o hj=>by
   rw[List.getElem?_drop]at hj;simpa using hj)
  rw[h3,List.length_drop,Array.length_toList]at this;unfold UK at this;rw[hdst,<- tV]at this;exact this.symm
 obtain⟨sF,g3,rfl⟩:=G8 (it':=M::items.map aM.a) _ _ _ (fun j hj=>by
  obtain⟨b1,b2⟩:=List.mem_range'_1.1 hj;exact(hend j (by omega) (by omega)).2) g2
 have hrun:ff P (M::items.map aM.a) ow ops (List.range ops.size) s=some sF:=by
  rw[hsplit,n6,g1'];simp only[Option.bind_some,ff];unfold gK;rw[ho];simp only;rw[hstep1];exact g3
 refine wp_region_any hmx ?_;have hr':kC k v0 w0 O X s a {w with drawn:=w.drawn+1}:=by
  obtain⟨⟨q1,q2,ρ,hinv,htm⟩,hs⟩:=r;have e:Ext w {w with drawn:=w.drawn+1}:=⟨rfl,rfl,rfl,ac _,fun _ _=>rfl⟩;have htm:bY X ρ s a w:=htm;exact⟨⟨q1,q2,ρ,hinv.grow e,htm.grow e⟩,hs⟩
 refine mc (sep:=[]) (qG hd (by simp)) hd (Q:=fun e a' w'=> ∃s',Q e s'/\kC k v0 w0 O X s' a' w') (fun p s a w=>kC k v0 w0 O X (if p m then K2 fa F' s else s) a w) ⟨kS r.1,fun x hx=>by simp at hx⟩ hrun (fun p a w hall hr=>⟨_,h4,by
  rw[if_pos (hall m hm)]at hr;exact hr⟩) (fun p i o' s' s1' a w K ho' hpi hcl hs hr hK=>?_) ops.size (Array.replicate ops.size false) s a _ (by simp) ?_ ?_ ?_ ?_
 ·obtain⟨hc,hc',hsel⟩:=hcl;have hin:i<ops.size:=(Array.getElem?_eq_some_iff.1 ho').1;have hadd:eB p i i=true:=by simp[eB]
  rcases Nat.lt_trichotomy i m with him|him|him
  ·have hpm:p m=false:=by
    cases hpm:p m with
    |false=>rfl
    |true=>
     have:=qB hc (m+1) m (by omega) hm hpm (hE1 i him);rw[hpi]at this;cases this
   rw[hpm]at hr;rw[yG (show m≠i by omega)]at hs;have hmi:(m==i)=false:=by simp;omega
   exact C6 (aM.ok items) hr (kj hkd ho') hs fun v w' hr'=>hK v w' (by simpa[eB,hpm,hmi] using hr')
  ·subst him;rw[ho]at ho';injection ho' with ho'
   subst ho';have hse:rr ops.size p=List.range i:=Nj (by omega) (fun j hj=>by
    have:=qB hc' (i+1) i (by omega) hm hadd (hE1 j hj);have hji:(j==i)=false:=by simp;omega
    simpa[eB,hji] using this) (fun j hj1 hj2=>by
    cases hpj:p j with
    |false=>rfl
    |true=>
     by_cases hji:j=i
     ·subst hji;rw[hpi]at hpj;cases hpj
     have:=qB hc (j+1) j (by omega) hj1 hpj (hend j (by omega) hj1).1;rw[hpi]at this;cases this)
   rw[hse,g1']at hsel;injection hsel with hsel
   subst hsel;rw[hstep1]at hs;injection hs with hs
   subst hs;rw[hpi,if_neg (by decide)]at hr;rw[if_pos (by simp[Region.wanted,hg])];refine Cf hr.1 hop1 hcal hcon hfa hk hlen hts hpure q2 hself hself' fun v w1 hr1=>hK v w1 ?_
   rw[IY (by omega) hr.1]at hr1;rw[if_pos hadd,tV];exact⟨hr1,by rw[pE v (kj hkd ho)];exact hr.2⟩
  obtain⟨b1,o2,b2,b3,b4⟩:=hend i him hin;rw[ho']at b2;injection b2 with b2
  subst b2;have hpm:p m=true:=by
   have:=qB hc' (i+1) i (by omega) hin hadd b1;have hmi:(m==i)=false:=by simp;omega
   simpa[eB,hmi] using this
  rw[hpm]at hr;rw[Fc b3 b4]at hs;obtain⟨t,c1,c2⟩:=Option.map_eq_some_iff.1 hs;have:bZ P [] ow ops i o' (K2 fa F' s')=some (K2 fa F' s1'):=by
   rw[Fc b3 b4,show jc P (K2 fa F' s').ev o'.op=some t from c1,<- c2,tV];rfl
  exact C6 (fun it hit=>by simp at hit) hr (kj hkd ho') this fun v w' hr'=>hK v w' (by simpa[eB,hpm] using hr')
 ·intro j o ho hp;have hj:j<ops.size:=(Array.getElem?_eq_some_iff.1 ho).1;simp[hj]at hp
 ·exact Nat.le_trans (List.length_filter_le _ _) (by simp)
 ·have:rr ops.size (fun j=>(Array.replicate ops.size false).getD j true)=[]:=by
   unfold rr;rw[List.filter_eq_nil_iff];intro j hj;have:=List.mem_range.1 hj;simp[this]
  rw[this];rfl
 have:(Array.replicate ops.size false).getD m true=false:=by simp[hm]
 simp only[this];exact hr'
theorem DO (hmx:P.follows .mixedOrders=true) (m:Nat) {f:FuncId} {args:List TV} {ka n:Nat} {F F':List OObj} {v1:Value} (hcon:i5 P f args ka n F F' (.raw v1)) (fa:Nat) (items:List (aM P)) (ow:List Nat) {id:Nat} {ops:Array Oper} {y:Code} (hd:ce [] ops=true) (hkd:eP k ops=true) (hE:SZ ops m=true) (hk:ka<args.length) (hlen:0<n) (hpure:gm ka 0 args=true)
  (hself: ∀o∈F,selfO 0 o) (hself': ∀o∈F',selfO 0 o) (hfa:fa<=4999) (hF:F.length=1) (hFp:F.all (fun o=>o.elems.all fun e=>e.all isPure)=true) (hm:m<ops.size)
  (h: ∀K:AS->Prop,(∀s1,(Kj ops m f args ka n fa F s1/\ ∀K:AS->Prop,(∀s',eR P k y Q s'->K s')->bD P [] ow (aY ops (ops.toList.drop (m+1)) (m+1)) (some (UK ops m (.raw v1) fa F' s1)) K)->K s1)->bD P (items.map aM.a) ow (aY ops (ops.toList.take m) 0) (some s) K):eR P k (.seq (.region id ops true) y) Q s:=
 bI (Ig hmx m hcon fa items ow hd hkd hE hk hlen hpure hself hself' hfa hF hFp hm (h _ fun s1 ⟨q1,q3⟩=>⟨q1,q3 _ fun _ h=>h⟩))
end
end
section
theorem CallC.nilA {P:Program} {f:FuncId} {args:List TV} {res:CallRes} {k:Nat} (h:CallC P f args res) (hk:args[k]?=some (.one (.p (.sl [])))):CallC P f (args.set k (.one (.p (.raw (.slice none 0 0))))) res:=by
 have hl:=(List.getElem?_eq_some_iff.1 hk).1;refine⟨h.1,fun X w vs hX hvs ha=>h.2 X w vs hX (by simpa using hvs) fun j t ht=>?_⟩;by_cases hj:j=k
 ·subst hj;obtain⟨v,v1,v2⟩:=ha j _ (List.getElem?_set_self hl);rw[hk]at ht;injection ht with ht
  subst ht;have:=(bO (ρ:=fun _ _=>none) (H:=fun _=>[]) v2).1;subst this;exact⟨_,v1,cu.nil _ _⟩
 exact ha j t (by rw[List.getElem?_set_ne (Ne.symm hj)];exact ht)
theorem i5.nilA {P:Program} {f:FuncId} {args:List TV} {ka n:Nat} {F F':List OObj} {r:TV} {k:Nat} (h:i5 P f args ka n F F' r) (hk:args[k]?=some (.one (.p (.sl [])))) (hne:k≠ka):i5 P f (args.set k (.one (.p (.raw (.slice none 0 0))))) ka n F F' r:=by
 have hl:=(List.getElem?_eq_some_iff.1 hk).1;refine⟨h.able,h.noref,h.head,fun X w vs ρ b c hi hρ hvs hvk ha=>h.calls X w vs ρ b c hi hρ (by simpa using hvs) hvk fun j t hjk ht=>?_⟩;by_cases hj:j=k
 ·subst hj;obtain⟨v,v1,v2⟩:=ha j _ hjk (List.getElem?_set_self hl);rw[hk]at ht;injection ht with ht
  subst ht;have:=(bO (ρ:=fun _ _=>none) (H:=fun _=>[]) v2).1;subst this;exact⟨_,v1,cu.nil _ _⟩
 exact ha j t hjk (by rw[List.getElem?_set_ne (Ne.symm hj)];exact ht)
section
variable {P:Program} {s:AS} {Q:Exit->AS->Prop}
theorem Ok {w0 w:World} {O X:Nat->Prop} {a:Act} (hrel:fW w0 O X s a w) {o:Oper} {c:Call} {f:FuncId} (ho:o.op= .call c) (hcal:c.callee= .value (.func f)) {args:List TV} {res:CallRes} (hcon:CallC P f args res) {d:Nat}
  (hev:f6 s.ev c.args.toList=some args) (hp:args.all sK=true) (hd:res.fam≠[]->s.H d=[]) (hdst:o.dst=some d) {K:Act->World->Prop} {Q:Exit->Act->World->Prop}
  (hK: ∀v w',fW w0 O X (jD s d (renTV d res.r) (res.fam.map (renO d))) (a.put o.dst v) w'->K (a.put o.dst v) w'):o.wp P a w K Q:=by
 obtain⟨h1,hsz,ρ,hinv,htm⟩:=hrel;have htm:bY X ρ s a w:=htm;obtain⟨e1,e2⟩:=dm hev;have hrun:=iD (w:=w) ho hcal (e:=a.eval) rfl hcon.1;unfold Oper.wp;rw[hrun];simp only[Oper.upon];rw[ai]at hp;have hZ: ∀b,(if res.plain then(fun _=>False)else Xo X ρ s.H:Nat->Prop) b->Xo X ρ s.H b:=fun b hb=>by
  split at hb
  ·exact hb.elim
  exact hb
 have hXlt: ∀b,Xo X ρ s.H b->b<w.heap.size:=fun b hb=>by
  rcases hb with hb|⟨x,y,o',n,g1,g2⟩
  ·exact hinv.bar b hb
  exact bP (hinv.objs x y o' g1) g2
 refine(hcon.2 (if res.plain then(fun _=>False)else Xo X ρ s.H) w (c.args.map a.eval) (fun b hb=>hXlt b (hZ b hb)) (by simp[e1]) fun j u hu=>?_).mono ?_
 ·obtain⟨y,hy,hyt⟩:=e2 j u hu;exact⟨a.eval y,by rw[Array.getElem?_map];simp at hy;rw[hy];rfl,mB hZ (hp u (aw hu)) (cz htm y u hyt)⟩
 rintro e w1 ⟨v,rfl,ρc,hi,hr⟩;show K (a.put o.dst v) w1;have:=j9 (P:=P) (it:=(⟨0,f,args,res⟩:dD P)) (d:=d) (v:=v) (w1:=w1) (ρc:=ρc) h1 hsz hinv htm rfl rfl (fun h:res.fam.map (renO d)≠[]=>hd (by simpa using h)) hi hr;rw[<- hdst]at this;exact hK v w1 this
structure Un (ops:Array Oper) (m:Nat) (f:FuncId) (args:List TV) (res:CallRes) (s:AS):Prop where
 ts:cwTs ops m s=some (f,args)
 dst: ∃d,cwD ops m=some d/\(res.fam≠[]->s.H d=[])
theorem Ia (m:Nat) {f:FuncId} {args:List TV} {res:CallRes} (hcon:CallC P f args res) (hp:args.all sK=true) (items:List (aM P)) (ow:List Nat) {id:Nat} {ops:Array Oper} (hm:m<ops.toList.length)
  (h:bD P (items.map aM.a) ow (aY ops (ops.toList.take m) 0) (some s) (fun s1=>Un ops m f args res s1/\bD P (items.map aM.a) ow (aY ops (ops.toList.drop (m+1)) (m+1)) (some (F8 ops m res s1)) (Q .normal))):bL P (.region id ops false) Q s:=fun w0 O X a w r0=>by
 obtain⟨s1,h1,⟨q1,⟨d,qd,qe⟩⟩,h2⟩:=bK P (items.map aM.a) ow ops _ 0 s _ h;obtain⟨s',h3,h4⟩:=bK P (items.map aM.a) ow ops _ (m+1) _ _ h2;obtain⟨o,ho⟩: ∃o,ops[m]?=some o:=⟨ops[m],by simp at hm;simp[hm]⟩;have hdst:o.dst=some d:=by
  unfold cwD at qd;rw[ho]at qd;exact qd
 unfold cwTs at q1;rw[ho]at q1;simp only at q1;split at q1
 ·rename_i c hg hop1;split at q1
  ·rename_i f' hcal;split at q1
   ·rename_i ts hts;injection q1 with q1
    injection q1 with q1 q3
    subst q1 q3;refine wp_region ?_;have hsz:ops.size=(ops.toList.take m).length+(1+(ops.toList.drop (m+1)).length):=by simp at hm⊢;omega
    rw[hsz,List.range_eq_range',<- List.range'_append_1,Nat.zero_add];have hml:(ops.toList.take m).length=m:=by rw[List.length_take];omega
    refine iC (aM.ok items) (ops.toList.take m) 0 s s1 a w (fun j o hj=>?_) h1 r0 fun a' w' r'=>?_
    ·rw[List.getElem?_take]at hj;split at hj
     ·simpa using hj
     cases hj
    rw[hml,Nat.add_comm 1,List.range'_succ];simp only[wpOps,ho];rw[if_pos (by simp[Region.wanted,hg])];refine .inl (Ok r' hop1 hcal hcon hts hp qe hdst fun v w1 hr1=>?_);refine eZ (aM.ok items) (Q:=fun e a' w'=> ∃s',Q e s'/\fW w0 O X s' a' w') (ops.toList.drop (m+1)) (m+1) _ s' _ _ (fun j o hj=>?_) h3 ?_ (fun a' w' hr=>⟨s',h4,hr⟩)
    ·rw[List.getElem?_drop]at hj;simpa using hj
    unfold F8;rw[qd];exact hr1
   cases q1
  cases q1
 cases q1
theorem DJ (m:Nat) {f:FuncId} {args:List TV} {res:CallRes} (hcon:CallC P f args res) (hp:args.all sK=true) (items:List (aM P)) (ow:List Nat) {id:Nat} {ops:Array Oper} {y:Code} (hm:m<ops.toList.length)
  (h: ∀K:AS->Prop,(∀s1,(Un ops m f args res s1/\ ∀K:AS->Prop,(∀s',bL P y Q s'->K s')->bD P (items.map aM.a) ow (aY ops (ops.toList.drop (m+1)) (m+1)) (some (F8 ops m res s1)) K)->K s1)->bD P (items.map aM.a) ow (aY ops (ops.toList.take m) 0) (some s) K):bL P (.seq (.region id ops false) y) Q s:=
 aF (Ia m hcon hp items ow hm (h _ fun s1 ⟨q1,q3⟩=>⟨q1,q3 _ fun _ h=>h⟩))
end
end
section
section
variable {P:Program}
theorem tK {w:World} (t ty e:TypeId) (z:Value) (size bytes:Nat) (ht:P.underlying t=some (.slice e)) (hinfo:(P.info? e).map (fun i=>(i.zero,i.size,i.bytes))=some (some z,size,bytes))
  (hzs:z.cells.size=size) (hsz:0<size) (v:Value) (n:Nat) (xs:List Value) (hown:w.ownsRow 0 e size v n xs)
  (A:Option Addr) (m c:Nat) (news:List Value) (hr:Rd w A news) (hne:news≠[]) (hl:news.length=m*size) (h1: ∀u∈news,u.oneCell'=true)
  (h63:n+m<=maxLen) (hbytes:(n+m)*bytes<=140737488355328):
  ∃v' w',(Builtin.append_ #[t,t] ty #[v,.slice A m c]).run P w= .ok v' w'/\w'.ownsRow 0 e size v' (n+m) (xs++news)/\w.grownBy w' v.ownBlock/\
   ∀g cur,v.ownBlock=some g->w.heap[g]?=some (.cells cur e (0,0))-> ∃cur',w'.heap[g]?=some (.cells cur' e (0,0))/\cur'.size=cur.size/\ ∀i,i<n*size->cur'[i]?=cur[i]?:=by
 obtain⟨i,hi,hzz⟩:=Option.map_eq_some_iff.1 hinfo;simp only[Prod.mk.injEq]at hzz;obtain⟨hz,hs,hb⟩:=hzz;obtain⟨b,off,rfl,hc⟩:=hr hne;have hnews: ∀(j:Nat) u,news[j]?=some u->w.cell? ((⟨b,off,none⟩:Addr).add j)=some u:=fun j u hu=>by
  have:=hc j u hu;unfold Addr.add;split
  ·rename_i h0;subst h0;simpa using this
  exact this
 obtain⟨v',w',hrun,h2,h3,_⟩:=run_append_own (P:=P) w 0 t ty e i z size bytes ht hi hz hs hb hzs hsz v n xs hown ⟨b,off,none⟩ m c news hl hnews h1 h63 hbytes (Nat.zero_le _);refine⟨v',w',hrun,h2,h3,fun g cur hv hg=>?_⟩;subst hs;subst hb;rcases hown.2 with⟨rfl,_⟩|⟨g',cap,cur0,rfl,_,hg',hnc,hcm,hcs,htake⟩
 ·cases hv
 have hv:g'=g:=by simpa[Value.ownBlock] using hv
 subst hv;rw[hg]at hg';injection hg' with hg'
 injection hg' with hg'
 subst hg';by_cases hroom:n+m<=cap
 ·have hfit:n*i.size+news.length<=cur.size:=by rw[hl,hcs,<- Nat.add_mul];exact Nat.mul_le_mul_right _ hroom
  have hr2:=run_append_room (P:=P) w t ty e i ht hi g' n cap cur hg ⟨b,off,none⟩ m c news hl hnews h1 hroom hfit;rw[hrun]at hr2;injection hr2 with _ hr2
  subst hr2;refine⟨_,setRow_heap w g' cur _ e _ hg,?_,fun j hj=>?_⟩
  ·simp only[List.size_toArray,List.length_append,List.length_take,List.length_drop,Array.length_toList];omega
  rw[List.getElem?_toArray,List.append_assoc,List.getElem?_append_left (by simp;omega),List.getElem?_take,if_pos hj]
  simp
 have holds: ∀(j:Nat) u,xs[j]?=some u->w.cell? ((⟨g',0,none⟩:Addr).add j)=some u:=hown.cells (g:=g') rfl;have hr2:=run_append_grow (P:=P) w t ty e i z ht hi hz ⟨g',0,none⟩ n cap xs hown.1 holds ⟨b,off,none⟩ m c news hl hnews (by omega) (by unfold maxLen at h63;omega) (growslice_fits (by omega) hbytes);rw[hrun]at hr2;injection hr2 with _ hr2
 subst hr2;have hlt:g'<w.heap.size:=by
  rcases Nat.lt_or_ge g' w.heap.size with h|h
  ·exact h
  rw[Array.getElem?_eq_none h]at hg;cases hg
 exact⟨cur,(heap_alloc_old w.drew _ hlt).trans hg,rfl,fun _ _=>rfl⟩
variable {s:AS} {a:Act} {w0 w w1:World} {O X:Nat->Prop} {ρ:Rho} {H:OH}
theorem LN (hinv:Inv w0 O X H ρ w) {fa:Nat} {o:OObj} (ho:(H fa)[0]?=some o) {row:Option Nat} (hg:w.grownBy w1 row) (hrow:row=(ρ fa 0).map (·.1))
  (hk: ∀g cur,row=some g->w.heap[g]?=some (.cells cur o.ty (0,0))-> ∃cur':Array Value,w1.heap[g]?=some (.cells cur' o.ty (0,0))/\cur'.size=cur.size/\ ∀i,i<o.elems.length*o.es->cur'[i]?=cur[i]?):
  Inv w0 O X H ρ w1/\ ∀x v,AV.rel ρ H (Xo X ρ H) w x v->AV.rel ρ H (Xo X ρ H) w1 x v:=by
 have hb: ∀k,row=some k-> ∃c,ρ fa 0=some (k,c):=fun k h=>by
  rw[hrow]at h;obtain⟨⟨b,c⟩,h1,h2⟩:=Option.map_eq_some_iff.1 h;exact⟨c,by rw[h1];simp at h2;rw[h2]⟩
 have hst:Kr (Xo X ρ H) w w1:=⟨hg.size,fun p v hp hc=>hg.cell hc fun e=>by
  obtain⟨c,h⟩:=hb _ e.symm;exact hp (.inr ⟨fa,0,o,c,ho,h⟩)⟩
 have mono: ∀x v,AV.rel ρ H (Xo X ρ H) w x v->AV.rel ρ H (Xo X ρ H) w1 x v:=fun x v h=>by
  cases x with
  |p x=>exact cu.stays hst h
  |_=>exact h
 refine⟨⟨⟨hg.os.trans hinv.keep.os,hg.tape.trans hinv.keep.tape,hg.output.trans hinv.keep.output,Nat.le_trans hinv.keep.size hg.size,fun k hkk hO=>?_⟩,fun x y o' ho'=>?_,hinv.inj,hinv.old,fun b hb=>Nat.lt_of_lt_of_le (hinv.bar b hb) hg.size,hinv.self⟩,mono⟩
 ·rw[hg.block k (Nat.lt_of_lt_of_le hkk hinv.keep.size) fun e=>?_]
  ·exact hinv.keep.block k hkk hO
  obtain⟨c,h⟩:=hb k e.symm;rcases(hinv.old fa 0 o k c ho h).1 with h|h
  ·omega
  exact hO h
 have hob:=hinv.objs x y o' ho';obtain⟨q1,q2,q3⟩:=id hob;refine⟨q1,q2,?_⟩;cases hr:ρ x y with
 |none=>rw[hr]at q3;exact q3
 |some bc=>
  obtain⟨b,c⟩:=bc;rw[hr]at q3;obtain⟨cells,p1,p2,p3,p4,p5⟩:=q3;by_cases hxy:x=fa/\y=0
  ·obtain⟨rfl,rfl⟩:=hxy;rw[ho]at ho';injection ho' with ho'
   subst ho';obtain⟨cur',c1,c2,c3⟩:=hk b cells (by rw[hrow,hr];rfl) p1;refine⟨cur',c1,c2.trans p2,p3,p4,fun i e j z he hz=>?_⟩;obtain⟨u,u1,u2,u3⟩:=p5 i e j z he hz;have hi:i<o.elems.length:=(List.getElem?_eq_some_iff.1 he).1;have hj:j<o.es:=by have:=(List.getElem?_eq_some_iff.1 hz).1;rwa[q1 e (aw he)]at this
   have:(i+1)*o.es<=o.elems.length*o.es:=Nat.mul_le_mul_right _ hi;rw[Nat.add_mul,Nat.one_mul]at this;exact⟨u,by rw[c3 _ (by omega)];exact u1,u2,mono z u u3⟩
  have hlt:=bP hob hr;have hbe:some b≠row:=fun e=>by
   obtain⟨c',h⟩:=hb b e.symm;exact hxy (hinv.inj x y fa 0 o' o b c c' ho' ho hr h)
  refine⟨cells,(hg.block b hlt hbe).trans p1,p2,p3,p4,fun i e j z he hz=>?_⟩;obtain⟨u,u1,u2,u3⟩:=p5 i e j z he hz;exact⟨u,u1,u2,mono z u u3⟩
theorem PC (hrel:fW w0 O X s a w) {o:Oper} {sx x:Operand} {t:TypeId} {fa by_:Nat} {ob:OObj} {news:List (List AV)} {z:List Value}
  (ho:o.op= .call {callee:= .builtin .append,args:= #[sx,x],argTypes:= #[t,t]}) (hfa:fa<=4999)
  (hs:s.ev sx=some (.one (.sl fa 0 0 ob.elems.length))) (hx:(s.ev x).bind (newsOf s.H)=some news) (hob:(s.H fa)[0]?=some ob)
  (hsl:sliceO P t=some ob.ty) (hz:zeroO P ob.ty=some z) (hszo:szO P ob.ty=some ob.es) (hby:byO P ob.ty=some by_) (hzl:z.length=ob.es)
  (hp:ob.elems.all (fun e=>e.all isPure)=true) (hn:news≠[]) (hnl: ∀e∈news,e.length=ob.es) (h63:ob.elems.length+news.length<=9223372036854775807) (hbt:(ob.elems.length+news.length)*by_<=140737488355328)
  {K:Act->World->Prop} {Q:Exit->Act->World->Prop}
  (hK: ∀v' w1,fW w0 O X (s.put o.dst (.one .junk)) (a.put o.dst v') w1->cu (fun _=>False) w1 (.sl ((ob.elems++news).map (List.map unP))) v'->K (a.put o.dst v') w1):o.wp P a w K Q:=by
 obtain⟨h1,hsz,ρ,hinv,htm⟩:=hrel;have htm:bY X ρ s a w:=htm;obtain⟨tx,htx,hnews⟩:=Option.bind_eq_some_iff.1 hx;have hobj:=hinv.objs fa 0 ob hob;have hpos:0<ob.es:=hobj.2.1;obtain⟨us,hsrc⟩:=pW hinv.objs hnews (cz htm x tx htx) hnl hpos;obtain⟨xs,hown,hxs,hvb⟩:=GY hfa hobj hob (cz htm sx _ hs);obtain⟨⟨A,cc,hv,hrd⟩,hul,hone,hpu,hcell⟩:=id hsrc;obtain⟨ti,zv,hti,hzv,hzc⟩:=iV hz;obtain⟨ti',hti',hsz'⟩:=oo hszo;rw[hti]at hti';injection hti' with hti';subst hti'
 obtain⟨ti',hti',hby'⟩:=qy hby;rw[hti]at hti';injection hti' with hti';subst hti'
 have hnl0:0<news.length:=by
  cases news with
  |nil=>exact absurd rfl hn
  |cons _ _=>simp
 have hus:us≠[]:=fun h=>by
  rw[h]at hul;have:=Nat.mul_pos hnl0 hpos;simp at hul;omega
 obtain⟨v',w1,hrun,hown',hg,hkeep⟩:=tK (P:=P) t o.type ob.ty zv ob.es by_ (dQ hsl) (by rw[hti];simp[hzv,hsz',hby']) (by rw[<- hzl,<- hzc];simp) hpos _ _ xs hown A news.length cc us hrd hus hul hone (by unfold maxLen;omega) hbt;obtain⟨hinv1,mono⟩:=LN hinv hob hg hvb hkeep;have hrun':(execOp a.eval o).run P w= .ok (.value v') w1:=by
  unfold execOp;simp only[ho,resolve,invoke,builtin,Sem.run_bind,Sem.run_pure,Result.andThen_ok,List.map_toArray,List.map_cons,List.map_nil,hv,hrun]
 unfold Oper.wp execOp;unfold execOp at hrun';rw[hrun'];have htm1:bY X ρ s a w1:=fun k y hy=>by
  obtain⟨u,u1,u2⟩:=htm k y hy;exact⟨u,u1,TV.rel_map u2 mono⟩
 refine hK v' w1 (gT h1 hsz hinv1 htm1 trivial) ?_;have hall: ∀e∈ob.elems++news,e.length=ob.es/\ ∀y∈e,isPure y=true:=fun e he=>by
  rcases List.mem_append.1 he with he|he
  ·simp only[ai]at hp;exact⟨hobj.1 e he,fun y hy=>hp e he y hy⟩
  exact⟨hnl e he,fun y hy=>hpu e he y hy⟩
 have hget:=FT (R:=fun x v=>AV.rel ρ s.H (Xo X ρ s.H) w1 x v) hown.1 hobj.1
  (fun i e j z he hz=>by obtain⟨u,u1,u2,u3⟩:=hxs i e j z he hz;exact⟨u,u1,u2,mono z u u3⟩)
  (fun i e j z he hz=>by obtain⟨u,u1,u2,u3⟩:=hcell i e j z he hz;exact⟨u,u1,u2,mono z u u3⟩)
 have hlen:(ob.elems++news).length=ob.elems.length+news.length:=List.length_append;rcases hown'.2 with⟨_,h0⟩|⟨g,cap,cur,rfl,_,hgh,hnc,hcm,hcs,htake⟩
 ·omega
 have hgl:g<w1.heap.size:=by
  rcases Nat.lt_or_ge g w1.heap.size with h|h
  ·exact h
  rw[Array.getElem?_eq_none h]at hgh;cases hgh
 have hat: ∀(i:Nat) e (j:Nat) y,((ob.elems++news).map (List.map unP))[i]?=some e->e[j]?=some y-> ∃u:Value,cur[i*ob.es+j]?=some u/\cu (fun _=>False) w1 y u:=fun i e j y he hy=>by
  rw[List.getElem?_map]at he;obtain⟨e',he',rfl⟩:=Option.map_eq_some_iff.1 he;rw[List.getElem?_map]at hy;obtain⟨y',hy',rfl⟩:=Option.map_eq_some_iff.1 hy;obtain⟨u,u1,_,u3⟩:=hget i e' j y' he' hy';have hpy:=(hall e' (aw he')).2 y' (aw hy');refine⟨u,?_,?_⟩
  ·rw[<- htake,List.getElem?_take]at u1;split at u1
   ·simpa using u1
   cases u1
  cases y' with
  |p y=>exact cu.weaken (fun _ _ h=>h.elim) u3
  |_=>cases hpy
 have:=cu.sl (X:=fun _=>False) (w:=w1) g 0 ob.es cap ((ob.elems++news).map (List.map unP)) (fun i j=>(cur[i*ob.es+j]?).getD undef) (fun h=>h) hgl (fun e he=>by
  obtain⟨e',he',rfl⟩:=List.mem_map.1 he;rw[ax];exact(hall e' he').1) (by rw[ax,hlen];exact hnc) (by rw[ax,hlen];exact h63)
  (fun i e j y he hy=>by
   obtain⟨u,u1,_⟩:=hat i e j y he hy;rw[u1,Nat.zero_add];simp[World.cell?,hgh,u1])
  (fun i e j y he hy=>by
   obtain⟨u,u1,u2⟩:=hat i e j y he hy;simp only[u1,Option.getD_some];exact u2)
 rw[ax,hlen]at this;exact this
theorem Il (hrel:fW w0 O X s a w) {o:Oper} {c:Call} {f:FuncId} {x0:Operand} {d d2:Nat} {nv v1 v':Value} {L:List (List PV)} (ho:o.op= .call c) (hcal:c.callee= .value (.func f)) (hargs:c.args= #[x0,.tmp d])
  (hcon:CallC P f [.raw nv,.one (.p (.sl L))] ⟨[],.raw v1⟩) (hx0:s.ev x0=some (.raw nv)) (hv:a.eval (.tmp d)=v') (hrep:cu (fun _=>False) w (.sl L) v') (hdst:o.dst=some d2)
  {K:Act->World->Prop} {Q:Exit->Act->World->Prop} (hK: ∀v w',fW w0 O X (s.put o.dst (.raw v1)) (a.put o.dst v) w'->K (a.put o.dst v) w'):o.wp P a w K Q:=by
 obtain⟨h1,hsz,ρ,hinv,htm⟩:=hrel;have htm:bY X ρ s a w:=htm;have hrun:=iD (w:=w) ho hcal (e:=a.eval) rfl hcon.1;unfold Oper.wp;rw[hrun];simp only[Oper.upon];refine(hcon.2 (fun _=>False) w (c.args.map a.eval) (fun b hb=>hb.elim) (by rw[hargs];simp) fun j u hu=>?_).mono ?_
 ·rw[hargs]
  match j,hu with
  |0,hu=>
   injection hu with hu
   subst hu;exact⟨a.eval x0,by simp,mB (fun _ h=>h.elim) rfl (cz htm x0 _ hx0)⟩
  |1,hu=>
   injection hu with hu
   subst hu;exact⟨a.eval (.tmp d),by simp,by rw[hv];exact hrep⟩
  |j+2,hu=>simp at hu
 rintro e w1 ⟨v,rfl,ρc,hi,hr⟩;show K (a.put o.dst v) w1;have:=j9 (P:=P) (it:=(⟨0,f,[.raw nv,.one (.p (.sl L))],⟨[],.raw v1⟩⟩:dD P)) (d:=d2) (v:=v) (w1:=w1) (ρc:=ρc) h1 hsz hinv htm rfl rfl (fun h=>absurd rfl h) hi hr;refine hK v w1 ?_;rw[hdst];exact this
structure Vr (P:Program) (ops:Array Oper) (m fa:Nat) (f:FuncId) (nv:Value) (L:List (List PV)) (s:AS) (d d2:Nat):Prop where
 ok: ∃o1 o2 sx x t by_ ob news z x0 tys,ops[m]?=some o1/\ops[m+1]?=some o2/\(o1.op= .call {callee:= .builtin .append,args:= #[sx,x],argTypes:= #[t,t]}/\o1.guard=none/\o1.dst=some d)/\
  (o2.op= .call {callee:= .value (.func f),args:= #[x0,.tmp d],argTypes:=tys}/\o2.guard=none/\o2.dst=some d2)/\
  (s.ev sx=some (.one (.sl fa 0 0 ob.elems.length))/\(s.ev x).bind (newsOf s.H)=some news/\(s.H fa)[0]?=some ob)/\
  (sliceO P t=some ob.ty/\zeroO P ob.ty=some z/\szO P ob.ty=some ob.es/\byO P ob.ty=some by_/\z.length=ob.es)/\
  (ob.elems.all (fun e=>e.all isPure)=true/\news≠[]/\(∀e∈news,e.length=ob.es)/\ob.elems.length+news.length<=9223372036854775807/\(ob.elems.length+news.length)*by_<=140737488355328)/\
  (ob.elems++news).map (List.map unP)=L/\(s.put (some d) (.one .junk)).ev x0=some (.raw nv)/\d<s.tmps.length
theorem ON {Q:Exit->AS->Prop} (m fa:Nat) {f:FuncId} {nv v1:Value} {L:List (List PV)} (hcon:CallC P f [.raw nv,.one (.p (.sl L))] ⟨[],.raw v1⟩) (hfa:fa<=4999) (items:List (aM P)) (ow:List Nat) {id:Nat} {ops:Array Oper} {y:Code} (hm:m+1<ops.toList.length)
  (h: ∀K:AS->Prop,(∀s1,(∃d d2,Vr P ops m fa f nv L s1 d d2/\ ∀K:AS->Prop,(∀s',bL P y Q s'->K s')->bD P (items.map aM.a) ow (aY ops (ops.toList.drop (m+2)) (m+2)) (some ((s1.put (some d) (.one .junk)).put (some d2) (.raw v1))) K)->K s1)->bD P (items.map aM.a) ow (aY ops (ops.toList.take m) 0) (some s) K):bL P (.seq (.region id ops false) y) Q s:=by
 refine aF fun w0 O X a w r0=>?_
 obtain⟨s1,h1,d,d2,⟨o1,o2,sx,x,t,by_,ob,news,z,x0,tys,e1,e2,⟨p1,p2,p3⟩,⟨q1,q2,q3⟩,⟨r1,r2,r3⟩,⟨t1,t2,t3,t4,t5⟩,⟨u1,u2,u3,u4,u5⟩,hL,hx0,hd⟩,h2⟩:=bK P (items.map aM.a) ow ops _ 0 s _ (h _ fun _ h=>h);obtain⟨s',h3,h4⟩:=bK P (items.map aM.a) ow ops _ (m+2) _ _ (h2 _ fun _ h=>h);refine wp_region ?_;have hml:(ops.toList.take m).length=m:=by rw[List.length_take];omega
 have hsz:ops.size=(ops.toList.take m).length+(1+(1+(ops.toList.drop (m+2)).length)):=by simp at hm⊢;omega
 rw[hsz,List.range_eq_range',<- List.range'_append_1,Nat.zero_add];refine iC (aM.ok items) (ops.toList.take m) 0 s s1 a w (fun j o hj=>?_) h1 r0 fun a' w' r'=>?_
 ·rw[List.getElem?_take]at hj;split at hj
  ·simpa using hj
  cases hj
 rw[hml,show 1+(1+(ops.toList.drop (m+2)).length)=(ops.toList.drop (m+2)).length+1+1 by omega,List.range'_succ,List.range'_succ];simp only[wpOps,e1];rw[if_pos (by simp[Region.wanted,p2])];refine .inl (PC r' p1 hfa r1 r2 r3 t1 t2 t3 t4 t5 u1 u2 u3 u4 u5 fun v1 w1 hr1 hrep=>?_);rw[p3]at hr1⊢;simp only[wpOps,e2];rw[if_pos (by simp[Region.wanted,q2])];rw[hL]at hrep;refine .inl (Il hr1 q1 rfl rfl hcon hx0 ?_ hrep q3 fun v w2 hr2=>?_)
 ·have:d<a'.tmps.size:=by rw[r'.2.1];exact hd
  simp[Act.eval,Act.put,this]
 rw[q3]at hr2⊢;refine eZ (aM.ok items) (Q:=fun e a' w'=> ∃s',iF (bL P y Q) Q e s'/\fW w0 O X s' a' w') (ops.toList.drop (m+2)) (m+2) _ s' _ _ (fun j o hj=>?_) h3 hr2 (fun a' w' hr=>⟨s',h4,hr⟩);rw[List.getElem?_drop]at hj;simpa using hj
end
end
section
theorem oL {n:Nat} (h: ¬n=0):n/4294967296<n:=Nat.div_lt_self (by omega) (by omega)
def aL (n:Nat):List Nat:=if n=0 then[]else n%4294967296::aL (n/4294967296)
termination_by n
decreasing_by exact oL (by assumption)
def fR {α:Type} (f:α->List PV) (r:List α):List PV:=[.sl (ls f r)]
def fZ (z:Int):List PV:=[.raw (.bool (decide (z<0))),.sl (ls fU (aL z.natAbs))]
def cZ (z:Int):List AV:=[.p (.raw (.bool (decide (z<0)))),.p (.sl (ls fU (aL z.natAbs)))]
abbrev tZ (z:Int):TV:= .agg [.p (.raw (.bool (decide (z<0)))),.p (.sl (ls fU (aL z.natAbs)))]
abbrev dw (l:List Nat):TV:= .one (.p (.sl (ls fU l)))
abbrev dV (M:List (List Int)):TV:= .one (.p (.sl (ls (fR fZ) M)))
abbrev dj (M:List (List Int)):TV:= .one (.p (.sl (ls (fR fI) M)))
abbrev jL (l:List Int):TV:= .one (.p (.sl (ls fI l)))
abbrev xq (l:List Int):TV:= .one (.p (.sl (ls fZ l)))
abbrev AB (l:List Nat):TV:= .one (.p (.sl (ls fN l)))
def Rz (a:Int×List Int):List PV:=[.raw (.int .i64 a.1),.sl (ls fI a.2)]
abbrev Nz (l:List (Int×List Int)):TV:= .one (.p (.sl (ls Rz l)))
abbrev Vn (k:Int) (x:List Int):TV:= .agg [.p (.raw (.int .i64 k)),.p (.sl (ls fI x))]
abbrev tR (n d:Int):TV:= .agg [.p (.raw (.bool (decide (n<0)))),.p (.sl (ls fU (aL n.natAbs))),.p (.raw (.bool (decide (d<0)))),.p (.sl (ls fU (aL d.natAbs)))]
abbrev Pc (x:List Int) (b:Bool):TV:= .tup [(false,[.p (.sl (ls fI x))]),(false,[.p (.raw (.bool b))])]
abbrev jk:TV:= .one .junk
def j4 (l:List TV):List TV:=jk::jk::jk::jk::l
def j16 (l:List TV):List TV:=j4 (j4 (j4 (j4 l)))
def rN (n:Nat):TV:= .raw (.int .i64 (n:Int))
theorem Wj:Hm []=fun _=>[]:=rfl
theorem Wk (k:Nat) (F:List OObj) (l:List (Nat×List OObj)):Hm ((k,F)::l)=fun a=>if a=k then F else Hm l a:=rfl
def wk:=And.intro @Uk.eq_1<|And.intro @Uk.eq_2<|And.intro @Uk.eq_3<|And.intro @PW.eq_def<|And.intro @Cq.eq_def<|And.intro @j4.eq_1<|And.intro @j16.eq_1<|And.intro @rN.eq_1<|True.intro
def kd:=And.intro @AS.ev.eq_def<|And.intro @AS.put.eq_def<|And.intro @Bool.and_false<|And.intro @Bool.and_self<|And.intro @Bool.and_true<|And.intro @Bool.false_and<|And.intro @Bool.false_eq_true<|And.intro @Bool.not_false<|And.intro @Bool.not_true<|And.intro @Bool.or_false<|And.intro @Bool.or_true<|And.intro @Bool.true_and<|And.intro @aM.a.eq_1<|And.intro @CallRes.plain.eq_1<|And.intro @Wj<|And.intro @Wk<|And.intro @Int.natCast_nonneg<|And.intro @Int.toNat_natCast<|And.intro @List.all_cons.{0}<|And.intro @List.all_nil.{0}<|And.intro @List.append_nil.{0}<|And.intro @List.cons_append.{0}<|And.intro @List.contains_cons.{0}<|And.intro @List.contains_nil.{0}<|And.intro @List.drop_succ_cons.{0}<|And.intro @List.drop_zero.{0}<|And.intro @List.find?_cons.{0}<|And.intro @List.find?_nil.{0}<|And.intro @List.getElem?_cons_succ.{0}<|And.intro @List.getElem?_cons_zero.{0}<|And.intro @List.getElem?_toArray.{0}<|And.intro @List.isEmpty_cons.{0}<|And.intro @List.isEmpty_nil.{0}<|And.intro @List.isEmpty_toArray.{0}<|And.intro @List.length_cons.{0}<|And.intro @List.length_map.{0,0}<|And.intro @List.length_nil.{0}<|And.intro @List.map_cons.{0,0}<|And.intro @List.map_nil.{0,0}<|And.intro @List.nil_append.{0}<|And.intro @List.set_cons_succ.{0}<|And.intro @List.set_cons_zero.{0}<|And.intro @List.take_succ_cons.{0}<|And.intro @List.take_zero.{0}<|And.intro @Nat.add_zero<|And.intro @ac<|And.intro @Nat.zero_add<|And.intro @Option.bind_some.{0,0}<|And.intro @Option.map_none.{0,0}<|And.intro @Option.map_some.{0,0}<|And.intro @Tryz.underlying2<|And.intro @Tryz.underlying5<|And.intro @Tryz.underlying55<|And.intro @Tryz.underlying56<|And.intro @Value.oneCell'.eq_def<|And.intro @OR<|And.intro @Sp<|And.intro @and_false<|And.intro @and_self<|And.intro @and_true<|And.intro @UG.eq_def<|And.intro @beq_self_eq_true.{0}<|And.intro @eJ.eq_def<|And.intro @Iq.eq_def<|And.intro @cellsOf.eq_def<|And.intro @VN<|And.intro @VO<|And.intro @decide_false<|And.intro @decide_true<|And.intro @di.eq_def<|And.intro @gG.eq_def<|And.intro @jc.eq_def<|And.intro @cj.eq_def<|And.intro @xX.eq_def<|And.intro @f6.eq_1<|And.intro @f6.eq_2<|And.intro @xY.eq_def<|And.intro @II.eq_def<|And.intro @fI.eq_1<|And.intro @fN.eq_1<|And.intro @fU.eq_1<|And.intro @false_and<|And.intro @jd.eq_1<|And.intro @jd.eq_2<|And.intro @fX.eq_def<|And.intro @gX.eq_def<|And.intro @WF<|And.intro @WG<|And.intro @if_false.{1}<|And.intro @if_true.{1}<|And.intro @Ex.eq_def<|And.intro @isPure.eq_def<|And.intro @bs.eq_def<|And.intro @iz.eq_1<|And.intro @bo.eq_def<|And.intro @zN<|And.intro @Ta<|And.intro @gN<|And.intro @EB<|And.intro @zQ<|And.intro @nH<|And.intro @qQ<|And.intro @pQ<|And.intro @gS<|And.intro @pS.eq_1<|And.intro @pS.eq_2<|And.intro @PK<|And.intro @iA<|And.intro @fD<|And.intro @Tc<|And.intro @Td<|And.intro @PL<|And.intro @Je<|And.intro @xl.eq_def<|And.intro @newsOf.eq_def<|And.intro @ym.eq_def<|And.intro @vY.eq_def<|And.intro @f7.eq_def<|And.intro @noRefTV.eq_def<|And.intro @ia.eq_def<|And.intro @eE.eq_def<|And.intro @oV.eq_def<|And.intro @Jm<|And.intro @EN<|And.intro @EO<|And.intro @PX<|And.intro @PY<|And.intro @Jo<|And.intro @we<|And.intro @Mr<|And.intro @Jp<|And.intro @Ms<|And.intro @Cr<|And.intro @Jq<|And.intro @xm<|And.intro @xn<|And.intro @PZ<|And.intro @Mt<|And.intro @Af<|And.intro @xo<|And.intro @Mu<|And.intro @Mv<|And.intro @Jr<|And.intro @Js<|And.intro @Tn<|And.intro @packT.eq_def<|And.intro @Cx.eq_1<|And.intro @aY.eq_1<|And.intro @aY.eq_2<|And.intro @dp.eq_1<|And.intro @rf.eq_def<|And.intro @nX.eq_def<|And.intro @dq.eq_def<|And.intro @renO.eq_1<|And.intro @renTV.eq_def<|And.intro @rl.eq_def<|And.intro @wB.eq_1<|And.intro @wB.eq_2<|And.intro @sO.eq_def<|And.intro @yB<|And.intro @M8<|And.intro @JO<|And.intro @true_and<|And.intro @AK.eq_def<|And.intro @NS<|And.intro @JU<|And.intro @JV<|And.intro @JW<|And.intro @QR<|And.intro @NT<|And.intro @NU<|And.intro @NV<|And.intro @QS<|And.intro @rC<|And.intro @rD<|And.intro @NW<|And.intro @NX<|And.intro @ux<|And.intro @QT<|And.intro @NY<|And.intro @NZ<|And.intro @N0<|And.intro @N1<|And.intro @JX<|And.intro @N2<|And.intro @rE<|And.intro @TZ<|And.intro @T0<|And.intro @QU<|And.intro @QV<|And.intro @QW<|And.intro @QX<|And.intro @QY<|And.intro @QZ<|And.intro @De<|And.intro @Df<|And.intro @Dg<|And.intro @Dh<|And.intro @Di<|And.intro @Fm<|And.intro @Fo<|And.intro @Fp<|And.intro @mK<|And.intro @mL<|And.intro @Fq<|And.intro @Fr<|And.intro @Q2<|And.intro @Q3<|And.intro @Q4<|And.intro @N3<|And.intro @N4<|And.intro @JY<|And.intro @N5<|And.intro @JZ<|And.intro @J0<|And.intro @rF<|And.intro @N6<|And.intro @N7<|And.intro @N8<|And.intro @Dj<|And.intro @Dk<|And.intro @Fs<|And.intro @mM<|And.intro @Ft<|And.intro @Fu<|And.intro @Fv<|And.intro @Fw<|And.intro @N9<|And.intro @Oa<|And.intro @Ob<|And.intro @T1<|And.intro @Q5<|And.intro @Q6<|And.intro @Q7<|And.intro @T2<|And.intro @uy<|And.intro @uz<|And.intro @Q8<|And.intro @Q9<|And.intro @AL<|And.intro @T3<|And.intro @Ra<|And.intro @Rb<|And.intro @Rc<|And.intro @Re<|And.intro @Fx<|And.intro @Fy<|And.intro @Oc<|And.intro @Od<|And.intro @pi<|And.intro @J1<|And.intro @J2<|And.intro @J3<|And.intro @J4<|And.intro @J5<|And.intro @J6<|And.intro @J7<|And.intro @unP.eq_def<|And.intro @be.eq_1<|And.intro @Vo.eq_def<|And.intro @j4.eq_1<|And.intro @j16.eq_1<|And.intro @rN.eq_1<|True.intro
def kx:=And.intro @fR.eq_1<|And.intro @fZ.eq_1<|And.intro @cZ.eq_1<|And.intro @tZ.eq_1<|And.intro @dw.eq_1<|And.intro @dV.eq_1<|And.intro @dj.eq_1<|And.intro @jL.eq_1<|And.intro @xq.eq_1<|And.intro @AB.eq_1<|And.intro @Rz.eq_1<|And.intro @Nz.eq_1<|And.intro @Vn.eq_1<|And.intro @tR.eq_1<|And.intro @Pc.eq_1<|True.intro
section
variable {P:Program} {s s':AS} {y:Code} {id pk:Nat} {ops:Array Oper} {α:Prop}
theorem bC {Q:Exit->AS->Prop} (h: ∀K:AS->Prop,K s'->bD P [] [] (aY ops ops.toList 0) (some s) K:=by intro K k;simp only[kd,Nat.reduceAdd,Nat.reduceEqDiff,Nat.reduceBEq,Nat.reduceLeDiff,Int.reduceToNat,Nat.reduceMul,reduceCtorEq,Int.reduceLE,kx];exact k) (k:bL P y Q s'):bL P (.seq (.region id ops false) y) Q s:=ck fun K f=>h K (f s' k)
theorem aT {Q:Exit->AS->Prop} (h: ∀K:AS->Prop,K s'->bD P [] [] (aY ops ops.toList 0) (some s) K:=by intro K k;simp(disch:=omega) only[kd,Nat.reduceAdd,Nat.reduceEqDiff,Nat.reduceBEq,Nat.reduceLeDiff,Int.reduceToNat,Nat.reduceMul,reduceCtorEq,Int.reduceLE,kx,bu,cJ,List.replicate];exact k) (k:bL P y Q s'):bL P (.seq (.region id ops false) y) Q s:=ck fun K f=>h K (f s' k)
theorem aK {Q:Exit->AS->Prop} (h: ∀K:AS->Prop,K s'->bD P [] [] (aY ops ops.toList 0) (some s) K:=by intro K k;simp(disch:=omega) only[kd,Nat.reduceAdd,Nat.reduceEqDiff,Nat.reduceBEq,Nat.reduceLeDiff,Int.reduceToNat,Nat.reduceMul,reduceCtorEq,Int.reduceLE,kx,bu,cJ];exact k) (k:bL P y Q s'):bL P (.seq (.region id ops false) y) Q s:=ck fun K f=>h K (f s' k)
theorem pC {Q:Exit->AS->Prop} (x:α) (h:α-> ∀K:AS->Prop,K s'->bD P [] [] (aY ops ops.toList 0) (some s) K:=by intro x K k;simp(disch:=omega) only[kd,Nat.reduceAdd,Nat.reduceEqDiff,Nat.reduceBEq,Nat.reduceLeDiff,Int.reduceToNat,Nat.reduceMul,reduceCtorEq,Int.reduceLE,kx,bu,cJ,List.replicate,x];exact k) (k:bL P y Q s'):bL P (.seq (.region id ops false) y) Q s:=ck fun K f=>h x K (f s' k)
theorem aX {Q:Exit->AS->Prop} (x:α) (h:α-> ∀K:AS->Prop,K s'->bD P [] [] (aY ops ops.toList 0) (some s) K:=by intro x K k;simp(disch:=omega) only[kd,Nat.reduceAdd,Nat.reduceEqDiff,Nat.reduceBEq,Nat.reduceLeDiff,Int.reduceToNat,Nat.reduceMul,reduceCtorEq,Int.reduceLE,kx,bu,cJ,x];exact k) (k:bL P y Q s'):bL P (.seq (.region id ops false) y) Q s:=ck fun K f=>h x K (f s' k)
theorem il {Q:Exit->AS->Prop} (x:α) (h:α-> ∀K:AS->Prop,K s'->bD P [] [] (aY ops ops.toList 0) (some s) K:=by intro x K k;simp only[kd,Nat.reduceAdd,Nat.reduceEqDiff,Nat.reduceBEq,Nat.reduceLeDiff,Int.reduceToNat,Nat.reduceMul,reduceCtorEq,Int.reduceLE,kx,x];exact k) (k:bL P y Q s'):bL P (.seq (.region id ops false) y) Q s:=ck fun K f=>h x K (f s' k)
theorem Rt {Q:Exit->AS->Prop} (h: ∀K:AS->Prop,K s'->bD Tryz.prog [] [] (aY ops ops.toList 0) (some s) K:=by intro K k;simp(disch:=omega) only[kd,Nat.reduceAdd,Nat.reduceEqDiff,Nat.reduceBEq,Nat.reduceLeDiff,Int.reduceToNat,Nat.reduceMul,reduceCtorEq,Int.reduceLE,kx,bu,cJ];exact k) (hd:ce [] ops=true:=by kernel_rfl) (k:bL Tryz.prog y Q s'):bL Tryz.prog (.seq (.region id ops true) y) Q s:=uO d8 hd fun K f=>h K (f s' k)
theorem iN {Q:Exit->AS->Prop} (x:α) (h:α-> ∀K:AS->Prop,K s'->bD Tryz.prog [] [] (aY ops ops.toList 0) (some s) K:=by intro x K k;simp(disch:=omega) only[kd,Nat.reduceAdd,Nat.reduceEqDiff,Nat.reduceBEq,Nat.reduceLeDiff,Int.reduceToNat,Nat.reduceMul,reduceCtorEq,Int.reduceLE,kx,bu,cJ,x];exact k) (hd:ce [] ops=true:=by kernel_rfl) (k:bL Tryz.prog y Q s'):bL Tryz.prog (.seq (.region id ops true) y) Q s:=uO d8 hd fun K f=>h x K (f s' k)
theorem cb {Q:Exit->AS->Prop} (items:List (aM P)) (h: ∀K:AS->Prop,K s'->bD P (items.map aM.a) [] (aY ops ops.toList 0) (some s) K:=by intro K k;simp only[kd,Nat.reduceAdd,Nat.reduceEqDiff,Nat.reduceBEq,Nat.reduceLeDiff,Int.reduceToNat,Nat.reduceMul,reduceCtorEq,Int.reduceLE,kx];exact k) (k:bL P y Q s'):bL P (.seq (.region id ops false) y) Q s:=cB items [] fun K f=>h K (f s' k)
theorem fw {Q:Exit->AS->Prop} (items:List (aM P)) (x:α) (h:α-> ∀K:AS->Prop,K s'->bD P (items.map aM.a) [] (aY ops ops.toList 0) (some s) K:=by intro x K k;simp only[kd,Nat.reduceAdd,Nat.reduceEqDiff,Nat.reduceBEq,Nat.reduceLeDiff,Int.reduceToNat,Nat.reduceMul,reduceCtorEq,Int.reduceLE,kx,x];exact k) (k:bL P y Q s'):bL P (.seq (.region id ops false) y) Q s:=cB items [] fun K f=>h x K (f s' k)
theorem bN {Q:Exit->AS->Prop} (items:List (aM P)) (h: ∀K:AS->Prop,K s'->bD P (items.map aM.a) [] (aY ops ops.toList 0) (some s) K:=by intro K k;simp(disch:=omega) only[kd,Nat.reduceAdd,Nat.reduceEqDiff,Nat.reduceBEq,Nat.reduceLeDiff,Int.reduceToNat,Nat.reduceMul,reduceCtorEq,Int.reduceLE,kx,bu,cJ];exact k) (k:bL P y Q s'):bL P (.seq (.region id ops false) y) Q s:=cB items [] fun K f=>h K (f s' k)
theorem dr {Q:Exit->AS->Prop} (items:List (aM P)) (x:α) (h:α-> ∀K:AS->Prop,K s'->bD P (items.map aM.a) [] (aY ops ops.toList 0) (some s) K:=by intro x K k;simp(disch:=omega) only[kd,Nat.reduceAdd,Nat.reduceEqDiff,Nat.reduceBEq,Nat.reduceLeDiff,Int.reduceToNat,Nat.reduceMul,reduceCtorEq,Int.reduceLE,kx,bu,cJ,x];exact k) (k:bL P y Q s'):bL P (.seq (.region id ops false) y) Q s:=cB items [] fun K f=>h x K (f s' k)
theorem df {Q:Exit->AS->Prop} (items:List (aM Tryz.prog)) (h: ∀K:AS->Prop,K s'->bD Tryz.prog (items.map aM.a) [] (aY ops ops.toList 0) (some s) K:=by intro K k;simp(disch:=omega) only[kd,Nat.reduceAdd,Nat.reduceEqDiff,Nat.reduceBEq,Nat.reduceLeDiff,Int.reduceToNat,Nat.reduceMul,reduceCtorEq,Int.reduceLE,kx,bu,cJ];exact k) (hd:ce [] ops=true:=by kernel_rfl) (k:bL Tryz.prog y Q s'):bL Tryz.prog (.seq (.region id ops true) y) Q s:=rQ d8 items [] hd fun K f=>h K (f s' k)
theorem d6 {Q:Exit->AS->Prop} (items:List (aM Tryz.prog)) (x:α) (h:α-> ∀K:AS->Prop,K s'->bD Tryz.prog (items.map aM.a) [] (aY ops ops.toList 0) (some s) K:=by intro x K k;simp(disch:=omega) only[kd,Nat.reduceAdd,Nat.reduceEqDiff,Nat.reduceBEq,Nat.reduceLeDiff,Int.reduceToNat,Nat.reduceMul,reduceCtorEq,Int.reduceLE,kx,bu,cJ,x];exact k) (hd:ce [] ops=true:=by kernel_rfl) (k:bL Tryz.prog y Q s'):bL Tryz.prog (.seq (.region id ops true) y) Q s:=rQ d8 items [] hd fun K f=>h x K (f s' k)
theorem VH {Q:Exit->AS->Prop} (h: ∀K:AS->Prop,K s'->bD P [] [] (aY ops ops.toList 0) (some s) K:=by intro K k;simp only[kd,Nat.reduceAdd,Nat.reduceEqDiff,Nat.reduceBEq,Nat.reduceLeDiff,Int.reduceToNat,Nat.reduceMul,reduceCtorEq,Int.reduceLE,kx];exact k) (k:Q .normal s'):bL P (.region id ops false) Q s:=ou fun K f=>h K (f s' k)
theorem gV {Q:Exit->AS->Prop} (x:α) (h:α-> ∀K:AS->Prop,K s'->bD P [] [] (aY ops ops.toList 0) (some s) K:=by intro x K k;simp only[kd,Nat.reduceAdd,Nat.reduceEqDiff,Nat.reduceBEq,Nat.reduceLeDiff,Int.reduceToNat,Nat.reduceMul,reduceCtorEq,Int.reduceLE,kx,x];exact k) (k:Q .normal s'):bL P (.region id ops false) Q s:=ou fun K f=>h x K (f s' k)
theorem bW {Q:Exit->AS->Prop} (h: ∀K:AS->Prop,K s'->bD P [] [] (aY ops ops.toList 0) (some s) K:=by intro K k;simp(disch:=omega) only[kd,Nat.reduceAdd,Nat.reduceEqDiff,Nat.reduceBEq,Nat.reduceLeDiff,Int.reduceToNat,Nat.reduceMul,reduceCtorEq,Int.reduceLE,kx,bu,cJ];exact k) (k:Q .normal s'):bL P (.region id ops false) Q s:=ou fun K f=>h K (f s' k)
theorem fc {Q:Exit->AS->Prop} (x:α) (h:α-> ∀K:AS->Prop,K s'->bD P [] [] (aY ops ops.toList 0) (some s) K:=by intro x K k;simp(disch:=omega) only[kd,Nat.reduceAdd,Nat.reduceEqDiff,Nat.reduceBEq,Nat.reduceLeDiff,Int.reduceToNat,Nat.reduceMul,reduceCtorEq,Int.reduceLE,kx,bu,cJ,x];exact k) (k:Q .normal s'):bL P (.region id ops false) Q s:=ou fun K f=>h x K (f s' k)
theorem nk {Q:Exit->AS->Prop} (x:α) (h:α-> ∀K:AS->Prop,K s'->bD Tryz.prog [] [] (aY ops ops.toList 0) (some s) K:=by intro x K k;simp(disch:=omega) only[kd,Nat.reduceAdd,Nat.reduceEqDiff,Nat.reduceBEq,Nat.reduceLeDiff,Int.reduceToNat,Nat.reduceMul,reduceCtorEq,Int.reduceLE,kx,bu,cJ,x];exact k) (hd:ce [] ops=true:=by kernel_rfl) (k:Q .normal s'):bL Tryz.prog (.region id ops true) Q s:=DF d8 hd fun K f=>h x K (f s' k)
theorem UA {Q:Exit->AS->Prop} (items:List (aM P)) (h: ∀K:AS->Prop,K s'->bD P (items.map aM.a) [] (aY ops ops.toList 0) (some s) K:=by intro K k;simp only[kd,Nat.reduceAdd,Nat.reduceEqDiff,Nat.reduceBEq,Nat.reduceLeDiff,Int.reduceToNat,Nat.reduceMul,reduceCtorEq,Int.reduceLE,kx];exact k) (k:Q .normal s'):bL P (.region id ops false) Q s:=ng items [] fun K f=>h K (f s' k)
theorem UB {Q:Exit->AS->Prop} (items:List (aM P)) (h: ∀K:AS->Prop,K s'->bD P (items.map aM.a) [] (aY ops ops.toList 0) (some s) K:=by intro K k;simp(disch:=omega) only[kd,Nat.reduceAdd,Nat.reduceEqDiff,Nat.reduceBEq,Nat.reduceLeDiff,Int.reduceToNat,Nat.reduceMul,reduceCtorEq,Int.reduceLE,kx,bu,cJ];exact k) (k:Q .normal s'):bL P (.region id ops false) Q s:=ng items [] fun K f=>h K (f s' k)
theorem OP {Q:Exit->AS->Prop} (items:List (aM P)) (x:α) (h:α-> ∀K:AS->Prop,K s'->bD P (items.map aM.a) [] (aY ops ops.toList 0) (some s) K:=by intro x K k;simp(disch:=omega) only[kd,Nat.reduceAdd,Nat.reduceEqDiff,Nat.reduceBEq,Nat.reduceLeDiff,Int.reduceToNat,Nat.reduceMul,reduceCtorEq,Int.reduceLE,kx,bu,cJ,List.replicate,x];exact k) (k:Q .normal s'):bL P (.region id ops false) Q s:=ng items [] fun K f=>h x K (f s' k)
theorem yW {Q:Exit->AS->Prop} (items:List (aM P)) (x:α) (h:α-> ∀K:AS->Prop,K s'->bD P (items.map aM.a) [] (aY ops ops.toList 0) (some s) K:=by intro x K k;simp(disch:=omega) only[kd,Nat.reduceAdd,Nat.reduceEqDiff,Nat.reduceBEq,Nat.reduceLeDiff,Int.reduceToNat,Nat.reduceMul,reduceCtorEq,Int.reduceLE,kx,bu,cJ,x];exact k) (k:Q .normal s'):bL P (.region id ops false) Q s:=ng items [] fun K f=>h x K (f s' k)
theorem Sj {Q:Exit->AS->Prop} (items:List (aM Tryz.prog)) (h: ∀K:AS->Prop,K s'->bD Tryz.prog (items.map aM.a) [] (aY ops ops.toList 0) (some s) K:=by intro K k;simp(disch:=omega) only[kd,Nat.reduceAdd,Nat.reduceEqDiff,Nat.reduceBEq,Nat.reduceLeDiff,Int.reduceToNat,Nat.reduceMul,reduceCtorEq,Int.reduceLE,kx,bu,cJ];exact k) (hd:ce [] ops=true:=by kernel_rfl) (k:Q .normal s'):bL Tryz.prog (.region id ops true) Q s:=rP d8 items [] hd fun K f=>h K (f s' k)
theorem f5 {Q:Exit->AS->Prop} (items:List (aM Tryz.prog)) (x:α) (h:α-> ∀K:AS->Prop,K s'->bD Tryz.prog (items.map aM.a) [] (aY ops ops.toList 0) (some s) K:=by intro x K k;simp(disch:=omega) only[kd,Nat.reduceAdd,Nat.reduceEqDiff,Nat.reduceBEq,Nat.reduceLeDiff,Int.reduceToNat,Nat.reduceMul,reduceCtorEq,Int.reduceLE,kx,bu,cJ,x];exact k) (hd:ce [] ops=true:=by kernel_rfl) (k:Q .normal s'):bL Tryz.prog (.region id ops true) Q s:=rP d8 items [] hd fun K f=>h x K (f s' k)
theorem dn {b:Nat} {ty:TypeId} {cs:List PV} {Q:Exit->AS->List PV->Prop} (h: ∀K:AS->Prop,K s'->bD P [] [] (aY ops ops.toList 0) (some s) K:=by intro K k;simp(disch:=omega) only[kd,Nat.reduceAdd,Nat.reduceEqDiff,Nat.reduceBEq,Nat.reduceLeDiff,Int.reduceToNat,Nat.reduceMul,reduceCtorEq,Int.reduceLE,kx,bu,cJ];exact k) (k:dS P b ty y Q s' cs):dS P b ty (.seq (.region id ops false) y) Q s cs:=ox fun K f=>h K (f s' k)
theorem pj {b:Nat} {ty:TypeId} {cs:List PV} {Q:Exit->AS->List PV->Prop} (h: ∀K:AS->Prop,K s'->bD P [] [] (aY ops ops.toList 0) (some s) K:=by intro K k;simp(disch:=omega) only[kd,Nat.reduceAdd,Nat.reduceEqDiff,Nat.reduceBEq,Nat.reduceLeDiff,Int.reduceToNat,Nat.reduceMul,reduceCtorEq,Int.reduceLE,kx,bu,cJ,List.replicate];exact k) (k:dS P b ty y Q s' cs):dS P b ty (.seq (.region id ops false) y) Q s cs:=ox fun K f=>h K (f s' k)
theorem Sk {b:Nat} {ty:TypeId} {cs:List PV} {Q:Exit->AS->List PV->Prop} (x:α) (h:α-> ∀K:AS->Prop,K s'->bD P [] [] (aY ops ops.toList 0) (some s) K:=by intro x K k;simp(disch:=omega) only[kd,Nat.reduceAdd,Nat.reduceEqDiff,Nat.reduceBEq,Nat.reduceLeDiff,Int.reduceToNat,Nat.reduceMul,reduceCtorEq,Int.reduceLE,kx,bu,cJ,List.replicate,x];exact k) (k:dS P b ty y Q s' cs):dS P b ty (.seq (.region id ops false) y) Q s cs:=ox fun K f=>h x K (f s' k)
theorem gC {b:Nat} {ty:TypeId} {cs:List PV} {Q:Exit->AS->List PV->Prop} (x:α) (h:α-> ∀K:AS->Prop,K s'->bD P [] [] (aY ops ops.toList 0) (some s) K:=by intro x K k;simp(disch:=omega) only[kd,Nat.reduceAdd,Nat.reduceEqDiff,Nat.reduceBEq,Nat.reduceLeDiff,Int.reduceToNat,Nat.reduceMul,reduceCtorEq,Int.reduceLE,kx,bu,cJ,x];exact k) (k:dS P b ty y Q s' cs):dS P b ty (.seq (.region id ops false) y) Q s cs:=ox fun K f=>h x K (f s' k)
theorem yY {b:Nat} {ty:TypeId} {cs:List PV} {Q:Exit->AS->List PV->Prop} (x:α) (h:α-> ∀K:AS->Prop,K s'->bD Tryz.prog [] [] (aY ops ops.toList 0) (some s) K:=by intro x K k;simp(disch:=omega) only[kd,Nat.reduceAdd,Nat.reduceEqDiff,Nat.reduceBEq,Nat.reduceLeDiff,Int.reduceToNat,Nat.reduceMul,reduceCtorEq,Int.reduceLE,kx,bu,cJ,x];exact k) (hd:ce [] ops=true:=by kernel_rfl) (k:dS Tryz.prog b ty y Q s' cs):dS Tryz.prog b ty (.seq (.region id ops true) y) Q s cs:=DL d8 hd fun K f=>h x K (f s' k)
theorem KD {b:Nat} {ty:TypeId} {cs:List PV} {Q:Exit->AS->List PV->Prop} (items:List (aM P)) (h: ∀K:AS->Prop,K s'->bD P (items.map aM.a) [] (aY ops ops.toList 0) (some s) K:=by intro K k;simp(disch:=omega) only[kd,Nat.reduceAdd,Nat.reduceEqDiff,Nat.reduceBEq,Nat.reduceLeDiff,Int.reduceToNat,Nat.reduceMul,reduceCtorEq,Int.reduceLE,kx,bu,cJ];exact k) (k:dS P b ty y Q s' cs):dS P b ty (.seq (.region id ops false) y) Q s cs:=uQ items [] fun K f=>h K (f s' k)
theorem yZ {b:Nat} {ty:TypeId} {cs:List PV} {Q:Exit->AS->List PV->Prop} (items:List (aM P)) (x:α) (h:α-> ∀K:AS->Prop,K s'->bD P (items.map aM.a) [] (aY ops ops.toList 0) (some s) K:=by intro x K k;simp(disch:=omega) only[kd,Nat.reduceAdd,Nat.reduceEqDiff,Nat.reduceBEq,Nat.reduceLeDiff,Int.reduceToNat,Nat.reduceMul,reduceCtorEq,Int.reduceLE,kx,bu,cJ,x];exact k) (k:dS P b ty y Q s' cs):dS P b ty (.seq (.region id ops false) y) Q s cs:=uQ items [] fun K f=>h x K (f s' k)
theorem y4 {b:Nat} {ty:TypeId} {cs:List PV} {Q:Exit->AS->List PV->Prop} (items:List (aM Tryz.prog)) (x:α) (h:α-> ∀K:AS->Prop,K s'->bD Tryz.prog (items.map aM.a) [] (aY ops ops.toList 0) (some s) K:=by intro x K k;simp(disch:=omega) only[kd,Nat.reduceAdd,Nat.reduceEqDiff,Nat.reduceBEq,Nat.reduceLeDiff,Int.reduceToNat,Nat.reduceMul,reduceCtorEq,Int.reduceLE,kx,bu,cJ,x];exact k) (hd:ce [] ops=true:=by kernel_rfl) (k:dS Tryz.prog b ty y Q s' cs):dS Tryz.prog b ty (.seq (.region id ops true) y) Q s cs:=xB d8 items [] hd fun K f=>h x K (f s' k)
theorem rU {b:Nat} {ty:TypeId} {cs:List PV} {Q:Exit->AS->List PV->Prop} (h: ∀K:AS->Prop,K s'->bD P [] [] (aY ops ops.toList 0) (some s) K:=by intro K k;simp(disch:=omega) only[kd,Nat.reduceAdd,Nat.reduceEqDiff,Nat.reduceBEq,Nat.reduceLeDiff,Int.reduceToNat,Nat.reduceMul,reduceCtorEq,Int.reduceLE,kx,bu,cJ];exact k) (k:Q .normal s' cs):dS P b ty (.region id ops false) Q s cs:=xA fun K f=>h K (f s' k)
theorem uV {b:Nat} {ty:TypeId} {cs:List PV} {Q:Exit->AS->List PV->Prop} (x:α) (h:α-> ∀K:AS->Prop,K s'->bD P [] [] (aY ops ops.toList 0) (some s) K:=by intro x K k;simp(disch:=omega) only[kd,Nat.reduceAdd,Nat.reduceEqDiff,Nat.reduceBEq,Nat.reduceLeDiff,Int.reduceToNat,Nat.reduceMul,reduceCtorEq,Int.reduceLE,kx,bu,cJ,x];exact k) (k:Q .normal s' cs):dS P b ty (.region id ops false) Q s cs:=xA fun K f=>h x K (f s' k)
theorem yX {b:Nat} {ty:TypeId} {cs:List PV} {Q:Exit->AS->List PV->Prop} (x:α) (h:α-> ∀K:AS->Prop,K s'->bD Tryz.prog [] [] (aY ops ops.toList 0) (some s) K:=by intro x K k;simp(disch:=omega) only[kd,Nat.reduceAdd,Nat.reduceEqDiff,Nat.reduceBEq,Nat.reduceLeDiff,Int.reduceToNat,Nat.reduceMul,reduceCtorEq,Int.reduceLE,kx,bu,cJ,x];exact k) (hd:ce [] ops=true:=by kernel_rfl) (k:Q .normal s' cs):dS Tryz.prog b ty (.region id ops true) Q s cs:=DK d8 hd fun K f=>h x K (f s' k)
theorem UE {b:Nat} {ty:TypeId} {cs:List PV} {Q:Exit->AS->List PV->Prop} (h: ∀K:AS->Prop,K s'->bD P [] [] (aY ops ops.toList 0) (some s) K:=by intro K k;simp(disch:=omega) only[kd,Nat.reduceAdd,Nat.reduceEqDiff,Nat.reduceBEq,Nat.reduceLeDiff,Int.reduceToNat,Nat.reduceMul,reduceCtorEq,Int.reduceLE,kx,bu,cJ,List.replicate];exact k) (k:fb P b ty y Q s' cs):fb P b ty (.seq (.region id ops false) y) Q s cs:=oA fun K f=>h K (f s' k)
theorem d7 {b:Nat} {ty:TypeId} {cs:List PV} {Q:Exit->AS->List PV->Prop} (h: ∀K:AS->Prop,K s'->bD P [] [] (aY ops ops.toList 0) (some s) K:=by intro K k;simp(disch:=omega) only[kd,Nat.reduceAdd,Nat.reduceEqDiff,Nat.reduceBEq,Nat.reduceLeDiff,Int.reduceToNat,Nat.reduceMul,reduceCtorEq,Int.reduceLE,kx,bu,cJ];exact k) (k:fb P b ty y Q s' cs):fb P b ty (.seq (.region id ops false) y) Q s cs:=oA fun K f=>h K (f s' k)
theorem DS {b:Nat} {ty:TypeId} {cs:List PV} {Q:Exit->AS->List PV->Prop} (x:α) (h:α-> ∀K:AS->Prop,K s'->bD P [] [] (aY ops ops.toList 0) (some s) K:=by intro x K k;simp(disch:=omega) only[kd,Nat.reduceAdd,Nat.reduceEqDiff,Nat.reduceBEq,Nat.reduceLeDiff,Int.reduceToNat,Nat.reduceMul,reduceCtorEq,Int.reduceLE,kx,bu,cJ,List.replicate,x];exact k) (k:fb P b ty y Q s' cs):fb P b ty (.seq (.region id ops false) y) Q s cs:=oA fun K f=>h x K (f s' k)
theorem mP {b:Nat} {ty:TypeId} {cs:List PV} {Q:Exit->AS->List PV->Prop} (x:α) (h:α-> ∀K:AS->Prop,K s'->bD P [] [] (aY ops ops.toList 0) (some s) K:=by intro x K k;simp(disch:=omega) only[kd,Nat.reduceAdd,Nat.reduceEqDiff,Nat.reduceBEq,Nat.reduceLeDiff,Int.reduceToNat,Nat.reduceMul,reduceCtorEq,Int.reduceLE,kx,bu,cJ,x];exact k) (k:fb P b ty y Q s' cs):fb P b ty (.seq (.region id ops false) y) Q s cs:=oA fun K f=>h x K (f s' k)
theorem Ru {b:Nat} {ty:TypeId} {cs:List PV} {Q:Exit->AS->List PV->Prop} (items:List (aM P)) (h: ∀K:AS->Prop,K s'->bD P (items.map aM.a) [] (aY ops ops.toList 0) (some s) K:=by intro K k;simp(disch:=omega) only[kd,Nat.reduceAdd,Nat.reduceEqDiff,Nat.reduceBEq,Nat.reduceLeDiff,Int.reduceToNat,Nat.reduceMul,reduceCtorEq,Int.reduceLE,kx,bu,cJ];exact k) (k:fb P b ty y Q s' cs):fb P b ty (.seq (.region id ops false) y) Q s cs:=uU items [] fun K f=>h K (f s' k)
theorem KF {b:Nat} {ty:TypeId} {cs:List PV} {Q:Exit->AS->List PV->Prop} (items:List (aM P)) (x:α) (h:α-> ∀K:AS->Prop,K s'->bD P (items.map aM.a) [] (aY ops ops.toList 0) (some s) K:=by intro x K k;simp(disch:=omega) only[kd,Nat.reduceAdd,Nat.reduceEqDiff,Nat.reduceBEq,Nat.reduceLeDiff,Int.reduceToNat,Nat.reduceMul,reduceCtorEq,Int.reduceLE,kx,bu,cJ,x];exact k) (k:fb P b ty y Q s' cs):fb P b ty (.seq (.region id ops false) y) Q s cs:=uU items [] fun K f=>h x K (f s' k)
theorem xb {b:Nat} {ty:TypeId} {cs:List PV} {Q:Exit->AS->List PV->Prop} (h: ∀K:AS->Prop,K s'->bD P [] [] (aY ops ops.toList 0) (some s) K:=by intro K k;simp(disch:=omega) only[kd,Nat.reduceAdd,Nat.reduceEqDiff,Nat.reduceBEq,Nat.reduceLeDiff,Int.reduceToNat,Nat.reduceMul,reduceCtorEq,Int.reduceLE,kx,bu,cJ];exact k) (k:Q .normal s' cs):fb P b ty (.region id ops false) Q s cs:=Ij fun K f=>h K (f s' k)
theorem Sm {b:Nat} {ty:TypeId} {cs:List PV} {Q:Exit->AS->List PV->Prop} (x:α) (h:α-> ∀K:AS->Prop,K s'->bD Tryz.prog [] [] (aY ops ops.toList 0) (some s) K:=by intro x K k;simp(disch:=omega) only[kd,Nat.reduceAdd,Nat.reduceEqDiff,Nat.reduceBEq,Nat.reduceLeDiff,Int.reduceToNat,Nat.reduceMul,reduceCtorEq,Int.reduceLE,kx,bu,cJ,x];exact k) (hd:ce [] ops=true:=by kernel_rfl) (k:Q .normal s' cs):fb Tryz.prog b ty (.region id ops true) Q s cs:=DP d8 hd fun K f=>h x K (f s' k)
theorem eg {Q:Exit->AS->Prop} (h: ∀K:AS->Prop,K s'->bD P [] [] (aY ops ops.toList 0) (some s) K:=by intro K k;simp(disch:=omega) only[kd,Nat.reduceAdd,Nat.reduceEqDiff,Nat.reduceBEq,Nat.reduceLeDiff,Int.reduceToNat,Nat.reduceMul,reduceCtorEq,Int.reduceLE,kx,bu,cJ];exact k) (hk:eP pk ops=true:=by kernel_rfl) (k:eR P pk y Q s'):eR P pk (.seq (.region id ops false) y) Q s:=rR hk fun K f=>h K (f s' k)
theorem KE {Q:Exit->AS->Prop} (h: ∀K:AS->Prop,K s'->bD P [] [] (aY ops ops.toList 0) (some s) K:=by intro K k;simp(disch:=omega) only[kd,Nat.reduceAdd,Nat.reduceEqDiff,Nat.reduceBEq,Nat.reduceLeDiff,Int.reduceToNat,Nat.reduceMul,reduceCtorEq,Int.reduceLE,kx,bu,cJ,List.replicate];exact k) (hk:eP pk ops=true:=by kernel_rfl) (k:eR P pk y Q s'):eR P pk (.seq (.region id ops false) y) Q s:=rR hk fun K f=>h K (f s' k)
theorem dJ {Q:Exit->AS->Prop} (x:α) (h:α-> ∀K:AS->Prop,K s'->bD P [] [] (aY ops ops.toList 0) (some s) K:=by intro x K k;simp(disch:=omega) only[kd,Nat.reduceAdd,Nat.reduceEqDiff,Nat.reduceBEq,Nat.reduceLeDiff,Int.reduceToNat,Nat.reduceMul,reduceCtorEq,Int.reduceLE,kx,bu,cJ,x];exact k) (hk:eP pk ops=true:=by kernel_rfl) (k:eR P pk y Q s'):eR P pk (.seq (.region id ops false) y) Q s:=rR hk fun K f=>h x K (f s' k)
theorem UC {Q:Exit->AS->Prop} (h: ∀K:AS->Prop,K s'->bD Tryz.prog [] [] (aY ops ops.toList 0) (some s) K:=by intro K k;simp(disch:=omega) only[kd,Nat.reduceAdd,Nat.reduceEqDiff,Nat.reduceBEq,Nat.reduceLeDiff,Int.reduceToNat,Nat.reduceMul,reduceCtorEq,Int.reduceLE,kx,bu,cJ];exact k) (hd:ce [] ops=true:=by kernel_rfl) (hk:eP pk ops=true:=by kernel_rfl) (k:eR Tryz.prog pk y Q s'):eR Tryz.prog pk (.seq (.region id ops true) y) Q s:=uT d8 hd hk fun K f=>h K (f s' k)
theorem rV {Q:Exit->AS->Prop} (x:α) (h:α-> ∀K:AS->Prop,K s'->bD Tryz.prog [] [] (aY ops ops.toList 0) (some s) K:=by intro x K k;simp(disch:=omega) only[kd,Nat.reduceAdd,Nat.reduceEqDiff,Nat.reduceBEq,Nat.reduceLeDiff,Int.reduceToNat,Nat.reduceMul,reduceCtorEq,Int.reduceLE,kx,bu,cJ,x];exact k) (hd:ce [] ops=true:=by kernel_rfl) (hk:eP pk ops=true:=by kernel_rfl) (k:eR Tryz.prog pk y Q s'):eR Tryz.prog pk (.seq (.region id ops true) y) Q s:=uT d8 hd hk fun K f=>h x K (f s' k)
theorem UD {Q:Exit->AS->Prop} (items:List (aM P)) (h: ∀K:AS->Prop,K s'->bD P (items.map aM.a) [] (aY ops ops.toList 0) (some s) K:=by intro K k;simp(disch:=omega) only[kd,Nat.reduceAdd,Nat.reduceEqDiff,Nat.reduceBEq,Nat.reduceLeDiff,Int.reduceToNat,Nat.reduceMul,reduceCtorEq,Int.reduceLE,kx,bu,cJ];exact k) (hk:eP pk ops=true:=by kernel_rfl) (k:eR P pk y Q s'):eR P pk (.seq (.region id ops false) y) Q s:=Bf items [] hk fun K f=>h K (f s' k)
theorem y5 {Q:Exit->AS->Prop} (items:List (aM Tryz.prog)) (x:α) (h:α-> ∀K:AS->Prop,K s'->bD Tryz.prog (items.map aM.a) [] (aY ops ops.toList 0) (some s) K:=by intro x K k;simp(disch:=omega) only[kd,Nat.reduceAdd,Nat.reduceEqDiff,Nat.reduceBEq,Nat.reduceLeDiff,Int.reduceToNat,Nat.reduceMul,reduceCtorEq,Int.reduceLE,kx,bu,cJ,x];exact k) (hd:ce [] ops=true:=by kernel_rfl) (hk:eP pk ops=true:=by kernel_rfl) (k:eR Tryz.prog pk y Q s'):eR Tryz.prog pk (.seq (.region id ops true) y) Q s:=xE d8 items [] hd hk fun K f=>h x K (f s' k)
theorem Bk {Q:Exit->AS->Prop} (h: ∀K:AS->Prop,K s'->bD P [] [] (aY ops ops.toList 0) (some s) K:=by intro K k;simp(disch:=omega) only[kd,Nat.reduceAdd,Nat.reduceEqDiff,Nat.reduceBEq,Nat.reduceLeDiff,Int.reduceToNat,Nat.reduceMul,reduceCtorEq,Int.reduceLE,kx,bu,cJ];exact k) (hk:eP pk ops=true:=by kernel_rfl) (k:Q .normal s'):eR P pk (.region id ops false) Q s:=xD hk fun K f=>h K (f s' k)
theorem qp {Q:Exit->AS->Prop} (x:α) (h:α-> ∀K:AS->Prop,K s'->bD P [] [] (aY ops ops.toList 0) (some s) K:=by intro x K k;simp(disch:=omega) only[kd,Nat.reduceAdd,Nat.reduceEqDiff,Nat.reduceBEq,Nat.reduceLeDiff,Int.reduceToNat,Nat.reduceMul,reduceCtorEq,Int.reduceLE,kx,bu,cJ,x];exact k) (hk:eP pk ops=true:=by kernel_rfl) (k:Q .normal s'):eR P pk (.region id ops false) Q s:=xD hk fun K f=>h x K (f s' k)
theorem Sl {Q:Exit->AS->Prop} (x:α) (h:α-> ∀K:AS->Prop,K s'->bD Tryz.prog [] [] (aY ops ops.toList 0) (some s) K:=by intro x K k;simp(disch:=omega) only[kd,Nat.reduceAdd,Nat.reduceEqDiff,Nat.reduceBEq,Nat.reduceLeDiff,Int.reduceToNat,Nat.reduceMul,reduceCtorEq,Int.reduceLE,kx,bu,cJ,x];exact k) (hd:ce [] ops=true:=by kernel_rfl) (hk:eP pk ops=true:=by kernel_rfl) (k:Q .normal s'):eR Tryz.prog pk (.region id ops true) Q s:=DM d8 hd hk fun K f=>h x K (f s' k)
theorem aP {p q:Prop} (a:p) (b:q):p/\q:=⟨a,b⟩
theorem aV {Q:Exit->AS->Prop} {fn:Func} {r:TV} (x:α) (e:Q .ret s=((Exit.ret= .normal\/Exit.ret= .ret)/\ ∃s',ci s s'/\mO P fn ⟨[],r⟩ s'):=by rfl) (h:α->rl P s fn.results.toList=some r:=by intro x;simp(disch:=omega) only[kd,Nat.reduceAdd,Nat.reduceEqDiff,Nat.reduceBEq,Nat.reduceLeDiff,Int.reduceToNat,Nat.reduceMul,reduceCtorEq,Int.reduceLE,kx,bu,cJ,x]) (hd:s.H 1000=[]:=by rfl) (hp:noRefTV r=true:=by rfl):bL P .ret Q s:=bA (e.mpr ⟨.inr rfl,cd hd (h x) hp⟩)
theorem aS {f:FuncId} {fn:Func} {c:Code} {args:List TV} {res:CallRes} {m:Nat} (hf:P.funcs[f]?=some fn) (hb:fn.body=some c) (hm:fn.ntmps=m) (h:bL P c (fun e s=>(e= .normal\/e= .ret)/\ ∃s',ci s s'/\mO P fn res s') ⟨args++ae (m-args.length) .undef,fun _=>[]⟩) (hn:callable P f=true:=by kernel_rfl):CallC P f args res:=KV hf hb hn (by rw[hm];exact h)
theorem V0 {Q:Exit->AS->Prop} {c:Operand} {x z:Code} (hc:s.ev c=some (.raw (.bool false))) (h:bL P z Q s):bL P (.cond c x .skip) (iF (bL P z Q) Q) s:=aJ hc (aH h)
theorem V3 {Q:Exit->AS->Prop} {c:Operand} {x z:Code} (hc:s.ev c=some (.raw (.bool true))) (h:bL P z Q s):bL P (.cond c .skip x) (iF (bL P z Q) Q) s:=aR hc (aH h)
theorem V4 {b:Nat} {ty:TypeId} {cs:List PV} {Q:Exit->AS->List PV->Prop} {c:Operand} {x z:Code} (hc:s.ev c=some (.raw (.bool false))) (h:dS P b ty z Q s cs):dS P b ty (.cond c x .skip) (mT (dS P b ty z Q) Q) s cs:=jt hc (fJ h)
theorem V5 {b:Nat} {ty:TypeId} {cs:List PV} {Q:Exit->AS->List PV->Prop} {c:Operand} {x z:Code} (hc:s.ev c=some (.raw (.bool true))) (h:dS P b ty z Q s cs):dS P b ty (.cond c .skip x) (mT (dS P b ty z Q) Q) s cs:=j1 hc (fJ h)
theorem V8 {b:Nat} {ty:TypeId} {cs:List PV} {Q:Exit->AS->List PV->Prop} {c:Operand} {x z:Code} (hc:s.ev c=some (.raw (.bool false))) (h:fb P b ty z Q s cs):fb P b ty (.cond c x .skip) (mT (fb P b ty z Q) Q) s cs:=de hc (i7 h)
theorem V9 {b:Nat} {ty:TypeId} {cs:List PV} {Q:Exit->AS->List PV->Prop} {c:Operand} {x z:Code} (hc:s.ev c=some (.raw (.bool true))) (h:fb P b ty z Q s cs):fb P b ty (.cond c .skip x) (mT (fb P b ty z Q) Q) s cs:=ip hc (i7 h)
theorem V6 {k:Nat} {Q:Exit->AS->Prop} {c:Operand} {x z:Code} (hc:s.ev c=some (.raw (.bool false))) (h:eR P k z Q s):eR P k (.cond c x .skip) (iF (eR P k z Q) Q) s:=fz hc (dM h)
theorem V7 {k:Nat} {Q:Exit->AS->Prop} {c:Operand} {x z:Code} (hc:s.ev c=some (.raw (.bool true))) (h:eR P k z Q s):eR P k (.cond c .skip x) (iF (eR P k z Q) Q) s:=gE hc (dM h)
end
end
theorem iU (l:List Nat) (hb:l.length<=1073741824):CallC Tryz.prog 31 [dw l] ⟨[],dw (du l)⟩:=by
 refine aS Tryz.func31 rfl Tryz.ntmps31 (aT (k:=bC (k:=?_)));refine FP (G:={n:Nat//n<=l.length/\du l=du (l.take n)}) (fun n=>⟨(dw l::jk::.raw (.slice none 0 0)::.raw (.int .i64 n.1)::j16 (jk::jk::[])),Hm []⟩) (fun n=>n.1) ⟨l.length,ac _,by simp⟩ ?_ ?_
 ·refine aE trivial ?_;simp[wk]
 rintro⟨n,hn,hT⟩;simp only;by_cases h0:0<n
 ·obtain⟨a,ha⟩:=getElem?_of_lt (l:=l) (k:=n-1) (by omega);have e1:((n:Int)-1).toNat=n-1:=by omega
  refine aF (aX (aP e1 ha) (k:=?_));have htk:l.take n=l.take (n-1)++[a]:=by
   have:=List.take_succ_eq_append_getElem (i:=n-1) (l:=l) (by omega);rw[show n-1+1=n by omega]at this;rw[this,(List.getElem?_eq_some_iff.1 ha).2]
  refine bV rfl (fun hz=>aH ?_) (fun hz=>bz ?_)
  ·have hz':a=0:=by simpa using hz
   refine aG (bW (k:=?_));refine⟨⟨n-1,by omega,?_⟩,by simp only;omega,aE trivial ?_⟩
   ·rw[hT,htk,hz',kB]
   have e:((n-1:Nat):Int)=(n:Int)-1:=by omega
   simp[wk,e]
  have hz':a≠0:=by intro e;simp[e]at hz
  have hfin:du l=l.take n:=by rw[hT,htk,s6 hz']
  show bL _ _ _ _;have hlen:(l.take n).length=n:=by simp;omega
  refine aX (aP @Nat.zero_le (aP (jy pL) (aP hlen (nG pL)))) (k:=?_);refine bA ⟨.inr rfl,fo 21 (bQ rfl) ?_ rfl⟩;simp(disch:=omega) only[kd,Tryz.results31,hfin];simp[List.take_take]
 have hn0:n=0:=by omega
 subst hn0;have hfin:du l=[]:=by rw[hT];simp[du]
 refine aF (aK (k:=bV rfl (fun hz=>by cases hz) (fun hz=>bz (aX (aP @Nat.zero_le (jy pL)) (k:=?_)))));refine bA ⟨.inr rfl,fo 21 (bQ (f:=fU) (l:=[]) rfl) ?_ rfl⟩;simp(disch:=omega) only[kd,Tryz.results31,hfin];simp[ls]
theorem cx:aL 0=[]:=by rw[aL];simp
theorem oM {n:Nat} (h:n≠0):aL n=n%4294967296::aL (n/4294967296):=by rw[aL];simp[h]
theorem aN (n:Nat):natV (aL n)=n:=by
 induction n using Nat.strongRecOn with
 |_ n ih=>
  by_cases h:n=0
  ·subst h;rw[cx];rfl
  rw[oM h,natV,ih _ (oL h)];omega
theorem aU (n:Nat):Lmb (aL n):=by
 induction n using Nat.strongRecOn with
 |_ n ih=>
  by_cases h:n=0
  ·subst h;rw[cx];intro a ha;simp at ha
  rw[oM h];intro a ha;rcases List.mem_cons.1 ha with rfl|ha
  ·omega
  exact ih _ (oL h) a ha
theorem cn (n:Nat):pu (aL n):=by
 induction n using Nat.strongRecOn with
 |_ n ih=>
  by_cases h:n=0
  ·subst h;rw[cx];simp[pu]
  rw[oM h];by_cases h2:n/4294967296=0
  ·rw[h2,cx];simp[pu];omega
  have:=ih _ (oL h);rw[oM h2]at this⊢;unfold pu at*
  rw[List.getLast?_cons_cons];exact this
theorem Lw {l:List Nat} (h1:Lmb l) (h2:pu l):l=aL (natV l):=
 OY h1 (aU _) h2 (cn _) (aN _).symm
theorem dX {l:List Nat} (h1:Lmb l):du l=aL (natV l):=by
 rw[Lw (NR h1) (NP l),Jh]
theorem iG (n:Nat):du (aL n)=aL n:=tH (cn n)
theorem zS {n:Nat}:aL n=[]↔n=0:=⟨fun h=>by rw[<- aN n,h];rfl,fun h=>by rw[h,cx]⟩
theorem jR {n k:Nat} (h:n<4294967296^k):(aL n).length<=k:=DY (cn n) (by rw[aN];exact h)
theorem gh {n:Nat}:(aL n).length=0↔n=0:=by rw[List.length_eq_zero_iff,zS]
def Sz (z:Int) (k:Nat):Prop:=z.natAbs<4294967296^k
theorem Sz.len {z:Int} {k:Nat} (h:Sz z k):(aL z.natAbs).length<=k:=jR h
theorem Sz.mono {z:Int} {k l:Nat} (h:Sz z k) (hl:k<=l):Sz z l:=Nat.lt_of_lt_of_le h (Nat.pow_le_pow_right (by omega) hl)
theorem zA (z:Int):(fZ z).length=2:=rfl
theorem oc (neg:Bool) (n:Nat):(gD neg n).natAbs=n:=by unfold gD;split<;>simp
theorem Ay (neg:Bool) (n:Nat):decide (gD neg n<0)=(neg&&decide (0<n)):=by
 unfold gD;cases neg with
 |true=>simp
 |false=>simp
theorem jz (neg:Bool) (l:List Nat) (h:Lmb l) (hb:l.length<=1073741824):CallC Tryz.prog 23 [.raw (.bool neg),dw l] ⟨[],tZ (gD neg (natV l))⟩:=by
 have ht:=iU l hb;rw[dX h]at ht;have hlen:(aL (natV l)).length<=1073741824:=by rw[<- dX h];exact Nat.le_trans (NQ l) hb
 refine aS Tryz.func23 rfl Tryz.ntmps23 (aT (k:=cb [⟨1,_,_,_,ht⟩] (k:=?_)));cases neg with
 |false=>
  refine aK (k:=?_);refine bA ⟨.inr rfl,cd rfl ?_ rfl⟩;simp(disch:=omega) only[kd,Tryz.results23,aa,tZ];simp[tZ,oc,Ay]
 |true=>
  refine aK (k:=?_);refine bA ⟨.inr rfl,cd rfl ?_ rfl⟩;simp(disch:=omega) only[kd,Tryz.results23,aa,tZ];have:(0<(aL (natV l)).length)↔0<natV l:=by
   have:=gh (n:=natV l);omega
  simp[tZ,oc,Ay,this]
abbrev Bg (z:Int):Prop:=Sz z 1073741824
theorem Bg.len {z:Int} (h:Bg z):(aL z.natAbs).length<=1073741824:=jR h
theorem Mb (z:Int):gD (!decide (z<0)) z.natAbs= -z:=by unfold gD;by_cases h:z<0<;>simp[h]<;>omega
theorem z7 (z:Int):gD (decide (z<0)) z.natAbs=z:=by unfold gD;by_cases h:z<0<;>simp[h]<;>omega
theorem GQ (z:Int) (h:Bg z):CallC Tryz.prog 28 [tZ z] ⟨[],tZ (-z)⟩:=by
 have ht:=jz (!decide (z<0)) (aL z.natAbs) (aU _) h.len;rw[aN,Mb]at ht;refine aS Tryz.func28 rfl Tryz.ntmps28 (aT (k:=bN [⟨5,_,_,_,ht⟩] (k:=aV @Tryz.results28)))
theorem KG (z:Int) (h:Bg z):CallC Tryz.prog 111 [tZ z] ⟨[],tZ z.natAbs⟩:=by
 have ht:=jz false (aL z.natAbs) (aU _) h.len;rw[aN,show gD false z.natAbs=z.natAbs from rfl]at ht;refine aS Tryz.func111 rfl Tryz.ntmps111 (aT (k:=bN [⟨2,_,_,_,ht⟩] (k:=aV @Tryz.results111)))
theorem Mi (z:Int) (h:Bg z):CallC Tryz.prog 61 [tZ z] ⟨[],tZ z⟩:=by
 have ht:=jz (decide (z<0)) (aL z.natAbs) (aU _) h.len;rw[aN,z7]at ht;refine aS Tryz.func61 rfl Tryz.ntmps61 (aT (k:=bN [⟨4,_,_,_,ht⟩] (k:=aV @Tryz.results61)))
theorem AN (neg:Bool) (u:Nat) (hu:u<18446744073709551616):CallC Tryz.prog 22 [.raw (.bool neg),.raw (.int .u64 u)] ⟨[],tZ (gD neg u)⟩:=by
 have ht:=jz neg [u%4294967296,u/4294967296] (by intro a ha;simp at ha;omega) (by simp);rw[yL]at ht;have e1:IntKind.u32.wrap (u:Int)=((u%4294967296:Nat):Int):=by rw[IntKind.wrap_u32];omega
 have e2:IntKind.u32.wrap ((u:Int).fdiv (2^(min (32:Int).toNat IntKind.u64.bits)))=((u/4294967296:Nat):Int):=by
  rw[IntKind.wrap_u32];show(Int.fdiv (u:Int) 4294967296)%4294967296=_;rw[Int.fdiv_eq_ediv_of_nonneg _ (by omega)];omega
 simp only[am]at e2;refine aS Tryz.func22 rfl Tryz.ntmps22 (aT (k:=dr [⟨7,_,_,_,ht⟩] (aP @GI (aP e1 e2)) (k:=aV @Tryz.results22)))
theorem eA (n:Int) (h1: -9223372036854775808<=n) (h2:n<=9223372036854775807):CallC Tryz.prog 7 [.raw (.int .i64 n)] ⟨[],tZ n⟩:=by
 by_cases hn:n<0
 ·have ht:=AN true n.natAbs (by omega);have e1:IntKind.u64.wrap (0-IntKind.u64.wrap n)=((n.natAbs:Nat):Int):=by rw[IntKind.wrap_u64,IntKind.wrap_u64];omega
  rw[show gD true n.natAbs=n by unfold gD;simp;omega]at ht;refine aS Tryz.func7 rfl Tryz.ntmps7 (aT (k:=aF (aK (k:=aR rfl (dr [⟨3,_,_,_,ht⟩] e1 (k:=aV @Tryz.results7))))))
 have ht:=AN false n.natAbs (by omega);have e1:IntKind.u64.wrap n=((n.natAbs:Nat):Int):=by rw[IntKind.wrap_u64];omega
 rw[show gD false n.natAbs=n by unfold gD;simp;omega]at ht;refine aS Tryz.func7 rfl Tryz.ntmps7 (aT (k:=aF (aK (k:=aJ rfl (aH (dr [⟨2,_,_,_,ht⟩] e1 (k:=aV @Tryz.results7)))))))
theorem kt (z:Int) (h:Bg z):CallC Tryz.prog 25 [tZ z] ⟨[],.raw (.int .i64 (sg z))⟩:=by
 have ht:=iU (aL z.natAbs) h.len;rw[iG]at ht;have hl:=gh (n:=z.natAbs);rcases Int.lt_trichotomy z 0 with hz|hz|hz
 ·have e:sg z= -1:=by simp[sg,hz]
  have hl':(aL z.natAbs).length≠0:=by omega
  rw[e];refine aS Tryz.func25 rfl Tryz.ntmps25 (aT (k:=aF (aG (bN [⟨2,_,_,_,ht⟩] (k:=aJ rfl (bC (k:=aR rfl (bC (k:=aV @Tryz.results25)))))))))
 ·subst hz;rw[show sg 0=0 from rfl];rw[Int.natAbs_zero,cx]at ht;rw[show tZ 0= .agg [.p (.raw (.bool false)),.p (.sl (ls fU []))]from by simp[tZ,cx]];refine aS Tryz.func25 rfl Tryz.ntmps25 (aT (k:=aF (aG (bN [⟨2,_,_,_,ht⟩] (k:=aR rfl (bC (k:=aV @Tryz.results25)))))))
 have e:sg z=1:=by unfold sg;rw[if_neg (by omega),if_neg (by omega)]
 have hl':(aL z.natAbs).length≠0:=by omega
 rw[e];refine aS Tryz.func25 rfl Tryz.ntmps25 (aT (k:=aF (aG (bN [⟨2,_,_,_,ht⟩] (k:=aJ rfl (bC (k:=aJ rfl (aH (bC (k:=aV @Tryz.results25))))))))))
theorem F6 (l m:List Nat) (ll:Lmb l) (lm:Lmb m) (cl:pu l) (cm:pu m) (bl:l.length<=1073741824) (bm:m.length<=1073741824):
  CallC Tryz.prog 30 [dw l,dw m] ⟨[],.raw (.int .i64 (gF (natV l) (natV m)))⟩:=by
 rcases Nat.lt_trichotomy l.length m.length with hlt|heq|hgt
 ·rw[oE (jo ll cm hlt)];refine aS Tryz.func30 rfl Tryz.ntmps30 (aT (k:=aF (aK (k:=aR rfl (aF (aK (k:=aR rfl (bC (k:=aV @Tryz.results30)))))))))
 ·refine aS Tryz.func30 rfl Tryz.ntmps30 (aT (k:=aF (aK (k:=aJ rfl (aH (aF (aK (k:=?_))))))));refine aO (G:={k:Nat//k<=l.length/\l.drop k=m.drop k}) (fun k=>⟨(dw l::dw m::jk::jk::.raw (.int .i64 0)::.raw (.int .i64 ((k.1:Int)-1))::j16 (j16 (jk::jk::jk::[]))),Hm []⟩) (fun k=>k.1) ⟨l.length,ac _,by rw[List.drop_length,heq,List.drop_length]⟩ ?_ ?_
  ·refine aE trivial ?_;simp[wk]
  rintro⟨k,hk,hd⟩;simp only;by_cases h0:0<k
  ·obtain⟨a,ha⟩:=getElem?_of_lt (l:=l) (k:=k-1) (by omega);obtain⟨b,hb⟩:=getElem?_of_lt (l:=m) (k:=k-1) (by omega);have e1:((k:Int)-1).toNat=k-1:=by omega
   have hd':l.drop (k-1+1)=m.drop (k-1+1):=by rw[show k-1+1=k by omega];exact hd
   refine aF (aK (k:=aR rfl (aH (aF (aG (iN (aP e1 (aP ha hb)) (k:=?_)))))));rcases Nat.lt_trichotomy a b with hab|hab|hab
   ·rw[oE (mA ll ha hb hd' hab)];refine bV rfl (fun _=>?_) (fun h=>by simp at h<;>omega);refine aF (iN (aP e1 (aP ha hb)) (k:=aR rfl (bC (k:=aV @Tryz.results30))))
   ·subst hab;refine bV rfl (fun h=>by simp at h<;>omega) (fun _=>aH ?_);show bL _ _ _ _;refine bW (k:=?_);refine⟨⟨k-1,by omega,xW ha hb hd'⟩,by simp only;omega,aE trivial ?_⟩;have e2:((k-1:Nat):Int)=(k:Int)-1:=by omega
    simp[wk,e2]
   rw[tX (mA lm hb ha hd'.symm hab)];refine bV rfl (fun _=>?_) (fun h=>by simp at h<;>omega);refine aF (iN (aP e1 (aP ha hb)) (k:=aJ rfl (aH (bC (k:=aV @Tryz.results30)))))
  have hk0:k=0:=by omega
  subst hk0;have hlm:l=m:=by simpa using hd
  rw[show gF (natV l) (natV m)=0 by rw[hlm];simp[gF]];refine aF (aK (k:=aJ rfl (bz (bC (k:=aV @Tryz.results30)))))
 rw[tX (jo lm cl hgt)];refine aS Tryz.func30 rfl Tryz.ntmps30 (aT (k:=aF (aK (k:=aR rfl (aF (aK (k:=aJ rfl (aH (bC (k:=aV @Tryz.results30))))))))))
def mX (a b:Int):Int:=if a<b then -1 else if a=b then 0 else 1
theorem rt (z:Int): -1<=sg z/\sg z<=1:=by unfold sg;split<;>(try split)<;>omega
theorem vi (a b:Nat): -1<=gF a b/\gF a b<=1:=by unfold gF;split<;>(try split)<;>omega
theorem F5 {a b:Int} (h:sg a≠sg b):mX a b=if sg a<sg b then -1 else 1:=by
 unfold sg mX at*
 (repeat' split at*)<;>omega
theorem F4 {a b:Int} (h:sg a=sg b):mX a b=sg a*gF a.natAbs b.natAbs:=by
 unfold sg mX gF at*
 (repeat' split at*)<;>omega
theorem xu (a b:Int) (ha:Bg a) (hb:Bg b):CallC Tryz.prog 11 [tZ a,tZ b] ⟨[],.raw (.int .i64 (mX a b))⟩:=by
 have h1:=kt a ha;have h2:=kt b hb;have t1:=iU (aL a.natAbs) ha.len;have t2:=iU (aL b.natAbs) hb.len;rw[iG]at t1 t2;have h3:=F6 (aL a.natAbs) (aL b.natAbs) (aU _) (aU _) (cn _) (cn _) ha.len hb.len;rw[aN,aN]at h3;have r1:=rt a;have r2:=rt b;have r3:=vi a.natAbs b.natAbs;have r4: -1<=sg a*gF a.natAbs b.natAbs/\sg a*gF a.natAbs b.natAbs<=1:=by
  have:sg a= -1\/sg a=0\/sg a=1:=by omega
  rcases this with h|h|h<;>rw[h]<;>omega
 by_cases hs:sg a=sg b
 ·rw[F4 hs];refine aS Tryz.func11 rfl Tryz.ntmps11 (aT (k:=df [⟨1,_,_,_,h1⟩,⟨3,_,_,_,h2⟩] (k:=aF (aK (k:=aJ rfl (aH (df [⟨3,_,_,_,t1⟩,⟨6,_,_,_,t2⟩,⟨7,_,_,_,h3⟩] (k:=aV @Tryz.results11))))))))
 rw[F5 hs];refine aS Tryz.func11 rfl Tryz.ntmps11 (aT (k:=df [⟨1,_,_,_,h1⟩,⟨3,_,_,_,h2⟩] (k:=aF (aK (k:=aR rfl (aF (bC (k:=?_))))))));by_cases hlt:sg a<sg b
 ·rw[if_pos hlt];refine bV rfl (fun _=>?_) (fun h=>by simp at h<;>omega);refine aK (k:=aV @Tryz.results11)
 rw[if_neg hlt];refine bV rfl (fun h=>by simp at h<;>omega) (fun _=>aH ?_);show bL _ _ _ _;refine aK (k:=aV @Tryz.results11)
def sumL:List Nat->List Nat->Nat->List Nat
 |[],[],c=>[c]
 |a::m,[],c=>(c+a)%4294967296::sumL m [] ((c+a)/4294967296)
 |[],b::n,c=>(c+b)%4294967296::sumL [] n ((c+b)/4294967296)
 |a::m,b::n,c=>(c+a+b)%4294967296::sumL m n ((c+a+b)/4294967296)
theorem lQ: ∀(m n:List Nat) (c:Nat),natV (sumL m n c)=natV m+natV n+c
 |[],[],c=>by simp[sumL,natV]
 |a::m,[],c=>by simp only[sumL,natV,lQ m []];omega
 |[],b::n,c=>by simp only[sumL,natV,lQ [] n];omega
 |a::m,b::n,c=>by simp only[sumL,natV,lQ m n];omega
theorem dP {a:Nat} {l:List Nat}:Lmb (a::l)↔a<4294967296/\Lmb l:=by simp[Lmb]
theorem nK: ∀(m n:List Nat) (c:Nat),Lmb m->Lmb n->c<=1->Lmb (sumL m n c)
 |[],[],c,_,_,hc=>by simp[sumL,Lmb];omega
 |a::m,[],c,hm,hn,hc=>by
  rw[dP]at hm;rw[sumL,dP];exact⟨Nat.mod_lt _ (by omega),nK m [] _ hm.2 hn (by omega)⟩
 |[],b::n,c,hm,hn,hc=>by
  rw[dP]at hn;rw[sumL,dP];exact⟨Nat.mod_lt _ (by omega),nK [] n _ hm hn.2 (by omega)⟩
 |a::m,b::n,c,hm,hn,hc=>by
  rw[dP]at hm hn;rw[sumL,dP];exact⟨Nat.mod_lt _ (by omega),nK m n _ hm.2 hn.2 (by omega)⟩
theorem oh: ∀(m n:List Nat) (c:Nat),(sumL m n c).length=max m.length n.length+1
 |[],[],c=>by simp[sumL]
 |a::m,[],c=>by simp[sumL,oh m []]
 |[],b::n,c=>by simp[sumL,oh [] n]
 |a::m,b::n,c=>by simp[sumL,oh m n]
theorem eo {l:List Nat} {i a:Nat} (h:l[i]?=some a):l.drop i=a::l.drop (i+1):=by
 obtain⟨h1,rfl⟩:=List.getElem?_eq_some_iff.1 h;exact List.drop_eq_getElem_cons h1
theorem dO {l:List Nat} {i:Nat} (h:l.length<=i):l.drop i=[]:=List.drop_eq_nil_iff.2 h
theorem cq {l:List Nat} {i a:Nat} (hl:Lmb l) (h:l[i]?=some a):a<4294967296:=hl a (aw h)
theorem tI (x:Nat):IntKind.u32.wrap (x:Int)=((x%4294967296:Nat):Int):=by rw[IntKind.wrap_u32];omega
theorem Kc (x:Nat):(x:Int).fdiv (2^(min 32 IntKind.u64.bits))=((x/4294967296:Nat):Int):=by
 show Int.fdiv (x:Int) 4294967296=_;rw[Int.fdiv_eq_ediv_of_nonneg _ (by omega)];omega
structure VG (m n:List Nat) where
 i:Nat
 o:List Nat
 c:Nat
 hi:i<=max m.length n.length
 hc:c<=1
 ho:o.length=i
 h:o++sumL (m.drop i) (n.drop i) c=sumL m n 0
theorem U4 (m n:List Nat) (lm:Lmb m) (ln:Lmb n) (bm:m.length<=1073741824) (bn:n.length<=1073741824):
  CallC Tryz.prog 96 [dw m,dw n] ⟨[],dw (sumL m n 0)⟩:=by
 refine aS Tryz.func96 rfl Tryz.ntmps96 (aT (k:=bC (k:=bC (k:=aF (bC (k:=?_))))));refine aO (G:=VG m n) (fun g=>⟨(dw m::dw n::jk::jk::.raw (.slice none 0 0)::.one (.sl 46 0 0 g.o.length)::.raw (.int .u64 (g.c:Int))::rN g.i::j16 (j16 (j4 (j4 (j4 (jk::jk::[])))))),Hm [(46,[⟨56,1,lc fU g.o⟩])]⟩) (fun g=>max m.length n.length-g.i) ⟨0,[],0,by omega,by omega,rfl,rfl⟩ ?_ ?_
 ·refine(dx (k:=5) (d:=46) 56 1 (by omega) rfl rfl).trans (aE ⟨rfl,trivial⟩ ?_);simp[wk]
 rintro⟨i,o,c,hi,hc,ho,h⟩;simp only;have hmx:max m.length n.length<=1073741824:=by omega
 by_cases hm:i<m.length
 ·obtain⟨a,ha⟩:=getElem?_of_lt hm;have ha':=cq lm ha;refine aF (aK (k:=aR rfl (aH (aF (aG (aF (aK (k:=aR rfl (fc ha (k:=aF (bC (k:=?_))))))))))));by_cases hn:i<n.length
  ·obtain⟨b,hb⟩:=getElem?_of_lt hn;have hb':=cq ln hb;refine bV rfl (fun _=>?_) (fun h=>by simp at h<;>omega);refine fc hb (k:=?_);show bL _ _ _ _;have e1:IntKind.u32.wrap ((c:Int)+(a:Int)+(b:Int))=(((c+a+b)%4294967296:Nat):Int):=by rw[<- tI];congr 1<;>omega
   have e2:Int.fdiv ((c:Int)+(a:Int)+(b:Int)) (2^(min 32 IntKind.u64.bits))=(((c+a+b)/4294967296:Nat):Int):=by rw[<- Kc];congr 1<;>omega
   refine aX (aP e1 @jg) (k:=gV e2 (k:=bW (k:=?_)));refine⟨⟨i+1,o++[(c+a+b)%4294967296],(c+a+b)/4294967296,by omega,by omega,by simp[ho],?_⟩,by simp only;omega,aE ⟨rfl,trivial⟩ ?_⟩
   ·rw[<- h,eo ha,eo hb,sumL,List.append_assoc];rfl
   simp[wk]
  refine bV rfl (fun h=>by simp at h<;>omega) (fun _=>aH ?_);show bL _ _ _ _;have e1:IntKind.u32.wrap ((c:Int)+(a:Int))=(((c+a)%4294967296:Nat):Int):=by rw[<- tI];congr 1<;>omega
  have e2:Int.fdiv ((c:Int)+(a:Int)) (2^(min 32 IntKind.u64.bits))=(((c+a)/4294967296:Nat):Int):=by rw[<- Kc];congr 1<;>omega
  refine aX (aP e1 @jg) (k:=gV e2 (k:=bW (k:=?_)));refine⟨⟨i+1,o++[(c+a)%4294967296],(c+a)/4294967296,by omega,by omega,by simp[ho],?_⟩,by simp only;omega,aE ⟨rfl,trivial⟩ ?_⟩
  ·rw[<- h,eo ha,dO (by omega:n.length<=i),dO (by omega:n.length<=i+1),sumL,List.append_assoc];rfl
  simp[wk]
 by_cases hn:i<n.length
 ·obtain⟨b,hb⟩:=getElem?_of_lt hn;have hb':=cq ln hb;refine aF (aK (k:=aR rfl (aH (aF (aG (aF (aK (k:=aJ rfl (aH (aF (aK (k:=aR rfl (fc hb (k:=?_))))))))))))));show bL _ _ _ _;have e1:IntKind.u32.wrap ((c:Int)+(b:Int))=(((c+b)%4294967296:Nat):Int):=by rw[<- tI];congr 1<;>omega
  have e2:Int.fdiv ((c:Int)+(b:Int)) (2^(min 32 IntKind.u64.bits))=(((c+b)/4294967296:Nat):Int):=by rw[<- Kc];congr 1<;>omega
  refine aX (aP e1 @jg) (k:=gV e2 (k:=bW (k:=?_)));refine⟨⟨i+1,o++[(c+b)%4294967296],(c+b)/4294967296,by omega,by omega,by simp[ho],?_⟩,by simp only;omega,aE ⟨rfl,trivial⟩ ?_⟩
  ·rw[<- h,eo hb,dO (by omega:m.length<=i),dO (by omega:m.length<=i+1),sumL,List.append_assoc];rfl
  simp[wk]
 refine aF (aK (k:=aJ rfl (bz ?_)));show bL _ _ _ _;have e1:IntKind.u32.wrap (c:Int)=(c:Int):=by rw[tI];omega
 refine aX (aP e1 @jg) (k:=?_);have hfin:sumL m n 0=o++[c]:=by rw[<- h,dO (by omega:m.length<=i),dO (by omega:n.length<=i),sumL]
 (refine bA ⟨.inr rfl,fo 46 (bQ rfl) ?_ rfl⟩;simp(disch:=omega) only[kd,Tryz.results96,dw])
 simp only[hfin];rw[List.take_of_length_le (by simp)]
def diffL:List Nat->List Nat->Nat->List Nat
 |[],_,_=>[]
 |a::m,[],w=>(a+8589934592-w)%4294967296::diffL m [] (if a<w then 1 else 0)
 |a::m,b::n,w=>(a+8589934592-(w+b))%4294967296::diffL m n (if a<w+b then 1 else 0)
theorem iQ: ∀(m n:List Nat) (w:Nat),Lmb m->Lmb n->w<=1->n.length<=m.length->natV n+w<=natV m->natV (diffL m n w)+(natV n+w)=natV m
 |[],[],w,_,_,_,_,h=>by simp[diffL,natV]at*;omega
 |[],b::n,w,_,_,_,h,_=>by simp at h
 |a::m,[],w,hm,hn,hw,hl,h=>by
  rw[dP]at hm;simp only[natV]at h;have:=iQ m [] (if a<w then 1 else 0) hm.2 hn (by split<;>omega) (by simp) (by simp only[natV];split<;>omega);simp only[diffL,natV]at this⊢;split at this<;>rename_i hlt<;>simp only[hlt,if_true,if_false]<;>omega
 |a::m,b::n,w,hm,hn,hw,hl,h=>by
  rw[dP]at hm hn;simp only[natV]at h;have:=iQ m n (if a<w+b then 1 else 0) hm.2 hn.2 (by split<;>omega) (by simpa using hl) (by split<;>omega);simp only[diffL,natV]at this⊢;split at this<;>rename_i hlt<;>simp only[hlt,if_true,if_false]<;>omega
theorem jS: ∀(m n:List Nat) (w:Nat),Lmb (diffL m n w)
 |[],n,w=>by simp[diffL,Lmb]
 |a::m,[],w=>by rw[diffL,dP];exact⟨Nat.mod_lt _ (by omega),jS m [] _⟩
 |a::m,b::n,w=>by rw[diffL,dP];exact⟨Nat.mod_lt _ (by omega),jS m n _⟩
theorem jQ: ∀(m n:List Nat) (w:Nat),(diffL m n w).length=m.length
 |[],n,w=>by simp[diffL]
 |a::m,[],w=>by simp[diffL,jQ m []]
 |a::m,b::n,w=>by simp[diffL,jQ m n]
structure Uo (m n:List Nat) where
 i:Nat
 o:List Nat
 c:Nat
 hi:i<=m.length
 hc:c<=1
 ho:o.length=i
 h:o++diffL (m.drop i) (n.drop i) c=diffL m n 0
theorem mp (m n:List Nat) (lm:Lmb m) (ln:Lmb n) (bm:m.length<=1073741824) (bn:n.length<=1073741824):
  CallC Tryz.prog 97 [dw m,dw n] ⟨[],dw (diffL m n 0)⟩:=by
 refine aS Tryz.func97 rfl Tryz.ntmps97 (aT (k:=bC (k:=bC (k:=aF (bC (k:=?_))))));refine aO (G:=Uo m n) (fun g=>⟨(dw m::dw n::jk::jk::.raw (.slice none 0 0)::.one (.sl 37 0 0 g.o.length)::.raw (.int .u64 (g.c:Int))::rN g.i::j16 (j16 (j4 (jk::jk::[])))),Hm [(37,[⟨56,1,lc fU g.o⟩])]⟩) (fun g=>m.length-g.i) ⟨0,[],0,by omega,by omega,rfl,rfl⟩ ?_ ?_
 ·refine(dx (k:=5) (d:=37) 56 1 (by omega) rfl rfl).trans (aE ⟨rfl,trivial⟩ ?_);simp[wk]
 rintro⟨i,o,c,hi,hc,ho,h⟩;simp only;by_cases hm:i<m.length
 ·obtain⟨a,ha⟩:=getElem?_of_lt hm;have ha':=cq lm ha;refine aF (aK (k:=aR rfl (aH (aF (aG (bC (k:=aF (bC (k:=?_)))))))));by_cases hn:i<n.length
  ·obtain⟨b,hb⟩:=getElem?_of_lt hn;have hb':=cq ln hb;refine bV rfl (fun _=>?_) (fun h=>by simp at h<;>omega);refine fc hb (k:=?_);show bL _ _ _ _;have e1:IntKind.u32.wrap (IntKind.u64.wrap ((a:Int)-((c:Int)+(b:Int))))=(((a+8589934592-(c+b))%4294967296:Nat):Int):=by rw[IntKind.wrap_u32,IntKind.wrap_u64];omega
   refine aX (aP ha (aP e1 @jg)) (k:=bC (k:=aX ha (k:=?_)));by_cases hlt:a<c+b
   ·refine bV rfl (fun _=>?_) (fun h=>by simp at h<;>omega);refine bW (k:=bW (k:=?_));refine⟨⟨i+1,o++[(a+8589934592-(c+b))%4294967296],1,by omega,by omega,by simp[ho],?_⟩,by simp only;omega,aE ⟨rfl,trivial⟩ ?_⟩
    ·rw[<- h,eo ha,eo hb,diffL,List.append_assoc,if_pos hlt];rfl
    simp[wk]
   refine bV rfl (fun h=>by simp at h<;>omega) (fun _=>aH ?_);show bL _ _ _ _;refine bW (k:=?_);refine⟨⟨i+1,o++[(a+8589934592-(c+b))%4294967296],0,by omega,by omega,by simp[ho],?_⟩,by simp only;omega,aE ⟨rfl,trivial⟩ ?_⟩
   ·rw[<- h,eo ha,eo hb,diffL,List.append_assoc,if_neg hlt];rfl
   simp[wk]
  refine bV rfl (fun h=>by simp at h<;>omega) (fun _=>aH ?_);show bL _ _ _ _;have e1:IntKind.u32.wrap (IntKind.u64.wrap ((a:Int)-(c:Int)))=(((a+8589934592-c)%4294967296:Nat):Int):=by rw[IntKind.wrap_u32,IntKind.wrap_u64];omega
  refine aX (aP ha (aP e1 @jg)) (k:=bC (k:=aX ha (k:=?_)));by_cases hlt:a<c
  ·refine bV rfl (fun _=>?_) (fun h=>by simp at h<;>omega);refine bW (k:=bW (k:=?_));refine⟨⟨i+1,o++[(a+8589934592-c)%4294967296],1,by omega,by omega,by simp[ho],?_⟩,by simp only;omega,aE ⟨rfl,trivial⟩ ?_⟩
   ·rw[<- h,eo ha,dO (by omega:n.length<=i),dO (by omega:n.length<=i+1),diffL,List.append_assoc,if_pos hlt];rfl
   simp[wk]
  refine bV rfl (fun h=>by simp at h<;>omega) (fun _=>aH ?_);show bL _ _ _ _;refine bW (k:=?_);refine⟨⟨i+1,o++[(a+8589934592-c)%4294967296],0,by omega,by omega,by simp[ho],?_⟩,by simp only;omega,aE ⟨rfl,trivial⟩ ?_⟩
  ·rw[<- h,eo ha,dO (by omega:n.length<=i),dO (by omega:n.length<=i+1),diffL,List.append_assoc,if_neg hlt];rfl
  simp[wk]
 refine aF (aK (k:=aJ rfl (bz (bC (k:=?_)))));have hfin:diffL m n 0=o:=by rw[<- h,dO (by omega:m.length<=i),diffL];simp
 (refine bA ⟨.inr rfl,fo 37 (bQ rfl) ?_ rfl⟩;simp(disch:=omega) only[kd,Tryz.results97,dw])
 simp only[hfin];rw[List.take_of_length_le (by simp)]
abbrev Bh (z:Int):Prop:=Sz z 536870912
theorem Bh.bg {z:Int} (h:Bh z):Bg z:=h.mono (by omega)
theorem Bh.len {z:Int} (h:Bh z):(aL z.natAbs).length<=536870912:=jR h
theorem Sz.neg {z:Int} {k:Nat} (h:Sz z k):Sz (-z) k:=by unfold Sz;rw[Int.natAbs_neg];exact h
theorem Bh.neg {z:Int} (h:Bh z):Bh (-z):=Sz.neg h
theorem KK {a b:Int} (h:decide (a<0)=decide (b<0)):gD (decide (a<0)) (a.natAbs+b.natAbs)=a+b:=by
 unfold gD;by_cases ha:a<0<;>by_cases hb:b<0<;>simp[ha,hb]at h⊢ <;>omega
theorem Bo {a b:Int} (h:decide (a<0)≠decide (b<0)) (hle:b.natAbs<=a.natAbs) {d:Nat} (hd:d+(b.natAbs+0)=a.natAbs):gD (decide (a<0)) d=a+b:=by
 unfold gD;by_cases ha:a<0<;>by_cases hb:b<0<;>simp[ha,hb]at h⊢ <;>omega
theorem jm {l m:List Nat} (hl:Lmb l) (cm:pu m) (h:natV m<=natV l):m.length<=l.length:=by
 by_cases hc:m.length<=l.length
 ·exact hc
 have:=jo hl cm (by omega);omega
theorem qj (a b:Int) (ha:Bh a) (hb:Bh b):CallC Tryz.prog 63 [tZ a,tZ b] ⟨[],tZ (a+b)⟩:=by
 have la:=ha.len;have lb:=hb.len;have t1:=iU (aL a.natAbs) ha.bg.len;have t2:=iU (aL b.natAbs) hb.bg.len;rw[iG]at t1 t2;by_cases hs:decide (a<0)=decide (b<0)
 ·have h3:=U4 (aL a.natAbs) (aL b.natAbs) (aU _) (aU _) (by omega) (by omega);have h4:=jz (decide (a<0)) (sumL (aL a.natAbs) (aL b.natAbs) 0) (nK _ _ _ (aU _) (aU _) (by omega)) (by rw[oh];omega);rw[lQ,aN,aN,Nat.add_zero,KK hs]at h4;have hs':(decide (a<0)==decide (b<0))=true:=by simp[hs]
  refine aS Tryz.func63 rfl Tryz.ntmps63 (aT (k:=df [⟨2,_,_,_,t1⟩,⟨5,_,_,_,t2⟩] (k:=aF (aX hs' (k:=aR rfl (df [⟨4,_,_,_,h3⟩,⟨5,_,_,_,h4⟩] (k:=aV @Tryz.results63)))))))
 have hs':(decide (a<0)==decide (b<0))=false:=by simpa using hs
 have h3:=F6 (aL a.natAbs) (aL b.natAbs) (aU _) (aU _) (cn _) (cn _) (by omega) (by omega);rw[aN,aN]at h3;by_cases hle:b.natAbs<=a.natAbs
 ·have hge:0<=gF a.natAbs b.natAbs:=by unfold gF;split<;>(try split)<;>omega
  have h4:=mp (aL a.natAbs) (aL b.natAbs) (aU _) (aU _) (by omega) (by omega);have h5:=jz (decide (a<0)) (diffL (aL a.natAbs) (aL b.natAbs) 0) (jS _ _ _) (by rw[jQ];omega);have hd:=iQ (aL a.natAbs) (aL b.natAbs) 0 (aU _) (aU _) (by omega) (jm (aU _) (cn _) (by rw[aN,aN];exact hle)) (by rw[aN,aN];exact hle);rw[aN,aN]at hd;rw[Bo hs hle hd]at h5;refine aS Tryz.func63 rfl Tryz.ntmps63 (aT (k:=df [⟨2,_,_,_,t1⟩,⟨5,_,_,_,t2⟩] (k:=aF (aX hs' (k:=aJ rfl (aH (aF (bN [⟨2,_,_,_,h3⟩] (k:=aR rfl (df [⟨4,_,_,_,h4⟩,⟨5,_,_,_,h5⟩] (k:=aV @Tryz.results63)))))))))))
 have hge:gF a.natAbs b.natAbs<0:=by unfold gF;split<;>(try split)<;>omega
 have h4:=mp (aL b.natAbs) (aL a.natAbs) (aU _) (aU _) (by omega) (by omega);have h5:=jz (decide (b<0)) (diffL (aL b.natAbs) (aL a.natAbs) 0) (jS _ _ _) (by rw[jQ];omega);have hd:=iQ (aL b.natAbs) (aL a.natAbs) 0 (aU _) (aU _) (by omega) (jm (aU _) (cn _) (by rw[aN,aN];omega)) (by rw[aN,aN];omega);rw[aN,aN]at hd;rw[Bo (fun h=>hs h.symm) (by omega) hd,Int.add_comm]at h5;refine aS Tryz.func63 rfl Tryz.ntmps63 (aT (k:=df [⟨2,_,_,_,t1⟩,⟨5,_,_,_,t2⟩] (k:=aF (aX hs' (k:=aJ rfl (aH (aF (bN [⟨2,_,_,_,h3⟩] (k:=aJ rfl (aH (df [⟨4,_,_,_,h4⟩,⟨5,_,_,_,h5⟩] (k:=aV @Tryz.results63))))))))))))
theorem xv (a b:Int) (ha:Bh a) (hb:Bh b):CallC Tryz.prog 27 [tZ a,tZ b] ⟨[],tZ (a-b)⟩:=by
 have h1:=GQ b hb.bg;have h2:=qj a (-b) ha hb.neg;rw[<- Int.sub_eq_add_neg]at h2;refine aS Tryz.func27 rfl Tryz.ntmps27 (aT (k:=df [⟨2,_,_,_,h1⟩,⟨3,_,_,_,h2⟩] (k:=aV @Tryz.results27)))
end Go.Proofs.YtiollbhgpiiodaaGreatDoor
