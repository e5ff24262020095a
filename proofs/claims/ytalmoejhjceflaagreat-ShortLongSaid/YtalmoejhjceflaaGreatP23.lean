/-
  Part 24 of a proof (walks and plain facts).
-/
import Derived.Test.YtalmoejhjceflaaGreatP22
set_option linter.all false
set_option maxRecDepth 100000
set_option maxHeartbeats 64000000
open Nat renaming reduceAdd → aa
namespace Go.Proofs.YtalmoejhjceflaaGreat
open Go.RowKit
theorem IJ (nm:List Int->Int) (m:Int): ∀(l:List (List Int)) (g:MapS),(gF nm g l).2 m=g.2 m+((l.filter fun z=>decide (nm z=m)).length:Int)
 |[],g=>by simp[gF]
 |z::l,g=>by
  have:=IJ nm m l (lT g (nm z) (g.2 (nm z)+1));rw[show gF nm g (z::l)=gF nm (lT g (nm z) (g.2 (nm z)+1)) l from rfl,this];show(if m=nm z then g.2 (nm z)+1 else g.2 m)+_=_;by_cases e:nm z=m
  ·rw[if_pos e.symm,List.filter_cons_of_pos (by simp[e]),e,List.length_cons];omega
  rw[if_neg (fun h=>e h.symm),List.filter_cons_of_neg (by simp[e])]
theorem zg {α β:Type} (g:α->β): ∀l:List α,(l.flatMap fun x=>[g x])=l.map g
 |[]=>rfl
 |x::l=>by rw[List.flatMap_cons,zg g l];rfl
theorem Lg (N:Nat) {F:Nat->Int} (h: ∀i,i<N->F i=0):be N F=List.replicate N 0:=List.ext_getElem? fun i=>by
 by_cases hi:i<N
 ·rw[aZ _ hi,List.getElem?_replicate,if_pos hi,h i hi]
 rw[List.getElem?_eq_none (by rw[aW];omega),List.getElem?_eq_none (by rw[List.length_replicate];omega)]
def mP (c:Int) (l:List Int) (m:Nat):Int:=((l.filter fun y=>decide (c*y*y=(m:Int))).length:Int)
theorem BD (c:Int) (l l':List Int) (m:Nat):mP c (l++l') m=mP c l m+mP c l' m:=by
 unfold mP;rw[List.filter_append,List.length_append];omega
theorem Pk (c y:Int) (m:Nat):mP c [y] m=if c*y*y=(m:Int)then 1 else 0:=by
 unfold mP;by_cases e:c*y*y=(m:Int)<;>simp[e]
theorem DB {c:Int} {l:List Int} {m:Nat} (h: ∀y∈l,c*y*y≠(m:Int)):mP c l m=0:=by
 unfold mP;rw[List.filter_eq_nil_iff.2 fun y hy=>by simpa using h y hy];rfl
theorem PQ: ∀m:Fin 40,isReducedM [[1+(m.val:Int)]]=true:=by decide+kernel
theorem RG {c:Int} (h1:1<=c) (h2:c<=40):Rf [[c]] 1 (ent [[c]]):=by
 have:=PQ ⟨(c-1).toNat,by omega⟩;rw[show(1:Int)+(((c-1).toNat:Nat):Int)=c by omega]at this;exact J5 this
theorem I9 (c:Int):dk (ent [[c]]) 1=c:=by
 show bk (ent [[c]]) 0 0 0=c;rw[cp];rfl
theorem PP {c r y:Int} (h1:1<=c) (hr:EG (1000/c) r) (hy:y<= -r-1\/r+1<=y):1000<c*y*y:=by
 obtain⟨r0,_,r2⟩:=hr;have h3:(r+1)*(r+1)<=y*y:=by
  rcases hy with hy|hy
  ·have:=Int.mul_le_mul (show r+1<= -y by omega) (show r+1<= -y by omega) (by omega) (by omega);rwa[Int.neg_mul_neg]at this
  exact Int.mul_le_mul hy hy (by omega) (by omega)
 have h4:1000/c+1<=y*y:=by omega
 have h5:=Int.lt_ediv_add_one_mul_self 1000 (show 0<c by omega);have h6:(1000/c+1)*c<=y*y*c:=Int.mul_le_mul_of_nonneg_right h4 (by omega);have e:c*y*y=y*y*c:=by grind
 omega
theorem RH {c:Int} (h1:1<=c) (h2:c<=40):Q5 (ent [[c]]) 1 1000=be 1001 (mP c (rng (-40) 40)):=by
 have hd:0<dk (ent [[c]]) 1:=by rw[I9];omega
 obtain⟨l1,l2⟩:=lX (f:=ent [[c]]) (B:=1000) hd (by omega);rw[I9]at l1 l2;have hr:=cz (Int.ediv_nonneg (show(0:Int)<=1000 by omega) (show 0<=c by omega));have hr40:isqF (1000/c)<=39:=by
  refine Int.le_of_not_gt fun hc=>?_
  have:=Int.mul_le_mul (show(40:Int)<=isqF (1000/c) by omega) (show(40:Int)<=isqF (1000/c) by omega) (by omega) (by omega);have:=Int.ediv_le_self c (show(0:Int)<=1000 by omega);have:=hr.2.1;omega
 have hr0:=hr.1;unfold Q5;refine dv fun m hm=>?_
 have e:fp (ent [[c]]) 1 ((1000:Nat):Int) 1 []=(rng (-isqF (1000/c)) (isqF (1000/c))).map fun x=>[x]:=by
  have l1':dB (ent [[c]]) 1 ((1000:Nat):Int) 0 (bj 1 [])= -isqF (1000/c):=l1;have l2':d6 (ent [[c]]) 1 ((1000:Nat):Int) 0 (bj 1 [])=isqF (1000/c):=l2;show(rng (dB _ 1 _ 0 _) (d6 _ 1 _ 0 _)).flatMap (fun x=>[[x]])=_;rw[l1',l2',zg]
 rw[e,IJ];have hnm: ∀x:Int,jc 1 (ent [[c]]) [x]=c*x*x:=fun x=>by
  show 0+(0+ent [[c]] 0 0*x*x)=_;have:ent [[c]] 0 0=c:=rfl;rw[this];omega
 generalize isqF (1000/c)=r at*
 have e2:rng (-40) 40=rng (-40) (-r-1)++(rng (-r) r++rng (r+1) 40):=by
  rw[ru (a:= -40) (b:=40) (c:= -r) (by omega) (by omega),ru (a:= -r) (b:=40) (c:=r+1) (by omega) (by omega)];rw[show r+1-1=r by omega]
 have hout: ∀y,(y<= -r-1\/r+1<=y)->c*y*y≠(m:Int):=fun y hy h=>by
  have:=PP h1 hr hy;omega
 rw[e2,BD,BD,DB fun y hy=>hout y (.inl (ju.1 hy).2),DB (l:=rng (r+1) 40) fun y hy=>hout y (.inr (ju.1 hy).1)];unfold mP;rw[List.filter_map,List.length_map];have e3:((fun z=>decide (jc 1 (ent [[c]]) z=(m:Int)))∘fun x=>[x])=fun y=>decide (c*y*y=(m:Int)):=by
  funext y;simp only[Function.comp,hnm]
 rw[e3];show 0+_=_;omega
structure ST where
 y:Int
 h1: -40<=y
 h2:y<=41
theorem Fy (b:Nat) (hb:b<=255):CallC Tryz.prog 5 [.raw (.int .u8 (b:Int))] ⟨[],.raw (.bool true)⟩:=by
 have cA:=EX;obtain⟨c,hc⟩: ∃c:Int,c=1+(b:Int).tmod 40:=⟨_,rfl⟩;have hm:(b:Int).tmod 40=(b:Int)%40:=Int.tmod_eq_emod_of_nonneg (by omega);have hc1:1<=c:=by omega
 have hc2:c<=40:=by omega
 have hrf:=RG hc1 hc2;have hd:0<dk (ent [[c]]) 1:=by rw[I9];omega
 have hto:(toL (ent [[c]]) 1 ((1000:Nat):Int) (1-1) []:Int)<=20000:=by
  obtain⟨l1,l2⟩:=lX (f:=ent [[c]]) (B:=((1000:Nat):Int)) hd (by omega);show((rng (dB _ 1 _ 0 _) (d6 _ 1 _ 0 _)).length:Int)<=20000;rw[l1,l2,pb];have h0:0<=((1000:Nat):Int)/dk (ent [[c]]) 1:=Int.ediv_nonneg (by omega) (by omega);have h3:=Int.ediv_le_self (dk (ent [[c]]) 1) (show(0:Int)<=((1000:Nat):Int) by omega);have hr:=cz h0;have:isqF (((1000:Nat):Int)/dk (ent [[c]]) 1)<=40:=by
   refine Int.le_of_not_gt fun hc=>?_
   have:=Int.mul_le_mul (show(41:Int)<=isqF (((1000:Nat):Int)/dk (ent [[c]]) 1) by omega) (show(41:Int)<=isqF (((1000:Nat):Int)/dk (ent [[c]]) 1) by omega) (by omega) (by omega);have:=hr.2.1;omega
  omega
 have cT0:=yp hrf 1000 (by omega) (k:=20000) (by omega) (by omega) hto;rw[RH hc1 hc2]at cT0;have cT:CallC Tryz.prog 19 [.one (.p (.sl [[.sl [[pI c]]]])),.raw (.int .i64 1000),.raw (.int .i64 20000)] ⟨[],.tup [(false,[.p (.sl (ls fI (be 1001 (mP c (rng (-40) 40)))))]),(false,[.p (pI 0)])]⟩:=cT0;clear cT0 hto hd hrf;have hTl:=aW 1001 (mP c (rng (-40) 40));have cC:=tG (be 1001 (mP c (rng (-40) 40))) (be 1001 (mP c (rng (-40) 40)));rw[fF]at cC;have hz:List.replicate 1001 [AV.p (.raw (.int .i64 0))]=lc fI (be 1001 (mP c (rng (-40) (-40-1)))):=by
  rw[Lg 1001 (F:=mP c (rng (-40) (-40-1))) fun i _=>by rw[fm (by omega)];rfl];exact Pv 1001
 generalize hTT:be 1001 (mP c (rng (-40) 40))=Th at*
 refine aK Tryz.func5 rfl (by kernel_rfl) ?_;rw[Tryz.ntmps5];refine aE fun _ K=>?_;simp only[kd,List.replicate];apply K
 refine aE fun _ K=>?_;simp(disch:=omega) only[kd,aa,aM];apply K
 refine aI [⟨3,_,_,_,cT⟩] [] fun _ K=>?_;simp(disch:=omega) only[kd,pI,aa,<- hc,Nat.reduceMul,Nat.reduceLeDiff];apply K
 refine aG (aE fun _ K=>?_);simp(disch:=omega) only[kd,aa,hTl];apply K;refine aU rfl (aR ?_);show bu _ _ _ _;refine aE fun _ K=>?_;simp(disch:=omega) only[kd,Int.reduceLE,Int.reduceToNat];apply K
 refine aG (aE fun _ K=>?_);simp only[kd];apply K;refine bH (G:=ST) (fun v=>⟨(jk::jk::jk::.raw (.int .i64 c)::iu Th::jk::.one (.sl 26 0 0 1001)::.raw (.int .i64 v.y)::j16 (j16 (j4 (j4 (j4 (jk::jk::[])))))),Hm [(26,[⟨2,1,lc fI (be 1001 (mP c (rng (-40) (v.y-1))))⟩])]⟩) (fun v=>(41-v.y).toNat) ⟨-40,by omega,by omega⟩ ?_ ?_
 ·refine aF ⟨?_,trivial⟩ ?_
  ·rw[<- hz];rfl
  simp[wk]
 rintro⟨y,hy1,hy2⟩;simp only;have hgl:=aW 1001 (mP c (rng (-40) (y-1)));by_cases hm:y<=40
 ·have b1: -1600<=c*y/\c*y<=1600:=by
   have:=Int.mul_le_mul_of_nonneg_left (show y<=40 by omega) (show 0<=c by omega);have:=Int.mul_le_mul_of_nonneg_left (show -40<=y by omega) (show 0<=c by omega);omega
  have b2:0<=c*y*y/\c*y*y<=64000:=by
   have h0:0<=y*y:=by
    rcases Int.le_total 0 y with h|h
    ·exact Int.mul_nonneg h h
    exact Int.mul_nonneg_of_nonpos_of_nonpos h h
   have h1:y*y<=1600:=by
    rcases Int.le_total 0 y with h|h
    ·exact Int.mul_le_mul hm hm h (by omega)
    have:=Int.mul_le_mul (show -y<=40 by omega) (show -y<=40 by omega) (by omega) (by omega);rwa[Int.neg_mul_neg]at this
   have e:c*y*y=c*(y*y):=Int.mul_assoc _ _ _;have:=Int.mul_nonneg (show 0<=c by omega) h0;have:=Int.mul_le_mul hc2 h1 h0 (by omega);omega
  have hrow:rng (-40) y=rng (-40) (y-1)++[y]:=by
   rw[ru (a:= -40) (b:=y) (c:=y) hy1 (by omega),fh (a:=y) (Int.le_refl _),fm (a:=y+1) (b:=y) (by omega)]
  have hnx: ∀m,mP c (rng (-40) (y+1-1)) m=mP c (rng (-40) (y-1)) m+if c*y*y=(m:Int)then 1 else 0:=fun m=>by
   rw[show y+1-1=y by omega,hrow,BD,Pk]
  have hcb: ∀m,0<=mP c (rng (-40) (y-1)) m/\mP c (rng (-40) (y-1)) m<=100:=fun m=>by
   unfold mP;have:=List.length_filter_le (fun y=>decide (c*y*y=(m:Int))) (rng (-40) (y-1));rw[pb]at this;omega
  generalize hcy:c*y=cy at*
  obtain⟨q,hq⟩: ∃q:Nat,cy*y=(q:Int):=⟨(cy*y).toNat,by omega⟩;rw[hq]at b2;refine aG (aE fun _ K=>?_);simp(disch:=omega) only[kd,iu];apply K;refine bo rfl (aR ?_);show bu _ _ _ _;refine aG (aP ?_);by_cases hq2:q<=1000
  ·have hqt:((q:Int)<=1000)=True:=eq_true (by omega);have hgi:=aZ (mP c (rng (-40) (y-1))) (show q<1001 by omega);have hqn:(q<1001)=True:=eq_true (by omega);have hcq:=hcb q;have hset:(lc fI (be 1001 (mP c (rng (-40) (y-1))))).set q [AV.p (.raw (.int .i64 (mP c (rng (-40) (y-1)) q+1)))]=lc fI (be 1001 (mP c (rng (-40) (y+1-1)))):=by
    rw[show[AV.p (.raw (.int .i64 (mP c (rng (-40) (y-1)) q+1)))]=(fI (mP c (rng (-40) (y-1)) q+1)).map AV.p from rfl,pT,ke];refine congrArg _ (dv fun j hj=>?_);rw[hnx,hq];by_cases h1:j=q
    ·subst h1;simp
    rw[if_neg h1,if_neg (by omega)];omega
   refine aE fun _ K=>?_;simp(disch:=omega) only[kd,aa,hcy,aM,hq,hqt];apply K
   refine bo rfl ?_;refine aO fun _ K=>?_;simp(disch:=omega) only[kd,aa,hcy,aM,hq,hqn,hgi,hset];apply K
   show bu _ _ _ _;refine aO fun _ K=>?_;simp(disch:=omega) only[kd,aa,aM];apply K
   refine⟨⟨y+1,by omega,by omega⟩,by simp only;omega,aF ⟨rfl,trivial⟩ ?_⟩;simp[wk]
  have hqt:((q:Int)<=1000)=False:=eq_false (by omega);have hset:lc fI (be 1001 (mP c (rng (-40) (y-1))))=lc fI (be 1001 (mP c (rng (-40) (y+1-1)))):=by
   refine congrArg _ (dv fun j hj=>?_);rw[hnx,hq,if_neg (by omega)];omega
  refine aE fun _ K=>?_;simp(disch:=omega) only[kd,aa,hcy,aM,hq,hqt];apply K
  refine aU rfl (aR ?_);show bu _ _ _ _;refine aO fun _ K=>?_;simp(disch:=omega) only[kd,aa,aM];apply K
  refine⟨⟨y+1,by omega,by omega⟩,by simp only;omega,aF ⟨?_,trivial⟩ ?_⟩
  ·rw[<- hset];rfl
  simp[wk]
 obtain rfl:y=41:=by omega
 rw[show(41:Int)-1=40 from rfl,hTT]at*
 refine aG (aE fun _ K=>?_);simp only[kd,iu,Int.reduceLE];apply K;refine aU rfl (cK ?_);show bu _ _ _ _;have htk:List.take 1001 Th=Th:=List.take_of_length_le (by omega);refine aI [⟨2,_,_,_,cC⟩,⟨5,_,_,_,cA⟩] [] fun _ K=>?_;simp(disch:=omega) only[kd,iu,aa,htk,Nat.reduceBEq];apply K
 (refine aL ⟨.inr rfl,aQ rfl ?_ rfl⟩;simp(disch:=omega) only[kd,Tryz.results5])
theorem CallC.law {P:Program} {f:FuncId} {args:List TV} {b:Bool} (h:CallC P f args ⟨[],.raw (.bool b)⟩) {w:World} {vs:Array Value} (hvs:vs.size=args.length)
  (ha: ∀(j:Nat) t,args[j]?=some t-> ∃v:Value,vs[j]?=some v/\t.rel (fun _ _=>none) (fun _=>[]) (fun _=>False) w v):Calls P f vs w fun e w'=>e= .returned (.bool b)/\Ext w w':=
 (h.calls hvs ha).mono fun e w' ⟨v,h1,⟨ρ,H,X,h2⟩,h3⟩=>⟨by rw[h1,xJ h2],h3⟩
end Go.Proofs.YtalmoejhjceflaaGreat
