/-
  Part 24 of a proof (walks and plain facts).
-/
import Derived.Test.YtiollbhgpiiodaaGreatDoorQ22
set_option linter.all false
set_option maxRecDepth 100000
set_option maxHeartbeats 64000000
open Nat renaming reduceAdd → aa
open Nat renaming le_refl → ac
open List renaming replicate → ae
open List renaming mem_of_getElem? → aw
namespace Go.Proofs.YtiollbhgpiiodaaGreatDoor
open Go.RowKit
abbrev Gz (l:List (Int×List Int)):List OObj:=[⟨74,2,lc Rz l⟩]
theorem BU (l:List (Int×List Int)): ∀o∈Gz l,selfO 0 o:=fun o ho e he x hx=>by
 simp only[List.mem_singleton]at ho;subst ho;obtain⟨z,_,rfl⟩:=List.mem_map.1 he;simp only[Rz,List.map_cons,List.map_nil,List.mem_cons,List.not_mem_nil,or_false]at hx;rcases hx with rfl|rfl<;>trivial
theorem Pw (d:Nat) (l:List (Int×List Int)):(Gz l).map (renO d)=Gz l:=by simp[Gz,renO,pQ]
def ue (n:Nat) (f:FF) (z:List Int):Int×List Int:=(RF n f z,z)
structure Wp (lo hi:Int) (g:Int->List (List Int)) (it:List Int->Int×List Int) (T:List (Int×List Int)) where
 x:Int
 acc:List (Int×List Int)
 h1:lo<=x
 e:acc++((rng x hi).flatMap g).map it=T
theorem tA (n:Nat) (f:FF) (B:Int) (k:Nat) (y:List Int) (out:List (Int×List Int)) (hn:n<=4) (hr:RedR f n) (hf: ∀i j,i<n->j<n->rI (f i j)) (h0:0<=B) (hB:B<=262144) (hk:y.length+(k+1)=n) (hy:yR y) (hP:lh f n B (k+1) (cw n y))
  (g:Int->List (List Int)) (hlen:(out++((rng (kE f n B k (cw n y)) (kP f n B k (cw n y))).flatMap g).map (ue n f)).length<=1000000)
  (hg:(k=0/\ ∀x,g x=[x::y])\/(k≠0/\ ∀x acc,kE f n B k (cw n y)<=x->x<=kP f n B k (cw n y)->(acc++(g x).map (ue n f)).length<=1000000->
   qk Tryz.prog 71 [C8 n f,.raw (.int .i64 B),jL (x::y),.one (.sl 0 0 0 acc.length)] (Gz acc) (Gz (acc++(g x).map (ue n f))) (.one (.sl 0 0 0 (acc++(g x).map (ue n f)).length)))):
  qk Tryz.prog 71 [C8 n f,.raw (.int .i64 B),jL y,.one (.sl 0 0 0 out.length)] (Gz out) (Gz (out++((rng (kE f n B k (cw n y)) (kP f n B k (cw n y))).flatMap g).map (ue n f)))
   (.one (.sl 0 0 0 (out++((rng (kE f n B k (cw n y)) (kP f n B k (cw n y))).flatMap g).map (ue n f)).length)):=by
 have cI:=qL n f B k y hn hr hf h0 hB hk hy hP;have cL:=fun x=>Cc x y (by omega)
 obtain⟨b1,b2⟩:=oN hr hn h0 hB hk hy hP;have tb:=lX (y.length+1) (by omega);have ht: ∀x i,k<i->i<n->cw n (x::y) i=cw n y i:=fun x i h1 _=>ky hk h1
 have cP: ∀x,kE f n B k (cw n y)<=x->x<=kP f n B k (cw n y)->k=0->CallC Tryz.prog 105 [C8 n f,jL (x::y)] ⟨[],tR (ue n f (x::y)).1 1⟩/\0<=(ue n f (x::y)).1/\(ue n f (x::y)).1<=262144:=fun x h1 h2 hk0=>by
  subst hk0;have hl:(x::y).length=n:=by rw[List.length_cons];omega
  have hty:yR (x::y):=hy.cons (by omega);have hp0:lh f n B 0 (cw n (x::y)):=by
   rw[lI hr.pd (by omega) ((lh.tail hr.pd (by omega) fun i h1 h2=>ht x i h1 h2).2 hP),kA hk,qS hr.pd (by omega) (ht x),qN hr.pd (by omega) (ht x)];exact⟨h1,h2⟩
  have hbf:=uH.1 hp0;rw[show cw n (x::y)=fun i=>(x::y).getD i 0 from funext (wY hl)]at hbf;have hnn:=(hr.pd.pos fun i=>(x::y).getD i 0).1;have hb:(ue n f (x::y)).1=BF n f (fun i=>(x::y).getD i 0) fun i=>(x::y).getD i 0:=rfl
  refine⟨BL n f (x::y) (by omega) (by omega) hl hf fun z hz=>?_,?_,?_⟩
  ·have h3:=hty.bd z hz;have h4:=lX (x::y).length (by omega);constructor<;>omega
  ·rw[hb];exact hnn
  rw[hb];omega
 have hit: ∀z,ue n f z=((ue n f z).1,z):=fun _=>rfl
 unfold Vk at cI;generalize hT:(out++((rng (kE f n B k (cw n y)) (kP f n B k (cw n y))).flatMap g).map (ue n f))=T at*
 generalize kE f n B k (cw n y)=lo at*
 generalize kP f n B k (cw n y)=hi at*
 generalize ue n f=it at*
 unfold C8 at*
 generalize yD n f n=S at*
 generalize dL n f=dl at*
 clear hP hr hf hy ht;refine KW Tryz.func71 rfl (by kernel_rfl) (by simp[selfTV,cW]) (by simp[selfTV,cW]) (BU _) (BU _) ?_;rw[Tryz.ntmps71];refine bL.weak (aE (tm:=(.agg [.p (.raw (.int .i64 (n:Int))),.p (.sl (ls fB S)),.p (.sl (ls fZ dl))]::.raw (.int .i64 B)::jL y::.one (.sl 0 0 0 out.length)::j16 (j16 (j16 (j4 ([])))))) (l:=[(0,Gz out)]) ⟨rfl,trivial⟩ (by simp[wk,ae])) ?_;refine aK (k:=cb [⟨3,_,_,_,cI⟩] (k:=aF (bC (k:=?_))));refine aO (G:=Wp lo hi g it T) (fun g=>⟨(jk::.raw (.int .i64 B)::jL y::.one (.sl 0 0 0 g.acc.length)::.one (.ptr 4 0 0 0)::j4 (jk::.raw (.int .i64 hi)::.raw (.int .i64 g.x)::j16 (j16 (j4 (j4 (j4 ([]))))))),Hm [(0,Gz g.acc),(4,[⟨109,3,[[.p (.raw (.int .i64 (n:Int))),.p (.sl (ls fB S)),.p (.sl (ls fZ dl))]]⟩])]⟩) (fun g=>(hi+1-g.x).toNat) ⟨lo,out,by omega,hT⟩ ?_ ?_
 ·refine aE ⟨rfl,rfl,trivial⟩ ?_;simp[wk]
 rintro⟨x,acc,h1,he⟩;simp only;by_cases hx:x<=hi
 ·rw[CM hx,List.flatMap_cons,List.map_append,<- List.append_assoc]at he;have ex:IntKind.i64.wrap (x+1)=x+1:=bu (by omega) (by omega);have hal:(acc++(g x).map it).length<=1000000:=by
   rw[<- he,List.length_append]at hlen;omega
  refine aF (aK (k:=aR rfl (aH (aF (aG (cb [⟨2,_,_,_,cL x⟩] (k:=?_)))))));rcases hg with⟨hk0,hg⟩|⟨hk0,hg⟩
  ·obtain⟨cPx,n0,n1⟩:=cP x h1 hx hk0;have c6:=tP (it (x::y)).1 ((show rI (it (x::y)).1 by constructor<;>omega).sz (by omega));rw[zE (by constructor<;>omega)]at c6;have hgx:=hit (x::y);have hg1:(g x).map it=[((it (x::y)).1,x::y)]:=by rw[hg,<- hgx];rfl
   rw[hg1]at hal he;rw[List.length_append]at hal;have hal:acc.length+1<=1000000:=hal;generalize(it (x::y)).1=v at*
   refine aF (aK (k:=aJ rfl (aH (bN [⟨2,_,_,_,cPx⟩,⟨4,_,_,_,c6⟩] (k:=fc @vR (k:=gV ex (k:=?_)))))));refine⟨⟨x+1,acc++[(v,x::y)],by omega,he⟩,by simp only;omega,aE ⟨rfl,rfl,trivial⟩ ?_⟩;simp[wk]
  have hrc:=hg x acc h1 hx hal;refine aF (aK (k:=aR rfl (DI 4 hrc 0 [] [] (by decide) (by decide) fun K hK=>?_)));simp only[kd,aa,reduceCtorEq];apply hK;clear hK K;refine⟨⟨rfl,?_⟩,?_⟩
  ·rw[Pw];rfl
  intro K hK;simp only[kd,aa,Vg,cwD,kF,Nat.reduceBEq];apply hK;clear hK K;refine bz (gV ex (k:=?_));refine⟨⟨x+1,acc++(g x).map it,by omega,he⟩,by simp only;omega,aE ⟨rfl,rfl,trivial⟩ ?_⟩;simp[wk]
 rw[Ap (by omega),List.flatMap_nil,List.map_nil,List.append_nil]at he;subst he;refine aF (aK (k:=aJ rfl (bz (bC (k:=?_)))));refine bA ⟨.inr rfl,_,aE (tm:=(j4 (j4 (.one (.sl 0 0 0 acc.length)::j16 (j16 (j4 (j4 (j4 (jk::jk::jk::[]))))))))) (l:=[(0,Gz acc)]) ⟨rfl,trivial⟩ (by simp[wk]),iw _,?_⟩;simp(disch:=omega) only[kd,Tryz.results71]
theorem B5 (n:Nat) (f:FF) (B:Int) (hn:n<=4) (hr:RedR f n) (hf: ∀i j,i<n->j<n->rI (f i j)) (h0:0<=B) (hB:B<=262144): ∀(k:Nat) (y:List Int) (out:List (Int×List Int)),y.length+(k+1)=n->yR y->lh f n B (k+1) (cw n y)->(out++(qH f n B (k+1) y).map (ue n f)).length<=1000000->
  qk Tryz.prog 71 [C8 n f,.raw (.int .i64 B),jL y,.one (.sl 0 0 0 out.length)] (Gz out) (Gz (out++(qH f n B (k+1) y).map (ue n f))) (.one (.sl 0 0 0 (out++(qH f n B (k+1) y).map (ue n f)).length))
 |0,y,out,hk,hy,hP,hl=>tA n f B 0 y out hn hr hf h0 hB hk hy hP (fun x=>[x::y]) hl (.inl ⟨rfl,fun _=>rfl⟩)
 |k+1,y,out,hk,hy,hP,hl=>by
  refine tA n f B (k+1) y out hn hr hf h0 hB hk hy hP (fun x=>qH f n B (k+1) (x::y)) hl (.inr ⟨by omega,fun x acc hl hh ha=>?_⟩);obtain⟨b1,b2⟩:=oN hr hn h0 hB hk hy hP;have ht: ∀i,k+1<i->i<n->cw n (x::y) i=cw n y i:=fun i h1 _=>ky hk h1
  refine B5 n f B hn hr hf h0 hB k (x::y) acc (by rw[List.length_cons];omega) (hy.cons (by omega)) ?_ ha;rw[lI hr.pd (by omega) ((lh.tail hr.pd (by omega) fun i h1 h2=>ht i h1 h2).2 hP),kA hk,qS hr.pd (by omega) ht,qN hr.pd (by omega) ht];exact⟨hl,hh⟩
abbrev xd (c:List Int):List OObj:=[⟨3,1,lc fI c⟩]
theorem qD (c:List Int): ∀o∈xd c,selfO 0 o:=fun o ho e he x hx=>by
 simp only[List.mem_singleton]at ho;subst ho;obtain⟨z,_,rfl⟩:=List.mem_map.1 he;simp only[fI,List.map_cons,List.map_nil,List.mem_singleton]at hx;subst hx;trivial
theorem Gf (d:Nat) (c:List Int):(xd c).map (renO d)=xd c:=by simp[xd,renO,pQ]
theorem ru {F:Nat->Int} {i m:Nat} (h:i<=m) (hF: ∀a,a<m->0<=F a):smF F i<=smF F m:=by
 induction m with
 |zero=>rw[show i=0 by omega];exact Int.le_refl _
 |succ m ih=>
  by_cases e:i=m+1
  ·rw[e];exact Int.le_refl _
  have h1:=ih (by omega) fun a ha=>hF a (by omega)
  have h2:=hF m (by omega);show _<=smF F m+F m;omega
structure We (n:Nat) (bud lo hi:Int) (g:Int->List Int->Bool×List Int) (R:Bool×List Int) where
 x:Int
 c:List Int
 h1:lo<=x
 h2:x<=hi+1
 hc:CtP n bud c
 e:ctL g (rng x hi) c=R
theorem vj (n:Nat) (f:FF) (B bud:Int) (k:Nat) (y c:List Int) (hn:n<=4) (hr:RedR f n) (hf: ∀i j,i<n->j<n->rI (f i j)) (h0:0<=B) (hB:B<=262144) (hb:0<=bud) (hb2:bud<=1000000) (hk:y.length+(k+1)=n) (hy:yR y) (hP:lh f n B (k+1) (cw n y)) (hc:CtP n bud c)
  (g:Int->List Int->Bool×List Int) (hg: ∀x c,CtP n bud c->(g x c).1=true->CtP n bud (g x c).2)
  (hRl:(Ge n f B bud k y c fun c1=>if k=0 then(true,c1)else ctL g (rng (kE f n B k (cw n y)) (kP f n B k (cw n y))) c1).2.length=n)
  (hrec:k≠0-> ∀x c,kE f n B k (cw n y)<=x->x<=kP f n B k (cw n y)->CtP n bud c->i5 Tryz.prog 101 [C8 n f,.raw (.int .i64 B),jL (x::y),jk,.raw (.int .i64 bud)] 3 n (xd c) (xd (g x c).2) (.raw (.bool (g x c).1))):
  i5 Tryz.prog 101 [C8 n f,.raw (.int .i64 B),jL y,jk,.raw (.int .i64 bud)] 3 n (xd c)
   (xd (Ge n f B bud k y c fun c1=>if k=0 then(true,c1)else ctL g (rng (kE f n B k (cw n y)) (kP f n B k (cw n y))) c1).2)
   (.raw (.bool (Ge n f B bud k y c fun c1=>if k=0 then(true,c1)else ctL g (rng (kE f n B k (cw n y)) (kP f n B k (cw n y))) c1).1)):=by
 have cI:=qL n f B k y hn hr hf h0 hB hk hy hP;have cL:=fun x=>Cc x y (by omega)
 obtain⟨b1,b2⟩:=oN hr hn h0 hB hk hy hP;have tb:=lX (y.length+1) (by omega);unfold Vk at cI;generalize hR:(Ge n f B bud k y c fun c1=>if k=0 then(true,c1)else ctL g (rng (kE f n B k (cw n y)) (kP f n B k (cw n y))) c1)=R at*
 unfold Ge at hR;generalize kE f n B k (cw n y)=lo at*
 generalize kP f n B k (cw n y)=hi at*
 unfold C8 at*
 generalize yD n f n=S at*
 generalize dL n f=dl at*
 clear hP hr hf hy;have hcl:=hc.1;refine qz Tryz.func101 rfl (by kernel_rfl) (by simp) (by omega) ⟨_,_,rfl,rfl,by simp only[nH];exact hcl,by simp only[nH];exact hRl,rfl⟩ rfl ?_;rw[Tryz.ntmps101];refine eR.weak (aE (tm:=(.agg [.p (.raw (.int .i64 (n:Int))),.p (.sl (ls fB S)),.p (.sl (ls fZ dl))]::.raw (.int .i64 B)::jL y::.one (.sl 0 0 0 n)::.raw (.int .i64 bud)::j16 (j16 (j16 (j16 (j4 (j4 (jk::jk::jk::[])))))))) (l:=[(0,xd c)]) ⟨rfl,trivial⟩ (by simp[wk,ae])) ?_;refine eg (k:=UD [⟨3,_,_,_,cI⟩] (k:=eg (k:=?_)));by_cases h1:hi<lo
 ·rw[if_pos h1]at hR;subst hR;refine bI (dJ h1 (k:=gE rfl (eg (k:=?_))));refine iX ⟨.inr rfl,_,aE (tm:=(jk::jk::jk::.one (.sl 0 0 0 n)::j4 (jk::jk::.raw (.bool true)::j16 (j16 (j16 (j16 (j4 (jk::[])))))))) (l:=[(0,xd c)]) ⟨rfl,trivial⟩ (by simp[wk]),rfl,iw _,?_⟩;simp(disch:=omega) only[kd,Tryz.results101]
 rw[if_neg h1]at hR;refine bI (eg (k:=fz rfl (dM ?_)));by_cases h2:bud<=hi-lo
 ·rw[if_pos h2]at hR;subst hR;refine bI (eg (k:=gE rfl (eg (k:=?_))));refine iX ⟨.inr rfl,_,aE (tm:=(jk::jk::jk::.one (.sl 0 0 0 n)::j4 (jk::jk::.raw (.bool false)::j16 (j16 (j16 (j16 (j4 (jk::[])))))))) (l:=[(0,xd c)]) ⟨rfl,trivial⟩ (by simp[wk]),rfl,iw _,?_⟩;simp(disch:=omega) only[kd,Tryz.results101]
 rw[if_neg h2]at hR;refine bI (eg (k:=fz rfl (dM ?_)));obtain⟨v,hv⟩:=getElem?_of_lt (show y.length<c.length by omega);have ev:c.getD y.length 0=v:=by rw[List.getD_eq_getElem?_getD,hv];rfl
 have hm:Gd y.length (hi-lo) c=c.set y.length (v+(hi-lo+1)):=by unfold Gd;rw[ev]
 have hv0:=hc.2.1 y.length (by omega);have hv1:=Nb hc.2.1 (show y.length<n by omega);rw[ev]at hv0 hv1;have hl1:(Gd y.length (hi-lo) c).length=n:=by rw[zq];exact hcl
 have hnn:=K9 hcl (show y.length<n by omega) (show 0<=hi-lo by omega) hc.2.1;have hes:=Pd (d:=hi-lo) hcl (show y.length<n by omega);have hsb:=hc.2.2;refine dJ (aP hv @PF) (k:=?_);rw[<- hm];generalize Gd y.length (hi-lo) c=c1 at*
 refine eg (k:=bI (eg (k:=?_)));refine fL (G:=iJ n) (fun g=>⟨(jk::.raw (.int .i64 B)::jL y::.one (.sl 0 0 0 n)::.raw (.int .i64 bud)::.one (.ptr 5 0 0 0)::j4 (jk::.raw (.int .i64 lo)::.raw (.int .i64 hi)::rN y.length::.raw (.int .i64 (sL g.i c1))::j16 (j4 (j4 (j4 (jk::jk::.one (.sl 0 0 0 n)::rN n::rN g.i::j16 (j16 ([])))))))),Hm [(0,xd c1),(5,[⟨109,3,[[.p (.raw (.int .i64 (n:Int))),.p (.sl (ls fB S)),.p (.sl (ls fZ dl))]]⟩])]⟩) (fun g=>n-g.i) ⟨0,by omega⟩ ?_ ?_
 ·refine aE ⟨rfl,rfl,trivial⟩ ?_;simp[wk,sL,smF]
 rintro⟨i,hin⟩;simp only;by_cases hm2:i<n
 ·obtain⟨u,hu⟩:=getElem?_of_lt (show i<c1.length by omega);have eu:c1.getD i 0=u:=by rw[List.getD_eq_getElem?_getD,hu];rfl
  have hs1:sL (i+1) c1=sL i c1+u:=by rw[<- eu];rfl
  have hs2:=ru (F:=fun j=>c1.getD j 0) (show i+1<=n by omega) fun a ha=>hnn a ha
  have hs3:=ru (F:=fun j=>c1.getD j 0) (show 0<=i by omega) fun a ha=>hnn a (by omega)
  have hu0:=hnn i hm2;rw[eu]at hu0
  change sL (i+1) c1<=sL n c1 at hs2
  change 0<=sL i c1 at hs3
  have ei:IntKind.i64.wrap ((i:Int)+1)=((i+1:Nat):Int):=by rw[bu (by omega) (by omega)];omega
  refine eg (k:=uS rfl (bI (eF (dJ hu (k:=Bk (k:=qp ei (k:=?_)))))));refine⟨⟨i+1,by omega⟩,by simp only;omega,aE ⟨rfl,rfl,trivial⟩ ?_⟩;simp[wk,hs1]
 have hie:i=n:=by omega
 subst hie;refine eg (k:=uR rfl ?_);show eR _ _ _ _ _;by_cases h3:bud<sL i c1
 ·rw[if_pos h3]at hR;subst hR;refine bI (eg (k:=gE rfl (eg (k:=?_))));refine iX ⟨.inr rfl,_,aE (tm:=(jk::jk::jk::.one (.sl 0 0 0 i)::j4 (jk::jk::.raw (.bool false)::j16 (j16 (j16 (j16 (j4 (jk::[])))))))) (l:=[(0,xd c1)]) ⟨rfl,trivial⟩ (by simp[wk]),rfl,iw _,?_⟩;simp(disch:=omega) only[kd,Tryz.results101]
 rw[if_neg h3]at hR
 replace hR:(if k=0 then(true,c1)else ctL g (rng lo hi) c1)=R:=hR
 refine bI (eg (k:=fz rfl (dM (bI (eg (k:=?_))))));have em:IntKind.i64.wrap ((y.length:Int)+1)=((y.length+1:Nat):Int):=by rw[bu (by omega) (by omega)];omega
 by_cases hk0:k=0
 ·rw[if_pos hk0]at hR;subst hR;refine fL (G:=Unit) (fun g=>⟨(jk::.raw (.int .i64 B)::jL y::.one (.sl 0 0 0 i)::.raw (.int .i64 bud)::.one (.ptr 5 0 0 0)::j4 (jk::.raw (.int .i64 lo)::.raw (.int .i64 hi)::rN y.length::jk::jk::jk::.raw (.int .i64 lo)::j16 (j16 (j16 (j4 (j4 (j4 (jk::jk::[])))))))),Hm [(0,xd c1),(5,[⟨109,3,[[.p (.raw (.int .i64 (i:Int))),.p (.sl (ls fB S)),.p (.sl (ls fZ dl))]]⟩])]⟩) (fun g=>0) () ?_ ?_
  ·refine aE ⟨rfl,rfl,trivial⟩ ?_;simp[wk]
  intro _;simp only;refine bI (dJ em (k:=fz rfl (fK (eg (k:=?_)))));refine iX ⟨.inr rfl,_,aE (tm:=(jk::jk::jk::.one (.sl 0 0 0 i)::j4 (jk::jk::.raw (.bool true)::j16 (j16 (j16 (j16 (j4 (jk::[])))))))) (l:=[(0,xd c1)]) ⟨rfl,trivial⟩ (by simp[wk]),rfl,iw _,?_⟩;simp(disch:=omega) only[kd,Tryz.results101]
 rw[if_neg hk0]at hR;refine fL (G:=We i bud lo hi g R) (fun g=>⟨(jk::.raw (.int .i64 B)::jL y::.one (.sl 0 0 0 i)::.raw (.int .i64 bud)::.one (.ptr 5 0 0 0)::j4 (jk::.raw (.int .i64 lo)::.raw (.int .i64 hi)::rN y.length::jk::jk::jk::.raw (.int .i64 g.x)::j16 (j16 (j16 (j4 (j4 (j4 (jk::jk::[])))))))),Hm [(0,xd g.c),(5,[⟨109,3,[[.p (.raw (.int .i64 (i:Int))),.p (.sl (ls fB S)),.p (.sl (ls fZ dl))]]⟩])]⟩) (fun g=>(hi+1-g.x).toNat) ⟨lo,c1,by omega,by omega,⟨hl1,hnn,by omega⟩,hR⟩ ?_ ?_
 ·refine aE ⟨rfl,rfl,trivial⟩ ?_;simp[wk]
 rintro⟨x,c2,h4,h5,hc2,he⟩;simp only;by_cases hx:x<=hi
 ·have hrc:=hrec hk0 x c2 h4 hx hc2;have ex:IntKind.i64.wrap (x+1)=x+1:=bu (by omega) (by omega);rw[CM hx,ctL]at he;refine bI (dJ em (k:=gE rfl (dM (bI (eF (DO d8 7 hrc 0 [⟨4,_,_,_,cL x⟩] [] (by kernel_rfl) (by kernel_rfl) (by kernel_rfl) (by simp[wk]) (by omega) rfl (qD _) (qD _) (by decide) rfl (by simp[zN]) (by decide) fun K hK=>?_))))));simp only[kd,jL,aa,reduceCtorEq];apply hK;clear hK K;refine⟨⟨rfl,?_⟩,?_⟩
  ·rw[Gf];rfl
  intro K hK;simp only[kd,aa,UK,cwD,K2];apply hK;clear hK K;by_cases hgt:(g x c2).1=true
  ·rw[if_pos hgt]at he;rw[hgt];refine fz rfl (dM (qp ex (k:=?_)));refine⟨⟨x+1,(g x c2).2,by omega,by omega,hg x c2 hc2 hgt,he⟩,by simp only;omega,?_⟩;refine aE ⟨rfl,rfl,trivial⟩ ?_;simp[wk]
  rw[if_neg hgt]at he;subst he;have hgf:(g x c2).1=false:=by simpa using hgt
  rw[hgf];refine gE rfl (eg (k:=?_));refine iX ⟨.inr rfl,_,aE (tm:=(jk::jk::jk::.one (.sl 0 0 0 i)::j4 (jk::jk::.raw (.bool false)::j16 (j16 (j16 (j16 (j4 (jk::[])))))))) (l:=[(0,xd (g x c2).2)]) ⟨rfl,trivial⟩ (by simp[wk]),rfl,iw _,?_⟩;simp(disch:=omega) only[kd,Tryz.results101]
 have hxe:x=hi+1:=by omega
 subst hxe;rw[Ap (by omega),ctL]at he;subst he;refine bI (eg (k:=fz rfl (fK (eg (k:=?_)))));refine iX ⟨.inr rfl,_,aE (tm:=(jk::jk::jk::.one (.sl 0 0 0 i)::j4 (jk::jk::.raw (.bool true)::j16 (j16 (j16 (j16 (j4 (jk::[])))))))) (l:=[(0,xd c2)]) ⟨rfl,trivial⟩ (by simp[wk]),rfl,iw _,?_⟩;simp(disch:=omega) only[kd,Tryz.results101]
theorem Gb (n:Nat) (f:FF) (B bud:Int) (hn:n<=4) (hr:RedR f n) (hf: ∀i j,i<n->j<n->rI (f i j)) (h0:0<=B) (hB:B<=262144) (hb:0<=bud) (hb2:bud<=1000000): ∀(k:Nat) (y c:List Int),y.length+(k+1)=n->yR y->lh f n B (k+1) (cw n y)->CtP n bud c->
  i5 Tryz.prog 101 [C8 n f,.raw (.int .i64 B),jL y,jk,.raw (.int .i64 bud)] 3 n (xd c) (xd (Iz n f B bud k y c).2) (.raw (.bool (Iz n f B bud k y c).1))
 |0,y,c,hk,hy,hP,hc=>by
  have h1:=(vm (f:=f) (B:=B) 0 y c hk hc).1;exact vj n f B bud 0 y c hn hr hf h0 hB hb hb2 hk hy hP hc (fun _ c=>(true,c)) (fun _ _ h _=>h) h1 (fun h=>absurd rfl h)
 |k+1,y,c,hk,hy,hP,hc=>by
  have h1:=(vm (f:=f) (B:=B) (k+1) y c hk hc).1;have e: ∀(x:Int),(x::y).length+(k+1)=n:=fun x=>by rw[List.length_cons];omega
  refine vj n f B bud (k+1) y c hn hr hf h0 hB hb hb2 hk hy hP hc (fun x=>Iz n f B bud k (x::y)) (fun x c h ht=>((vm k (x::y) c (e x) h).2 ht).1) h1 fun _ x c hl hh hc=>?_
  obtain⟨b1,b2⟩:=oN hr hn h0 hB hk hy hP;have ht: ∀i,k+1<i->i<n->cw n (x::y) i=cw n y i:=fun i h1 _=>ky hk h1
  refine Gb n f B bud hn hr hf h0 hB hb hb2 k (x::y) c (e x) (hy.cons (by omega)) ?_ hc;rw[lI hr.pd (by omega) ((lh.tail hr.pd (by omega) fun i h1 h2=>ht i h1 h2).2 hP),kA hk,qS hr.pd (by omega) ht,qN hr.pd (by omega) ht];exact⟨hl,hh⟩
theorem vK {n:Nat} {h:FF} (hn1:1<=n) (hn:n<=4) (hr:RedR h n):b8 (bi n n h)=true:=(fk _).2 ((qm hn1).2 ⟨rfl,by omega,hr⟩)
theorem Br (n:Nat) (f:FF) (B most bud:Int) (hn1:1<=n) (hn:n<=4) (hr:RedR f n) (h0:0<=B) (hB:B<=most) (hb:0<=bud) (hb2:bud<=1000000):
  CallC Tryz.prog 100 [dj (bi n n f),.raw (.int .i64 B),.raw (.int .i64 most),.raw (.int .i64 bud)] ⟨[],.raw (.int .i64 0)⟩:=by
 have c1:=tg (bi n n f) (Kl hn1 (by omega) hr);rw[vK hn1 hn hr]at c1;generalize bi n n f=M at*
 refine aS Tryz.func100 rfl Tryz.ntmps100 (aT (k:=aF (cb [⟨1,_,_,_,c1⟩] (k:=aJ rfl (aH (aF (aK (k:=aJ rfl (aH (bC (k:=aV @Tryz.results100)))))))))))
theorem Tx (n:Nat) (c:List Int) (hn:n<=4) (hc:c.length=n) (hnn: ∀i,i<n->0<=c.getD i 0) (hs:sL n c<=1000000):
  CallC Tryz.prog 69 [jL c] ⟨[],.raw (.int .i64 (sL n c))⟩:=by
 refine aS Tryz.func69 rfl Tryz.ntmps69 (aT (k:=bC (k:=aF (il hc (k:=?_)))));refine aO (G:=iJ n) (fun g=>⟨(jk::jk::jk::.raw (.int .i64 (sL g.i c))::jk::jk::jL c::rN n::rN g.i::j4 (j4 ([]))),Hm []⟩) (fun g=>n-g.i) ⟨0,by omega⟩ ?_ ?_
 ·refine aE trivial ?_;simp[wk,sL,smF]
 rintro⟨i,hin⟩;simp only;by_cases hm2:i<n
 ·obtain⟨u,hu⟩:=getElem?_of_lt (show i<c.length by omega);have eu:c.getD i 0=u:=by rw[List.getD_eq_getElem?_getD,hu];rfl
  have hs1:sL (i+1) c=sL i c+u:=by rw[<- eu];rfl
  have hs2:=ru (F:=fun j=>c.getD j 0) (show i+1<=n by omega) fun a ha=>hnn a ha
  have hs3:=ru (F:=fun j=>c.getD j 0) (show 0<=i by omega) fun a ha=>hnn a (by omega)
  have hu0:=hnn i hm2;rw[eu]at hu0
  change sL (i+1) c<=sL n c at hs2
  change 0<=sL i c at hs3
  have ei:IntKind.i64.wrap ((i:Int)+1)=((i+1:Nat):Int):=by rw[bu (by omega) (by omega)];omega
  refine aK (k:=bv rfl (aF (aG (aX hu (k:=bW (k:=gV ei (k:=?_)))))));refine⟨⟨i+1,by omega⟩,by simp only;omega,aE trivial ?_⟩;simp[wk,hs1]
 have hie:i=n:=by omega
 subst hie;refine aK (k:=bE rfl (bC (k:=aV @Tryz.results69)))
def pM (f:FF):Nat->Int
 |0=>0
 |k+1=>if pM f k<f k k then f k k else pM f k
theorem Eu {f:FF} {M:Int} (h0:0<=M): ∀k,(∀i,i<k->f i i<=M)->0<=pM f k/\pM f k<=M
 |0,_=>⟨Int.le_refl _,h0⟩
 |k+1,h=>by
  have:=Eu h0 k fun i hi=>h i (by omega)
  have hk:=h k (by omega);unfold pM;split<;>omega
theorem LJ {f:FF}: ∀k i,i<k->f i i<=pM f k
 |0,i,h=>by omega
 |k+1,i,h=>by
  unfold pM;by_cases e:i=k
  ·subst e;split<;>omega
  have:=LJ (f:=f) k i (by omega);split<;>omega
theorem DA (n:Nat) (f:FF) (hn:n<=4):CallC Tryz.prog 36 [dj (bi n n f)] ⟨[],.raw (.int .i64 (pM f n))⟩:=by
 have hml:=aW n n f;refine aS Tryz.func36 rfl Tryz.ntmps36 (aT (k:=bC (k:=aF (il hml (k:=?_)))));refine aO (G:=iJ n) (fun g=>⟨(dj (bi n n f)::jk::jk::.raw (.int .i64 (pM f g.i))::jk::jk::rN n::rN g.i::j16 (j4 ([]))),Hm []⟩) (fun g=>n-g.i) ⟨0,by omega⟩ ?_ ?_
 ·refine aE trivial ?_;simp[wk,pM]
 rintro⟨i,hin⟩;simp only;by_cases hm2:i<n
 ·have m1:=bx n f hm2;have q1:=aQ (f i) hm2;have ei:IntKind.i64.wrap ((i:Int)+1)=((i+1:Nat):Int):=by rw[bu (by omega) (by omega)];omega
  refine aK (k:=bv rfl (aF (aG (bC (k:=?_)))));by_cases hlt:pM f i<f i i
  ·refine aX (aP m1 q1) (k:=aR rfl (fc (aP m1 q1) (k:=gV ei (k:=?_))));refine⟨⟨i+1,by omega⟩,by simp only;omega,aE trivial ?_⟩;simp[wk,pM,hlt]
  refine aX (aP m1 q1) (k:=aJ rfl (aH (gV ei (k:=?_))));refine⟨⟨i+1,by omega⟩,by simp only;omega,aE trivial ?_⟩;simp[wk,pM,hlt]
 have hie:i=n:=by omega
 subst hie;refine aK (k:=bE rfl (bC (k:=aV @Tryz.results36)))
theorem wA (n i:Nat):(ae n (0:Int)).getD i 0=0:=by
 rw[List.getD_eq_getElem?_getD,List.getElem?_replicate];split<;>rfl
theorem Gg {n:Nat} {bud:Int} (hb:0<=bud):CtP n bud (ae n 0):=⟨by simp,fun i _=>by rw[wA];omega,by
 have:sL n (ae n 0)=0:=by
  unfold sL;rw[aI n fun i _=>wA n i,cX]
 omega⟩
noncomputable def xr (n:Nat) (f:FF) (B bud:Int):Bool×List Int:=Iz n f B bud (n-1) [] (ae n 0)
theorem Fb {n:Nat} {f:FF} {B bud:Int} (hn1:1<=n) (hb:0<=bud):(xr n f B bud).2.length=n/\((xr n f B bud).1=true->CtP n bud (xr n f B bud).2/\(xr n f B bud).2.getD (n-1) 0=((qH f n B n []).length:Int)):=by
 have:=vm (f:=f) (B:=B) (n-1) [] (ae n 0) (by simp;omega) (Gg hb);rw[wA,show n-1+1=n by omega,Int.zero_add]at this;exact this
abbrev Kf (d:List Int) (e:Int):TV:= .tup [(false,[.p (.sl (ls fI d))]),(false,[.p (.raw (.int .i64 e))])]
theorem MW (n:Nat):ae n [AV.p (.raw (.int .i64 0))]=lc fI (ae n 0):=by simp[lc,fI]
theorem OM (n:Nat) (f:FF) (B bud:Int) (hn1:1<=n) (hn:n<=4) (hr:RedR f n) (hf: ∀i j,i<n->j<n->rI (f i j)) (h0:0<=B) (hB:B<=262144) (hb:0<=bud) (hb2:bud<=1000000):
  CallC Tryz.prog 67 [dj (bi n n f),.raw (.int .i64 B),.raw (.int .i64 bud)] ⟨[],if(xr n f B bud).1=true then Kf (xr n f B bud).2 0 else Kf [] 9⟩:=by
 have c1:=Br n f B 4611686018427387904 bud hn1 hn hr h0 (by omega) hb hb2;have cO:=Lz n f hn1 (by omega) (fun t ht=>by have:=hr.pd.2 t ht;omega) hf;have hP:lh f n B (n-1+1) (cw n []):=by rw[show n-1+1=n by omega];exact tQ hr.pd h0
 have hc:CtP n bud (ae n 0):=Gg hb;have cM:=(Gb n f B bud hn hr hf h0 hB hb hb2 (n-1) [] (ae n 0) (by simp;omega) yR.nil hP hc).nilA (k:=2) rfl (by decide);have hl:=(Fb (f:=f) (B:=B) hn1 hb).1
 change i5 _ _ _ _ _ _ (xd (xr n f B bud).2) (.raw (.bool (xr n f B bud).1))at cM
 simp only[List.set_cons_succ,List.set_cons_zero]at cM;generalize(xr n f B bud).1=b at*
 generalize(xr n f B bud).2=c at*
 have hml:=aW n n f;generalize bi n n f=M at*
 unfold C8 at*
 generalize yD n f n=S at*
 generalize dL n f=dl at*
 clear hP hr hf;refine aS Tryz.func67 rfl Tryz.ntmps67 (aT (k:=aF (cb [⟨3,_,_,_,c1⟩] (k:=aK (k:=aJ rfl (aH (aX hml (k:=?_))))))));rw[MW];refine aF (aF (A8 (k:=9) (by simp[wk]) (pA 5 cM 19 [⟨1,_,_,_,cO⟩] [] (by kernel_rfl) (by simp[wk]) hn1 rfl (qD _) (qD _) (by decide) (by simp[wk]) (by decide) fun K hK=>?_)));simp only[kd,dj,aa];apply hK;clear hK K;refine⟨⟨rfl,(Gf _ _).symm⟩,by simp[wk],?_⟩;intro K hK;simp only[kd,dj,aa,Ry,cwD,kM,bne_self_eq_false];apply hK;clear hK K;show bL _ _ _ _;cases b with
 |true=>
  refine aJ rfl (aH (bC (k:=?_)));refine bA ⟨.inr rfl,fo 19 (bQ rfl) ?_ rfl⟩;have eT:List.take n c=c:=List.take_of_length_le (by omega);simp(disch:=omega) only[kd,Tryz.results67,eT,Kf]
 |false=>
  refine aR rfl (bC (k:=?_));refine bA ⟨.inr rfl,sP 6 rfl rfl ?_ rfl⟩;simp(disch:=omega) only[kd,Tryz.results67,Kf]
def zm (x:List Int):Bool:=uE x&&decide (gO x=1)
def zJ (l:List (Int×List Int)):List (Int×List Int):=l.foldl (fun acc x=>if zm x.2=true then nW x acc else acc) []
theorem LR (l:List (Int×List Int)) (x:Int×List Int):zJ (l++[x])=if zm x.2=true then nW x (zJ l)else zJ l:=by
 unfold zJ;rw[List.foldl_append];rfl
theorem zK (l:List (Int×List Int)):(zJ l).length<=l.length:=by
 have key: ∀(l acc:List (Int×List Int)),(l.foldl (fun acc x=>if zm x.2=true then nW x acc else acc) acc).length<=l.length+acc.length:=by
  intro l
  induction l with
  |nil=>intro acc;simp
  |cons x l ih=>
   intro acc;have h2:=ML x acc;simp only[List.foldl_cons,List.length_cons];refine Nat.le_trans (ih _) ?_;split<;>omega
 unfold zJ;simpa using key l []
noncomputable def Ka (n:Nat) (f:FF) (B:Int):List (Int×List Int):=zJ ((qH f n B n []).map (ue n f))
theorem FJ (n:Nat) (f:FF) (B:Int) (hn1:1<=n) (hn:n<=4) (hr:RedR f n) (hf: ∀i j,i<n->j<n->rI (f i j)) (h0:0<=B) (hB:B<=262144) (hl:(qH f n B n []).length<=900000):
  CallC Tryz.prog 37 [dj (bi n n f),.raw (.int .i64 B)] ⟨[],Nz (Ka n f B)⟩:=by
 have cO:=Lz n f hn1 (by omega) (fun t ht=>by have:=hr.pd.2 t ht;omega) hf;have hP:lh f n B (n-1+1) (cw n []):=by rw[show n-1+1=n by omega];exact tQ hr.pd h0
 have cV:=B5 n f B hn hr hf h0 hB (n-1) [] [] (by simp;omega) yR.nil hP (by rw[show n-1+1=n by omega,List.nil_append,List.length_map];omega);rw[show n-1+1=n by omega]at cV;have hxl: ∀x∈(qH f n B n []).map (ue n f),x.2.length<=4:=fun x hx=>by
  obtain⟨z,hz,rfl⟩:=List.mem_map.1 hx;have:=((zX hr.pd h0 z).1 hz).1;show z.length<=4;omega
 unfold Ka;have hl':((qH f n B n []).map (ue n f)).length<=900000:=by simpa using hl
 generalize(qH f n B n []).map (ue n f)=L at*
 have cV:=(cV.toC (k:=3) (by decide) rfl rfl).nilA (k:=2) rfl;simp only[List.set_cons_succ,List.set_cons_zero,List.nil_append]at cV;generalize bi n n f=M at*
 unfold C8 at*
 generalize yD n f n=S at*
 generalize dL n f=dl at*
 clear hP hr hf hl;refine aS Tryz.func37 rfl Tryz.ntmps37 (aT (k:=bC (k:=aF (DJ 3 cV rfl [⟨1,_,_,_,cO⟩] [] (by decide) fun K hK=>?_))));simp only[kd,dj,aa];apply hK;clear hK K;refine⟨⟨rfl,⟨13,rfl,fun _=>rfl⟩⟩,?_⟩;intro K hK;simp only[kd,dj,aa,F8,cwD,jD];apply hK;clear hK K;refine aO (G:=iJ L.length) (fun g=>⟨(j4 (jk::Nz (zJ (L.take g.i))::j4 (jk::jk::jk::.one (.sl 13 0 0 L.length)::rN L.length::rN g.i::j16 (j4 (jk::jk::[]))))),Hm [(13,Gz L)]⟩) (fun g=>L.length-g.i) ⟨0,by omega⟩ ?_ ?_
 ·refine(FO 5 rfl).trans (aE ⟨rfl,trivial⟩ ?_);simp[wk,zJ,ls]
 rintro⟨i,hin⟩;simp only;by_cases hm:i<L.length
 ·obtain⟨x,hx⟩:=getElem?_of_lt hm;have ei:IntKind.i64.wrap ((i:Int)+1)=((i+1:Nat):Int):=by rw[bu (by omega) (by omega)];omega
  have hs:zJ (L.take (i+1))=if zm x.2=true then nW x (zJ (L.take i))else zJ (L.take i):=by
   rw[List.take_add_one,hx];exact LR _ _
  have hal:=zK (L.take i);rw[List.length_take]at hal;have hx4:=hxl x (aw hx);obtain⟨v,z⟩:=x;simp only at hs hx4;have c2:=MR z (by omega);have c4:=Uv (zJ (L.take i)) v z (by omega);generalize zJ (L.take i)=A at*
  refine aK (k:=bv rfl (aF (aG (aX hx (k:=?_)))));cases hI:uE z with
  |false=>
   rw[F7 hI]at c2;rw[show zm z=false by unfold zm;rw[hI];rfl,if_neg (by decide)]at hs;refine bN [⟨2,_,_,_,c2⟩] (k:=aK (k:=aJ rfl (aH (gV ei (k:=?_)))));refine⟨⟨i+1,by omega⟩,by simp only;omega,aE ⟨rfl,trivial⟩ ?_⟩;simp[wk,hs]
  |true=>
   rcases qc z with h|h|h
   ·rw[Bz hI h]at c2;rw[show zm z=false by unfold zm;rw[hI,h];rfl,if_neg (by decide)]at hs;refine bN [⟨2,_,_,_,c2⟩] (k:=aK (k:=aJ rfl (aH (gV ei (k:=?_)))));refine⟨⟨i+1,by omega⟩,by simp only;omega,aE ⟨rfl,trivial⟩ ?_⟩;simp[wk,hs]
   ·rw[D0 hI (by omega),h,show(z.map fun a=>(1:Int)*a)=z by simp]at c2;rw[show zm z=true by unfold zm;rw[hI,h];rfl,if_pos rfl]at hs;have c3:=mC z z;rw[oD]at c3;refine bN [⟨2,_,_,_,c2⟩] (k:=bN [⟨5,_,_,_,c3⟩] (k:=aR rfl (UB [⟨2,_,_,_,c4⟩] (k:=gV ei (k:=?_)))));refine⟨⟨i+1,by omega⟩,by simp only;omega,aE ⟨rfl,trivial⟩ ?_⟩;simp[wk,hs]
   rw[D0 hI (by omega),h]at c2;rw[show zm z=false by unfold zm;rw[hI,h];rfl,if_neg (by decide)]at hs;have hne:fq z (z.map fun a=>(-1:Int)*a)≠0:=fun h0=>by
    have h1:=C0 (x:=z) (s:= -1) (.inr rfl);rw[<- tW h0,h]at h1;omega
   have c3:=mC z (z.map fun a=>(-1:Int)*a);generalize fq z (z.map fun a=>(-1:Int)*a)=q at*
   generalize(z.map fun a=>(-1:Int)*a)=y at*
   refine bN [⟨2,_,_,_,c2⟩] (k:=bN [⟨5,_,_,_,c3⟩] (k:=aJ rfl (aH (gV ei (k:=?_)))));refine⟨⟨i+1,by omega⟩,by simp only;omega,aE ⟨rfl,trivial⟩ ?_⟩;simp[wk,hs]
 have hie:i=L.length:=by omega
 subst hie;rw[List.take_length];refine aK (k:=bE rfl (bC (k:=aV @Tryz.results37)))
abbrev Ui (l:List (List Int)) (s e:Int):TV:= .tup [(false,[.p (.sl (ls (fR fI) l))]),(false,[.p (.raw (.int .i64 s))]),(false,[.p (.raw (.int .i64 e))])]
theorem A6 (n:Nat) (f:FF) (B:Int) (hn1:1<=n) (hn:n<=4) (hr:RedR f n) (hf: ∀i j,i<n->j<n->rI (f i j)) (h0:0<=B) (hB:B<=262144):
  CallC Tryz.prog 35 [dj (bi n n f),.raw (.int .i64 B),.raw (.int .i64 4000)] ⟨[],if(xr n f B 4000).1=true then Ui ((Ka n f B).map Prod.snd) (sL n (xr n f B 4000).2) 0 else Ui [] 0 9⟩:=by
 have cS:=OM n f B 4000 hn1 hn hr hf h0 hB (by decide) (by decide);obtain⟨hl,ht⟩:=Fb (f:=f) (B:=B) (bud:=4000) hn1 (by decide);have hml:=aW n n f;by_cases hb:(xr n f B 4000).1=true
 ·obtain⟨⟨_,hnn,hs⟩,he⟩:=ht hb;have h1:=Nb hnn (show n-1<n by omega);have cI:=FJ n f B hn1 hn hr hf h0 hB (by omega);have cU:=Tx n (xr n f B 4000).2 hn hl hnn (by omega);have hil:(Ka n f B).length<=4000:=by
   have h2:=zK ((qH f n B n []).map (ue n f));rw[List.length_map]at h2;show(zJ _).length<=4000;omega
  have cV:=H7 (Ka n f B) (by omega);rw[if_pos hb]at cS⊢;generalize Ka n f B=L at*
  obtain⟨v,hv⟩:=getElem?_of_lt (show n-1<(xr n f B 4000).2.length by omega);have ev:(xr n f B 4000).2.getD (n-1) 0=v:=by rw[List.getD_eq_getElem?_getD,hv];rfl
  rw[ev]at h1 he;generalize(xr n f B 4000).2=c at*
  generalize bi n n f=M at*
  have en:IntKind.i64.wrap ((n:Int)-1)=((n-1:Nat):Int):=by rw[bu (by omega) (by omega)];omega
  refine aS Tryz.func35 rfl Tryz.ntmps35 (aT (k:=fw [⟨3,_,_,_,cS⟩] @Kf.eq_1 (k:=aF (aK (k:=aJ rfl (aH (aF (aX (aP hml (aP en hv)) (k:=aJ rfl (aH (cb [⟨2,_,_,_,cI⟩,⟨3,_,_,_,cV⟩,⟨5,_,_,_,cU⟩] (k:=aV (aP @Tryz.results35 @Ui.eq_1)))))))))))))
 rw[if_neg hb]at cS⊢;generalize bi n n f=M at*
 refine aS Tryz.func35 rfl Tryz.ntmps35 (aT (k:=fw [⟨3,_,_,_,cS⟩] @Kf.eq_1 (k:=aF (aK (k:=aR rfl (bC (k:=?_)))))));refine bA ⟨.inr rfl,sP 6 rfl rfl ?_ rfl⟩;simp(disch:=omega) only[kd,Tryz.results35,Ui]
section
variable {n:Nat}
theorem Sv (R:FF) {k j:Nat} (i:Nat) (h:j<k):bk R k i j=0:=by
 obtain⟨hi,h1,_⟩:=Iy h;unfold bk;rw[h1];have hl:=qC k;rw[h1,List.length_append,List.length_cons]at hl;exact tT (k:=k+1) (fun xs c d ys hxy=>y7 xs k (om R k) (Ac R k) c d ys hxy) j (jB j) hi [] (by simp;omega)
def mU (p k a:Nat):Nat:=if a=p then k else if a=k then p else a
theorem Rl (p k a:Nat):mU p k (mU p k a)=a:=by unfold mU;grind
theorem qh {p k a:Nat} (hp:p<n) (hk:k<n) (ha:a<n):mU p k a<n:=by unfold mU;split<;>(try split)<;>omega
theorem AO {p k a:Nat} (hp:k<=p) (ha:a<k):mU p k a=a:=by unfold mU;rw[if_neg (by omega),if_neg (by omega)]
theorem Ol {p k a:Nat} (hp:k<=p) (ha:k<=a):k<=mU p k a:=by unfold mU;split<;>(try split)<;>omega
def exQ (p c k:Nat) (f:FF):Nat->Nat->Int:=fun i j=>f (mU p k i) (mU c k j)
theorem Sw (f:FF) {p c k:Nat} (hp:k<=p) (hc:k<=c) (i j:Nat):bk (exQ p c k f) k i j=bk f k (mU p k i) (mU c k j):=by
 have e1:om (exQ p c k f) k=om (fun i j=>f i (mU c k j)) k:=v8 fun t ht=>by unfold exQ;rw[AO hp ht]
 have e2:om (fun i j=>f i (mU c k j)) k=fun l=>om f k (l.map (mU c k)):=funext fun l=>Ad (R:=f) (mU c k) k l
 have e3:(jB k).map (mU c k)=jB k:=by
  have:(jB k).map (mU c k)=(jB k).map id:=List.map_congr_left fun a ha=>AO hc (jv ha)
  rw[this,List.map_id]
 unfold bk;rw[e1,e2];have:=uf (r:=f (mU p k i)) (mU c k) (j::jB k) (om f k);rw[List.map_cons,e3]at this;exact this
theorem Lk (f:FF) {p c k t:Nat} (hp:k<=p) (hc:k<=c) (ht:t<=k):dk (exQ p c k f) t=dk f t:=iu fun i j hi hj=>by
 unfold exQ;rw[AO hp (by omega),AO hc (by omega)]
def H6 (n:Nat) (W:FF) (r:Nat):Prop:= ∃R C:Nat->Nat,(∀t,t<r->R t<n/\C t<n)/\
 (∀a:Nat->Int,(∀t,t<r->smF (fun s=>W (R t) (C s)*a s) r=0)-> ∀s,s<r->a s=0)/\
 ∀u:Nat->Int,(∀t,t<r->smF (fun j=>W (R t) j*u j) n=0)-> ∀i,i<n->smF (fun j=>W i j*u j) n=0
theorem QL {F:Nat->Int} {p k:Nat} (hp:p<n) (hk:k<n):smF (fun j=>F (mU p k j)) n=smF F n:=by
 rw[<- Fa (F:=F) hp hk];exact aI n fun j _=>by
  unfold mU;by_cases e:j=p
  ·rw[if_pos e,if_pos e]
  rw[if_neg e,if_neg e];by_cases e2:j=k
  ·rw[if_pos e2,if_pos e2]
  rw[if_neg e2,if_neg e2]
theorem H6.exQ {W:FF} {p c k r:Nat} (hp:p<n) (hc:c<n) (hk:k<n) (h:H6 n (exQ p c k W) r):H6 n W r:=by
 obtain⟨R,C,h1,h2,h3⟩:=h;refine⟨fun t=>mU p k (R t),fun t=>mU c k (C t),fun t ht=>⟨qh hp hk (h1 t ht).1,qh hc hk (h1 t ht).2⟩,h2,fun u hu i hi=>?_⟩;have key: ∀i,smF (fun j=>Go.Proofs.YtiollbhgpiiodaaGreatDoor.exQ p c k W i j*u (mU c k j)) n=smF (fun j=>W (mU p k i) j*u j) n:=fun i=>QL (F:=fun j=>W (mU p k i) j*u j) hc hk
 have:=h3 (fun j=>u (mU c k j)) (fun t ht=>by rw[key];exact hu t ht) (mU p k i) (qh hp hk hi);rw[key,Rl]at this;exact this
theorem H6.done {W:FF} {k:Nat} (hk:k<=n) (hd: ∀t,t<k->dk W (t+1)≠0) (hz: ∀i j,k<=i->i<n->k<=j->j<n->bk W k i j=0):H6 n W k:=by
 have hdk: ∀t,t<=k->dk W t≠0:=fun t ht=>by
  cases t with
  |zero=>rw[da];omega
  |succ t=>exact hd t ht
 refine⟨id,id,fun t ht=>⟨by show t<n;omega,by show t<n;omega⟩,fun a ha=>vF (hdk k (ac k)) ha,fun u hu i hi=>?_⟩;by_cases hik:i<k
 ·exact hu i hik
 have key: ∀m,m<=k-> ∀i,smF (fun j=>bk W m i j*u j) n=dk W m*smF (fun j=>W i j*u j) n:=fun m=>by
  induction m with
  |zero=>exact fun _ i=>by rw[da,Int.one_mul];exact aI n fun j _=>by rw[dz]
  |succ m ih=>
   intro hm i;have ih:=ih (by omega);apply Int.eq_of_mul_eq_mul_left (hdk m (by omega));have e:dk W m*smF (fun j=>bk W (m+1) i j*u j) n=dk W (m+1)*smF (fun j=>bk W m i j*u j) n+(- bk W m i m)*smF (fun j=>bk W m m j*u j) n:=by
    rw[<- bH,<- bH,<- bH,<- jM];exact aI n fun j _=>by
     have:=sylv W m (fun t ht=>hd t (by omega)) i j;grind
   rw[e,ih i,ih m,show smF (fun j=>W m j*u j) n=0 from hu m (by omega)];grind
 have h1:=key k (ac k) i;rw[aI n (G:=fun _=>0) (fun j hj=>by
  by_cases e:j<k
  ·rw[Sv W i e,Int.zero_mul]
  rw[hz i j (by omega) hi (by omega) hj,Int.zero_mul]),cX]at h1
 rcases Int.mul_eq_zero.1 h1.symm with h|h
 ·exact absurd h (hdk k (ac k))
 exact h
/-! The computation. -/
def pvC (r:Nat->Int):Nat->Nat->Option Nat
 |0,_=>none
 |m+1,j=>if r j=0 then pvC r m (j+1)else some j
def pvQ (n:Nat) (b:FF) (k:Nat):Nat->Nat->Option (Nat×Nat)
 |0,_=>none
 |m+1,i=>match pvC (b i) (n-k) k with
  |some j=>some (i,j)
  |none=>pvQ n b k m (i+1)
theorem CB {r:Nat->Int}: ∀m j c,pvC r m j=some c->j<=c/\c<j+m/\r c≠0
 |0,_,_,h=>by cases h
 |m+1,j,c,h=>by
  rw[pvC]at h;split at h
  ·have:=CB m (j+1) c h;omega
  rename_i hz;injection h with h;subst h;exact⟨ac _,by omega,hz⟩
theorem CA {r:Nat->Int}: ∀m j,pvC r m j=none-> ∀c,j<=c->c<j+m->r c=0
 |0,_,_=>fun c h1 h2=>by omega
 |m+1,j,h=>by
  rw[pvC]at h;split at h
  ·rename_i hz;intro c h1 h2;by_cases e:c=j
   ·rw[e];exact hz
   exact CA m (j+1) h c (by omega) (by omega)
  cases h
theorem wv {b:FF} {k:Nat}: ∀m i p c,pvQ n b k m i=some (p,c)->i<=p/\p<i+m/\k<=c/\c<k+(n-k)/\b p c≠0
 |0,_,_,_,h=>by cases h
 |m+1,i,p,c,h=>by
  rw[pvQ]at h;split at h
  ·rename_i j hj;injection h with h
   injection h with h1 h2
   subst h1;subst h2;obtain⟨g1,g2,g3⟩:=CB _ _ _ hj;exact⟨ac _,by omega,g1,g2,g3⟩
  obtain⟨g1,g2,g3⟩:=wv m (i+1) p c h;exact⟨by omega,by omega,g3⟩
theorem CC {b:FF} {k:Nat}: ∀m i,pvQ n b k m i=none-> ∀p c,i<=p->p<i+m->k<=c->c<k+(n-k)->b p c=0
 |0,_,_=>fun p c h1 h2=>by omega
 |m+1,i,h=>by
  rw[pvQ]at h;split at h
  ·cases h
  rename_i hj;intro p c h1 h2 h3 h4;by_cases e:p=i
  ·rw[e];exact CA _ _ hj c h3 h4
  exact CC m (i+1) h p c (by omega) (by omega) h3 h4
def rkQ (n:Nat):Nat->Nat->(Nat->Nat->Int)->Int->Nat
 |0,k,_,_=>k
 |m+1,k,b,last=>match pvQ n b k (n-k) k with
  |none=>k
  |some (p,c)=>rkQ n m (k+1) (Kb k last (exQ p c k b)) (exQ p c k b k k)
theorem CL: ∀m k (W b:FF),n-k=m->k<=n->(∀t,t<k->dk W (t+1)≠0)->(∀i j,k<=i->i<n->k<=j->j<n->b i j=bk W k i j)->H6 n W (rkQ n m k b (dk W k))
 |0,k,W,b,hm,hk,hd,_=>by
  show H6 n W k;exact H6.done hk hd fun i j h1 h2=>by omega
 |m+1,k,W,b,hm,hk,hd,hb=>by
  have hdk:dk W k≠0:=by
   cases k with
   |zero=>rw[da];omega
   |succ k=>exact hd k (by omega)
  rw[rkQ];split
  ·rename_i hn;exact H6.done hk hd fun i j h1 h2 h3 h4=>by rw[<- hb i j h1 h2 h3 h4];exact CC _ _ hn i j h1 (by omega) h3 (by omega)
  rename_i p c hpc;obtain⟨h1,h2,h3,h4,h5⟩:=wv _ _ _ _ hpc;refine H6.exQ (p:=p) (c:=c) (k:=k) (by omega) (by omega) (by omega) ?_;have hb': ∀i j,k<=i->i<n->k<=j->j<n->Go.Proofs.YtiollbhgpiiodaaGreatDoor.exQ p c k b i j=bk (Go.Proofs.YtiollbhgpiiodaaGreatDoor.exQ p c k W) k i j:=fun i j hi hin hj hjn=>by
   rw[Sw W h1 h3];exact hb _ _ (Ol h1 hi) (qh (by omega) (by omega) hin) (Ol h3 hj) (qh (by omega) (by omega) hjn)
  have hkk:Go.Proofs.YtiollbhgpiiodaaGreatDoor.exQ p c k b k k=dk (Go.Proofs.YtiollbhgpiiodaaGreatDoor.exQ p c k W) (k+1):=by rw[hb' k k (ac _) (by omega) (ac _) (by omega),ca]
  have hne:Go.Proofs.YtiollbhgpiiodaaGreatDoor.exQ p c k b k k≠0:=by
   have:Go.Proofs.YtiollbhgpiiodaaGreatDoor.exQ p c k b k k=b p c:=by unfold Go.Proofs.YtiollbhgpiiodaaGreatDoor.exQ mU;grind
   rw[this];exact h5
  have hd': ∀t,t<k+1->dk (Go.Proofs.YtiollbhgpiiodaaGreatDoor.exQ p c k W) (t+1)≠0:=fun t ht=>by
   by_cases e:t=k
   ·rw[e,<- hkk];exact hne
   rw[Lk W h1 h3 (by omega)];exact hd t (by omega)
  rw[hkk];refine CL m (k+1) _ _ (by omega) (by omega) hd' fun i j hi hin hj hjn=>?_
  have hs:=sylv (Go.Proofs.YtiollbhgpiiodaaGreatDoor.exQ p c k W) k (fun t ht=>hd' t (by omega)) i j;rw[Lk W h1 h3 (ac k)]at hs;show(if k<i/\k<j then _ else _)=_;rw[if_pos ⟨by omega,by omega⟩,hkk,hb' i j (by omega) hin (by omega) hjn,hb' i k (by omega) hin (by omega) (by omega),hb' k j (by omega) (by omega) (by omega) hjn,<- hs,Int.mul_ediv_cancel_left _ hdk]
def rkF (n:Nat) (W:FF):Nat:=rkQ n n 0 W 1
theorem CK (n:Nat) (W:FF):H6 n W (rkF n W):=
 CL n 0 W W rfl (by omega) (fun t ht=>by omega) fun i j _ _ _ _=>(dz W i j).symm
/-! Gram matrices of lists of vectors. -/
def rK (m:Nat) (X:FF):Nat->Nat->Int:=fun i j=>smF (fun a=>X a i*X a j) m
def IndV (n m:Nat) (X:FF):Prop:= ∀c:Nat->Int,(∀i,i<n->smF (fun a=>c a*X a i) m=0)-> ∀a,a<m->c a=0
def dt (n:Nat) (x y:Nat->Int):Int:=smF (fun j=>x j*y j) n
theorem T8 (m:Nat) (X:FF) (u:Nat->Int) (i:Nat):smF (fun j=>rK m X i j*u j) n=smF (fun a=>X a i*dt n (X a) u) m:=by
 unfold rK dt;rw[aI n (G:=fun j=>smF (fun a=>X a i*(X a j*u j)) m) (fun j _=>by rw[<- jr];exact aI m fun a _=>by grind),eQ];exact aI m fun a _=>by rw[bH]
theorem U2 (x:Int):0<=x*x:=by
 rcases Int.le_total 0 x with h|h
 ·exact Int.mul_nonneg h h
 exact Int.mul_nonneg_of_nonpos_of_nonpos h h
theorem Ff {F:Nat->Int}: ∀m,0<=smF (fun a=>F a*F a) m/\(smF (fun a=>F a*F a) m=0-> ∀a,a<m->F a=0)
 |0=>⟨by simp[smF],fun _ a ha=>by omega⟩
 |m+1=>by
  obtain⟨h1,h2⟩:=Ff (F:=F) m;have h3:=U2 (F m);rw[smF];refine⟨by omega,fun h a ha=>?_⟩;by_cases e:a=m
  ·rw[e];rcases Int.mul_eq_zero.1 (show F m*F m=0 by omega)with h|h<;>exact h
  exact h2 (by omega) a (by omega)
theorem vn {r m:Nat} (h:r<m) (E:FF): ∃c:Nat->Int,(∃a,a<m/\c a≠0)/\ ∀t,t<r->smF (fun a=>E t a*c a) m=0:=by
 obtain⟨c,⟨a,ha,hc⟩,hz⟩:=zt r (fun a t=>E t a);refine⟨fun a=>if a<=r then c a else 0,⟨a,by omega,by show(if a<=r then c a else 0)≠0;rw[if_pos ha];exact hc⟩,fun t ht=>?_⟩;have cut: ∀d,smF (fun a=>E t a*(if a<=r then c a else 0)) (r+1+d)=smF (fun a=>c a*E t a) (r+1):=fun d=>by
  induction d with
  |zero=>exact aI _ fun a ha=>by rw[if_pos (by omega),Int.mul_comm]
  |succ d ih=>
   show smF _ (r+1+d+1)=_;rw[smF,ih,if_neg (by omega),Int.mul_zero,Int.add_zero]
 have:=cut (m-(r+1));rw[show r+1+(m-(r+1))=m by omega]at this;rw[this];exact hz t ht
theorem Pl (m:Nat) (X:FF) (c:Nat->Int) (y:Nat->Int):dt n y (fun j=>smF (fun a=>c a*X a j) m)=smF (fun a=>c a*dt n y (X a)) m:=by
 unfold dt;rw[aI n (G:=fun j=>smF (fun a=>c a*(y j*X a j)) m) (fun j _=>by rw[<- bH];exact aI m fun a _=>by grind),eQ];exact aI m fun a _=>by rw[bH]
theorem Tw {m r:Nat} {X:FF} (hS:H6 n (rK m X) r) (hI:IndV n m X):m<=r:=by
 obtain⟨R,C,h1,_,h3⟩:=hS;refine Nat.le_of_not_lt fun hl=>?_
 obtain⟨c,⟨a,ha,hc⟩,hz⟩:=vn hl (fun t a=>smF (fun j=>rK m X (R t) j*X a j) n);obtain⟨u,hu⟩: ∃u:Nat->Int,u=fun j=>smF (fun a=>c a*X a j) m:=⟨_,rfl⟩
 have h4:=h3 u (fun t ht=>by
  rw[<- hz t ht,hu];rw[aI n (G:=fun j=>smF (fun a=>c a*(rK m X (R t) j*X a j)) m) (fun j _=>by rw[<- bH];exact aI m fun a _=>by grind),eQ];exact aI m fun a _=>by rw[bH,Int.mul_comm])
 have h5:smF (fun a=>dt n (X a) u*dt n (X a) u) m=0:=by
  have e:smF (fun i=>u i*smF (fun j=>rK m X i j*u j) n) n=0:=by
   rw[aI n (G:=fun _=>0) (fun i hi=>by rw[h4 i hi,Int.mul_zero]),cX]
  rw[<- e,aI n (F:=fun i=>u i*smF (fun j=>rK m X i j*u j) n) (G:=fun i=>smF (fun a=>dt n (X a) u*(X a i*u i)) m) (fun i _=>by rw[T8,<- bH];exact aI m fun a _=>by grind),eQ];exact aI m fun a _=>by rw[bH];rfl
 have h6:=(Ff m).2 h5;have h7:smF (fun j=>u j*u j) n=0:=by
  have:=Pl m X c u (n:=n);rw[<- hu,aI m (G:=fun _=>0) (fun a ha=>by
   have e:dt n u (X a)=dt n (X a) u:=aI n fun j _=>Int.mul_comm _ _
   rw[e,h6 a ha,Int.mul_zero]),cX]at this
  exact this
 exact hc (hI c (fun i hi=>by have:=(Ff n).2 h7 i hi;rwa[hu]at this) a ha)
def Wl (n m s:Nat) (X Y:FF):Prop:= ∀a,a<m-> ∃(q:Int) (c:Nat->Int),q≠0/\ ∀i,i<n->q*X a i=smF (fun b=>c b*Y b i) s
theorem Ql {m s r:Nat} {X Y:FF} (hS:H6 n (rK m X) r) (hH:Wl n m s X Y):r<=s:=by
 obtain⟨R,C,h1,h2,_⟩:=hS;refine Nat.le_of_not_lt fun hl=>?_
 obtain⟨c,⟨t0,ht0,hc⟩,hz⟩:=vn hl (fun b t=>Y b (C t));refine hc (h2 c (fun t ht=>?_) t0 ht0);have hX: ∀a,a<m->smF (fun u=>X a (C u)*c u) r=0:=fun a ha=>by
  obtain⟨q,d,hq,he⟩:=hH a ha;have:q*smF (fun u=>X a (C u)*c u) r=0:=by
   rw[<- bH,aI r (G:=fun u=>smF (fun b=>d b*(Y b (C u)*c u)) s) (fun u hu=>by rw[<- Int.mul_assoc,he _ (h1 u hu).2,<- jr];exact aI s fun b _=>by grind),eQ,
    aI s (G:=fun _=>0) (fun b hb=>by rw[bH,hz b hb,Int.mul_zero]),cX]
  rcases Int.mul_eq_zero.1 this with h|h
  ·exact absurd h hq
  exact h
 unfold rK;rw[aI r (G:=fun u=>smF (fun a=>X a (R t)*(X a (C u)*c u)) m) (fun u _=>by rw[<- jr];exact aI m fun a _=>by grind),eQ,
  aI m (G:=fun _=>0) (fun a ha=>by rw[bH,hX a ha,Int.mul_zero]),cX]
end
abbrev Uf:Option (Nat×Nat)->TV
 |some (p,c)=> .tup [(false,[.p (.raw (.int .i64 (p:Int)))]),(false,[.p (.raw (.int .i64 (c:Int)))]),(false,[.p (.raw (.bool true))])]
 |none=> .tup [(false,[.p (.raw (.int .i64 0))]),(false,[.p (.raw (.int .i64 0))]),(false,[.p (.raw (.bool false))])]
theorem MO (p c:Nat):Uf (some (p,c))= .tup [(false,[.p (.raw (.int .i64 (p:Int)))]),(false,[.p (.raw (.int .i64 (c:Int)))]),(false,[.p (.raw (.bool true))])]:=rfl
theorem MN:Uf none= .tup [(false,[.p (.raw (.int .i64 0))]),(false,[.p (.raw (.int .i64 0))]),(false,[.p (.raw (.bool false))])]:=rfl
structure Wu (n k:Nat) (f:FF) (R:Option (Nat×Nat)) where
 i:Nat
 hk:k<=i
 hi:i<=n
 e:pvQ n f k (n-i) i=R
structure Wv (n k:Nat) (r:Nat->Int) (C:Option Nat) where
 j:Nat
 hk:k<=j
 hj:j<=n
 e:pvC r (n-j) j=C
theorem P5 (n k:Nat) (f:FF) (hn:n<=16) (hk:k<=n) (hf: ∀i j,i<n->j<n->Sz (f i j) 268435456):
  CallC Tryz.prog 108 [dV (bi n n f),.raw (.int .i64 (k:Int))] ⟨[],Uf (pvQ n f k (n-k) k)⟩:=by
 obtain⟨R,hR⟩: ∃R,R=pvQ n f k (n-k) k:=⟨_,rfl⟩;rw[<- hR];have hml:=aW n n f;refine aS Tryz.func108 rfl Tryz.ntmps108 (aT (k:=aF (bC (k:=?_))));refine aO (G:=Wu n k f R) (fun g=>⟨(dV (bi n n f)::rN k::j4 (jk::rN g.i::j16 (j4 (j4 (j4 (jk::[])))))),Hm []⟩) (fun g=>n-g.i) ⟨k,ac _,hk,hR.symm⟩ ?_ ?_
 ·refine aE trivial ?_;simp[wk]
 rintro⟨i,hki,hin,he⟩;simp only;by_cases hi:i<n
 ·have m1:=bx n f hi;have l1:=bf n (f i);have ei:IntKind.i64.wrap ((i:Int)+1)=((i+1:Nat):Int):=by rw[bu (by omega) (by omega)];omega
  rw[show n-i=n-(i+1)+1 by omega,pvQ]at he;refine aF (aX hml (k:=aR rfl (aH (aF (aG (bC (k:=?_)))))));refine aO (G:=Wv n k (f i) (pvC (f i) (n-k) k)) (fun g=>⟨(dV (bi n n f)::rN k::j4 (jk::rN i::rN g.j::j16 (j4 (j4 (j4 ([])))))),Hm []⟩) (fun g=>n-g.j) ⟨k,ac _,hk,rfl⟩ ?_ ?_
  ·refine aE trivial ?_;simp[wk]
  rintro⟨j,hkj,hjn,hc⟩;simp only;by_cases hj:j<n
  ·have q1:=aQ (f i) hj;have ej:IntKind.i64.wrap ((j:Int)+1)=((j+1:Nat):Int):=by rw[bu (by omega) (by omega)];omega
   have hSg:=kt (f i j) ((hf i j hi hj).mono (by omega));rw[show n-j=n-(j+1)+1 by omega,pvC]at hc;by_cases h0:f i j=0
   ·rw[if_pos h0]at hc;rw[h0]at hSg q1;refine aF (aX (aP m1 l1) (k:=aR rfl (aH (aF (aG (dr [⟨7,_,_,_,hSg⟩] (aP @uw (aP m1 q1)) (k:=aJ rfl (aH (gV ej (k:=?_))))))))));refine⟨⟨j+1,by omega,by omega,hc⟩,by simp only;omega,aE trivial ?_⟩;simp[wk]
   rw[if_neg h0]at hc;rw[<- hc]at he;have he:some (i,j)=R:=he;subst he;have hs0:=CY h0;refine aF (aX (aP m1 l1) (k:=aR rfl (aH (aF (aG (dr [⟨7,_,_,_,hSg⟩] (aP m1 q1) (k:=aR rfl (bC (k:=aV @Tryz.results108)))))))))
  have hjn':j=n:=by omega
  subst hjn';rw[Nat.sub_self,pvC]at hc;rw[<- hc]at he;have he:pvQ j f k (j-(i+1)) (i+1)=R:=he;refine aF (aX (aP m1 l1) (k:=aJ rfl (bz (gV ei (k:=?_)))));refine⟨⟨i+1,by omega,by omega,he⟩,by simp only;omega,aE trivial ?_⟩;simp[wk]
 have hie:i=n:=by omega
 subst hie;rw[Nat.sub_self,pvQ]at he;subst he;refine aF (aX hml (k:=aJ rfl (bz (bC (k:=aV @Tryz.results108)))))
theorem M2 {n k:Nat} {g:FF} {last:Int} (h:pvQ n g k (n-k) k=none):rkQ n (n-k) k g last=k:=by
 cases hm:n-k with
 |zero=>rfl
 |succ m=>rw[rkQ,h]
theorem M3 {n k p c:Nat} {g:FF} {last:Int} (hk:k<n) (h:pvQ n g k (n-k) k=some (p,c)):rkQ n (n-k) k g last=rkQ n (n-(k+1)) (k+1) (Kb k last (exQ p c k g)) (exQ p c k g k k):=by
 have hm:n-k=n-(k+1)+1:=by omega
 rw[hm,rkQ,h]
theorem QN (p k:Nat) (g:FF):swp p k g=fun i=>g (mU p k i):=by
 funext i;unfold swp mU;split
 ·rfl
 split<;>rfl
def Bx (c k:Nat) (g:FF) (i:Nat):Nat->Nat->Int:=fun a b=>if a<i then g a (mU c k b)else g a b
theorem O2 (c k:Nat) (g:FF) (i a b:Nat):upd (upd (Bx c k g i) i c (g i k)) i k (g i c) a b=Bx c k g (i+1) a b:=by
 unfold upd Bx mU;by_cases h1:a=i
 ·subst h1;by_cases h2:b=k
  ·subst h2;by_cases h3:b=c
   ·subst h3;simp
   simp[h3]
  by_cases h3:b=c
  ·subst h3;simp[h2]
  simp[h2,h3]
 have:a<i+1↔a<i:=by omega
 simp[h1,this]
theorem O3 (c k:Nat) (g:FF):Bx c k g 0=g:=by
 funext a b;unfold Bx;rw[if_neg (by omega)]
theorem SI {n:Nat} (c k:Nat) (g:FF) {a b:Nat} (ha:a<n):Bx c k g n a b=g a (mU c k b):=by
 unfold Bx;rw[if_pos ha]
theorem NH (d n k:Nat) (hk:k<n):((gL d (ae n n)).set k [.sl d (k+1) 0 n]).set k [.sl d (k+1) 0 n]=gL d (ae n n):=by
 rw[List.set_set];apply List.ext_getElem?;intro i;rw[List.getElem?_set,cf,List.length_replicate];by_cases h:k=i
 ·subst h;rw[if_pos rfl,if_pos hk,bJ d n hk]
 rw[if_neg h]
theorem CT (R:Option (Nat×Nat)):jK ⟨[],Uf R⟩:=⟨by cases R<;>rfl,fun o ho=>by simp at ho⟩
theorem O8 {ops:Array Oper} {m d:Nat} {R:Option (Nat×Nat)} {s:AS} (hd:cwD ops m=some d):F8 ops m ⟨[],Uf R⟩ s=s.put (some d) (Uf R):=by
 unfold F8;rw[hd];cases R<;>rfl
structure Wy (n:Nat) (f:FF) where
 k:Nat
 g:Nat->Nat->Int
 last:Int
 b:Nat
 hk:k<=n
 e:rkQ n (n-k) k g last=rkF n f
 hl:last≠0
 hb:b+1<=1025*2^k
 sg: ∀i j,i<n->j<n->Sz (g i j) b
 sl:Sz last b
theorem Qb (n:Nat) (f:FF) (hn1:1<=n) (hn:n<=16) (hf: ∀i j,i<n->j<n->Sz (f i j) 1024):
  CallC Tryz.prog 74 [dV (bi n n f)] ⟨[],.tup [(false,[.p (.raw (.int .i64 (rkF n f:Int)))]),(false,[.p (.raw (.bool true))])]⟩:=by
 have hC:=Dy n n f (by omega) hn1 (by omega) (fun i j hi hj=>(hf i j hi hj).mono (by omega));have hS:=eA 1 (by omega) (by omega);have cH:=ot (bi n n f);rw[iE (mu f hn1 hn hn1 hn)]at cH;refine aS Tryz.func74 rfl Tryz.ntmps74 (aT (k:=aF (cb [⟨1,_,_,_,cH⟩] (k:=bC (k:=aJ rfl (aH (cb [⟨1,_,_,_,hC⟩] (k:=bN [⟨0,_,_,_,hS⟩] (k:=bC (k:=?_))))))))));refine aO (G:=Wy n f) (fun g=>⟨(j4 (jk::jk::jk::.one (.sl 25 0 0 n)::.one (.ptr 8 0 0 0)::rN g.k::j16 (j16 (j16 (j16 (j16 (j16 (j16 (j16 (j4 (j4 (j4 ([]))))))))))))),Hm [(8,qx g.last),(25,gp 25 n n g.g)]⟩) (fun g=>n-g.k) ⟨0,f,1,1024,by omega,rfl,by omega,by omega,hf,mJ (by omega)⟩ ?_ ?_
 ·refine aE ⟨?_,?_,trivial⟩ ?_
  ·rfl
  ·exact fE 0 25 n n f
  simp[wk]
 rintro⟨k,g,last,b,hk,he,hl,hb,sgz,slz⟩;simp only;have h2k:=jU (k:=k) (by omega);have hbb:b<=67174400:=by omega
 have cP:=P5 n k g hn hk fun i j hi hj=>(sgz i j hi hj).mono (by omega)
 refine aF (aG ?_)
 first|refine uM 2 cP (CT _) [] [] (by simp[wk]) (by decide) fun K hK=>?_|refine aF (uM 2 cP (CT _) [] [] (by simp[wk]) (by decide) fun K hK=>?_)
 simp only[kd];apply hK;clear hK K;refine⟨⟨⟨_,rfl,.inr ⟨25,0,0,n,rfl,iv (d:=25) (n:=n) (c:=n) (f:=g) rfl,LA (d:=25) (n:=n) (c:=n) (f:=g) rfl⟩,.inl ⟨rfl,rfl⟩,trivial⟩,⟨32,rfl,fun _=>rfl⟩⟩,by simp[wk],?_⟩;intro K hK;rw[O8 (d:=32) rfl];cases hR:pvQ n g k (n-k) k with
 |none=>
  rw[M2 hR]at he;rw[MN];simp only[kd,aa];apply hK;clear hK K;show bL _ _ _ _;refine aF (bC (k:=aR rfl (bC (k:=?_))));rw[he]
  (refine bA ⟨.inr rfl,cd rfl ?_ rfl⟩;simp(disch:=omega) only[kd,Tryz.results74])
 |some pc=>
  obtain⟨p,c⟩:=pc;obtain⟨h1,h2,h3,h4,h5⟩:=wv _ _ _ _ hR;have hkn:k<n:=by omega
  rw[M3 hkn hR]at he;rw[MO];simp only[kd,aa];apply hK;clear hK K;show bL _ _ _ _;refine aF (bC (k:=aJ rfl (aH ?_)));refine aF (l7 (S:=⟨(j4 (jk::jk::jk::.one (.sl 25 0 0 n)::.one (.ptr 8 0 0 0)::rN k::jk::rN c::j16 (j16 (j16 (j16 (j16 (j16 (j16 (j16 (j4 (j4 (jk::jk::[])))))))))))),Hm [(8,qx last),(25,gp 25 n n (swp p k g))]⟩) ?_ ?_)
  ·have g1:=bJ (n:=n) (i:=p) 25 n (by omega);have g2:=bJ (n:=n) (i:=k) 25 n hkn;by_cases hpk:p=k
   ·subst hpk;have g4:((gL 25 (ae n n)).set p [.sl 25 (p+1) 0 n])[p]?=some [.sl 25 (p+1) 0 n]:=by
     rw[List.getElem?_set_self (by rw[cf,List.length_replicate];omega)]
    refine nk (aP g1 (aP g4 (NH 25 n p hkn))) (k:=?_);rw[wX];refine aE ⟨rfl,rfl,trivial⟩ ?_;simp[wk]
   have g4:((gL 25 (ae n n)).set p [.sl 25 (k+1) 0 n])[k]?=some [.sl 25 (k+1) 0 n]:=by
    rw[List.getElem?_set_ne hpk,g2]
   refine nk (aP g2 (aP g1 g4)) (k:=?_);refine(qn 25 (p+1) (k+1) (gp 25 n n (swp p k g)) (z8 g (by omega) hkn (Ne.symm hpk))).trans (aE ⟨rfl,rfl,trivial⟩ ?_);simp[wk,Fg,kw,pn,sw]
  have hG:exQ p c k g=fun a b=>swp p k g a (mU c k b):=by rw[QN];rfl
  have hkk0:exQ p c k g k k≠0:=by
   have:exQ p c k g k k=g p c:=by unfold exQ mU;grind
   rw[this];exact h5
  have hsz: ∀i j,i<n->j<n->Sz (exQ p c k g i j) b:=fun i j hi hj=>sgz _ _ (qh (by omega) hkn hi) (qh (by omega) hkn hj)
  have hEq: ∀a b,a<n->Bx c k (swp p k g) n a b=exQ p c k g a b:=fun a b ha=>by rw[SI c k _ ha,hG]
  generalize exQ p c k g=g' at*
  generalize swp p k g=g1 at*
  clear hG;refine aF (bC (k:=?_));refine aO (G:=iJ n) (fun q=>⟨(j4 (jk::jk::jk::.one (.sl 25 0 0 n)::.one (.ptr 8 0 0 0)::rN k::jk::rN c::j16 (j16 (j4 (j4 (jk::jk::rN n::rN q.i::j16 (j16 (j16 (j16 (j16 (j4 (j4 (j4 (jk::jk::[])))))))))))))),Hm [(8,qx last),(25,gp 25 n n (Bx c k g1 q.i))]⟩) (fun q=>n-q.i) ⟨0,by omega⟩ ?_ ?_
  ·rw[O3];refine aE ⟨rfl,rfl,trivial⟩ ?_;simp[wk]
  rintro⟨i,hin⟩;simp only;by_cases hi:i<n
  ·have a1:=bJ (n:=n) (i:=i) 25 n hi;have a3:=dU n (Bx c k g1 i) hi;have a5:=dU n (upd (Bx c k g1 i) i c (g1 i k)) hi;have a8:=aQ (upd (Bx c k g1 i) i c (g1 i k) i) hkn;have e0:Bx c k g1 i i=g1 i:=by funext b;unfold Bx;rw[if_neg (by omega)]
   have a6:(bj n (Bx c k g1 i i))[k]?=some (g1 i k):=by rw[e0,aQ _ hkn]
   have a7:(bj n (Bx c k g1 i i))[c]?=some (g1 i c):=by rw[e0,aQ _ (by omega)]
   have ei:IntKind.i64.wrap ((i:Int)+1)=((i+1:Nat):Int):=by rw[bu (by omega) (by omega)];omega
   refine aK (k:=bv rfl (aF (aG (bC (k:=nk (aP a1 (aP a3 (aP a6 (aP a7 (aP @iB (aP a5 a8)))))) (k:=gV ei (k:=?_)))))));refine⟨⟨i+1,by omega⟩,by simp only;omega,aE ⟨rfl,?_,trivial⟩ ?_⟩
   ·show _::_=_::_;rw[b7 fun a b _ _=>O2 c k g1 i a b]
   simp[wk]
  have hie:i=n:=by omega
  subst hie;have hmx:gp 25 i i (Bx c k g1 i)=gp 25 i i g':=by
   show _::_=_::_;rw[b7 fun a b ha _=>hEq a b ha]
  rw[hmx];clear hmx hEq;have ek:IntKind.i64.wrap ((k:Int)+1)=((k+1:Nat):Int):=by rw[bu (by omega) (by omega)];omega
  refine aK (k:=bE rfl (aF (il ek (k:=?_))));refine aO (G:=Vb i k) (fun q=>⟨(j4 (jk::jk::jk::.one (.sl 25 0 0 i)::.one (.ptr 8 0 0 0)::rN k::j4 (.raw (.int .i64 (q.i:Int))::j16 (j16 (j16 (j16 (j16 (j16 (j16 (j16 (j4 (jk::jk::jk::[])))))))))))),Hm [(8,qx last),(25,gp 25 i i (d9 k last g' q.i (k+1)))]⟩) (fun q=>i-q.i) ⟨k+1,by omega,by omega⟩ ?_ ?_
  ·rw[GS];refine aE ⟨rfl,rfl,trivial⟩ ?_;simp[wk]
  rintro⟨u,hku,hui⟩;simp only;by_cases hu:u<i
  ·have a1:=bJ (n:=i) (i:=u) 25 i hu;have eu:IntKind.i64.wrap ((u:Int)+1)=((u+1:Nat):Int):=by rw[bu (by omega) (by omega)];omega
   refine aF (aK (k:=aR rfl (aH (aF (aG (il ek (k:=?_)))))));refine aO (G:=Vb i k) (fun q=>⟨(j4 (jk::jk::jk::.one (.sl 25 0 0 i)::.one (.ptr 8 0 0 0)::rN k::j4 (.raw (.int .i64 (u:Int))::rN q.i::j16 (j16 (j16 (j16 (j16 (j16 (j16 (j16 (j4 (jk::jk::[])))))))))))),Hm [(8,qx last),(25,gp 25 i i (d9 k last g' u q.i))]⟩) (fun q=>i-q.i) ⟨k+1,by omega,by omega⟩ ?_ ?_
   ·refine aE ⟨rfl,rfl,trivial⟩ ?_;simp[wk]
   rintro⟨j,hkj,hjn⟩;simp only;have a3:=dU i (d9 k last g' u j) hu;by_cases hj:j<i
   ·have a2:=bJ (n:=i) (i:=k) 25 i hkn;have a4:=dU i (d9 k last g' u j) hkn;have a5:(bj i (d9 k last g' u j k))[k]?=some (g' k k):=by rw[aQ _ hkn,iY _ _ (by omega)]
    have a6:(bj i (d9 k last g' u j u))[j]?=some (g' u j):=by rw[aQ _ hj,iY _ _ (by omega)]
    have a7:(bj i (d9 k last g' u j u))[k]?=some (g' u k):=by rw[aQ _ hkn,iY _ _ (by omega)]
    have a8:(bj i (d9 k last g' u j k))[j]?=some (g' k j):=by rw[aQ _ hj,iY _ _ (by omega)]
    have ej:IntKind.i64.wrap ((j:Int)+1)=((j+1:Nat):Int):=by rw[bu (by omega) (by omega)];omega
    have z1:=hsz k k hkn hkn;have z2:=hsz u j hu hj;have z3:=hsz u k hu hkn;have z4:=hsz k j hkn hj;have c1:=ib (g' k k) (g' u j) (z1.mono (by omega)) (z2.mono (by omega));have c2:=ib (g' u k) (g' k j) (z3.mono (by omega)) (z4.mono (by omega));have c3:=xv (g' k k*g' u j) (g' u k*g' k j) ((z1.mul z2).mono (by omega)) ((z3.mul z4).mono (by omega));have c4:=uI (g' k k*g' u j-g' u k*g' k j) last hl (((z1.mul z2).sub (z3.mul z4)).mono (by omega)) (slz.mono (by omega));refine aF (aX a1 (k:=aR rfl (aH (aF (aG (f5 [⟨19,_,_,_,c1⟩,⟨34,_,_,_,c2⟩,⟨35,_,_,_,c3⟩,⟨37,_,_,_,c4⟩] (aP a1 (aP a2 (aP a4 (aP a5 (aP a3 (aP a6 (aP a7 (aP a8 @iB)))))))) (k:=gV ej (k:=?_))))))));refine⟨⟨j+1,by omega,by omega⟩,by simp only;omega,aE ⟨rfl,?_,trivial⟩ ?_⟩
    ·show _::_=_::_;rw[b7 fun a b _ _=>GR last g' hku hkj a b]
    simp[wk]
   have hjn':j=i:=by omega
   subst hjn';refine aF (aX a1 (k:=aJ rfl (bz (gV eu (k:=?_)))));refine⟨⟨u+1,by omega,by omega⟩,by simp only;omega,aE ⟨rfl,?_,trivial⟩ ?_⟩
   ·show _::_=_::_;rw[b7 fun a b _ hb=>Mm last g' u a b hb]
   simp[wk]
  have hui':u=i:=by omega
  subst hui';have a2:=bJ (n:=u) (i:=k) 25 u hkn;have a4:=dU u (d9 k last g' u (k+1)) hkn;have a5:(bj u (d9 k last g' u (k+1) k))[k]?=some (g' k k):=by rw[aQ _ hkn,iY _ _ (by omega)]
  refine aF (aK (k:=aJ rfl (bz (fc (aP a2 (aP a4 a5)) (k:=gV ek (k:=?_))))));refine⟨⟨k+1,Kb k last g',g' k k,2*b+1,by omega,he,hkk0,by rw[Nat.pow_succ];omega,fun x y hx hy=>?_,(hsz k k hkn hkn).mono (by omega)⟩,by simp only;omega,aE ⟨rfl,?_,trivial⟩ ?_⟩
  ·unfold Kb;split
   ·exact((((hsz k k hkn hkn).mul (hsz x y hx hy)).sub ((hsz x k hx hkn).mul (hsz k y hkn hy))).ediv last).mono (by omega)
   exact(hsz x y hx hy).mono (by omega)
  ·show _::_=_::_;rw[b7 fun a b ha _=>Ml last g' a b ha]
  simp[wk]
def xL (L:List (List Int)) (a i:Nat):Int:=(L.getD a []).getD i 0
theorem Hy (m:Nat) (X:FF) (i j:Nat):rK (m+1) X i j=rK m X i j+X m i*X m j:=rfl
theorem RS {n:Nat} {X:FF} {m:Nat}: ∀a,a<=m->(∀b i,b<m->i<n->Sz (X b i) 2)-> ∀i j,i<n->j<n->Sz (rK a X i j) (4+a)
 |0,_,_,i,j,_,_=>pf _
 |a+1,ha,hX,i,j,hi,hj=>by
  rw[Hy];exact Sz.add (k:=4+a) (RS a (by omega) hX i j hi hj) ((Sz.mul (hX a i (by omega) hi) (hX a j (by omega) hj)).mono (by omega))
def Du (a:Nat) (X:FF) (i j:Nat):Nat->Nat->Int:=fun p q=>if p<i\/(p=i/\q<j)then rK (a+1) X p q else rK a X p q
theorem Rj (a:Nat) (X:FF) (i j p q:Nat):upd (Du a X i j) i j (rK a X i j+X a i*X a j) p q=Du a X i (j+1) p q:=by
 unfold upd Du;by_cases h1:p=i
 ·subst h1;by_cases h2:q=j
  ·subst h2;simp[Hy]
  have:q<j+1↔q<j:=by omega
  simp[h2,this]
 simp[h1]
theorem T6 {n:Nat} (a:Nat) (X:FF) (i p q:Nat) (hq:q<n):Du a X i n p q=Du a X (i+1) 0 p q:=by
 unfold Du;have:(p<i\/p=i/\q<n)↔(p<i+1\/p=i+1/\q<0):=by omega
 simp only[this]
theorem Rk (a:Nat) (X:FF):Du a X 0 0=rK a X:=by
 funext p q;unfold Du;rw[if_neg (by omega)]
theorem T5 {n:Nat} (a:Nat) (X:FF) (p q:Nat) (hp:p<n):Du a X n 0 p q=rK (a+1) X p q:=by
 unfold Du;rw[if_pos (by omega)]
theorem U7 (a:Nat) (X:FF) (i j:Nat):Du a X i j i j=rK a X i j:=by unfold Du;rw[if_neg (by omega)]
theorem Tt (n:Nat) (L:List (List Int)) (hn1:1<=n) (hn:n<=4) (hm:L.length<=8) (hl: ∀x∈L,x.length=n) (hb: ∀x∈L,∀z∈x,z.natAbs<=5704253440):
  CallC Tryz.prog 38 [.raw (.int .i64 (n:Int)),dj L] ⟨[],.raw (.int .i64 (rkF n (rK L.length (xL L)):Int))⟩:=by
 have hat: ∀a x i,L[a]?=some x->i<n->x[i]?=some (xL L a i)/\(xL L a i).natAbs<=5704253440:=fun a x i hx hi=>by
  have h1:=hl x (aw hx);obtain⟨z,hz⟩:=getElem?_of_lt (show i<x.length by omega);have:xL L a i=z:=by
   unfold xL;rw[List.getD_eq_getElem?_getD,List.getD_eq_getElem?_getD,hx];show(x[i]?).getD 0=z;rw[hz];rfl
  rw[this];exact⟨hz,hb x (aw hx) z (aw hz)⟩
 have hX: ∀a i,a<L.length->i<n->Sz (xL L a i) 2/\(xL L a i).natAbs<=5704253440:=fun a i ha hi=>by
  obtain⟨x,hx⟩:=getElem?_of_lt ha;have:=(hat a x i hx hi).2;exact⟨by show _<_;omega,this⟩
 generalize xL L=X at*
 have hS:=fun a (ha:a<=L.length)=>RS (n:=n) a ha fun b i hb hi=>(hX b i hb hi).1
 have hZ:=rT n n (by omega) (by omega);rw[oO,nM]at hZ;have cR:=Qb n (rK L.length X) hn1 (by omega) fun i j hi hj=>(hS L.length (ac _) i j hi hj).mono (by omega)
 generalize rkF n (rK L.length X)=rk at*
 refine aS Tryz.func38 rfl Tryz.ntmps38 (aT (k:=cb [⟨2,_,_,_,hZ⟩] (k:=aF (bC (k:=?_)))));refine aO (G:=iJ L.length) (fun q=>⟨(j4 (jk::.one (.sl 14 0 0 n)::j4 (j4 (jk::dj L::rN L.length::rN q.i::j16 (j16 (j4 (j4 (j4 (jk::jk::jk::[]))))))))),Hm [(14,gp 14 n n (rK q.i X))]⟩) (fun q=>L.length-q.i) ⟨0,by omega⟩ ?_ ?_
 ·refine aE ⟨fE 0 14 n n _,trivial⟩ ?_;simp[wk]
 rintro⟨a,han⟩;simp only;by_cases ha:a<L.length
 ·obtain⟨x,hx⟩:=getElem?_of_lt ha;have hxl:=hl x (aw hx);have ea:IntKind.i64.wrap ((a:Int)+1)=((a+1:Nat):Int):=by rw[bu (by omega) (by omega)];omega
  refine aK (k:=bv rfl (aF (aG (aX hx (k:=bC (k:=?_))))));refine aO (G:=iJ n) (fun q=>⟨(j4 (jk::.one (.sl 14 0 0 n)::jk::jL x::j4 (jk::jk::jk::dj L::rN L.length::rN a::j4 (.raw (.int .i64 (n:Int))::rN q.i::j16 (j16 (j4 (j4 (jk::[])))))))),Hm [(14,gp 14 n n (Du a X q.i 0))]⟩) (fun q=>n-q.i) ⟨0,by omega⟩ ?_ ?_
  ·rw[Rk];refine aE ⟨rfl,trivial⟩ ?_;simp[wk]
  rintro⟨i,hin⟩;simp only;by_cases hi:i<n
  ·have ei:IntKind.i64.wrap ((i:Int)+1)=((i+1:Nat):Int):=by rw[bu (by omega) (by omega)];omega
   obtain⟨x1,b1⟩:=hat a x i hx hi;refine aK (k:=bv rfl (aF (aG (bC (k:=bC (k:=?_))))));refine aO (G:=iJ n) (fun q=>⟨(j4 (jk::.one (.sl 14 0 0 n)::jk::jL x::rN i::j4 (jk::jk::dj L::rN L.length::rN a::j4 (.raw (.int .i64 (n:Int))::rN i::jk::jk::jk::rN n::rN q.i::j16 (j16 (j4 ([]))))))),Hm [(14,gp 14 n n (Du a X i q.i))]⟩) (fun q=>n-q.i) ⟨0,by omega⟩ ?_ ?_
   ·refine aE ⟨rfl,trivial⟩ ?_;simp[wk]
   rintro⟨j,hjn⟩;simp only;by_cases hj:j<n
   ·have ej:IntKind.i64.wrap ((j:Int)+1)=((j+1:Nat):Int):=by rw[bu (by omega) (by omega)];omega
    obtain⟨x2,b2⟩:=hat a x j hx hj;have a1:=bJ (n:=n) (i:=i) 14 n hi;have a3:=dU n (Du a X i j) hi;have a5:(bj n (Du a X i j i))[j]?=some (rK a X i j):=by rw[aQ _ hj,U7]
    have z1:=(hX a i ha hi).1;have z2:=(hX a j ha hj).1;have c1:=eA (X a i) (by omega) (by omega);have c2:=eA (X a j) (by omega) (by omega);have c3:=ib (X a i) (X a j) (z1.mono (by omega)) (z2.mono (by omega));have c4:=qj (rK a X i j) (X a i*X a j) ((hS a (by omega) i j hi hj).mono (by omega)) ((z1.mul z2).mono (by omega));refine aK (k:=bv rfl (aF (aG (bC (k:=f5 [⟨16,_,_,_,c1⟩,⟨21,_,_,_,c2⟩,⟨22,_,_,_,c3⟩,⟨23,_,_,_,c4⟩] (aP a1 (aP a3 (aP a5 (aP x1 (aP x2 @iB))))) (k:=gV ej (k:=?_)))))));refine⟨⟨j+1,by omega⟩,by simp only;omega,aE ⟨?_,trivial⟩ ?_⟩
    ·show _::_=_::_;rw[b7 fun p q _ _=>Rj a X i j p q]
    simp[wk]
   have hjn':j=n:=by omega
   subst hjn';refine aK (k:=bE rfl (gV ei (k:=?_)));refine⟨⟨i+1,by omega⟩,by simp only;omega,aE ⟨?_,trivial⟩ ?_⟩
   ·show _::_=_::_;rw[b7 fun p q _ hq=>T6 a X i p q hq]
   simp[wk]
  have hin':i=n:=by omega
  subst hin';refine aK (k:=bE rfl (gV ea (k:=?_)));refine⟨⟨a+1,by omega⟩,by simp only;omega,aE ⟨?_,trivial⟩ ?_⟩
  ·show _::_=_::_;rw[b7 fun p q hp _=>T5 a X p q hp]
  simp[wk]
 have ha':a=L.length:=by omega
 subst ha';generalize rK L.length X=W at*
 refine aK (k:=bE rfl ?_);show bL _ _ _ _;refine bL.weak ((bT 14 (iv (d:=14) (n:=n) (c:=n) (f:=W) rfl)).trans (aE (tm:=(j4 (jk::dV (bi n n W)::j16 (j16 (j16 (j4 (j4 (jk::jk::jk::[])))))))) (l:=[]) trivial (by
  simp[wk]
  (repeat' apply And.intro)<;>first|rfl|exact(LA (H:=Hm [(14,gp 14 n n W)]) (d:=14) (n:=n) (c:=n) (f:=W) rfl).symm))) ?_
 refine cb [⟨1,_,_,_,cR⟩] (k:=bC (k:=aV @Tryz.results38))
end Go.Proofs.YtiollbhgpiiodaaGreatDoor
