/-
  Part 18 of a proof (walks and plain facts).
-/
import Derived.Test.YtalmoejhjceflaaGreatR16
import Derived.Lib.SmallJoins
set_option linter.all false
set_option maxRecDepth 100000
set_option maxHeartbeats 64000000
open Nat renaming reduceAdd → aa
open Nat renaming reduceEqDiff → ab
namespace Go.Proofs.YtalmoejhjceflaaGreat
open Go.RowKit Go.Proofs.Tryz
variable {n m j c:Nat} {b:FF} {e:List Int} {P:Program} {w:World} {f:TypeId} {g:Value} {x:Int} {h:Bool} {s:AS}
def ZW (L:List Int) (i k:Nat) (s:(Nat->Nat->Int)×Nat):(Nat->Nat->Int)×Nat:=(upd (upd s.1 i k (Int.tmod (L.getD s.2 0) 3)) k i (Int.tmod (L.getD s.2 0) 3),ia L s.2)
def RA (L:List Int) (i:Nat) (s:(Nat->Nat->Int)×Nat):Nat->(Nat->Nat->Int)×Nat
 |0=>s
 |k+1=>ZW L i k (RA L i s k)
def qp (L:List Int) (s:(Nat->Nat->Int)×Nat):Nat->(Nat->Nat->Int)×Nat
 |0=>s
 |i+1=>RA L i (qp L s i) i
theorem GA {L:List Int} {i:Nat} {s:(Nat->Nat->Int)×Nat} (h:s.2<=L.length): ∀k,(RA L i s k).2<=L.length
 |0=>h
 |k+1=>tp (GA h k)
theorem Gz {L:List Int} {s:(Nat->Nat->Int)×Nat} (h:s.2<=L.length): ∀i,(qp L s i).2<=L.length
 |0=>h
 |i+1=>GA (Gz h i) i
theorem Rh (f:FF) (i j:Nat) (v:Int):upd f i j v i j=v:=by simp[upd]
theorem K0 (b:Nat) (L:List Int) (a n:Nat) (j:I8 L) (w:a<=L.length) (I:n<=8):
  CallT prog b 104 80 [df b,.raw (.int .i64 (n:Int))] (Ma L a) ⟨mT 0 n n (qp L (iv L a 6,lN L a n) n).1,.one (.sl 0 0 0 n)⟩ (Ma L (qp L (iv L a 6,lN L a n) n).2):=by
 have u:=mK b L a n 6 j w I (by omega) (by omega);rw[show((6:Nat):Int)=6 from rfl]at u;have o:(iv L a 6,lN L a n).2<=L.length:=AX w n;refine kA func80 rfl (by kernel_rfl) ?_;rw[ntmps80];refine FI @df.eq_1 (k:=?_);refine sV 2 u [] [] (by kernel_rfl) (by rfl) (by rfl) fun _ K=>?_;simp only[kd,df,aa];apply K
 refine b8 (db (k:=?_));refine kv (G:=jo n) (fun g=>⟨(df b::j4 (.one (.sl 10 0 0 n)::j4 (jk::jk::rN n::rN g.i::j16 (j4 (j4 (j4 (jk::jk::jk::[]))))))),Hm [(10,mT 10 n n (qp L (iv L a 6,lN L a n) g.i).1)]⟩) (fun g=>Ma L (qp L (iv L a 6,lN L a n) g.i).2) (fun g=>n-g.i) ⟨0,by omega⟩ ?_ rfl ?_
 ·refine aj ⟨?_,trivial⟩ ?_
  ·exact dR 0 10 n n _
  simp[wk]
 rintro⟨i,M⟩;simp only;have q:=Gz o i;by_cases h:i<n
 ·refine kP @df.eq_1 (k:=sU rfl (b8 (cY (db (k:=db (k:=?_))))));refine kv (G:=jo i) (fun g=>⟨(df b::j4 (.one (.sl 10 0 0 n)::rN i::rN g.i::j4 (.raw (.int .i64 (n:Int))::rN i::j16 (j4 (j4 (j4 (jk::jk::jk::[]))))))),Hm [(10,mT 10 n n (RA L i (qp L (iv L a 6,lN L a n) i) g.i).1)]⟩) (fun g=>Ma L (RA L i (qp L (iv L a 6,lN L a n) i) g.i).2) (fun g=>i-g.i) ⟨0,by omega⟩ ?_ rfl ?_
  ·refine aj ⟨rfl,trivial⟩ ?_;simp[wk]
  rintro⟨k,N⟩;simp only;have e:=GA (i:=i) q k;by_cases H:k<i
  ·have r:RA L i (qp L (iv L a 6,lN L a n) i) (k+1)=ZW L i k (RA L i (qp L (iv L a 6,lN L a n) i) k):=rfl;generalize RA L i (qp L (iv L a 6,lN L a n) i) k=s at*
   obtain⟨f,p⟩:=s;simp only at e⊢;have F:=MR b L p j e;have J:=j.getD p;have t:=ch (n:=n) (i:=i) 10 n h;have y:=ch (n:=n) (i:=k) 10 n (by omega);have z:=ee n f h;have A:=aB (f i) (show k<n by omega);have c:ZW L i k (f,p)=(upd (upd f i k (Int.tmod (L.getD p 0) 3)) k i (Int.tmod (L.getD p 0) 3),ia L p):=rfl;obtain⟨v,x⟩: ∃v,Int.tmod (L.getD p 0) 3=v:=⟨_,rfl⟩;rw[x]at c;have B:=ee n (upd f i k v) h;have C:=ee n (upd f i k v) (show k<n by omega);have D:(aQ n (upd f i k v i))[k]?=some v:=by grind [aB,Rh]
   have E:=aB (upd f i k v k) h;refine b8 (kP @df.eq_1 (k:=iC rfl (jr (b8 (cY ?_)))));refine FH cf 6 F [] [] (by kernel_rfl) (by kernel_rfl) (by rfl) (by rfl) fun _ K=>?_;simp(disch:=omega) only[kd,df,aa,t,x,z,A,iJ];apply K
   refine VV (aH y (aH t (aH B (aH D (aH C (aH E @iJ)))))) (k:=uM (k:=?_));refine⟨⟨k+1,by omega⟩,by grind,aj ⟨?_,trivial⟩ ?_,?_⟩
   ·rw[r,c];rfl
   ·simp[wk]
   grind
  have m:k=i:=by omega
  subst m;refine b8 (kP @df.eq_1 (k:=ck rfl (CY (uM (k:=?_)))));refine⟨⟨k+1,by omega⟩,by grind,aj ⟨rfl,trivial⟩ ?_,rfl⟩;simp[wk]
 have l:i=n:=by omega
 subst l;refine kP @df.eq_1 (k:=sT rfl (db (k:=?_)));refine mw ⟨.inr rfl,rfl,_,bD.refl _,?_⟩;refine⟨.one (.sl 10 0 0 i),10,?_,rfl,?_,rfl⟩
 ·simp(disch:=omega) only[kd,results80]
 grind [dR]
def Sj (b:Bool) (n i:Nat):Nat:=if b=true/\i+1=n/\3<n then i-2 else i-1
def j9 (b:Bool) (n:Nat):Nat->Nat->Nat->Int
 |0=>fun _ _=>0
 |i+1=>if i=0 then upd (j9 b n i) i i 2 else upd (upd (upd (j9 b n i) i i 2) i (Sj b n i) (-1)) (Sj b n i) i (-1)
theorem NJ {fork:Bool} {n i:Nat} (h:0<i):Sj fork n i<i:=by grind [Sj]
theorem Ih {i a:Nat} (h:a≠i\/m≠n):upd b i n x a m=b a m:=by
 unfold upd;by_cases c:a=i
 ·simp_all
 simp[c]
theorem Db (c:Bool) (n:Nat): ∀i a b,i<=a\/i<=b->j9 c n i a b=0
 |0,_,_,_=>rfl
 |i+1,a,b,h=>by
  have f:=Db c n i a b (by omega);unfold j9;split
  ·grind [Ih]
  rename_i e;have:=NJ (fork:=c) (n:=n) (show 0<i by omega);grind [Ih]
theorem IJ (n:Nat) (b:Bool) (J:n<=8):
  CallC prog 81 [.raw (.int .i64 (n:Int)),.raw (.bool b)] ⟨mT 0 n n (j9 b n n),.one (.sl 0 0 0 n)⟩:=by
 refine ay func81 rfl ntmps81 (aA (k:=ar (k:=ai (bz (k:=?_)))));refine aF (G:=jo n) (fun g=>⟨(.raw (.int .i64 (n:Int))::.raw (.bool b)::jk::jk::jk::.one (.sl 9 0 0 n)::j4 (jk::rN n::rN g.i::j16 (j16 (j4 (j4 (j4 ([]))))))),Hm [(9,kI 9 n n g.i (j9 b n g.i))]⟩) (fun g=>n-g.i) ⟨0,by omega⟩ ?_ ?_
 ·refine aj ⟨?_,trivial⟩ ?_
  ·rfl
  simp[wk]
 rintro⟨i,A⟩;simp only;by_cases m:i<n
 ·have C:=Bp (i:=i) (n:=n) 9 n m;have K:=n9 (i:=i) (n:=n) 9 n A;have D:=aU i n (j9 b n i);have E:=vm (i:=i) (n:=n) (c:=n) 9 (j9 b n i) m (fun j I=>Db b n i i j (by omega));have s:=xo (i:=i+1) (k:=i) (n:=n) 9 n (by omega);have L:=n9 (i:=i+1) (n:=n) 9 n (by omega);have F:=ee (n:=i+1) n (j9 b n i) (i:=i) (by omega);have H:=aB (j9 b n i i) m;have h:j9 b n (i+1)=if i=0 then upd (j9 b n i) i i 2 else upd (upd (upd (j9 b n i) i i 2) i (Sj b n i) (-1)) (Sj b n i) i (-1):=rfl
  generalize j9 b n i=f at*
  refine ar (k:=bi rfl (ai (am (bz (k:=aK (aH C (aH @aaX (aH @acr D))) (k:=?_))))));refine bo.weak (aj (tm:=(.raw (.int .i64 (n:Int))::.raw (.bool b)::jk::jk::jk::.one (.sl 9 0 0 n)::rN i::j4 (.raw (.int .i64 (n:Int))::rN i::j16 (j16 (j4 (j4 (j4 ([])))))))) (l:=[(9,kI 9 n n (i+1) f)]) ⟨?_,trivial⟩ (by simp[wk])) ?_
  ·first|exact E|rfl
  refine aK (aH s (aH F (aH H @iJ))) (k:=ar (k:=?_));obtain⟨o,e⟩: ∃o:Int,o=if b=true/\i+1=n/\3<n then(i:Int)-2 else(i:Int)-1:=⟨_,rfl⟩
  refine ai (oJ (S:=⟨(.raw (.int .i64 (n:Int))::.raw (.bool b)::jk::jk::jk::.one (.sl 9 0 0 n)::rN i::.raw (.int .i64 o)::jk::jk::jk::rN n::rN i::j16 (j16 (j4 (j4 (j4 ([])))))),Hm [(9,kI 9 n n (i+1) (upd f i i 2))]⟩) ?_ ?_)
  ·cases b with
   |false=>
    rw[if_neg (by simp)]at e;refine ar (k:=aq rfl (ak ?_));show bD _ _;refine aj ⟨rfl,trivial⟩ ?_;simp[wk,e]
   |true=>
    by_cases y:i+1=n
    ·by_cases z:3<n
     ·rw[if_pos ⟨rfl,y,z⟩]at e;refine ar (k:=aC rfl (bL (k:=?_)));refine aj ⟨rfl,trivial⟩ ?_;simp[wk,e]
     rw[if_neg (by omega)]at e;refine ar (k:=aq rfl (ak ?_));show bD _ _;refine aj ⟨rfl,trivial⟩ ?_;simp[wk,e]
    rw[if_neg (by omega)]at e;refine ar (k:=aq rfl (ak ?_));show bD _ _;refine aj ⟨rfl,trivial⟩ ?_;simp[wk,e]
  by_cases r:i=0
  ·subst r;rw[if_neg (by omega)]at e;rw[if_pos rfl]at h;refine ar (k:=aq rfl (ak (bL (k:=?_))));refine⟨⟨1,by omega⟩,by grind,aj ⟨?_,trivial⟩ ?_⟩
   ·grind
   simp[wk]
  have q:o=((Sj b n i:Nat):Int):=by
   grind [Sj]
  have B:=NJ (fork:=b) (n:=n) (show 0<i by omega);rw[if_neg r]at h;subst q;generalize Sj b n i=k at*
  generalize upd f i i 2=f2 at*
  have t:=xo (i:=i+1) (k:=k) (n:=n) 9 n (by omega);have u:=ee (n:=i+1) n f2 (i:=i) (by omega);have v:=aB (f2 i) (show k<n by omega);have w:=ee (n:=i+1) n (upd f2 i k (-1)) (i:=k) (by omega);have x:=aB (upd f2 i k (-1) k) m;refine ar (k:=aC rfl (sX (aH s (aH t (aH u (aH v (aH @iJ (aH w x)))))) (k:=bL (k:=?_))));refine⟨⟨i+1,by omega⟩,by grind,aj ⟨?_,trivial⟩ ?_⟩
  ·simp only[h];rfl
  simp[wk]
 have p:i=n:=by omega
 subst p;refine ar (k:=bv rfl ?_);show bo _ _ _ _;rw[GC];refine bz (k:=?_);refine aW ⟨.inr rfl,_,bD.refl _,?_⟩;refine⟨.one (.sl 9 0 0 i),9,?_,rfl,?_,rfl⟩
 ·simp(disch:=omega) only[kd,results81]
 grind [dR]
def GoodP (n:Nat) (f:FF):Prop:=SymF f n/\CF f n/\detF n f<=10000
theorem Oq (n:Nat) (f:FF) (b:1<=n) (x:n<=8) (c: ∀i j:Nat,I64 (f i j)) (r:Bool) (m:r=true↔GoodP n f):CallC prog 84 [dn (mat n n f)] ⟨[],.raw (.bool r)⟩:=by
 have q:=VF n n f b (by omega) b (by omega) (fun i j _ _=>c i j);obtain⟨e,t,s⟩:=pB n n f b (by omega) b (by omega) (fun i j _ _=>(c i j).sz (by omega));by_cases g:e=0
 ·obtain⟨_,_,z,y⟩:=t.1 g;subst g;have u:=gK n f b (by omega) (fun i j _ _=>(c i j).sz (by omega));have v:=fh 10000 (by omega) (by omega);have w:=y8 (detF n f) 10000 ((oO (n:=n) (by omega) (fun i j _ _=>(c i j).sz (by omega))).mono (by omega)) (lB (by decide) (by omega));have l:=A8 (detF n f) 10000;have p:r=decide (detF n f<=10000):=by
   cases r with
   |true=>have:=(m.1 rfl).2.2;simp[this]
   |false=>
    have: ¬detF n f<=10000:=fun h=>by have:=m.2 ⟨z,y,h⟩;cases this
    simp[this]
  rw[p];generalize detF n f=d at*
  refine ay func84 rfl ntmps84 (aA (k:=bM [⟨1,_,_,_,q⟩] (k:=cn [⟨1,_,_,_,s⟩,⟨5,_,_,_,u⟩,⟨6,_,_,_,v⟩,⟨7,_,_,_,w⟩] l (k:=aG @results84))))
 have o:r=false:=by
  cases r with
  |false=>rfl
  |true=>have:=m.1 rfl;exact absurd (t.2 ⟨rfl,x,this.1,this.2.1⟩) g
 subst o;refine ay func84 rfl ntmps84 (aA (k:=bM [⟨1,_,_,_,q⟩] (k:=bK [⟨1,_,_,_,s⟩] (k:=aG @results84))))
theorem R7 {c z:Code} {Q:Exit->AS->List PV->Prop} {S:AS} {g cs1:List PV} (m:dW P n f c (pw (fun j k=>bD j S/\k=cs1) Q) s g) (o:dW P n f z Q S cs1):dW P n f c (pw (dW P n f z Q) Q) s g:=m.mono fun e j k h=>by
 cases e with
 |normal=>
  obtain⟨l,rfl⟩:=h;exact dW.weak l o
 |_=>exact h
def mj (b:Nat) (L:List Int) (n:Nat):(Nat->Nat->Int)×Nat:=
 if b%8<4 then qp L (iv L 0 6,lN L 0 n) n
 else if b%8=4 then(upd (j9 false n n) 0 0 (j9 false n n 0 0+(nC L 0 3:Int)),ia L 0)
 else if b%8=5 then(upd (j9 true n n) (n-1) (n-1) (j9 true n n (n-1) (n-1)+(nC L 0 2:Int)),ia L 0)
 else if b%8=6 then(iv L 0 9,lN L 0 n)
 else(iv L 0 1,lN L 0 n)
open Classical in
noncomputable def ns (b:Nat) (L:List Int) (n:Nat):Nat->Nat->Int:=if GoodP n (mj b L n).1 then(mj b L n).1 else iv L (mj b L n).2 2
theorem tP (f:FF) (i j:Nat) (v:Int) (a b:Nat):upd f i j v a b=v\/upd f i j v a b=f a b:=by
 grind [Rh,Ih]
def Ff (f:FF):Prop:= ∀a b,-9<=f a b/\f a b<=9
theorem Ff.i64 (h:Ff b) (a c:Nat):I64 (b a c):=by have:=h a c;exact⟨by omega,by omega⟩
theorem Ff.upd (h:Ff b) {i:Nat} (g: -9<=x) (l:x<=9):Ff (Go.Proofs.YtalmoejhjceflaaGreat.upd b i n x):=fun a c=>by
 rcases tP b i n x a c with e|e
 ·omega
 rw[e];exact h a c
theorem F6 {a:Nat} (b:0<m) (c:m<=9):Ff (iv e a m):=fun i j=>by
 unfold iv;split
 ·have:=mE (n:=m) e (lN e a i) b;omega
 omega
theorem Zg (x:Int): -2<=Int.tmod x 3/\Int.tmod x 3<=2:=by
 grind
theorem Oz {L:List Int} {i:Nat} {s:(Nat->Nat->Int)×Nat} (h:Ff s.1): ∀k,Ff (RA L i s k).1
 |0=>h
 |k+1=>by
  have:=Zg (L.getD (RA L i s k).2 0);exact((Oz h k).upd (by omega) (by omega)).upd (by omega) (by omega)
theorem Oy {L:List Int} {s:(Nat->Nat->Int)×Nat} (h:Ff s.1): ∀i,Ff (qp L s i).1
 |0=>h
 |i+1=>Oz (Oy h i) i
theorem pM (c:Bool) (n:Nat): ∀i a b,-1<=j9 c n i a b/\j9 c n i a b<=2
 |0,_,_=>by simp[j9]
 |i+1,a,b=>by
  have h:=pM c n i;have u: ∀(f:FF) (i j:Nat) (v:Int),(∀a b,-1<=f a b/\f a b<=2)-> -1<=v/\v<=2-> ∀a b,-1<=upd f i j v a b/\upd f i j v a b<=2:=fun f i j v e g a b=>by
   grind [tP]
  unfold j9;grind
theorem JD (c:Nat) (L:List Int) (n:Nat):Ff (mj c L n).1:=by
 have f:=mE (n:=3) L 0 (by omega);have e:=mE (n:=2) L 0 (by omega);have g:=pM false n n 0 0;have h:=pM true n n (n-1) (n-1);unfold mj;split
 ·grind [Oy,F6]
 split
 ·exact Ff.upd (fun a b=>by have:=pM false n n a b;omega) (by omega) (by omega)
 split
 ·exact Ff.upd (fun a b=>by have:=pM true n n a b;omega) (by omega) (by omega)
 grind [F6]
theorem TC (b:Nat) (L:List Int) (n:Nat):(mj b L n).2<=L.length:=by
 grind [mj,Gz,AX,tp]
abbrev tL (c b:Nat) (L B:List Int):TV:= .agg [.p (.raw (.int .u8 (c:Int))),.p (.raw (.int .u8 (b:Int))),.p (.sl (ls f8 L)),.p (.sl (ls f8 B))]
theorem Vz (o e:Nat) (L B:List Int) (g n:Nat) (w:I8 L) (P:o<=255) (N:e<=255) (V:1<=g) (W:g<=8) (hn:n=1+o%g):
  CallC prog 35 [tL o e L B,.raw (.int .i64 (g:Int))] ⟨[],dn (mat n n (ns e L n))⟩:=by
 have C:1<=n:=by omega
 have q:n<=8:=by have:=aaQ o (show 0<g by omega);omega
 have Q:Int.tmod (o:Int) (g:Int)=((o%g:Nat):Int):=(adu o g).symm;have R:Int.tmod (e:Int) 8=((e%8:Nat):Int):=(adu e 8).symm;have T:1+((o%g:Nat):Int)=(n:Int):=by omega
 refine ay func35 rfl ntmps35 (pC @tL.eq_1 (k:=ar (k:=M0 11 (cs:=Ma L 0) rfl fun b=>?_)));refine dW.weak (aj (tm:=(jk::rN g::.one (.ptr 2 0 0 0)::jk::jk::df b::j16 (j16 (j16 (j16 (j4 ([]))))))) (l:=[(2,[⟨24,4,[[.p (.raw (.int .u8 (o:Int))),.p (.raw (.int .u8 (e:Int))),.p (.sl (ls f8 L)),.p (.sl (ls f8 B))]]⟩])]) ⟨rfl,trivial⟩ (by simp[wk,tj,jR])) ?_;refine kP (aH @df.eq_1 (aH Q T)) (k:=db (k:=b8 (kP R (k:=?_))));have t:=JD e L n;have u:=TC e L n;refine R7 (S:=⟨(j4 (jk::df b::rN n::dn (mat n n (mj e L n).1)::j16 (j16 (j16 (j16 (jk::jk::[])))))),Hm []⟩) (cs1:=Ma L (mj e L n).2) ?_ ?_
 ·have U:=aaQ e (show 0<8 by omega);have F:e%8<4->mj e L n=qp L (iv L 0 6,lN L 0 n) n:=fun h=>by grind [mj]
  have D:=K0 b L 0 n w (by omega) q;have J:=IJ n false q;have M:=IJ n true q;have y:=AM b L 0 3 w (by omega) (by omega) (by omega);have x:=AM b L 0 2 w (by omega) (by omega) (by omega);have A:=mK b L 0 n 9 w (by omega) q (by omega) (by omega);have z:=mK b L 0 n 1 w (by omega) q (by omega) (by omega);rw[show((3:Nat):Int)=3 from rfl]at y;rw[show((2:Nat):Int)=2 from rfl]at x;rw[show((9:Nat):Int)=9 from rfl]at A;rw[show((1:Nat):Int)=1 from rfl]at z;have q3:=mE (n:=3) L 0 (by omega);have q2:=mE (n:=2) L 0 (by omega);have r1:=pM false n n 0 0;have r2:=pM true n n (n-1) (n-1);have Z:((n:Int)-1).toNat=n-1:=by omega
  have x1:=ch (n:=n) (i:=0) 35 n (by omega);have x2:=ee (n:=n) n (j9 false n n) (i:=0) (by omega);have x3:=aB (m:=n) (j9 false n n 0) (j:=0) (by omega);have y1:=ch (n:=n) (i:=n-1) 48 n (by omega);have y2:=ee (n:=n) n (j9 true n n) (i:=n-1) (by omega);have y3:=aB (m:=n) (j9 true n n (n-1)) (j:=n-1) (by omega);have v:e%8=0\/e%8=1\/e%8=2\/e%8=3\/e%8=4\/e%8=5\/e%8=6\/e%8=7:=by omega
  rcases v with s|s|s|s|s|s|s|s
  ·have r:e%8=0:=by omega
   rw[r,show((0:Nat):Int)=0 from rfl];refine cY (b8 (db (k:=iC rfl (jr (iC rfl ?_)))));refine ij 2 D [] [] (by kernel_rfl) (by rfl) (by rfl) fun _ K=>?_;simp only[kd,df,aa,ab];apply K
   rw[F (by omega)];refine⟨(aj (tm:=(j4 (jk::df b::rN n::.one (.sl 31 0 0 n)::j16 (j16 (j16 (j16 (jk::jk::[]))))))) (l:=[(31,mT 31 n n ((qp L (iv L 0 6,lN L 0 n) n).1))]) ⟨dR 0 31 n n _,trivial⟩ (by simp[wk])).trans ((bH 31 (fQ rfl)).trans (aj (tm:=(j4 (jk::df b::rN n::dn (mat n n ((qp L (iv L 0 6,lN L 0 n) n).1))::j16 (j16 (j16 (j16 (jk::jk::[]))))))) (l:=[]) trivial (by
    simp[wk];exact⟨rfl,rfl,(xg (H:=Hm [(31,mT 31 n n ((qp L (iv L 0 6,lN L 0 n) n).1))]) (d:=31) (n:=n) (c:=n) (f:=(qp L (iv L 0 6,lN L 0 n) n).1) rfl).symm⟩))),rfl⟩
  ·have r:e%8=1:=by omega
   rw[r,show((1:Nat):Int)=1 from rfl];refine cY (b8 (db (k:=ck rfl (db (k:=iC rfl (jr (iC rfl ?_)))))));refine ij 2 D [] [] (by kernel_rfl) (by rfl) (by rfl) fun _ K=>?_;simp only[kd,df,aa,ab];apply K
   rw[F (by omega)];refine⟨(aj (tm:=(j4 (jk::df b::rN n::.one (.sl 31 0 0 n)::j16 (j16 (j16 (j16 (jk::jk::[]))))))) (l:=[(31,mT 31 n n ((qp L (iv L 0 6,lN L 0 n) n).1))]) ⟨dR 0 31 n n _,trivial⟩ (by simp[wk])).trans ((bH 31 (fQ rfl)).trans (aj (tm:=(j4 (jk::df b::rN n::dn (mat n n ((qp L (iv L 0 6,lN L 0 n) n).1))::j16 (j16 (j16 (j16 (jk::jk::[]))))))) (l:=[]) trivial (by
    simp[wk];exact⟨rfl,rfl,(xg (H:=Hm [(31,mT 31 n n ((qp L (iv L 0 6,lN L 0 n) n).1))]) (d:=31) (n:=n) (c:=n) (f:=(qp L (iv L 0 6,lN L 0 n) n).1) rfl).symm⟩))),rfl⟩
  ·have r:e%8=2:=by omega
   rw[r,show((2:Nat):Int)=2 from rfl];refine cY (b8 (db (k:=ck rfl (db (k:=ck rfl (db (k:=iC rfl (jr (iC rfl ?_)))))))));refine ij 2 D [] [] (by kernel_rfl) (by rfl) (by rfl) fun _ K=>?_;simp only[kd,df,aa,ab];apply K
   rw[F (by omega)];refine⟨(aj (tm:=(j4 (jk::df b::rN n::.one (.sl 31 0 0 n)::j16 (j16 (j16 (j16 (jk::jk::[]))))))) (l:=[(31,mT 31 n n ((qp L (iv L 0 6,lN L 0 n) n).1))]) ⟨dR 0 31 n n _,trivial⟩ (by simp[wk])).trans ((bH 31 (fQ rfl)).trans (aj (tm:=(j4 (jk::df b::rN n::dn (mat n n ((qp L (iv L 0 6,lN L 0 n) n).1))::j16 (j16 (j16 (j16 (jk::jk::[]))))))) (l:=[]) trivial (by
    simp[wk];exact⟨rfl,rfl,(xg (H:=Hm [(31,mT 31 n n ((qp L (iv L 0 6,lN L 0 n) n).1))]) (d:=31) (n:=n) (c:=n) (f:=(qp L (iv L 0 6,lN L 0 n) n).1) rfl).symm⟩))),rfl⟩
  ·have r:e%8=3:=by omega
   rw[r,show((3:Nat):Int)=3 from rfl];refine cY (b8 (db (k:=ck rfl (db (k:=ck rfl (db (k:=ck rfl (uM (k:=iC rfl ?_)))))))));refine ij 2 D [] [] (by kernel_rfl) (by rfl) (by rfl) fun _ K=>?_;simp only[kd,df,aa,ab];apply K
   rw[F (by omega)];refine⟨(aj (tm:=(j4 (jk::df b::rN n::.one (.sl 31 0 0 n)::j16 (j16 (j16 (j16 (jk::jk::[]))))))) (l:=[(31,mT 31 n n ((qp L (iv L 0 6,lN L 0 n) n).1))]) ⟨dR 0 31 n n _,trivial⟩ (by simp[wk])).trans ((bH 31 (fQ rfl)).trans (aj (tm:=(j4 (jk::df b::rN n::dn (mat n n ((qp L (iv L 0 6,lN L 0 n) n).1))::j16 (j16 (j16 (j16 (jk::jk::[]))))))) (l:=[]) trivial (by
    simp[wk];exact⟨rfl,rfl,(xg (H:=Hm [(31,mT 31 n n ((qp L (iv L 0 6,lN L 0 n) n).1))]) (d:=31) (n:=n) (c:=n) (f:=(qp L (iv L 0 6,lN L 0 n) n).1) rfl).symm⟩))),rfl⟩
  ·have r:e%8=4:=by omega
   rw[r,show((4:Nat):Int)=4 from rfl];refine cY (b8 (db (k:=ck rfl (db (k:=ck rfl (db (k:=ck rfl (uM (k:=ck rfl (db (k:=iC rfl (UT [⟨1,_,_,_,J⟩] (k:=?_)))))))))))));refine dW.weak (aj (tm:=(j4 (jk::df b::rN n::.one (.sl 35 0 0 n)::j16 (j16 (j16 (j16 (jk::jk::[]))))))) (l:=[(35,mT 35 n n (j9 false n n))]) ⟨dR 0 35 n n _,trivial⟩ (by simp[wk])) ?_;refine kw cf 6 y [] [] (by kernel_rfl) (by kernel_rfl) (by rfl) (by rfl) fun _ K=>?_;simp(disch:=omega) only[kd,df,aa,Int.reduceToNat,x1,x2,x3,aR,iJ];apply K
   rw[show mj e L n=(upd (j9 false n n) 0 0 (j9 false n n 0 0+(nC L 0 3:Int)),ia L 0) by grind [mj]];refine⟨(aj (tm:=(j4 (jk::df b::rN n::.one (.sl 35 0 0 n)::j16 (j16 (j16 (j16 (jk::jk::[]))))))) (l:=[(35,mT 35 n n (upd (j9 false n n) 0 0 (j9 false n n 0 0+(nC L 0 3:Int))))]) ⟨rfl,trivial⟩ (by simp[wk])).trans ((bH 35 (fQ rfl)).trans (aj (tm:=(j4 (jk::df b::rN n::dn (mat n n (upd (j9 false n n) 0 0 (j9 false n n 0 0+(nC L 0 3:Int))))::j16 (j16 (j16 (j16 (jk::jk::[]))))))) (l:=[]) trivial (by
    simp[wk];exact⟨rfl,rfl,(xg (H:=Hm [(35,mT 35 n n (upd (j9 false n n) 0 0 (j9 false n n 0 0+(nC L 0 3:Int))))]) (d:=35) (n:=n) (c:=n) (f:=upd (j9 false n n) 0 0 (j9 false n n 0 0+(nC L 0 3:Int))) rfl).symm⟩))),rfl⟩
  ·have r:e%8=5:=by omega
   rw[r,show((5:Nat):Int)=5 from rfl];refine cY (b8 (db (k:=ck rfl (db (k:=ck rfl (db (k:=ck rfl (uM (k:=ck rfl (db (k:=ck rfl (db (k:=iC rfl (UT [⟨1,_,_,_,M⟩] (k:=?_)))))))))))))));refine dW.weak (aj (tm:=(j4 (jk::df b::rN n::.one (.sl 48 0 0 n)::j16 (j16 (j16 (j16 (jk::jk::[]))))))) (l:=[(48,mT 48 n n (j9 true n n))]) ⟨dR 0 48 n n _,trivial⟩ (by simp[wk])) ?_;refine kw cf 10 x [] [] (by kernel_rfl) (by kernel_rfl) (by rfl) (by rfl) fun _ K=>?_;simp(disch:=omega) only[kd,df,aa,aR,Z,y1,y2,y3,iJ];apply K
   rw[show mj e L n=(upd (j9 true n n) (n-1) (n-1) (j9 true n n (n-1) (n-1)+(nC L 0 2:Int)),ia L 0) by grind [mj]];refine⟨(aj (tm:=(j4 (jk::df b::rN n::.one (.sl 48 0 0 n)::j16 (j16 (j16 (j16 (jk::jk::[]))))))) (l:=[(48,mT 48 n n (upd (j9 true n n) (n-1) (n-1) (j9 true n n (n-1) (n-1)+(nC L 0 2:Int))))]) ⟨rfl,trivial⟩ (by simp[wk])).trans ((bH 48 (fQ rfl)).trans (aj (tm:=(j4 (jk::df b::rN n::dn (mat n n (upd (j9 true n n) (n-1) (n-1) (j9 true n n (n-1) (n-1)+(nC L 0 2:Int))))::j16 (j16 (j16 (j16 (jk::jk::[]))))))) (l:=[]) trivial (by
    simp[wk];exact⟨rfl,rfl,(xg (H:=Hm [(48,mT 48 n n (upd (j9 true n n) (n-1) (n-1) (j9 true n n (n-1) (n-1)+(nC L 0 2:Int))))]) (d:=48) (n:=n) (c:=n) (f:=upd (j9 true n n) (n-1) (n-1) (j9 true n n (n-1) (n-1)+(nC L 0 2:Int))) rfl).symm⟩))),rfl⟩
  ·have r:e%8=6:=by omega
   rw[r,show((6:Nat):Int)=6 from rfl];refine cY (b8 (db (k:=ck rfl (db (k:=ck rfl (db (k:=ck rfl (uM (k:=ck rfl (db (k:=ck rfl (db (k:=ck rfl (db (k:=iC rfl ?_)))))))))))))));refine ij 2 A [] [] (by kernel_rfl) (by rfl) (by rfl) fun _ K=>?_;simp only[kd,df,aa,ab];apply K
   rw[show mj e L n=(iv L 0 9,lN L 0 n) by grind [mj]];refine⟨(aj (tm:=(j4 (jk::df b::rN n::.one (.sl 66 0 0 n)::j16 (j16 (j16 (j16 (jk::jk::[]))))))) (l:=[(66,mT 66 n n (iv L 0 9))]) ⟨dR 0 66 n n _,trivial⟩ (by simp[wk])).trans ((bH 66 (fQ rfl)).trans (aj (tm:=(j4 (jk::df b::rN n::dn (mat n n (iv L 0 9))::j16 (j16 (j16 (j16 (jk::jk::[]))))))) (l:=[]) trivial (by
    simp[wk];exact⟨rfl,rfl,(xg (H:=Hm [(66,mT 66 n n (iv L 0 9))]) (d:=66) (n:=n) (c:=n) (f:=iv L 0 9) rfl).symm⟩))),rfl⟩
  have r:e%8=7:=by omega
  rw[r,show((7:Nat):Int)=7 from rfl];refine cY (b8 (db (k:=ck rfl (db (k:=ck rfl (db (k:=ck rfl (uM (k:=ck rfl (db (k:=ck rfl (db (k:=ck rfl (db (k:=ck rfl ?_)))))))))))))));refine ij 2 z [] [] (by kernel_rfl) (by rfl) (by rfl) fun _ K=>?_;simp only[kd,df,aa,ab];apply K
  rw[show mj e L n=(iv L 0 1,lN L 0 n) by grind [mj]];refine⟨(aj (tm:=(j4 (jk::df b::rN n::.one (.sl 23 0 0 n)::j16 (j16 (j16 (j16 (jk::jk::[]))))))) (l:=[(23,mT 23 n n (iv L 0 1))]) ⟨dR 0 23 n n _,trivial⟩ (by simp[wk])).trans ((bH 23 (fQ rfl)).trans (aj (tm:=(j4 (jk::df b::rN n::dn (mat n n (iv L 0 1))::j16 (j16 (j16 (j16 (jk::jk::[]))))))) (l:=[]) trivial (by
   simp[wk];exact⟨rfl,rfl,(xg (H:=Hm [(23,mT 23 n n (iv L 0 1))]) (d:=23) (n:=n) (c:=n) (f:=iv L 0 1) rfl).symm⟩))),rfl⟩
 generalize X:mj e L n=Y at*
 obtain⟨f,p⟩:=Y;simp only at t u⊢;have E:ns e L n=(open Classical in if GoodP n f then f else iv L p 2):=by grind [ns]
 by_cases G:GoodP n f
 ·rw[if_pos G]at E;rw[E];have I:=Oq n f C q t.i64 true (by simp[G]);refine b8 (Nm [⟨1,_,_,_,I⟩] @df.eq_1 (k:=ck rfl (jr (db (k:=?_)))));refine mw ⟨.inr rfl,cd rfl ?_ rfl⟩;simp(disch:=omega) only[kd,results35,dn]
 rw[if_neg G]at E;rw[E];have I:=Oq n f C q t.i64 false (by simp[G]);have O:=mK b L p n 2 w u q (by omega) (by omega);rw[show((2:Nat):Int)=2 from rfl]at O;refine b8 (Nm [⟨1,_,_,_,I⟩] @df.eq_1 (k:=iC rfl ?_));refine sV 2 O [] [] (by kernel_rfl) (by rfl) (by rfl) fun _ K=>?_;simp only[kd,df,aa];apply K
 refine dW.weak (aj (tm:=(j4 (.one (.sl 72 0 0 n)::j16 (j16 (j16 (j16 (j4 (jk::[])))))))) (l:=[(72,mT 72 n n (iv L p 2))]) ⟨dR 0 72 n n _,trivial⟩ (by simp[wk])) ?_;refine dW.weak ((bH 72 (fQ rfl)).trans (aj (tm:=(j4 (dn (mat n n (iv L p 2))::j16 (j16 (j16 (j16 (j4 (jk::[])))))))) (l:=[]) trivial (by
  simp[wk];grind [xg,Hm]))) ?_
 refine mw ⟨.inr rfl,cd rfl ?_ rfl⟩;simp(disch:=omega) only[kd,results35,dn]
theorem MU (n c:Nat) (f:FF) (m:1<=n) (B:n<=16) (p:1<=c) (x:c<=16) (y: ∀i j:Nat,i<n->j<c->I64 (f i j)):
  CallC prog 58 [dF (mat n c f)] ⟨mT 0 n c f,WG n true⟩:=by
 have u:=qv (mat n c f);rw[iN (mQ f m B p x),aU,iI f m]at u;refine ay func58 rfl ntmps58 (aA (k:=bM [⟨1,_,_,_,u⟩] (k:=ai (bz (k:=aq rfl (ak (ar (k:=ai (bz (k:=?_))))))))));refine aF (G:=jo n) (fun g=>⟨(dF (mat n c f)::j4 (.raw (.int .i64 (c:Int))::jk::.one (.sl 21 0 0 n)::j4 (j4 (j4 (jk::jk::jk::rN n::rN g.i::j16 (j16 (j4 (jk::jk::[])))))))),Hm [(21,kI 21 n c g.i (part f g.i 0))]⟩) (fun g=>n-g.i) ⟨0,by omega⟩ ?_ ?_
 ·refine aj ⟨?_,trivial⟩ ?_
  ·rfl
  simp[wk]
 rintro⟨i,z⟩;simp only;by_cases o:i<n
 ·have C:=bE c f o;have D:=Bp (i:=i) (n:=n) 21 c o;have J:=n9 (i:=i) (n:=n) 21 c z;have E:=aU i c (part f i 0);have F:=vm (i:=i) (n:=n) (c:=c) 21 (part f i 0) o (fun j A=>by grind [part]);have w:=xo (i:=i+1) (k:=i) (n:=n) 21 c (by omega);have K:=n9 (i:=i+1) (n:=n) 21 c (by omega);have L:=ee (n:=i+1) c (part f i 0) (i:=i) (by omega);refine ar (k:=bi rfl (ai (am (bz (k:=aK (aH D (aH @aaX (aH @acr E))) (k:=?_))))));refine bo.weak (aj (tm:=(dF (mat n c f)::j4 (.raw (.int .i64 (c:Int))::jk::.one (.sl 21 0 0 n)::rN i::j4 (j4 (j4 (jk::jk::rN n::rN i::j16 (j16 (j4 (jk::jk::[]))))))))) (l:=[(21,kI 21 n c (i+1) (part f i 0))]) ⟨?_,trivial⟩ (by simp[wk])) ?_
  ·first|exact F|rfl
  refine aK w (k:=?_);refine aF (G:=jo c) (fun g=>⟨(dF (mat n c f)::j4 (.raw (.int .i64 (c:Int))::jk::.one (.sl 21 0 0 n)::rN i::j4 (j4 (j4 (jk::jk::rN n::rN i::j4 (j4 (jk::jk::jk::rN c::rN g.i::j16 (j4 (j4 (jk::[])))))))))),Hm [(21,kI 21 n c (i+1) (part f i g.i))]⟩) (fun g=>c-g.i) ⟨0,by omega⟩ ?_ ?_
  ·refine aj ⟨rfl,trivial⟩ ?_;simp[wk]
  rintro⟨j,A⟩;simp only;by_cases h:j<c
  ·have s:=aB (f i) h;have v:=y i j o h;have t:=uX (f i j) (v.sz (by omega));rw[jO,if_pos (show -9223372036854775808<=f i j/\f i j<=9223372036854775807 from v)]at t;have H:=ee (n:=i+1) c (part f i j) (i:=i) (by omega);have I:=aB (part f i j i) h;refine ar (k:=bi rfl (ai (am (bz (k:=cn [⟨7,_,_,_,t⟩] (aH C s) (k:=ai (bz (k:=aq rfl (ak (dZ (aH w (aH H (aH I @iJ))) (k:=bL (k:=?_))))))))))));refine⟨⟨j+1,by omega⟩,by grind,aj ⟨?_,trivial⟩ ?_⟩
   ·show _::_=_::_;rw[gY fun a b _ _=>io f i j a b]
   simp[wk]
  have r:j=c:=by omega
  subst r;refine ar (k:=bv rfl (bL (k:=?_)));refine⟨⟨i+1,by omega⟩,by grind,aj ⟨?_,trivial⟩ ?_⟩
  ·grind [gY,jK]
  simp[wk]
 have q:i=n:=by omega
 subst q;refine ar (k:=bv rfl ?_);show bo _ _ _ _;have e:kI 21 i c i (part f i 0)=mT 21 i c f:=by
  grind [gY,jJ]
 rw[e];refine bz (k:=?_);refine aW ⟨.inr rfl,Xc (d:=21) rfl ?_ (by decide)⟩;simp(disch:=omega) only[kd,results58]
structure ZD (N B Z n:Nat) (f0 h T:FF) where
 f:Nat->Nat->Int
 t:Nat->Nat->Int
 s:Nat
 adds:Nat
 inv:RedI N B Z n f0 f t s adds
 rch:Rch n f t h T
theorem Gu (a b:Nat):Sz (idF a b) 1:=by grind [idF,lB]
theorem TE {o:Nat} {f0 t h T:FF} (x:E8 n m j c) (u:1<=o) (v:o<=n) (y:dk f0 o<=10000) (z:Rch o b t h T): ∀s p,RedI n m c o f0 b t s p->RedR h o:=by
 induction z with
 |done b t r=>exact fun s p q=>q.red u y r
 |step b t h T e r _ w=>
  intro s p q;cases e with
  |add i g=>exact w _ _ (q.add x v r).1
  |swp l=>exact w _ _ (q.swap x v r)
theorem Li {q:Nat} {f0 t:FF} {s r:Nat} (v:E8 n m j c) (h:RedI n m c q f0 b t s r) (y:q<=n) {l:Ch} (x:scanF b q=some l): ∀a g,a<q->g<q->Sz (UW b l a g) 500:=fun a g z A=>by
 obtain⟨w,u⟩:=je x;cases l with
 |add i o=>
  have u:i<q:=u;show Sz (Rw i o (cF b i o) a g) 500;rcases tP idF o i (cF b i o) a g with e|e
  ·unfold Rw;rw[e];exact(h.szc v y u w.1).mono (by have:=v.z4;omega)
  unfold Rw;rw[e];exact(Gu a g).mono (by omega)
 |swp p=>exact(Gu _ g).mono (by omega)
theorem Wl (f:FF) {c:Ch} (o:scanF f n=some c):mat n n (F1 n f (UW f c))=mat n n (ZN f c):=by
 obtain⟨e,l⟩:=je o;refine gu fun a b g h=>?_
 cases c with
 |add i j=>exact Ss (by have:=e.1;omega) (by have:i<n:=l;have:=e.1;omega) f a b g h
 |swp m=>exact Wm l f a b g h
structure Ke (N B Z n:Nat) (f:FF):Prop where
 good:GoodP n f
 sz: ∀i j,i<n->j<n->Sz (f i j) 400
 st:RedI N B Z n f f idF 0 0
theorem Ke.dk {N B S Z n:Nat} {f:FF} (h:E8 N B S Z) (k:Ke N B Z n f) (b:1<=n):dk f n<=10000:=by
 obtain⟨g,c,e⟩:=k.good;have:=(BO c (n-1) (by omega)).2;grind
theorem Ke.ex {e:Nat} (l:E8 n m j c) (k:Ke n m c e b) (g:1<=e) (o:e<=n): ∃h T,RedR h e/\Rch e b idF h T:=by
 obtain⟨h,T,p⟩:=qg (f0:=b) l o _ b idF 0 0 (aaq _) k.st;exact⟨h,T,TE l g o (k.dk l g) p 0 0 k.st,p⟩
theorem Vg (g:1<=n) (l:n<=8) (h:Ff b) (e:GoodP n b):Ke 8 bB 41 n b:=
 ⟨e,fun i j _ _=>(h.i64 i j).sz (by omega),RedI.start g l e.1 e.2.1 (fun a c=>by have:=h a c;omega) (fun a c _ _=>Gu a c)⟩
theorem Kf (y:E8 n m j c) (r:Nat) (f h T:FF) (u:1<=r) (z:r<=n) (k:Ke n m c r f) (L:RedR h r) (hr:Rch r f idF h T):
  CallC prog 24 [dF (mat r r f)] ⟨mT 0 r r h,.tup [(false,[.sl 0 0 0 r]),(false,[.p (.sl (ls (fR fZ) (mat r r T)))]),(false,[.p (.raw (.int .i64 0))])]⟩:=by
 have E:r<=8:=aaj z y.n8;have R:=k.st;obtain⟨hs,hp,hd⟩:=k.good;have F: ∀i o,i<r->o<r->Sz (f i o) 1024:=fun i o v w=>(k.sz i o v w).mono (by omega)
 obtain⟨e,he,W⟩:=pB r r f u (by omega) u (by omega) F;have O:e=0:=he.2 ⟨rfl,E,hs,hp⟩;subst O;have U:=Ez r f u (by omega) F;rw[decide_eq_true hd]at U;have X:=MN r r f (by omega) u (by omega) (fun i o v w=>(F i o v w).mono (by omega));have Y:=vR r u (by omega);have Q:=aU r r f;refine ay func24 rfl ntmps24 (aA (k:=ai (bM [⟨1,_,_,_,W⟩] (k:=ar (k:=aq rfl (ak (ai (bM [⟨1,_,_,_,U⟩] (k:=aq rfl (ak (bM [⟨1,_,_,_,X⟩] (k:=fj [⟨2,_,_,_,Y⟩] Q (k:=?_)))))))))))));refine aF (G:=ZD n m c r f h T) (fun g=>⟨(j4 (jk::jk::dF (mat r r g.f)::dF (mat r r g.t)::j16 (j16 (j4 (j4 (jk::[])))))),Hm []⟩) (fun g=>U9 j r g.f g.s) ⟨f,idF,0,0,R,hr⟩ ?_ ?_
 ·refine(aj (tm:=(j4 (jk::jk::.one (.sl 22 0 0 r)::.one (.sl 26 0 0 r)::j16 (j16 (j4 (j4 (jk::[]))))))) (l:=[(22,iT 22 r r f),(26,iT 26 r r idF)]) ⟨gz 0 22 r r _,gz 0 26 r r _,trivial⟩ (by simp[wk])).trans ((bH 22 (j1 rfl)).trans ((aj (tm:=(j4 (jk::jk::dF (mat r r f)::.one (.sl 26 0 0 r)::j16 (j16 (j4 (j4 (jk::[]))))))) (l:=[(26,iT 26 r r idF)]) ⟨rfl,trivial⟩ (by
   simp[wk];exact⟨(SJ (H:=Hm [(22,iT 22 r r f),(26,iT 26 r r idF)]) (d:=22) (n:=r) (c:=r) (f:=f) rfl).symm,rfl⟩)).trans ((bH 26 (j1 rfl)).trans (aj trivial ?_))))
  simp[wk];exact⟨rfl,(SJ (H:=Hm [(26,iT 26 r r idF)]) (d:=26) (n:=r) (c:=r) (f:=idF) rfl).symm⟩
 rintro⟨g,t,s,A,x,K⟩;simp only;have M:=Xt r g u E x.dfn.pos (fun i o v w=>(x.szf y z v w).mono (by omega));cases C:scanF g r with
 |none=>
  obtain⟨rfl,rfl⟩:g=h/\t=T:=by
   cases K with
   |done _ _ _=>simp
   |step _ _ _ _ b I _=>grind
  have P:=s7 u E L;have ct:=MU r r g u (by omega) u (by omega) (fun i o v w=>by have:=P i v o w;exact⟨by omega,by omega⟩);rw[C]at M;refine am (fj [⟨1,_,_,_,M⟩] @Yd.eq_1 (k:=ai (bz (k:=aC rfl (fj [⟨1,_,_,_,ct⟩] @WG.eq_1 (k:=?_))))));refine bo.weak (aj (tm:=(j4 (jk::jk::jk::dF (mat r r t)::jk::jk::jk::.one (.sl 38 0 0 r)::j16 (j16 (j4 (jk::[])))))) (l:=[(38,mT 38 r r g)]) ⟨dR 0 38 _ _ _,trivial⟩ (by simp[wk])) ?_;refine bz (k:=?_);refine aW ⟨.inr rfl,_,bD.refl _,?_⟩;refine⟨.tup [(false,[.sl 38 0 0 r]),(false,[.p (.sl (ls (fR fZ) (mat r r t)))]),(false,[.p (.raw (.int .i64 0))])],38,?_,yh (by simp[selfTV,bs]) (by decide),(dR 38 0 _ _ _).symm,rfl⟩;simp(disch:=omega) only[kd,results24]
 |some b=>
  have D:Rch r (ZN g b) (jT r t (UW g b)) h T:=by
   cases K with
   |done _ _ I=>grind
   |step _ _ _ _ c' I aa=>
    grind
  rw[C]at M;have J:=Li y x z C;have ha:=x.adds_le y z;have V:=Cx r g (UW g b) u (by omega) (fun i o v w=>(x.szf y z v w).mono (by omega)) (fun i o v w=>(J i o v w).mono (by omega));rw[Wl g C]at V;have cp:=sI r r r t (UW g b) u (by omega) u (by omega) u (by omega) (fun i o v w=>(x.szt i o v w).mono (aaj (Nat.add_le_add_left (aao (c+4) ha) 1) (by have:=y.sz;omega))) (fun i o v w=>(J i o v w).mono (by omega));refine am (fj [⟨1,_,_,_,M⟩] @Yd.eq_1 (k:=ai (bz (k:=aq rfl (ak (Yw [⟨2,_,_,_,V⟩,⟨5,_,_,_,cp⟩] (k:=?_)))))));cases b with
  |add i o=>
   refine⟨⟨_,_,s,A+1,(x.add y z C).1,D⟩,x.mu_add y z C,aj trivial ?_⟩;simp[wk];exact⟨rfl,rfl⟩
  |swp q=>
   refine⟨⟨_,_,s+1,A,x.swap y z C,D⟩,x.mu_swap y z C,aj trivial ?_⟩;simp[wk];exact⟨rfl,rfl⟩
theorem Bc {f:FF} (g: ∀a b,a≠b->f a b=0) (l: ∀a,0<f a a): ∀k,(0<dk f k/\ ∀t,t<k->0<dk f (t+1))/\ ∀a b,k<=a->k<=b->bk f k a b=dk f k*f a b
 |0=>⟨⟨by rw[cu];omega,fun t h=>by omega⟩,fun a b _ _=>by grind [dr,cu]⟩
 |k+1=>by
  obtain⟨⟨o,p⟩,j⟩:=Bc g l k;have e:dk f (k+1)=dk f k*f k k:=by grind [cb]
  have c:0<dk f (k+1):=by simp_all[aeb]
  refine⟨⟨c,fun t h=>?_⟩,fun a b m n=>?_⟩
  ·grind
  have s:=sylv f k (fun t h=>by grind) a b;rw[j a b (by omega) (by omega),j a k (by omega) (by omega),g a k (by omega),Int.mul_zero,aey,Int.sub_zero]at s;grind [Int.eq_of_mul_eq_mul_left,Int.mul_left_comm]
theorem IX {f:FF} (e: ∀a b,a≠b->f a b=0) (c: ∀a,0<f a a) (g: ∀a,f a a<=2): ∀k,dk f k<=2^k
 |0=>by rw[cu];decide
 |k+1=>by
  obtain⟨⟨j,_⟩,l⟩:=Bc e c k;rw[cb,l k k (by omega) (by omega),Int.pow_succ];have h:=IX e c g k;exact aa9 h (g k) (acd (c k)) (Int.le_trans (acd j) h)
theorem NU (L:List Int) (p n:Nat) (o:1<=n) (m:n<=8):GoodP n (iv L p 2):=by
 have f: ∀a b,a≠b->iv L p 2 a b=0:=fun a b h=>by grind [iv]
 have g: ∀a,0<iv L p 2 a a:=fun a=>by grind [iv]
 have l: ∀a,iv L p 2 a a<=2:=fun a=>by
  unfold iv;rw[if_pos rfl];have:=mE (n:=2) L (lN L p a) (by omega);omega
 have j: ∀k,0<dk (iv L p 2) (k+1):=fun k=>(Bc f g (k+1)).1.1
 have c: ∀k,detF (k+1) (iv L p 2)=dk (iv L p 2) (k+1):=fun k=>mJ fun t _=>by grind
 refine⟨fun a _ b _=>?_,fun k _=>by grind,?_⟩
 ·grind
 have e:=c (n-1);rw[show n-1+1=n by omega]at e;rw[e];have q:=IX f g l n;have r:(2:Int)^n<=2^8:=by
  have:=aaE (show 0<2 by omega) m;grind
 omega
theorem xh (b:Nat) (L:List Int) (n:Nat) (c:1<=n) (e:n<=8):GoodP n (ns b L n)/\Ff (ns b L n):=by
 grind [ns,JD,NU,F6]
theorem RJ (e b:Nat) (L B:List Int) (c n:Nat) (h T:FF) (v:I8 L) (o:e<=255) (g:b<=255) (p:1<=c) (q:c<=8) (y:n=1+e%c) (z:RedR h n) (w:Rch n (ns b L n) idF h T):
  CallC prog 14 [tL e b L B,.raw (.int .i64 (c:Int))] ⟨mT 0 n n h,.one (.sl 0 0 0 n)⟩:=by
 have f:1<=n:=by omega
 have m:n<=8:=by have:=aaQ e (show 0<c by omega);omega
 have s:=Vz e b L B c n v o g p q y;obtain⟨x,r⟩:=xh b L n f m;have u:=Kf ZL n (ns b L n) h T f m (Vg f m r x) z w;have t:=VF n n (ns b L n) f (by omega) f (by omega) (fun i j _ _=>r.i64 i j);generalize ns b L n=A at*
 refine ay func14 rfl ntmps14 (pC @tL.eq_1 (k:=fj [⟨2,_,_,_,s⟩,⟨3,_,_,_,t⟩,⟨4,_,_,_,u⟩] @tL.eq_1 (k:=?_)));refine bo.weak (aj (tm:=(j4 (jk::.one (.sl 13 0 0 n)::j4 (j4 (j4 ([])))))) (l:=[(13,mT 13 n n h)]) ⟨dR 0 13 _ _ _,trivial⟩ (by simp[wk])) ?_;refine bz (k:=?_);refine aW ⟨.inr rfl,_,bD.refl _,?_⟩;refine⟨.one (.sl 13 0 0 n),13,?_,rfl,(dR 13 0 _ _ _).symm,rfl⟩;simp(disch:=omega) only[kd,results14]
theorem RI (e c:Nat) (L B:List Int) (b n:Nat) (h T:FF) (m:I8 L) (g:e<=255) (f:c<=255) (j:1<=b) (l:b<=8) (p:n=1+e%b) (q:RedR h n) (o:Rch n (ns c L n) idF h T):
  CallC prog 14 [tL e c L B,.raw (.int .i64 (b:Int))] ⟨[],dn (mat n n h)⟩:=
 (RJ e c L B b n h T m g f j l p q o).fzI
theorem Vy (b:Nat) (L:List Int) {n:Nat} (c:1<=n) (e:n<=8): ∃h T,RedR h n/\Rch n (ns b L n) idF h T:=by
 obtain⟨g,f⟩:=xh b L n c e;exact(Vg c e f g).ex ZL c e
theorem Vx (e c:Nat) (L B:List Int) (b n:Nat) (p:I8 L) (g:e<=255) (f:c<=255) (j:1<=b) (l:b<=8) (q:n=1+e%b):
  ∃h,RedR h n/\CallC prog 14 [tL e c L B,.raw (.int .i64 (b:Int))] ⟨[],dn (mat n n h)⟩:=by
 obtain⟨h,T,m,o⟩:=Vy c L (n:=n) (by omega) (by have:=aaQ e (show 0<b by omega);omega);grind [RI]
theorem SX (l:List Int) (k:Nat) (v:Int):(lc fI l).set k [AV.p (.raw (.int .i64 v))]=lc fI (l.set k v):=by simp_all[lc,fI]
theorem VD (c:1<=n) (l:n<=8) (m:RedR b n):MI (mat n n b):=fun r e z o=>by
 obtain⟨i,f,rfl⟩:=aai.1 e;obtain⟨j,g,rfl⟩:=aai.1 o;have:=s7 c l m i (aaK.1 f) j (aaK.1 g);exact⟨by omega,by omega⟩
section
open Go.ChangeShapes Go.WideShapes Go.ChangeAt Go.RowKit
theorem TF {A:Option Addr} (u:e.length<=n) (v:e.length<=9223372036854775807) (h:RdI .i8 w A e):bQ (fun _=>False) w (.sl (ls f8 e)) (.slice A e.length n):=by
 cases e with
 |nil=>exact bQ.nil _ _
 |cons p l0=>
  obtain⟨b,o,rfl,t⟩:=h (by simp);have r:=t 0 (.int .i8 p) (by simp);have s:b<w.heap.size:=vg r;have:=bQ.sl (X:=fun _=>False) (w:=w) b o 1 n (ls f8 (p::l0)) (fun i _=> .int .i8 ((p::l0).getD i 0)) (fun h=>h) s (fun f g=>by
   obtain⟨z,_,rfl⟩:=aai.1 g;rfl) (by grind [dU]) (by grind [dU]) (fun i f j x g m=>by
   rw[fX]at g;obtain⟨z,q,rfl⟩:=u6.1 g;cases j with
   |succ j=>simp[f8]at m
   |zero=>
    grind) (fun i f j x g m=>by
   rw[fX]at g;obtain⟨z,q,rfl⟩:=u6.1 g;cases j with
   |succ j=>simp[f8]at m
   |zero=>
    simp[f8]at m;subst m;simp only[aav,q,abh];exact bQ.raw _ rfl)
  grind [dU]
theorem xK {H:Type} {o:TypeId×Value->H} {e:TypeId} {y:DataW H×List MemPlace} (r:P.underlying f=some (.slice e)) (A:P.underlying e=some (.int .i8)) (u:P.cellsOf e=1) (b:DataW.trod o P w n (fun _=>true) h m f [g]=some y):
  ∃L:List Int,bQ (fun _=>False) w (.sl (ls f8 L)) g/\I8 L:=by
 rcases DataW.trod_slice r b with⟨j,_⟩|⟨x,l,c,_,_,_,_,j,_⟩
 ·simp at j;subst j;exact⟨[],bQ.nil _ _,fun z q=>by simp at q⟩
 simp at j;subst j;obtain⟨B,C,D,E,F,s,_⟩:=Pu (enc:=o) (base:=n) (held:=h) (d:=y.1) (p:=y.2) r A u ⟨m,by simpa[Value.cells] using b⟩;refine⟨B,?_,fun z q=>Rm (s z q)⟩;grind [maxLen,TF]
theorem xL {H:Type} {e:TypeId×Value->H} {y:DataW H×List MemPlace} (j:P.underlying f=some (.int .u8)) (b:DataW.trod e P w n (fun _=>true) h m f [g]=some y): ∃c:Nat,g= .int .u8 (c:Int)/\c<=255:=by
 obtain⟨c,o,_,l⟩:=DataW.trod_int j b;have:=yB l;refine⟨c.toNat,?_,by omega⟩;grind
theorem Y1 {d k:Nat} {B:List Int} {c:Value} (f:bQ (fun _=>False) w (.sl (ls f8 e)) g) (h:bQ (fun _=>False) w (.sl (ls f8 B)) c):
  (tL d k e B).rel (fun _ _=>none) (fun _=>[]) (fun _=>False) w (.agg #[.int .u8 (d:Int),.int .u8 (k:Int),g,c]):=by
 refine⟨#[.int .u8 (d:Int),.int .u8 (k:Int),g,c],rfl,rfl,fun j x b=>?_⟩
 match j,b with
 |0,b=>simp at b;subst b;exact⟨_,rfl,rfl,bQ.raw _ rfl⟩
 |1,b=>simp at b;subst b;exact⟨_,rfl,rfl,bQ.raw _ rfl⟩
 |2,b=>simp at b;subst b;exact⟨_,rfl,f.one,f⟩
 |3,b=>simp at b;subst b;exact⟨_,rfl,h.one,h⟩
 |j+4,b=>simp at b
theorem YC: ∀{b:List TV} {vs:List Value},b.length=vs.length->(∀(j:Nat) t v,b[j]?=some t->vs[j]?=some v->t.rel (fun _ _=>none) (fun _=>[]) (fun _=>False) w v)->
  ∀(j:Nat) t,b[j]?=some t-> ∃v:Value,vs.toArray[j]?=some v/\t.rel (fun _ _=>none) (fun _=>[]) (fun _=>False) w v:=fun{b vs} hl h j t hj=>by
 have c:=(aaf.1 hj).1;obtain⟨v,e⟩: ∃v,vs[j]?=some v:=⟨_,aau (by omega)⟩;grind
end
section
theorem jl (c:Int) (F:Nat->Int): ∀k,dJ (fun p=>c*F p) k=c*dJ F k
 |0=>by simp[dJ]
 |k+1=>by rw[dJ,dJ,jl c F k];grind
theorem Qk (c:Int) (F:Nat->Int) (k:Nat):dJ (fun p=>F p*c) k=dJ F k*c:=by
 grind [Int.mul_comm,jl]
def BF (n:Nat) (f:FF) (x y:Nat->Int):Int:=dJ (fun i=>x i*dJ (fun j=>f i j*y j) n) n
variable {n:Nat}
theorem jm {f':FF} {x c y e:Nat->Int} (g: ∀i j,i<n->j<n->b i j=f' i j) (l: ∀i,i<n->x i=c i) (m: ∀i,i<n->y i=e i):BF n b x y=BF n f' c e:=
 bA n fun i h=>by grind [bA]
theorem uU (f g:FF) (x y:Nat->Int) (a b:Int):BF n (fun i j=>a*f i j+b*g i j) x y=a*BF n f x y+b*BF n g x y:=by
 unfold BF;rw[<- jl,<- jl,<- vE];refine bA n fun i _=>?_
 rw[bA n (G:=fun j=>a*(f i j*y j)+b*(g i j*y j)) (fun j _=>by grind),vE,jl,jl];grind
theorem Il (u v x y:Nat->Int):BF n (fun i j=>u i*v j) x y=dJ (fun i=>x i*u i) n*dJ (fun j=>v j*y j) n:=by
 unfold BF;rw[<- Qk];refine bA n fun i _=>?_
 rw[bA n (G:=fun j=>u i*(v j*y j)) (fun j _=>by grind),jl];grind
theorem jf {f:FF} (q:SymF f n) (l: ∀k,k<n->0<dk f (k+1)) (x:Nat->Int): ∀m k,m+k=n->0<=BF n (bk f k) x x/\(BF n (bk f k) x x=0-> ∀i,k<=i->i<n->x i=0)
 |0,k,h=>by
  obtain rfl:k=n:=by omega
  refine⟨?_,fun _ i p s=>by omega⟩;have:BF k (bk f k) x x=0:=by
   simp_all[BF,bA,mF,iO]
  omega
 |m+1,k,h=>by
  obtain⟨p,s⟩:=jf q l x m (k+1) (by omega);have b: ∀t,t<n->dk f (t+1)≠0:=fun t o=>by grind
  have u:0<dk f k:=i6 fun t o=>l t (by omega)
  have c:=l k (by omega);have key:dk f k*BF n (bk f (k+1)) x x=dk f (k+1)*BF n (bk f k) x x-dJ (fun j=>bk f k k j*x j) n*dJ (fun j=>bk f k k j*x j) n:=by
   have r:dk f k*BF n (bk f (k+1)) x x=BF n (fun i j=>dk f k*bk f (k+1) i j+0*bk f k i j) x x:=by rw[uU];omega
   rw[r,jm (f':=fun i j=>dk f (k+1)*bk f k i j+(-1)*(bk f k k i*bk f k k j)) (fun i j w B=>by
    have:=sylv f k (fun t o=>b t (by omega)) i j;have e:=iD q k (by omega) (fun t o=>b t (by omega)) i k w (by omega);grind) (fun _ _=>rfl) (fun _ _=>rfl),uU,Il,bA n (F:=fun i=>x i*bk f k k i) (G:=fun j=>bk f k k j*x j) (fun i _=>Int.mul_comm _ _)]
   omega
  have z:0<=dJ (fun j=>bk f k k j*x j) n*dJ (fun j=>bk f k k j*x j) n:=by
   rcases acm 0 (dJ (fun j=>bk f k k j*x j) n)with h|h
   ·exact aaZ h h
   exact aa4 h h
  have y:=aaZ (acd u) p;have v:0<=dk f (k+1)*BF n (bk f k) x x:=by omega
  refine⟨?_,fun A=>?_⟩
  ·rcases acy (BF n (bk f k) x x) 0 with g|g
   ·have:=Int.mul_neg_of_pos_of_neg c g;omega
   exact g
  rw[A,Int.mul_zero]at key;have C:dk f k*BF n (bk f (k+1)) x x=0:=by omega
  have D:dJ (fun j=>bk f k k j*x j) n*dJ (fun j=>bk f k k j*x j) n=0:=by omega
  have E:BF n (bk f (k+1)) x x=0:=by
   grind [Int.mul_eq_zero]
  grind [Int.mul_eq_zero,pc,A0,cb]
end
section
def PD (f:FF) (n:Nat):Prop:=SymF f n/\ ∀k,k<n->0<dk f (k+1)
theorem RedR.pd (h:RedR b n):PD b n:=⟨h.1,h.2.1⟩
variable {n:Nat}
theorem uV {x y:Nat->Int} (c: ∀i,i<n->x i=0):BF n b x y=0:=by
 simp_all[BF,bA,iO]
theorem PD.pos (c:PD b n) (x:Nat->Int):0<=BF n b x x/\(BF n b x x=0↔ ∀i,i<n->x i=0):=by
 have h:=jf c.1 c.2 x n 0 rfl;grind [BF,dr,uV]
/-! The column of cofactors. -/
def eC (i:Nat):Nat->Int:=fun r=>if r=i then 1 else 0
/-! Bounds. -/
end
def dg (b j:Nat):Int:=((b/3^j%3:Nat):Int)-1
def ZU (n:Nat) (f:FF) (x:Nat->Int):Int:=BF n f x x
theorem WZ {f:FF} {i:Nat} (b:i<n):ZU n f (eC i)=f i i:=by
 grind [eC,pc,ZU,BF]
theorem wI {f:FuncId} {args:List TV} {r:TV} (x:callable P f=true) (h: ∀(X:Nat->Prop) (w:World) (vs:Array Value),(∀b,X b->b<w.heap.size)->vs.size=args.length-> (∀(j:Nat) t,args[j]?=some t-> ∃v:Value,vs[j]?=some v/\t.rel (fun _ _=>none) (fun _=>[]) X w v)->Calls P f vs w fun e l=> ∃v,e= .returned v/\(∀z H Y,(∀b,Y b->b<w.heap.size)->r.rel z H Y l v)/\Ext w l):CallC P f args ⟨[],r⟩:=
 ⟨x,fun X w vs m g u=>(h X w vs m g u).mono fun e l ⟨v,p,q,s⟩=>⟨v,p,fun _ _=>none,Ja s m,q _ _ _ (fun b n=>by
  rcases n with n|⟨a,r,o,c,A,y⟩
  ·grind
  cases y)⟩⟩
theorem ff (M:List (List Int)):CallC prog 36 [dn M] ⟨[],.raw (.bool (isReducedM M))⟩:=by
 refine lZ (by kernel_rfl) fun X w vs q l f=>?_
 obtain⟨r,n,m⟩:=wA f (j:=0) rfl;obtain⟨A,c,rfl,g,h,b⟩:=rG m;obtain rfl:vs= #[.slice A M.length c]:=by
  grind
 refine(lH A c M w b h g).mono fun e s ⟨o,p⟩=>?_
 grind [Ej]
theorem Xf (a b:List (List Int)):CallC prog 17 [dn a,dn b] ⟨[],.raw (.bool (decide (a=b)))⟩:=by
 refine lZ (by kernel_rfl) fun X w vs u n g=>?_
 obtain⟨y,q,o⟩:=wA g (j:=0) rfl;obtain⟨z,r,p⟩:=wA g (j:=1) rfl;obtain⟨A,c,rfl,v,m,h⟩:=rG o;obtain⟨B,d,rfl,x,f,l⟩:=rG p;obtain rfl:vs= #[.slice A a.length c,.slice B b.length d]:=by
  grind
 refine(P7 A B c d a b w h l m f).mono fun e C ⟨s,t⟩=>?_
 grind [Ej]
theorem PQ {X:Nat->Prop} (s: ¬X n) (t:n<w.heap.size) (A:e.length<=j) (B:e.length<=9223372036854775807) (h:RdI .i64 w (some ⟨n,m,none⟩) e):bQ X w (.sl (ls fI e)) (.slice (some ⟨n,m,none⟩) e.length j):=by
 have u: ∀(i:Nat) (z:Int),e[i]?=some z->w.cell? ⟨n,m+i,none⟩=some (.int .i64 z):=fun i z q=>by
  cases e with
  |nil=>simp at q
  |cons C l0=>
   obtain⟨v,r,y,u⟩:=h (by simp);grind
 have:=bQ.sl (X:=X) (w:=w) n m 1 j (ls fI e) (fun i _=> .int .i64 (e.getD i 0)) s t (fun f o=>by
  obtain⟨z,_,rfl⟩:=aai.1 o;rfl) (by grind [dU]) (by grind [dU]) (fun i f g x o p=>by
  grind [fX,fI]) (fun i f g x o p=>by
  rw[fX]at o;obtain⟨z,q,rfl⟩:=u6.1 o;cases g with
  |succ g=>simp[fI]at p
  |zero=>
   simp[fI]at p;subst p;simp only[aav,q,abh];exact bQ.raw _ rfl)
 grind [dU]
/-! The plain side of Gram. -/
abbrev WH (G:List (List Int)) (b:Bool):TV:= .tup [(false,[.p (.sl (ls (fR fI) G))]),(false,[.p (.raw (.bool b))])]
theorem WJ {M:List (List Int)} {y:List Int} (l:isReducedM M=true) (q:yF M.length e=true) (t:yF M.length y=true):
  dC e (fO M y) e.length=BF M.length (ent M) (fun i=>e.getD i 0) (fun i=>y.getD i 0):=by
 obtain⟨w,z,f,B⟩:=(fS M).1 l;obtain⟨b,s⟩:=qu.1 q;obtain⟨g,u⟩:=qu.1 t;generalize A:M.length=n at*
 have v:M=mat n n (ent M):=by
  apply aay;intro i;by_cases o:i<n
  ·rw[bE _ _ o];obtain⟨r,c⟩:=getElem?_of_lt (show i<M.length by omega);rw[c];have p:r.length=n:=by
    have:=f i (by omega);grind
   refine congrArg some ?_;apply aay;grind [aB,ent,aI]
  grind [aU]
 have h: ∀(e:List Int),e.length=n->e=aQ n (fun i=>e.getD i 0):=fun e b=>by
  apply aay;grind [aB,aI]
 have m:isReducedM (mat n n (ent M))=true:=by grind
 have ex:=h e b;have j:=h y g;rw[show fO M y=ID n n (ent M) y by grind [FN],b,ID];generalize(fun i=>e.getD i 0)=fx at*
 generalize(fun i=>y.getD i 0)=fy at*
 rw[ex,j,qD _ _ n (aaq _)];exact bA n fun i _=>by grind [qD]
theorem PT {b:Func} {r:TV} (k:Nat) (f:s.tmps[k]?=some (.raw (.slice none 0 0))) (e:s.H 1000=[]) (h:pj P ⟨s.tmps.set k (.one (.p (.sl []))),s.H⟩ b.results.toList=some r) (g:noRefTV r=true): ∃c,bD s c/\np P b ⟨[],r⟩ c:=
 ⟨_,R3 k f,mm e h g⟩
theorem Km (m:Nat) (b:List (ao P)) (e:List Nat) {id:Nat} {c:Array Oper} {Q:Exit->AS->Prop} (t:s.tmps.length<=1000000) (u:m<=c.toList.length) (h: ∀K:AS->Prop,(∀j,(∃f,bD j f/\f.tmps.length<=1000000/\ ∀K:AS->Prop,(∀g,Q .normal g->K g)->aT P (b.map ao.a) e (aJ c (c.toList.drop m) m) (some f) K)->K j)->aT P (b.map ao.a) e (aJ c (c.toList.take m) 0) (some s) K):bo P (.region id c false) Q s:=by
 obtain⟨j,l,f,q,p,n⟩:=aO P (b.map ao.a) e c _ 0 s _ (h _ fun _ h=>h);obtain⟨g,r,o⟩:=aO P (b.map ao.a) e c _ m f _ (n _ fun _ h=>h);refine tW m _ (ao.ok b) e l q ?_ o;grind
theorem tf (M:List (List Int)) (r:List Int):lc (fR fI) M++[[.p (.sl (ls fI r))]]=lc (fR fI) (M++[r]):=by simp[lc,fR]
section
variable {n:Nat}
theorem PD.diag (g:PD b n) {i:Nat} (c:i<n):0<b i i:=by
 have h:=g.pos (eC i);have e:=WZ (f:=b) c;grind [ZU,eC]
end
section
variable {n:Nat}
theorem ng {F:Nat->Int}: ∀m,(∀a,a<m->0<=F a)->0<=dJ F m
 |0,_=>by simp[dJ]
 |m+1,h=>by
  have:=ng m fun a b=>h a (by omega)
  grind [dJ]
/-! Signs. -/
end
section
variable {n:Nat}
theorem Y4 (h:x*x<=(n:Int)*(n:Int)): -(n:Int)<=x/\x<=(n:Int):=by
 have c:x.natAbs*x.natAbs<=n*n:=by
  grind [Int.natAbs_mul_self]
 have e:x.natAbs<=n:=by
  rcases acO n x.natAbs with b|b
  ·have:=Nat.mul_lt_mul'' b b;omega
  exact b
 omega
end
section
variable {n:Nat}
inductive Z1 where
 |swp (i:Nat)
 |rep (i c:Nat)
 |neg (i:Nat)
def Z1.i:Z1->Nat
 | .swp i=>i
 | .rep i _=>i
 | .neg i=>i
/-! What the operations do to the Gram matrix. -/
theorem vF {F G:Nat->Int} {i:Nat}: ∀{m},i<m->(∀a,a<m->a≠i->F a=G a)->dJ G m=dJ F m+(G i-F i)
 |m+1,f,h=>by
  rw[dJ,dJ];by_cases e:i=m
  ·grind [bA]
  rw[vF (m:=m) (by omega) (fun a c b=>h a (by omega) b),h m (by omega) (abD e)];omega
end
section
variable {n:Nat}
theorem kn (m:SymF b n) (q: ∀k,k<n->0<dk b (k+1)) (x:Nat->Int) {k:Nat} (p:k<n):
  dk b k*BF n (bk b (k+1)) x x=dk b (k+1)*BF n (bk b k) x x-dJ (fun j=>bk b k k j*x j) n*dJ (fun j=>bk b k k j*x j) n:=by
 have c: ∀t,t<n->dk b (t+1)≠0:=fun t g=>by grind
 have h:dk b k*BF n (bk b (k+1)) x x=BF n (fun i j=>dk b k*bk b (k+1) i j+0*bk b k i j) x x:=by rw[uU];omega
 rw[h,jm (f':=fun i j=>dk b (k+1)*bk b k i j+(-1)*(bk b k k i*bk b k k j)) (fun i j l o=>by
  have:=sylv b k (fun t g=>c t (by omega)) i j;have e:=iD m k (by omega) (fun t g=>c t (by omega)) i k l (by omega);grind) (fun _ _=>rfl) (fun _ _=>rfl),uU,Il,bA n (F:=fun i=>x i*bk b k k i) (G:=fun j=>bk b k k j*x j) (fun i _=>Int.mul_comm _ _)]
 omega
theorem EF {f:FF} (b:PD f n) (x:Nat->Int) {N:Int} (c:BF n f x x<=N): ∀k,k<=n->BF n (bk f k) x x<=N*dk f k
 |0,_=>by
  rw[cu,Int.mul_one,jm (fun i j _ _=>dr f i j) (fun _ _=>rfl) (fun _ _=>rfl)];exact c
 |k+1,r=>by
  have p:=EF b x c k (by omega);have e:=kn b.1 b.2 x (show k<n by omega);have l:0<dk f k:=i6 fun t s=>b.2 t (by omega)
  have m:=b.2 k (by omega);have o:0<=dJ (fun j=>bk f k k j*x j) n*dJ (fun j=>bk f k k j*x j) n:=by
   rcases acm 0 (dJ (fun j=>bk f k k j*x j) n)with h|h
   ·exact aaZ h h
   exact aa4 h h
  have q:dk f (k+1)*BF n (bk f k) x x<=dk f (k+1)*(N*dk f k):=aaB p (by omega);have g:dk f k*BF n (bk f (k+1)) x x<=dk f k*(N*dk f (k+1)):=by
   grind
  exact ac0 g l
theorem OT {f:FF} (b:RedR f n): ∀k,k<n->dk f k<=((2^k:Nat):Int)*dk f (k+1)
 |0,h=>by
  have q:=b.2.1 0 h;grind [cu]
 |k+1,h=>by
  have p:=OT b k (by omega);obtain⟨m,j⟩:=b.2.2.2 k h;have c:=b.2.1 k (by omega);have g:=b.2.1 (k+1) h;unfold Rv at j;have o:=m (k+1) h (by omega);generalize bk f k (k+1) k=l at*
  generalize dk f (k+1+1)=d2 at*
  generalize dk f (k+1)=d1 at*
  generalize dk f k=d0 at*
  have r:4*(l*l)<=d1*d1:=by
   have e:(2*l.natAbs)*(2*l.natAbs)<=d1.toNat*d1.toNat:=aaU (by omega) (by omega);grind [Int.natAbs_mul_self]
  have s:d1*d1<=2*(d0*d2):=by
   grind
  have t:d0*d2<=((2^k:Nat):Int)*d1*d2:=abs p (by omega);have u:d1*d1<=d1*(((2^(k+1):Nat):Int)*d2):=by
   have e:d1*(((2^(k+1):Nat):Int)*d2)=2*(((2^k:Nat):Int)*d1*d2):=by
    grind
   omega
  simp_all
theorem zF (B:RedR b n) (g:Nat->Int) (X:0<=x) (hN:BF n b g g<=x) (hM:x*((2^n:Nat):Int)<=(m:Int)*(m:Int)): ∀c k,c+k+1=n->(g k).natAbs<=m*2^c:=fun c=>by
 induction c using Nat.strongRecOn with
 |_ c ih=>
  intro k hk;have s:=B.pd;have h:k<n:=by omega
  have H: ∀t,t<n->dk b (t+1)≠0:=fun t U=>by have:=B.2.1 t U;omega
  have ab:=B.2.1 k h;have hd:0<dk b k:=i6 fun t U=>B.2.1 t (by omega)
  have F:=kn s.1 s.2 g h;have O:=EF s g hN k (by omega);have T:=(jf s.1 s.2 g (n-(k+1)) (k+1) (by omega)).1;have Q:=OT B k h
  -- the sum
  obtain⟨L,Y⟩: ∃L,L=dJ (fun j=>bk b k k j*g j) n:=⟨_,rfl⟩;rw[<- Y]at F;have C:L*L<=(m*dk b (k+1))*(m*dk b (k+1)):=by
   have a1:0<=dk b k*BF n (bk b (k+1)) g g:=aaZ (by omega) T;have a2:dk b (k+1)*BF n (bk b k) g g<=dk b (k+1)*(x*dk b k):=aaB O (by omega);have a3:dk b (k+1)*(x*dk b k)<=dk b (k+1)*(x*(((2^k:Nat):Int)*dk b (k+1))):=aaB (aaB Q X) (by omega);have a4:x*((2^k:Nat):Int)<=(m:Int)*(m:Int):=by
    have:((2^k:Nat):Int)<=((2^n:Nat):Int):=adW.2 (aaE (by omega) (by omega));exact Int.le_trans (aaB this X) hM
   have a5:x*((2^k:Nat):Int)*(dk b (k+1)*dk b (k+1))<=(m:Int)*(m:Int)*(dk b (k+1)*dk b (k+1)):=abs a4 (aaZ (by omega) (by omega));grind
  have aa:L.natAbs<=m*(dk b (k+1)).toNat:=by
   have e:(m:Int)*dk b (k+1)=((m*(dk b (k+1)).toNat:Nat):Int):=by
    grind
   rw[e]at C;have:=Y4 C;omega
  -- the other coordinates
  have v: ∀q,k+1+q<=n->2*(dJ (fun j=>bk b k k j*g j) (k+1+q)-dk b (k+1)*g k).natAbs<=(dk b (k+1)).toNat*(m*(2^(c+1)-2^(c+1-q))):=fun q=>by
   induction q with
   |zero=>
    intro _;have e:dJ (fun j=>bk b k k j*g j) (k+1)=dk b (k+1)*g k:=by
     rw[dJ,bA k (G:=fun _=>0) (fun j hj=>by rw[A0 s.1 H (by omega) hj (by omega),aey]),iO,cb];omega
    grind
   |succ q W=>
    intro hq;have V:=W (by omega);rw[<- acE,dJ];have hx:=ih (n-(k+1+q)-1) (by omega) (k+1+q) (by omega);have ad:=(B.2.2.2 k (by omega)).1 (k+1+q) (by omega) (by omega);have I:=iD s.1 k (by omega) (fun t U=>H t (by omega)) k (k+1+q) h (by omega);rw[I];rw[show n-(k+1+q)-1=c-1-q by omega]at hx;have u:2^(c+1-q)=2*2^(c+1-(q+1))/\2^(c+1-(q+1))=2*2^(c-1-q):=by
     refine⟨?_,?_⟩
     ·rw[show c+1-q=(c+1-(q+1))+1 by omega,aby];omega
     rw[show c+1-(q+1)=(c-1-q)+1 by omega,aby];omega
    have R:2^(c+1-q)<=2^(c+1):=aaE (by omega) (by omega);have hD:(((dk b (k+1)).toNat:Nat):Int)=dk b (k+1):=by omega
    have e5:dJ (fun j=>bk b k k j*g j) (k+1+q)+bk b k (k+1+q) k*g (k+1+q)-dk b (k+1)*g k=(dJ (fun j=>bk b k k j*g j) (k+1+q)-dk b (k+1)*g k)+bk b k (k+1+q) k*g (k+1+q):=by omega
    rw[e5];generalize dJ (fun j=>bk b k k j*g j) (k+1+q)-dk b (k+1)*g k=S at*
    generalize bk b k (k+1+q) k=l at*
    generalize g (k+1+q)=y at*
    generalize(dk b (k+1)).toNat=D at*
    have hl:2*l.natAbs<=D:=by omega
    have ac:2*(l*y).natAbs<=D*(m*2^(c-1-q)):=by
     rw[abv,<- ace];exact aaU hl hx
    have E:=adF S (l*y);generalize 2^(c-1-q)=P at*
    generalize 2^(c+1)=A at*
    obtain⟨p1,p2⟩:=u;rw[p1,p2]at V R;rw[p2];have h6:D*(m*(A-2*(2*P)))+D*(m*P)<=D*(m*(A-2*P)):=by
     rw[<- aeN,<- aeN];exact aao _ (aao _ (by omega))
    omega
  have o:=v c (by omega);rw[show k+1+c=n by omega,<- Y,show c+1-c=1 by omega]at o;have hD:(((dk b (k+1)).toNat:Nat):Int)=dk b (k+1):=by omega
  have J:0<(dk b (k+1)).toNat:=by omega
  have K:(dk b (k+1)*g k).natAbs=(dk b (k+1)).toNat*(g k).natAbs:=by
   grind
  have E:(dk b (k+1)*g k).natAbs<=L.natAbs+(L-dk b (k+1)*g k).natAbs:=by omega
  rw[K]at E;have u:2^(c+1)=2*2^c:=by omega
  have Z:0<2^c:=abk (by omega);generalize(L-dk b (k+1)*g k).natAbs=r at*
  generalize(dk b (k+1)).toNat=D at*
  generalize(g k).natAbs=z at*
  generalize L.natAbs=w at*
  rw[u]at o;generalize 2^c=P at*
  have h7:2*(m*D)+D*(m*(2*P-2^1))=D*(2*(m*P)):=by
   have e:2*P-2^1=2*(P-1):=by omega
   rw[e];obtain⟨p,rfl⟩: ∃p,P=p+1:=⟨P-1,by omega⟩;grind
  have h8:D*(2*z)<=D*(2*(m*P)):=by
   grind
  have:=adC h8 J;omega
end
end Go.Proofs.YtalmoejhjceflaaGreat
