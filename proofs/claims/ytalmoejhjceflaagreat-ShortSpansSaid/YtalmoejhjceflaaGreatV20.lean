/-
  Part 21 of a proof (walks and plain facts).
-/
import Derived.Test.YtalmoejhjceflaaGreatV19
import Derived.Lib.SmallJoins
set_option linter.all false
set_option maxRecDepth 100000
set_option maxHeartbeats 64000000
open Nat renaming reduceAdd → aa
open Nat renaming reduceEqDiff → ae
namespace Go.Proofs.YtalmoejhjceflaaGreat
open Go.RowKit Go.Proofs.Tryz
variable {n m j c:Nat} {b:FF} {e:List Int} {w:World} {f:TypeId} {g:Value} {P:Program} {h:Bool}
def YC (b:Bool) (n i:Nat):Nat:=if b=true/\i+1=n/\3<n then i-2 else i-1
def qD (b:Bool) (n:Nat):Nat->Nat->Nat->Int
 |0=>fun _ _=>0
 |i+1=>if i=0 then upd (qD b n i) i i 2 else upd (upd (upd (qD b n i) i i 2) i (YC b n i) (-1)) (YC b n i) i (-1)
theorem T0 {fork:Bool} {n i:Nat} (h:0<i):YC fork n i<i:=by grind [YC]
theorem GF {i a:Nat} {v:Int} (h:a≠i\/m≠n):upd b i n v a m=b a m:=by
 unfold upd;by_cases c:a=i
 ·simp_all
 simp[c]
theorem H9 (c:Bool) (n:Nat): ∀i a b,i<=a\/i<=b->qD c n i a b=0
 |0,_,_,_=>rfl
 |i+1,a,b,h=>by
  have f:=H9 c n i a b (by omega);unfold qD;split
  ·grind [GF]
  rename_i e;have:=T0 (fork:=c) (n:=n) (show 0<i by omega);grind [GF]
theorem NW (n:Nat) (b:Bool) (J:n<=8):
  CallC prog 81 [.raw (.int .i64 (n:Int)),.raw (.bool b)] ⟨lV 0 n n (qD b n n),.one (.sl 0 0 0 n)⟩:=by
 refine aB func81 rfl ntmps81 (aE (k:=ax (k:=aj (aZ (k:=?_)))));refine ay (G:=fp n) (fun g=>⟨(.raw (.int .i64 (n:Int))::.raw (.bool b)::jk::jk::jk::.one (.sl 9 0 0 n)::j4 (jk::rN n::rN g.i::j16 (j16 (j4 (j4 (j4 ([]))))))),Hm [(9,kI 9 n n g.i (qD b n g.i))]⟩) (fun g=>n-g.i) ⟨0,by omega⟩ ?_ ?_
 ·refine ak ⟨?_,trivial⟩ ?_
  ·rfl
  simp[wk]
 rintro⟨i,A⟩;simp only;by_cases m:i<n
 ·have C:=xr (i:=i) (n:=n) 9 n m;have K:=lU (i:=i) (n:=n) 9 n A;have D:=aS i n (qD b n i);have E:=si (i:=i) (n:=n) (c:=n) 9 (qD b n i) m (fun j I=>H9 b n i i j (by omega));have s:=tU (i:=i+1) (k:=i) (n:=n) 9 n (by omega);have L:=lU (i:=i+1) (n:=n) 9 n (by omega);have F:=eU (n:=i+1) n (qD b n i) (i:=i) (by omega);have H:=aw (qD b n i i) m;have h:qD b n (i+1)=if i=0 then upd (qD b n i) i i 2 else upd (upd (upd (qD b n i) i i 2) i (YC b n i) (-1)) (YC b n i) i (-1):=rfl
  generalize qD b n i=f at*
  refine ax (k:=aP rfl (aj (ao (aZ (k:=aF (aG C (aG @afc (aG @agb D))) (k:=?_))))));refine bv.weak (ak (tm:=(.raw (.int .i64 (n:Int))::.raw (.bool b)::jk::jk::jk::.one (.sl 9 0 0 n)::rN i::j4 (.raw (.int .i64 (n:Int))::rN i::j16 (j16 (j4 (j4 (j4 ([])))))))) (l:=[(9,kI 9 n n (i+1) f)]) ⟨?_,trivial⟩ (by simp[wk])) ?_
  ·first|exact E|rfl
  refine aF (aG s (aG F (aG H @f7))) (k:=ax (k:=?_));obtain⟨o,e⟩: ∃o:Int,o=if b=true/\i+1=n/\3<n then(i:Int)-2 else(i:Int)-1:=⟨_,rfl⟩
  refine aj (mc (S:=⟨(.raw (.int .i64 (n:Int))::.raw (.bool b)::jk::jk::jk::.one (.sl 9 0 0 n)::rN i::.raw (.int .i64 o)::jk::jk::jk::rN n::rN i::j16 (j16 (j4 (j4 (j4 ([])))))),Hm [(9,kI 9 n n (i+1) (upd f i i 2))]⟩) ?_ ?_)
  ·cases b with
   |false=>
    rw[if_neg (by simp)]at e;refine ax (k:=aq rfl (al ?_));show bN _ _;refine ak ⟨rfl,trivial⟩ ?_;simp[wk,e]
   |true=>
    by_cases y:i+1=n
    ·by_cases z:3<n
     ·rw[if_pos ⟨rfl,y,z⟩]at e;refine ax (k:=aC rfl (bK (k:=?_)));refine ak ⟨rfl,trivial⟩ ?_;simp[wk,e]
     rw[if_neg (by omega)]at e;refine ax (k:=aq rfl (al ?_));show bN _ _;refine ak ⟨rfl,trivial⟩ ?_;simp[wk,e]
    rw[if_neg (by omega)]at e;refine ax (k:=aq rfl (al ?_));show bN _ _;refine ak ⟨rfl,trivial⟩ ?_;simp[wk,e]
  by_cases r:i=0
  ·subst r;rw[if_neg (by omega)]at e;rw[if_pos rfl]at h;refine ax (k:=aq rfl (al (bK (k:=?_))));refine⟨⟨1,by omega⟩,by grind,ak ⟨?_,trivial⟩ ?_⟩
   ·grind
   simp[wk]
  have q:o=((YC b n i:Nat):Int):=by
   grind [YC]
  have B:=T0 (fork:=b) (n:=n) (show 0<i by omega);rw[if_neg r]at h;subst q;generalize YC b n i=k at*
  generalize upd f i i 2=f2 at*
  have t:=tU (i:=i+1) (k:=k) (n:=n) 9 n (by omega);have u:=eU (n:=i+1) n f2 (i:=i) (by omega);have v:=aw (f2 i) (show k<n by omega);have w:=eU (n:=i+1) n (upd f2 i k (-1)) (i:=k) (by omega);have x:=aw (upd f2 i k (-1) k) m;refine ax (k:=aC rfl (jz (aG s (aG t (aG u (aG v (aG @f7 (aG w x)))))) (k:=bK (k:=?_))));refine⟨⟨i+1,by omega⟩,by grind,ak ⟨?_,trivial⟩ ?_⟩
  ·simp only[h];rfl
  simp[wk]
 have p:i=n:=by omega
 subst p;refine ax (k:=aQ rfl ?_);show bv _ _ _ _;rw[Fp];refine aZ (k:=?_);refine aM ⟨.inr rfl,_,bN.refl _,?_⟩;refine⟨.one (.sl 9 0 0 i),9,?_,rfl,?_,rfl⟩
 ·simp(disch:=omega) only[kd,results81]
 grind [ff]
def GoodP (n:Nat) (f:FF):Prop:=SymF f n/\uG f n/\detF n f<=10000
theorem UR (n:Nat) (f:FF) (b:1<=n) (x:n<=8) (c: ∀i j:Nat,ju (f i j)) (r:Bool) (m:r=true↔GoodP n f):CallC prog 84 [bV (mat n n f)] ⟨[],.raw (.bool r)⟩:=by
 have q:=Ku n n f b (by omega) b (by omega) (fun i j _ _=>c i j);obtain⟨e,t,s⟩:=tp n n f b (by omega) b (by omega) (fun i j _ _=>(c i j).sz (by omega));by_cases g:e=0
 ·obtain⟨_,_,z,y⟩:=t.1 g;subst g;have u:=gm n f b (by omega) (fun i j _ _=>(c i j).sz (by omega));have v:=er 10000 (by omega) (by omega);have w:=zK (detF n f) 10000 ((pK (n:=n) (by omega) (fun i j _ _=>(c i j).sz (by omega))).mono (by omega)) (kA (by decide) (by omega));have l:=EY (detF n f) 10000;have p:r=decide (detF n f<=10000):=by
   cases r with
   |true=>have:=(m.1 rfl).2.2;simp[this]
   |false=>
    have: ¬detF n f<=10000:=fun h=>by have:=m.2 ⟨z,y,h⟩;cases this
    simp[this]
  rw[p];generalize detF n f=d at*
  refine aB func84 rfl ntmps84 (aE (k:=bu [⟨1,_,_,_,q⟩] (k:=ce [⟨1,_,_,_,s⟩,⟨5,_,_,_,u⟩,⟨6,_,_,_,v⟩,⟨7,_,_,_,w⟩] l (k:=aI @results84))))
 have o:r=false:=by
  cases r with
  |false=>rfl
  |true=>have:=m.1 rfl;exact absurd (t.2 ⟨rfl,x,this.1,this.2.1⟩) g
 subst o;refine aB func84 rfl ntmps84 (aE (k:=bu [⟨1,_,_,_,q⟩] (k:=bD [⟨1,_,_,_,s⟩] (k:=aI @results84))))
theorem Yt {c z:Code} {Q:Exit->AS->List PV->Prop} {s S:AS} {g cs1:List PV} (m:fx P n f c (tg (fun j k=>bN j S/\k=cs1) Q) s g) (o:fx P n f z Q S cs1):fx P n f c (tg (fx P n f z Q) Q) s g:=m.mono fun e j k h=>by
 cases e with
 |normal=>
  obtain⟨l,rfl⟩:=h;exact fx.weak l o
 |_=>exact h
def oV (b:Nat) (L:List Int) (n:Nat):(Nat->Nat->Int)×Nat:=
 if b%8<4 then GS L (oo L 0 6,ux L 0 n) n
 else if b%8=4 then(upd (qD false n n) 0 0 (qD false n n 0 0+(kr L 0 3:Int)),bL L 0)
 else if b%8=5 then(upd (qD true n n) (n-1) (n-1) (qD true n n (n-1) (n-1)+(kr L 0 2:Int)),bL L 0)
 else if b%8=6 then(oo L 0 9,ux L 0 n)
 else(oo L 0 1,ux L 0 n)
open Classical in
noncomputable def j3 (b:Nat) (L:List Int) (n:Nat):Nat->Nat->Int:=if GoodP n (oV b L n).1 then(oV b L n).1 else oo L (oV b L n).2 2
theorem x6 (f:FF) (i j:Nat) (v:Int) (a b:Nat):upd f i j v a b=v\/upd f i j v a b=f a b:=by
 grind [XL,GF]
def Ko (f:FF):Prop:= ∀a b,-9<=f a b/\f a b<=9
theorem Ko.i64 (h:Ko b) (a c:Nat):ju (b a c):=by have:=h a c;exact⟨by omega,by omega⟩
theorem Ko.upd (h:Ko b) {i:Nat} {v:Int} (g: -9<=v) (l:v<=9):Ko (Go.Proofs.YtalmoejhjceflaaGreat.upd b i n v):=fun a c=>by
 rcases x6 b i n v a c with e|e
 ·omega
 rw[e];exact h a c
theorem K6 {a:Nat} (b:0<m) (c:m<=9):Ko (oo e a m):=fun i j=>by
 unfold oo;split
 ·have:=dH (n:=m) e (ux e a i) b;omega
 omega
theorem aec (x:Int): -2<=Int.tmod x 3/\Int.tmod x 3<=2:=by
 grind
theorem U0 {L:List Int} {i:Nat} {s:(Nat->Nat->Int)×Nat} (h:Ko s.1): ∀k,Ko (X8 L i s k).1
 |0=>h
 |k+1=>by
  have:=aec (L.getD (X8 L i s k).2 0);exact((U0 h k).upd (by omega) (by omega)).upd (by omega) (by omega)
theorem UZ {L:List Int} {s:(Nat->Nat->Int)×Nat} (h:Ko s.1): ∀i,Ko (GS L s i).1
 |0=>h
 |i+1=>U0 (UZ h i) i
theorem tM (c:Bool) (n:Nat): ∀i a b,-1<=qD c n i a b/\qD c n i a b<=2
 |0,_,_=>by simp[qD]
 |i+1,a,b=>by
  have h:=tM c n i;have u: ∀(f:FF) (i j:Nat) (v:Int),(∀a b,-1<=f a b/\f a b<=2)-> -1<=v/\v<=2-> ∀a b,-1<=upd f i j v a b/\upd f i j v a b<=2:=fun f i j v e g a b=>by
   grind [x6]
  unfold qD;grind
theorem Pa (c:Nat) (L:List Int) (n:Nat):Ko (oV c L n).1:=by
 have f:=dH (n:=3) L 0 (by omega);have e:=dH (n:=2) L 0 (by omega);have g:=tM false n n 0 0;have h:=tM true n n (n-1) (n-1);unfold oV;split
 ·grind [UZ,K6]
 split
 ·exact Ko.upd (fun a b=>by have:=tM false n n a b;omega) (by omega) (by omega)
 split
 ·exact Ko.upd (fun a b=>by have:=tM true n n a b;omega) (by omega) (by omega)
 grind [K6]
theorem ZO (b:Nat) (L:List Int) (n:Nat):(oV b L n).2<=L.length:=by
 grind [oV,Lw,EL,fg]
abbrev tL (c b:Nat) (L B:List Int):TV:= .agg [.p (.raw (.int .u8 (c:Int))),.p (.raw (.int .u8 (b:Int))),.p (.sl (ls f8 L)),.p (.sl (ls f8 B))]
theorem S5 (o c:Nat) (L B:List Int) (g n:Nat) (x:I8 L) (Q:o<=255) (O:c<=255) (W:1<=g) (X:g<=8) (hn:n=1+o%g):
  CallC prog 35 [tL o c L B,.raw (.int .i64 (g:Int))] ⟨[],bV (mat n n (j3 c L n))⟩:=by
 have D:1<=n:=by omega
 have q:n<=8:=by have:=afp o (show 0<g by omega);omega
 have R:Int.tmod (o:Int) (g:Int)=((o%g:Nat):Int):=(ahs o g).symm;have T:Int.tmod (c:Int) 8=((c%8:Nat):Int):=(ahs c 8).symm;have U:1+((o%g:Nat):Int)=(n:Int):=by omega
 refine aB func35 rfl ntmps35 (je @tL.eq_1 (k:=ax (k:=Tl 11 (cs:=ML L 0) rfl fun b=>?_)));refine fx.weak (ak (tm:=(jk::rN g::.one (.ptr 2 0 0 0)::jk::jk::fk b::j16 (j16 (j16 (j16 (j4 ([]))))))) (l:=[(2,[⟨24,4,[[.p (.raw (.int .u8 (o:Int))),.p (.raw (.int .u8 (c:Int))),.p (.sl (ls f8 L)),.p (.sl (ls f8 B))]]⟩])]) ⟨rfl,trivial⟩ (by simp[wk,yT,qz])) ?_;refine l5 (aG @fk.eq_1 (aG R U)) (k:=dG (k:=ck (l5 T (k:=?_))));have t:=Pa c L n;have v:=ZO c L n;refine Yt (S:=⟨(j4 (jk::fk b::rN n::bV (mat n n (oV c L n).1)::j16 (j16 (j16 (j16 (jk::jk::[])))))),Hm []⟩) (cs1:=ML L (oV c L n).2) ?_ ?_
 ·have V:=afp c (show 0<8 by omega);have H:c%8<4->oV c L n=GS L (oo L 0 6,ux L 0 n) n:=fun h=>by grind [oV]
  have E:=QX b L 0 n x (by omega) q;have M:=NW n false q;have N:=NW n true q;have z:=uB b L 0 3 x (by omega) (by omega) (by omega);have y:=uB b L 0 2 x (by omega) (by omega) (by omega);have C:=pM b L 0 n 9 x (by omega) q (by omega) (by omega);have A:=pM b L 0 n 1 x (by omega) q (by omega) (by omega);rw[show((3:Nat):Int)=3 from rfl]at z;rw[show((2:Nat):Int)=2 from rfl]at y;rw[show((9:Nat):Int)=9 from rfl]at C;rw[show((1:Nat):Int)=1 from rfl]at A;have q3:=dH (n:=3) L 0 (by omega);have q2:=dH (n:=2) L 0 (by omega);have r1:=tM false n n 0 0;have r2:=tM true n n (n-1) (n-1);have x0:((n:Int)-1).toNat=n-1:=by omega
  have x1:=bO (n:=n) (i:=0) 35 n (by omega);have x2:=eU (n:=n) n (qD false n n) (i:=0) (by omega);have x3:=aw (m:=n) (qD false n n 0) (j:=0) (by omega);have y1:=bO (n:=n) (i:=n-1) 48 n (by omega);have y2:=eU (n:=n) n (qD true n n) (i:=n-1) (by omega);have y3:=aw (m:=n) (qD true n n (n-1)) (j:=n-1) (by omega);have u: ∀(d:Nat) (F:FF),bN ⟨(j4 (jk::fk b::rN n::.one (.sl d 0 0 n)::j16 (j16 (j16 (j16 (jk::jk::[])))))),Hm [(d,lV d n n F)]⟩ ⟨(j4 (jk::fk b::rN n::bV (mat n n F)::j16 (j16 (j16 (j16 (jk::jk::[])))))),Hm []⟩:=fun d F=>
   have e:Hm [(d,lV d n n F)] d=lV d n n F:=by simp[Hm]
   (bR d (oH e)).trans (ak trivial (by
    simp[wk];exact⟨rfl,rfl,(QV e).symm⟩))
  have w:c%8=0\/c%8=1\/c%8=2\/c%8=3\/c%8=4\/c%8=5\/c%8=6\/c%8=7:=by omega
  rcases w with s|s|s|s|s|s|s|s
  ·have r:c%8=0:=by omega
   rw[r,show((0:Nat):Int)=0 from rfl];refine dE (ck (dG (k:=iG rfl (jV (iG rfl ?_)))));refine jI 2 E [] [] (by kernel_rfl) (by rfl) (by rfl) fun _ K=>?_;simp only[kd,fk,aa,ae];apply K
   rw[H (by omega)];refine⟨(ak (l:=[(31,lV 31 n n ((GS L (oo L 0 6,ux L 0 n) n).1))]) ⟨ff 0 31 n n _,trivial⟩ (by simp[wk])).trans (u 31 _),rfl⟩
  ·have r:c%8=1:=by omega
   rw[r,show((1:Nat):Int)=1 from rfl];refine dE (ck (dG (k:=cw rfl (dG (k:=iG rfl (jV (iG rfl ?_)))))));refine jI 2 E [] [] (by kernel_rfl) (by rfl) (by rfl) fun _ K=>?_;simp only[kd,fk,aa,ae];apply K
   rw[H (by omega)];refine⟨(ak (l:=[(31,lV 31 n n ((GS L (oo L 0 6,ux L 0 n) n).1))]) ⟨ff 0 31 n n _,trivial⟩ (by simp[wk])).trans (u 31 _),rfl⟩
  ·have r:c%8=2:=by omega
   rw[r,show((2:Nat):Int)=2 from rfl];refine dE (ck (dG (k:=cw rfl (dG (k:=cw rfl (dG (k:=iG rfl (jV (iG rfl ?_)))))))));refine jI 2 E [] [] (by kernel_rfl) (by rfl) (by rfl) fun _ K=>?_;simp only[kd,fk,aa,ae];apply K
   rw[H (by omega)];refine⟨(ak (l:=[(31,lV 31 n n ((GS L (oo L 0 6,ux L 0 n) n).1))]) ⟨ff 0 31 n n _,trivial⟩ (by simp[wk])).trans (u 31 _),rfl⟩
  ·have r:c%8=3:=by omega
   rw[r,show((3:Nat):Int)=3 from rfl];refine dE (ck (dG (k:=cw rfl (dG (k:=cw rfl (dG (k:=cw rfl (sW (k:=iG rfl ?_)))))))));refine jI 2 E [] [] (by kernel_rfl) (by rfl) (by rfl) fun _ K=>?_;simp only[kd,fk,aa,ae];apply K
   rw[H (by omega)];refine⟨(ak (l:=[(31,lV 31 n n ((GS L (oo L 0 6,ux L 0 n) n).1))]) ⟨ff 0 31 n n _,trivial⟩ (by simp[wk])).trans (u 31 _),rfl⟩
  ·have r:c%8=4:=by omega
   rw[r,show((4:Nat):Int)=4 from rfl];refine dE (ck (dG (k:=cw rfl (dG (k:=cw rfl (dG (k:=cw rfl (sW (k:=cw rfl (dG (k:=iG rfl (aaW [⟨1,_,_,_,M⟩] (k:=?_)))))))))))));refine fx.weak (ak (tm:=(j4 (jk::fk b::rN n::.one (.sl 35 0 0 n)::j16 (j16 (j16 (j16 (jk::jk::[]))))))) (l:=[(35,lV 35 n n (qD false n n))]) ⟨ff 0 35 n n _,trivial⟩ (by simp[wk])) ?_;refine mK bZ 6 z [] [] (by kernel_rfl) (by kernel_rfl) (by rfl) (by rfl) fun _ K=>?_;simp(disch:=omega) only[kd,fk,aa,Int.reduceToNat,x1,x2,x3,aH,f7];apply K
   rw[show oV c L n=(upd (qD false n n) 0 0 (qD false n n 0 0+(kr L 0 3:Int)),bL L 0) by grind [oV]];refine⟨(ak (l:=[(35,lV 35 n n (upd (qD false n n) 0 0 (qD false n n 0 0+(kr L 0 3:Int))))]) ⟨rfl,trivial⟩ (by simp[wk])).trans (u 35 _),rfl⟩
  ·have r:c%8=5:=by omega
   rw[r,show((5:Nat):Int)=5 from rfl];refine dE (ck (dG (k:=cw rfl (dG (k:=cw rfl (dG (k:=cw rfl (sW (k:=cw rfl (dG (k:=cw rfl (dG (k:=iG rfl (aaW [⟨1,_,_,_,N⟩] (k:=?_)))))))))))))));refine fx.weak (ak (tm:=(j4 (jk::fk b::rN n::.one (.sl 48 0 0 n)::j16 (j16 (j16 (j16 (jk::jk::[]))))))) (l:=[(48,lV 48 n n (qD true n n))]) ⟨ff 0 48 n n _,trivial⟩ (by simp[wk])) ?_;refine mK bZ 10 y [] [] (by kernel_rfl) (by kernel_rfl) (by rfl) (by rfl) fun _ K=>?_;simp(disch:=omega) only[kd,fk,aa,aH,x0,y1,y2,y3,f7];apply K
   rw[show oV c L n=(upd (qD true n n) (n-1) (n-1) (qD true n n (n-1) (n-1)+(kr L 0 2:Int)),bL L 0) by grind [oV]];refine⟨(ak (l:=[(48,lV 48 n n (upd (qD true n n) (n-1) (n-1) (qD true n n (n-1) (n-1)+(kr L 0 2:Int))))]) ⟨rfl,trivial⟩ (by simp[wk])).trans (u 48 _),rfl⟩
  ·have r:c%8=6:=by omega
   rw[r,show((6:Nat):Int)=6 from rfl];refine dE (ck (dG (k:=cw rfl (dG (k:=cw rfl (dG (k:=cw rfl (sW (k:=cw rfl (dG (k:=cw rfl (dG (k:=cw rfl (dG (k:=iG rfl ?_)))))))))))))));refine jI 2 C [] [] (by kernel_rfl) (by rfl) (by rfl) fun _ K=>?_;simp only[kd,fk,aa,ae];apply K
   rw[show oV c L n=(oo L 0 9,ux L 0 n) by grind [oV]];refine⟨(ak (l:=[(66,lV 66 n n (oo L 0 9))]) ⟨ff 0 66 n n _,trivial⟩ (by simp[wk])).trans (u 66 _),rfl⟩
  have r:c%8=7:=by omega
  rw[r,show((7:Nat):Int)=7 from rfl];refine dE (ck (dG (k:=cw rfl (dG (k:=cw rfl (dG (k:=cw rfl (sW (k:=cw rfl (dG (k:=cw rfl (dG (k:=cw rfl (dG (k:=cw rfl ?_)))))))))))))));refine jI 2 A [] [] (by kernel_rfl) (by rfl) (by rfl) fun _ K=>?_;simp only[kd,fk,aa,ae];apply K
  rw[show oV c L n=(oo L 0 1,ux L 0 n) by grind [oV]];refine⟨(ak (l:=[(23,lV 23 n n (oo L 0 1))]) ⟨ff 0 23 n n _,trivial⟩ (by simp[wk])).trans (u 23 _),rfl⟩
 generalize Y:oV c L n=Z at*
 obtain⟨f,p⟩:=Z;simp only at t v⊢;have G:j3 c L n=(open Classical in if GoodP n f then f else oo L p 2):=by grind [j3]
 by_cases I:GoodP n f
 ·rw[if_pos I]at G;rw[G];have J:=UR n f D q t.i64 true (by simp[I]);refine ck (TA [⟨1,_,_,_,J⟩] @fk.eq_1 (k:=cw rfl (jV (dG (k:=?_)))));refine px ⟨.inr rfl,bQ rfl ?_ rfl⟩;simp(disch:=omega) only[kd,results35,bV]
 rw[if_neg I]at G;rw[G];have J:=UR n f D q t.i64 false (by simp[I]);have P:=pM b L p n 2 x v q (by omega) (by omega);rw[show((2:Nat):Int)=2 from rfl]at P;refine ck (TA [⟨1,_,_,_,J⟩] @fk.eq_1 (k:=iG rfl ?_));refine rU 2 P [] [] (by kernel_rfl) (by rfl) (by rfl) fun _ K=>?_;simp only[kd,fk,aa];apply K
 refine fx.weak (ak (tm:=(j4 (.one (.sl 72 0 0 n)::j16 (j16 (j16 (j16 (j4 (jk::[])))))))) (l:=[(72,lV 72 n n (oo L p 2))]) ⟨ff 0 72 n n _,trivial⟩ (by simp[wk])) ?_;refine fx.weak ((bR 72 (oH rfl)).trans (ak (tm:=(j4 (bV (mat n n (oo L p 2))::j16 (j16 (j16 (j16 (j4 (jk::[])))))))) (l:=[]) trivial (by
  simp[wk];grind [QV,Hm]))) ?_
 refine px ⟨.inr rfl,bQ rfl ?_ rfl⟩;simp(disch:=omega) only[kd,results35,bV]
theorem Te (n c:Nat) (f:FF) (m:1<=n) (B:n<=16) (p:1<=c) (x:c<=16) (y: ∀i j:Nat,i<n->j<c->ju (f i j)):
  CallC prog 58 [dq (mat n c f)] ⟨lV 0 n c f,acj n true⟩:=by
 have u:=ph (mat n c f);rw[jx (mo f m B p x),aS,j7 f m]at u;refine aB func58 rfl ntmps58 (aE (k:=bu [⟨1,_,_,_,u⟩] (k:=aj (aZ (k:=aq rfl (al (ax (k:=aj (aZ (k:=?_))))))))));refine ay (G:=fp n) (fun g=>⟨(dq (mat n c f)::j4 (.raw (.int .i64 (c:Int))::jk::.one (.sl 21 0 0 n)::j4 (j4 (j4 (jk::jk::jk::rN n::rN g.i::j16 (j16 (j4 (jk::jk::[])))))))),Hm [(21,kI 21 n c g.i (part f g.i 0))]⟩) (fun g=>n-g.i) ⟨0,by omega⟩ ?_ ?_
 ·refine ak ⟨?_,trivial⟩ ?_
  ·rfl
  simp[wk]
 rintro⟨i,z⟩;simp only;by_cases o:i<n
 ·have C:=bA c f o;have D:=xr (i:=i) (n:=n) 21 c o;have J:=lU (i:=i) (n:=n) 21 c z;have E:=aS i c (part f i 0);have F:=si (i:=i) (n:=n) (c:=c) 21 (part f i 0) o (fun j A=>by grind [part]);have w:=tU (i:=i+1) (k:=i) (n:=n) 21 c (by omega);have K:=lU (i:=i+1) (n:=n) 21 c (by omega);have L:=eU (n:=i+1) c (part f i 0) (i:=i) (by omega);refine ax (k:=aP rfl (aj (ao (aZ (k:=aF (aG D (aG @afc (aG @agb E))) (k:=?_))))));refine bv.weak (ak (tm:=(dq (mat n c f)::j4 (.raw (.int .i64 (c:Int))::jk::.one (.sl 21 0 0 n)::rN i::j4 (j4 (j4 (jk::jk::rN n::rN i::j16 (j16 (j4 (jk::jk::[]))))))))) (l:=[(21,kI 21 n c (i+1) (part f i 0))]) ⟨?_,trivial⟩ (by simp[wk])) ?_
  ·first|exact F|rfl
  refine aF w (k:=?_);refine ay (G:=fp c) (fun g=>⟨(dq (mat n c f)::j4 (.raw (.int .i64 (c:Int))::jk::.one (.sl 21 0 0 n)::rN i::j4 (j4 (j4 (jk::jk::rN n::rN i::j4 (j4 (jk::jk::jk::rN c::rN g.i::j16 (j4 (j4 (jk::[])))))))))),Hm [(21,kI 21 n c (i+1) (part f i g.i))]⟩) (fun g=>c-g.i) ⟨0,by omega⟩ ?_ ?_
  ·refine ak ⟨rfl,trivial⟩ ?_;simp[wk]
  rintro⟨j,A⟩;simp only;by_cases h:j<c
  ·have s:=aw (f i) h;have v:=y i j o h;have t:=nt (f i j) (v.sz (by omega));rw[kK,if_pos (show -9223372036854775808<=f i j/\f i j<=9223372036854775807 from v)]at t;have H:=eU (n:=i+1) c (part f i j) (i:=i) (by omega);have I:=aw (part f i j i) h;refine ax (k:=aP rfl (aj (ao (aZ (k:=ce [⟨7,_,_,_,t⟩] (aG C s) (k:=aj (aZ (k:=aq rfl (al (dz (aG w (aG H (aG I @f7))) (k:=bK (k:=?_))))))))))));refine⟨⟨j+1,by omega⟩,by grind,ak ⟨?_,trivial⟩ ?_⟩
   ·show _::_=_::_;rw[dw fun a b _ _=>ij f i j a b]
   simp[wk]
  have r:j=c:=by omega
  subst r;refine ax (k:=aQ rfl (bK (k:=?_)));refine⟨⟨i+1,by omega⟩,by grind,ak ⟨?_,trivial⟩ ?_⟩
  ·grind [dw,jr]
  simp[wk]
 have q:i=n:=by omega
 subst q;refine ax (k:=aQ rfl ?_);show bv _ _ _ _;have e:kI 21 i c i (part f i 0)=lV 21 i c f:=by
  grind [dw,jq]
 rw[e];refine aZ (k:=?_);refine aM ⟨.inr rfl,acJ (d:=21) rfl ?_ (by decide)⟩;simp(disch:=omega) only[kd,results58]
structure aem (N B Z n:Nat) (f0 h T:FF) where
 f:Nat->Nat->Int
 t:Nat->Nat->Int
 s:Nat
 adds:Nat
 inv:RedI N B Z n f0 f t s adds
 rch:Rch n f t h T
theorem xn (a b:Nat):Sz (idF a b) 1:=by grind [idF,kA]
theorem ZR {o:Nat} {f0 t h T:FF} (x:GQ n m j c) (u:1<=o) (v:o<=n) (y:dk f0 o<=10000) (z:Rch o b t h T): ∀s p,RedI n m c o f0 b t s p->RedR h o:=by
 induction z with
 |done b t r=>exact fun s p q=>q.red u y r
 |step b t h T e r _ w=>
  intro s p q;cases e with
  |add i g=>exact w _ _ (q.add x v r).1
  |swp l=>exact w _ _ (q.swap x v r)
theorem Rm {q:Nat} {f0 t:FF} {s r:Nat} (v:GQ n m j c) (h:RedI n m c q f0 b t s r) (y:q<=n) {l:Ch} (x:scanF b q=some l): ∀a g,a<q->g<q->Sz (chT b l a g) 500:=fun a g z A=>by
 obtain⟨w,u⟩:=iS x;cases l with
 |add i o=>
  have u:i<q:=u;show Sz (TC i o (cF b i o) a g) 500;rcases x6 idF o i (cF b i o) a g with e|e
  ·unfold TC;rw[e];exact(h.szc v y u w.1).mono (by have:=v.z4;omega)
  unfold TC;rw[e];exact(xn a g).mono (by omega)
 |swp p=>exact(xn _ g).mono (by omega)
theorem ab4 (f:FF) {c:Ch} (o:scanF f n=some c):mat n n (bY n f (chT f c))=mat n n (chF f c):=by
 obtain⟨e,l⟩:=iS o;refine gJ fun a b g h=>?_
 cases c with
 |add i j=>exact N4 (by have:=e.1;omega) (by have:i<n:=l;have:=e.1;omega) f a b g h
 |swp m=>exact T7 l f a b g h
structure zY (N B Z n:Nat) (f:FF):Prop where
 good:GoodP n f
 sz: ∀i j,i<n->j<n->Sz (f i j) 400
 st:RedI N B Z n f f idF 0 0
theorem zY.dk {N B S Z n:Nat} {f:FF} (h:GQ N B S Z) (k:zY N B Z n f) (b:1<=n):dk f n<=10000:=by
 obtain⟨g,c,e⟩:=k.good;have:=(n9 c (n-1) (by omega)).2;grind
theorem zY.ex {e:Nat} (l:GQ n m j c) (k:zY n m c e b) (g:1<=e) (o:e<=n): ∃h T,RedR h e/\Rch e b idF h T:=by
 obtain⟨h,T,p⟩:=ug (f0:=b) l o _ b idF 0 0 (aeJ _) k.st;exact⟨h,T,ZR l g o (k.dk l g) p 0 0 k.st,p⟩
theorem abf (g:1<=n) (l:n<=8) (h:Ko b) (e:GoodP n b):zY 8 bB 41 n b:=
 ⟨e,fun i j _ _=>(h.i64 i j).sz (by omega),RedI.start g l e.1 e.2.1 (fun a c=>by have:=h a c;omega) (fun a c _ _=>xn a c)⟩
theorem Da (y:GQ n m j c) (r:Nat) (f h T:FF) (u:1<=r) (z:r<=n) (h4:r<=4) (k:zY n m c r f) (L:RedR h r) (hr:Rch r f idF h T):
  CallC prog 24 [dq (mat r r f)] ⟨lV 0 r r h,.tup [(false,[.sl 0 0 0 r]),(false,[.p (.sl (ls (fR fZ) (mat r r T)))]),(false,[.p (.raw (.int .i64 0))])]⟩:=by
 have J:r<=8:=aeN z y.n8;have R:=k.st;obtain⟨hs,hp,hd⟩:=k.good;have E: ∀i o,i<r->o<r->Sz (f i o) 1024:=fun i o v w=>(k.sz i o v w).mono (by omega)
 obtain⟨e,he,W⟩:=tp r r f u (by omega) u (by omega) E;have O:e=0:=he.2 ⟨rfl,J,hs,hp⟩;subst O;have U:=JG r f u (by omega) E;rw[decide_eq_true hd]at U;have X:=Ey r r f (by omega) u (by omega) (fun i o v w=>(E i o v w).mono (by omega));have Y:=zP r u (by omega);have Q:=aS r r f;refine aB func24 rfl ntmps24 (aE (k:=aj (bu [⟨1,_,_,_,W⟩] (k:=ax (k:=aq rfl (al (aj (bu [⟨1,_,_,_,U⟩] (k:=aq rfl (al (bu [⟨1,_,_,_,X⟩] (k:=fJ [⟨2,_,_,_,Y⟩] Q (k:=?_)))))))))))));refine ay (G:=aem n m c r f h T) (fun g=>⟨(j4 (jk::jk::dq (mat r r g.f)::dq (mat r r g.t)::j16 (j16 (j4 (j4 (jk::[])))))),Hm []⟩) (fun g=>muR j r g.f g.s) ⟨f,idF,0,0,R,hr⟩ ?_ ?_
 ·refine(ak (tm:=(j4 (jk::jk::.one (.sl 22 0 0 r)::.one (.sl 26 0 0 r)::j16 (j16 (j4 (j4 (jk::[]))))))) (l:=[(22,gC 22 r r f),(26,gC 26 r r idF)]) ⟨fD 0 22 r r _,fD 0 26 r r _,trivial⟩ (by simp[wk])).trans ((bR 22 (iq rfl)).trans ((ak (tm:=(j4 (jk::jk::dq (mat r r f)::.one (.sl 26 0 0 r)::j16 (j16 (j4 (j4 (jk::[]))))))) (l:=[(26,gC 26 r r idF)]) ⟨rfl,trivial⟩ (by
   simp[wk];exact⟨(Ow (H:=Hm [(22,gC 22 r r f),(26,gC 26 r r idF)]) (d:=22) (n:=r) (c:=r) (f:=f) rfl).symm,rfl⟩)).trans ((bR 26 (iq rfl)).trans (ak trivial ?_))))
  simp[wk];exact⟨rfl,(Ow (H:=Hm [(26,gC 26 r r idF)]) (d:=26) (n:=r) (c:=r) (f:=idF) rfl).symm⟩
 rintro⟨g,t,s,A,x,K⟩;simp only;have M:=ac0 r g u J x.dfn.pos (fun i o v w=>(x.szf y z v w).mono (by omega));cases C:scanF g r with
 |none=>
  obtain⟨rfl,rfl⟩:g=h/\t=T:=by
   cases K with
   |done _ _ _=>simp
   |step _ _ _ _ b F _=>grind
  have P:=iZ u h4 L;have ct:=Te r r g u (by omega) u (by omega) (fun i o v w=>by have:=P i v o w;exact⟨by omega,by omega⟩);rw[C]at M;refine ao (fJ [⟨1,_,_,_,M⟩] @stT.eq_1 (k:=aj (aZ (k:=aC rfl (fJ [⟨1,_,_,_,ct⟩] @acj.eq_1 (k:=?_))))));refine bv.weak (ak (tm:=(j4 (jk::jk::jk::dq (mat r r t)::jk::jk::jk::.one (.sl 38 0 0 r)::j16 (j16 (j4 (jk::[])))))) (l:=[(38,lV 38 r r g)]) ⟨ff 0 38 _ _ _,trivial⟩ (by simp[wk])) ?_;refine aZ (k:=?_);refine aM ⟨.inr rfl,_,bN.refl _,?_⟩;refine⟨.tup [(false,[.sl 38 0 0 r]),(false,[.p (.sl (ls (fR fZ) (mat r r t)))]),(false,[.p (.raw (.int .i64 0))])],38,?_,Cf (by simp[selfTV,bJ]) (by decide),(ff 38 0 _ _ _).symm,rfl⟩;simp(disch:=omega) only[kd,results24]
 |some b=>
  have D:Rch r (chF g b) (eJ r t (chT g b)) h T:=by
   cases K with
   |done _ _ F=>grind
   |step _ _ _ _ c' F aa=>
    grind
  rw[C]at M;have I:=Rm y x z C;have ha:=x.adds_le y z;have V:=yb r g (chT g b) u (by omega) (fun i o v w=>(x.szf y z v w).mono (by omega)) (fun i o v w=>(I i o v w).mono (by omega));rw[ab4 g C]at V;have cp:=wO r r r t (chT g b) u (by omega) u (by omega) u (by omega) (fun i o v w=>(x.szt i o v w).mono (aeN (Nat.add_le_add_left (ae7 (c+4) ha) 1) (by have:=y.sz;omega))) (fun i o v w=>(I i o v w).mono (by omega));refine ao (fJ [⟨1,_,_,_,M⟩] @stT.eq_1 (k:=aj (aZ (k:=aq rfl (al (adA [⟨2,_,_,_,V⟩,⟨5,_,_,_,cp⟩] (k:=?_)))))));cases b with
  |add i o=>
   refine⟨⟨_,_,s,A+1,(x.add y z C).1,D⟩,x.mu_add y z C,ak trivial ?_⟩;simp[wk];exact⟨rfl,rfl⟩
  |swp q=>
   refine⟨⟨_,_,s+1,A,x.swap y z C,D⟩,x.mu_swap y z C,ak trivial ?_⟩;simp[wk];exact⟨rfl,rfl⟩
theorem Qb (r:GQ n m j c) (b:Nat) (f h T:FF) (g:1<=b) (o:b<=n) (l:b<=4) (k:zY n m c b f) (e:RedR h b) (q:Rch b f idF h T):
  CallC prog 24 [dq (mat b b f)] ⟨[],.tup [(false,[.p (.sl (ls (fR fI) (mat b b h)))]),(false,[.p (.sl (ls (fR fZ) (mat b b T)))]),(false,[.p (.raw (.int .i64 0))])]⟩:=
 (Da r b f h T g o l k e q).fzT (by simp[isPure])
theorem E6 {f:FF} (g: ∀a b,a≠b->f a b=0) (l: ∀a,0<f a a): ∀k,(0<dk f k/\ ∀t,t<k->0<dk f (t+1))/\ ∀a b,k<=a->k<=b->bk f k a b=dk f k*f a b
 |0=>⟨⟨by rw[b8];omega,fun t h=>by omega⟩,fun a b _ _=>by grind [de,b8]⟩
 |k+1=>by
  obtain⟨⟨o,p⟩,j⟩:=E6 g l k;have e:dk f (k+1)=dk f k*f k k:=by grind [cB]
  have c:0<dk f (k+1):=by simp_all[afa]
  refine⟨⟨c,fun t h=>?_⟩,fun a b m n=>?_⟩
  ·grind
  have s:=sylv f k (fun t h=>by grind) a b;rw[j a b (by omega) (by omega),j a k (by omega) (by omega),g a k (by omega),af1,ag2,aiU]at s;grind [Int.eq_of_mul_eq_mul_left,Int.mul_left_comm]
theorem Oe {f:FF} (e: ∀a b,a≠b->f a b=0) (c: ∀a,0<f a a) (g: ∀a,f a a<=2): ∀k,dk f k<=2^k
 |0=>by rw[b8];decide
 |k+1=>by
  obtain⟨⟨j,_⟩,l⟩:=E6 e c k;rw[cB,l k k (by omega) (by omega),Int.pow_succ];have h:=Oe e c g k;exact ae0 h (g k) (afA (c k)) (aie (afA j) h)
theorem Ui (L:List Int) (p n:Nat) (o:1<=n) (m:n<=8):GoodP n (oo L p 2):=by
 have f: ∀a b,a≠b->oo L p 2 a b=0:=fun a b h=>by grind [oo]
 have g: ∀a,0<oo L p 2 a a:=fun a=>by grind [oo]
 have l: ∀a,oo L p 2 a a<=2:=fun a=>by
  unfold oo;rw[if_pos rfl];have:=dH (n:=2) L (ux L p a) (by omega);omega
 have j: ∀k,0<dk (oo L p 2) (k+1):=fun k=>(E6 f g (k+1)).1.1
 have c: ∀k,detF (k+1) (oo L p 2)=dk (oo L p 2) (k+1):=fun k=>ip fun t _=>by grind
 refine⟨fun a _ b _=>?_,fun k _=>by grind,?_⟩
 ·grind
 have e:=c (n-1);rw[show n-1+1=n by omega]at e;rw[e];have q:=Oe f g l n;have r:(2:Int)^n<=2^8:=by
  have:=ae5 (show 0<2 by omega) m;grind
 omega
theorem kJ (b:Nat) (L:List Int) (n:Nat) (c:1<=n) (e:n<=8):GoodP n (j3 b L n)/\Ko (j3 b L n):=by
 grind [j3,Pa,Ui,K6]
theorem Yi (e b:Nat) (L B:List Int) (c n:Nat) (h T:FF) (v:I8 L) (o:e<=255) (g:b<=255) (p:1<=c) (y:c<=4) (z:n=1+e%c) (A:RedR h n) (w:Rch n (j3 b L n) idF h T):
  CallC prog 14 [tL e b L B,.raw (.int .i64 (c:Int))] ⟨lV 0 n n h,.one (.sl 0 0 0 n)⟩:=by
 have f:1<=n:=by omega
 have m:n<=8:=by have:=afp e (show 0<c by omega);omega
 have u:n<=4:=by have:=afp e (show 0<c by omega);omega
 have r:=S5 e b L B c n v o g p (by omega) z;obtain⟨x,q⟩:=kJ b L n f m;have t:=Da bd8 n (j3 b L n) h T f m u (abf f m q x) A w;have s:=Ku n n (j3 b L n) f (by omega) f (by omega) (fun i j _ _=>q.i64 i j);generalize j3 b L n=C at*
 refine aB func14 rfl ntmps14 (je @tL.eq_1 (k:=fJ [⟨2,_,_,_,r⟩,⟨3,_,_,_,s⟩,⟨4,_,_,_,t⟩] @tL.eq_1 (k:=?_)));refine bv.weak (ak (tm:=(j4 (jk::.one (.sl 13 0 0 n)::j4 (j4 (j4 ([])))))) (l:=[(13,lV 13 n n h)]) ⟨ff 0 13 _ _ _,trivial⟩ (by simp[wk])) ?_;refine aZ (k:=?_);refine aM ⟨.inr rfl,_,bN.refl _,?_⟩;refine⟨.one (.sl 13 0 0 n),13,?_,rfl,(ff 13 0 _ _ _).symm,rfl⟩;simp(disch:=omega) only[kd,results14]
theorem uE (e c:Nat) (L B:List Int) (b n:Nat) (h T:FF) (m:I8 L) (g:e<=255) (f:c<=255) (j:1<=b) (l:b<=4) (p:n=1+e%b) (q:RedR h n) (o:Rch n (j3 c L n) idF h T):
  CallC prog 14 [tL e c L B,.raw (.int .i64 (b:Int))] ⟨[],bV (mat n n h)⟩:=
 (Yi e c L B b n h T m g f j l p q o).fzI
theorem zM (b:Nat) (L:List Int) (c:1<=n) (e:n<=8): ∃h T,RedR h n/\Rch n (j3 b L n) idF h T:=by
 obtain⟨g,f⟩:=kJ b L n c e;exact(abf c e f g).ex bd8 c e
abbrev sl8 (l:List Int):TV:= .one (.p (.sl (ls f8 l)))
theorem OK (l:List Int) (k:Nat) (v:Int):(lc fI l).set k [AV.p (.raw (.int .i64 v))]=lc fI (l.set k v):=by simp_all[lc,fI]
section
open Go.ChangeShapes Go.WideShapes Go.ChangeAt Go.RowKit
theorem ZT {A:Option Addr} (u:e.length<=n) (v:e.length<=9223372036854775807) (h:RdI .i8 w A e):bS (fun _=>False) w (.sl (ls f8 e)) (.slice A e.length n):=by
 cases e with
 |nil=>exact bS.nil _ _
 |cons p l0=>
  obtain⟨b,o,rfl,t⟩:=h (by simp);have r:=t 0 (.int .i8 p) (by simp);have s:b<w.heap.size:=zg r;have:=bS.sl (X:=fun _=>False) (w:=w) b o 1 n (ls f8 (p::l0)) (fun i _=> .int .i8 ((p::l0).getD i 0)) (fun h=>h) s (fun f g=>by
   obtain⟨z,_,rfl⟩:=aeL.1 g;rfl) (by grind [iM]) (by grind [iM]) (fun i f j x g m=>by
   rw[kN]at g;obtain⟨z,q,rfl⟩:=adT.1 g;cases j with
   |succ j=>simp[f8]at m
   |zero=>
    grind) (fun i f j x g m=>by
   rw[kN]at g;obtain⟨z,q,rfl⟩:=adT.1 g;cases j with
   |succ j=>simp[f8]at m
   |zero=>
    simp[f8]at m;subst m;simp only[aeM,q,agu];exact bS.raw _ rfl)
  grind [iM]
theorem iP {H:Type} {m:TypeId×Value->H} {base:Nat} {e:TypeId} {y:DataW H×List MemPlace} (q:P.underlying f=some (.slice e)) (u:P.underlying e=some (.int .i8)) (s:P.cellsOf e=1) (b:DataW.trod m P w base (fun _=>true) h n f [g]=some y):
  ∃L:List Int,bS (fun _=>False) w (.sl (ls f8 L)) g/\I8 L:=by
 rcases DataW.trod_slice q b with⟨j,_⟩|⟨x,l,c,_,_,_,_,j,_⟩
 ·simp at j;subst j;exact⟨[],bS.nil _ _,fun z o=>by simp at o⟩
 simp at j;subst j;obtain⟨A,B,C,D,E,r,_⟩:=VT (enc:=m) (base:=base) (held:=h) (d:=y.1) (p:=y.2) q u s ⟨n,by simpa[Value.cells] using b⟩;refine⟨A,?_,fun z o=>XQ (r z o)⟩;grind [maxLen,ZT]
theorem iQ {H:Type} {c:TypeId×Value->H} {base:Nat} {y:DataW H×List MemPlace} (e:P.underlying f=some (.int .u8)) (b:DataW.trod c P w base (fun _=>true) h n f [g]=some y): ∃m:Nat,g= .int .u8 (m:Int)/\m<=255:=by
 obtain⟨m,l,_,j⟩:=DataW.trod_int e b;have:=CM j;refine⟨m.toNat,?_,by omega⟩;grind
theorem Pb {d k:Nat} {B:List Int} {c:Value} (f:bS (fun _=>False) w (.sl (ls f8 e)) g) (h:bS (fun _=>False) w (.sl (ls f8 B)) c):
  (tL d k e B).rel (fun _ _=>none) (fun _=>[]) (fun _=>False) w (.agg #[.int .u8 (d:Int),.int .u8 (k:Int),g,c]):=by
 refine⟨#[.int .u8 (d:Int),.int .u8 (k:Int),g,c],rfl,rfl,fun j x b=>?_⟩
 match j,b with
 |0,b=>simp at b;subst b;exact⟨_,rfl,rfl,bS.raw _ rfl⟩
 |1,b=>simp at b;subst b;exact⟨_,rfl,rfl,bS.raw _ rfl⟩
 |2,b=>simp at b;subst b;exact⟨_,rfl,f.one,f⟩
 |3,b=>simp at b;subst b;exact⟨_,rfl,h.one,h⟩
 |j+4,b=>simp at b
theorem NS: ∀{b:List TV} {vs:List Value},b.length=vs.length->(∀(j:Nat) t v,b[j]?=some t->vs[j]?=some v->t.rel (fun _ _=>none) (fun _=>[]) (fun _=>False) w v)->
  ∀(j:Nat) t,b[j]?=some t-> ∃v:Value,vs.toArray[j]?=some v/\t.rel (fun _ _=>none) (fun _=>[]) (fun _=>False) w v:=fun{b vs} hl h j t hj=>by
 have c:=(aeI.1 hj).1;obtain⟨v,e⟩: ∃v,vs[j]?=some v:=⟨_,aeR (by omega)⟩;grind
end
section
theorem aW (c:Int) (F:Nat->Int): ∀k,smF (fun p=>c*F p) k=c*smF F k
 |0=>by simp[smF]
 |k+1=>by rw[smF,smF,aW c F k];grind
theorem iT (c:Int) (F:Nat->Int) (k:Nat):smF (fun p=>F p*c) k=smF F k*c:=by
 grind [Int.mul_comm,aW]
theorem eh (F:FF) (m:Nat): ∀n,smF (fun i=>smF (F i) m) n=smF (fun j=>smF (fun i=>F i j) n) m
 |0=>by simp_all[smF,b7]
 |n+1=>by rw[smF,eh F m n,<- iw];rfl
theorem Wy {F:Nat->Int} {B:Int}: ∀k,(∀p,p<k-> -B<=F p/\F p<=B)-> -((k:Int)*B)<=smF F k/\smF F k<=(k:Int)*B
 |0,_=>by simp[smF]
 |k+1,h=>by
  have c:=Wy k fun p b=>h p (by omega)
  grind [smF]
def BF (n:Nat) (f:FF) (x y:Nat->Int):Int:=smF (fun i=>x i*smF (fun j=>f i j*y j) n) n
variable {n:Nat}
theorem cf {f':FF} {x x' y c:Nat->Int} (e: ∀i j,i<n->j<n->b i j=f' i j) (h: ∀i,i<n->x i=x' i) (l: ∀i,i<n->y i=c i):BF n b x y=BF n f' x' c:=
 au n fun i g=>by grind [au]
theorem y5 (f:FF) (x b y:Nat->Int) (c:Int):BF n f (fun i=>x i+c*b i) y=BF n f x y+c*BF n f b y:=by
 unfold BF;rw[<- aW,<- iw];grind
theorem y6 (f:FF) (x y b:Nat->Int) (c:Int):BF n f x (fun i=>y i+c*b i)=BF n f x y+c*BF n f x b:=by
 unfold BF;rw[<- aW,<- iw];refine au n fun i _=>?_
 rw[au n (G:=fun j=>f i j*y j+c*(f i j*b j)) (fun j _=>by grind),iw,aW];grind
theorem yZ (f g:FF) (x y:Nat->Int) (a b:Int):BF n (fun i j=>a*f i j+b*g i j) x y=a*BF n f x y+b*BF n g x y:=by
 unfold BF;rw[<- aW,<- aW,<- iw];refine au n fun i _=>?_
 rw[au n (G:=fun j=>a*(f i j*y j)+b*(g i j*y j)) (fun j _=>by grind),iw,aW,aW];grind
theorem Nx (u v x y:Nat->Int):BF n (fun i j=>u i*v j) x y=smF (fun i=>x i*u i) n*smF (fun j=>v j*y j) n:=by
 unfold BF;rw[<- iT];refine au n fun i _=>?_
 rw[au n (G:=fun j=>u i*(v j*y j)) (fun j _=>by grind),aW];grind
theorem S0 (g:SymF b n) (x y:Nat->Int):BF n b x y=BF n b y x:=by
 unfold BF;rw[au n (G:=fun i=>smF (fun j=>x i*b i j*y j) n) (fun i _=>by grind [aW]),
  au n (F:=fun i=>y i*_) (G:=fun i=>smF (fun j=>x j*b j i*y i) n) (fun i c=>by rw[<- aW];exact au n fun j e=>by rw[g i c j e];grind)]
 exact eh _ _ _
theorem jQ {f:FF} (q:SymF f n) (l: ∀k,k<n->0<dk f (k+1)) (x:Nat->Int): ∀m k,m+k=n->0<=BF n (bk f k) x x/\(BF n (bk f k) x x=0-> ∀i,k<=i->i<n->x i=0)
 |0,k,h=>by
  obtain rfl:k=n:=by omega
  refine⟨?_,fun _ i p s=>by omega⟩;have:BF k (bk f k) x x=0:=by
   simp_all[BF,au,kX,b7]
  omega
 |m+1,k,h=>by
  obtain⟨p,s⟩:=jQ q l x m (k+1) (by omega);have b: ∀t,t<n->dk f (t+1)≠0:=fun t o=>by grind
  have u:0<dk f k:=lS fun t o=>l t (by omega)
  have c:=l k (by omega);have key:dk f k*BF n (bk f (k+1)) x x=dk f (k+1)*BF n (bk f k) x x-smF (fun j=>bk f k k j*x j) n*smF (fun j=>bk f k k j*x j) n:=by
   have r:dk f k*BF n (bk f (k+1)) x x=BF n (fun i j=>dk f k*bk f (k+1) i j+0*bk f k i j) x x:=by rw[yZ];omega
   rw[r,cf (f':=fun i j=>dk f (k+1)*bk f k i j+(-1)*(bk f k k i*bk f k k j)) (fun i j w B=>by
    have:=sylv f k (fun t o=>b t (by omega)) i j;have e:=iJ q k (by omega) (fun t o=>b t (by omega)) i k w (by omega);grind) (fun _ _=>rfl) (fun _ _=>rfl),yZ,Nx,au n (F:=fun i=>x i*bk f k k i) (G:=fun j=>bk f k k j*x j) (fun i _=>af0 _ _)]
   omega
  have z:0<=smF (fun j=>bk f k k j*x j) n*smF (fun j=>bk f k k j*x j) n:=by
   rcases afF 0 (smF (fun j=>bk f k k j*x j) n)with h|h
   ·exact aeQ h h
   exact ae9 h h
  have y:=aeQ (afA u) p;have v:0<=dk f (k+1)*BF n (bk f k) x x:=by omega
  refine⟨?_,fun A=>?_⟩
  ·rcases afL (BF n (bk f k) x x) 0 with g|g
   ·have:=Int.mul_neg_of_pos_of_neg c g;omega
   exact g
  rw[A,af1]at key;have C:dk f k*BF n (bk f (k+1)) x x=0:=by omega
  have D:smF (fun j=>bk f k k j*x j) n*smF (fun j=>bk f k k j*x j) n=0:=by omega
  have E:BF n (bk f (k+1)) x x=0:=by
   grind [Int.mul_eq_zero]
  grind [Int.mul_eq_zero,gD,EO,cB]
end
end Go.Proofs.YtalmoejhjceflaaGreat
