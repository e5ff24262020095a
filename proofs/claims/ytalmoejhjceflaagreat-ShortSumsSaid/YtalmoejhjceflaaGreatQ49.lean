/-
  Part 50 of a proof (walks and plain facts).
-/
import Derived.Test.YtalmoejhjceflaaGreatQ48
set_option linter.all false
set_option maxRecDepth 100000
set_option maxHeartbeats 64000000
namespace Go.Proofs.YtalmoejhjceflaaGreat
open Go.RowKit Go.Proofs.Tryz
variable {n m:Nat} {x y:Int}
section
section
variable {n:Nat} {f:FF} {B:Int}
theorem Yv (b:RedR f n) {c:Int} (j:c<=dk f 1): ∀k,k<n->c*dk f k<=((2^k:Nat):Int)*dk f (k+1)
 |0,h=>by
  grind [ce]
 |k+1,h=>by
  have v:=Yv b j k (by omega);obtain⟨s,r⟩:=b.2.2.2 k h;have p:=b.2.1 k (by omega);have q:=b.2.1 (k+1) h;unfold Qb at r;have u:=s (k+1) h (by omega);have o:0<dk f k:=jl fun t D=>b.2.1 t (by omega)
  generalize bk f k (k+1) k=l at*
  generalize dk f (k+1+1)=d2 at*
  generalize dk f (k+1)=d1 at*
  generalize dk f k=d0 at*
  by_cases m:c<=0
  ·have w:=acP (show 0<= -c by omega) (show 0<=d1 by omega);have x:=acP (agI (2^(k+1))) (show 0<=d2 by omega);grind
  have y:4*(l*l)<=d1*d1:=by
   have e:(2*l.natAbs)*(2*l.natAbs)<=d1.toNat*d1.toNat:=acU (by omega) (by omega);grind [Int.natAbs_mul_self]
  have g:d1*d1<=2*(d0*d2):=by
   grind
  have z:c*d0*d2<=((2^k:Nat):Int)*d1*d2:=ac2 v (by omega);have C:c*(d1*d1)<=c*(2*(d0*d2)):=acw g (by omega);have A:d1*(c*d1)<=d1*(((2^(k+1):Nat):Int)*d2):=by
   have e:d1*(((2^(k+1):Nat):Int)*d2)=2*(((2^k:Nat):Int)*d1*d2):=by
    grind
   grind
  simp_all
theorem Yu (b:pJ n f B) {k:Nat} (w:k<n) {x:Nat->Int} (t:fj f n B (k+1) x) {W:Nat} (s:B*dk f k<=(m:Int)*dk f (k+1)) (F:4*m<W*W):(rng (b9 f n B k x) (cq f n B k x)).length<=W:=by
 have h:=b.d (k:=k+1) (by omega);have u:=b.d (k:=k) (by omega);have e:=b.sq w t;have y:=de e.1;have G:=(im b.r.pd.1 b.r.pd.2 x (n-(k+1)) (k+1) (by omega)).1;have H:fH f n B k x<=(m:Int)*(dk f (k+1)*dk f (k+1)):=by
  unfold fH;have z:dk f k*(B*dk f (k+1)-BF n (bk f (k+1)) x x)<=dk f k*(B*dk f (k+1)):=acw (by omega) (by omega);have A:B*dk f k*dk f (k+1)<=(m:Int)*dk f (k+1)*dk f (k+1):=ac2 s (by omega);grind
 rw[o6];unfold b9 cq;obtain⟨K,L,_⟩:=y;generalize isqF (fH f n B k x)=r at*
 generalize jb f n k x=l at*
 generalize dk f (k+1)=D at*
 have I:=agd (r-l) (show D≠0 by omega);have J:=agd (r+l) (show D≠0 by omega);generalize(r-l)/D=p at*
 generalize(r+l)/D=q at*
 refine Nat.le_of_not_gt fun v=>?_
 have c:(W:Int)<=p+q:=by omega
 have j:(W:Int)*D<=(p+q)*D:=ac2 c (by omega);rw[ag5]at j;have g:(W:Int)*D<=2*r:=by omega
 have E:(W:Int)*D*((W:Int)*D)<=2*r*(2*r):=acZ g g (acP (by omega) (by omega)) (by omega);have o:((W*W:Nat):Int)*(D*D)<=((4*m:Nat):Int)*(D*D):=by
  grind
 have:=Int.le_of_mul_le_mul_right o (afT h.1 h.1);omega
theorem TP {F:Int->Nat} {T:Nat}: ∀l:List Int,(∀c,c∈l->F c<=T)->(l.map F).sum<=l.length*T
 |[],_=>by simp
 |c::l,h=>by
  have:=TP l fun c b=>h c (by simp[b])
  grind [Nat.add_mul]
def wdF:Nat->Nat
 |0=>5
 |1=>7
 |2=>9
 |_=>13
def tnF:Nat->Nat
 |0=>5
 |k+1=>wdF (k+1)*(1+tnF k)
theorem YS {k:Nat} (h:k<=3):4*(5*2^k)<wdF k*wdF k:=by
 match k,h with
 |0,_|1,_|2,_|3,_=>decide
theorem YQ (e:pJ n f B) (h: ∀k,k<n->B*dk f k<=((5*2^k:Nat):Int)*dk f (k+1)): ∀(k:Nat) (y:List Int),k<=3->y.length+(k+1)=n->fj f n B (k+1) (aJ n y)->toL f n B k y<=tnF k
 |0,y,g,j,b=>Yu e (by omega) b (h 0 (by omega)) (YS g)
 |k+1,y,g,j,b=>by
  have o:=Yu e (by omega) b (h (k+1) (by omega)) (YS g);have q:=TP (F:=fun c=>toL f n B k (c::y)) (T:=tnF k) (rng (b9 f n B (k+1) (aJ n y)) (cq f n B (k+1) (aJ n y))) fun c p=>by
   obtain⟨l,m⟩:=oR.1 p;exact YQ e h k (c::y) (by omega) (by grind) (e.step j b l m).1
  show _+_<=wdF (k+1)*(1+tnF k);have r:=acu (1+tnF k) o;grind
theorem Ih (b:pJ n f B) (e:1<=n) (g:n<=4) (l:x<=dk f 1) (j:B<=5*x):toL f n B (n-1) []<=5044:=by
 have h:=YQ b (fun k m=>by
  have o:=Yv b.r l k m;have q:=b.d (k:=k) (by omega);have p:B*dk f k<=5*x*dk f k:=ac2 j (by omega);grind) (n-1) [] (by omega) (by simp;omega) (by rw[show n-1+1=n by omega];exact gZ b.r.pd b.b0)
 refine acl h ?_
 match n,e,g with
 |1,_,_|2,_,_|3,_,_|4,_,_=>decide
/-! Lists without repetitions. -/
theorem sO {e:Type} [DecidableEq e]: ∀{a b:List e},a.Nodup->(∀x,x∈a->x∈b)->a.length<=b.length
 |[],_,_,_=>acL _
 |x::a,b,h,c=>by
  have j:=c x (by simp);rw[aej]at h;have:=sO (b:=b.erase x) h.2 fun y g=>(List.mem_erase_of_ne (by grind)).2 (c y (by simp[g]))
  grind
theorem En {b j:Type} {g:b->j} (c: ∀x y,g x=g y->x=y) {l:List b} (h:l.Nodup):(l.map g).Nodup:=
 List.pairwise_map.2 (List.Pairwise.imp (fun h e=>h (c _ _ e)) h)
theorem aau (a b:Int):(rng a b).Nodup:=En (fun _ _ e=>by omega) List.nodup_range
theorem Cv: ∀(k:Nat) (y:List Int),(dO f n B k y).Nodup
 |0,y=>by simp[dO]
 |k+1,y=>by
  refine ago.2 ⟨fun c _=>Cv k (c::y),(aau _ _).imp fun{a b} hab x hx z hz e=>?_⟩;grind [JG,List.append_inj']
theorem Md {b:Type} (p q:b->Bool): ∀l:List b,(l.filter p).length=(l.filter fun x=>p x&&q x).length+(l.filter fun x=>p x&&!q x).length
 |[]=>rfl
 |x::l=>by
  have:=Md p q l;grind
end
section
variable {M:List (List Int)} {n:Nat} {f:FF}
noncomputable def MP (f:FF) (n b:Nat) (m s:Int):List (List Int):=(dO f n (b:Int) n []).filter fun z=>decide (fA n f z=m)&&decide (cQ z=s)
theorem MQ (h:Rf M n f) (c:x<=m) (z:List Int):z∈MP f n m x y↔z.length=n/\fA n f z=x/\cQ z=y:=by
 unfold MP;rw[aeA,jW h.r (by omega)];grind
theorem Tv (b:Nat) (m s:Int):(MP f n b m s).Nodup:=(Cv _ _).filter _
theorem W6 (h:Rf M n f) (j:x<=m):(MP f n m x y).length<=(MP f n m x (-y)).length:=by
 have:=sO (a:=(MP f n m x y).map fun z=>z.map fun a=> -1*a) (b:=MP f n m x (-y)) (En (fun c g e=>by
  have:=congrArg (List.map fun a:Int=> -1*a) e;simpa[afS] using this) (Tv m x y)) fun c l=>by
  grind [MQ,Ak,nQ]
 grind
theorem W7 (h:Rf M n f) {b:Nat} {m:Int} (g:m<=b) (c:0<m):((dO f n (b:Int) n []).filter fun z=>decide (fA n f z=m)).length=2*(MP f n b m 1).length:=by
 rw[Md _ fun z=>decide (cQ z=1)];have e:((dO f n (b:Int) n []).filter fun z=>decide (fA n f z=m)&&!decide (cQ z=1))=MP f n b m (-1):=by
  refine aeW fun z j=>?_
  grind [cQ,gA,jc]
 grind [W6,MP]
theorem aav (h:Rf M n f) {b:Nat} {m B:Int} (s:m<=b) (o:0<=B) (q:B<=65536) (r:m<=B):(MP f n b m 1).length=((ma f n B).filter fun p=>decide (p.1=m)).length:=by
 have l:((ma f n B).filter fun p=>decide (p.1=m)).Nodup:=List.Pairwise.filter _ (List.Pairwise.imp (fun h e=>by grind [oM]) (Bu f n B));have g:((MP f n b m 1).map fun z=>(m,z)).Nodup:=En (fun _ _ e=>(aha e).2) (Tv b m 1);have c: ∀p:Int×List Int,p∈((MP f n b m 1).map fun z=>(m,z))↔p∈(ma f n B).filter fun p=>decide (p.1=m):=fun p=>by
  grind [ta,MQ]
 have l1:=sO g fun p j=>(c p).1 j
 have t:=sO l fun p j=>(c p).2 j
 grind
theorem KL (v:Int): ∀b:List (Int×List Int),BV b->(∀p,p∈b->v<=p.1)->(b.takeWhile fun p=>p.1==v)=b.filter fun p=>decide (p.1=v)
 |[],_,_=>rfl
 |q::b,h,j=>by
  obtain⟨l,c⟩:=adX.1 h;by_cases e:q.1=v
  ·rw[aeZ (by simp[e]),List.filter_cons_of_pos (by simp[e]),KL v b c fun p g=>j p (by simp[g])]
  grind [List.takeWhile_cons_of_neg,List.filter_eq_nil_iff,pD]
noncomputable def rz (f:FF) (n:Nat):Int:=((ma f n (gh n f)).getD 0 (0,[])).1
theorem sK (h:Rf M n f):0<rz f n/\rz f n<=gh n f/\ ∀p,p∈ma f n (gh n f)->rz f n<=p.1:=by
 have o:=my h;have b:=Ix h;have m:=Bu f n (gh n f);have r:=fun p=>(ta h (B:=gh n f) (by omega) o.2 p).1
 unfold rz;generalize ma f n (gh n f)=e at*
 match e,b with
 |q::e,_=>
  obtain⟨g,j,l,s⟩:=r q (by simp);show 0<q.1/\q.1<=_/\ ∀p,p∈q::e->q.1<=p.1;refine⟨?_,l,fun p c=>?_⟩
  ·rw[j];exact J6 h g (by omega)
  rcases acR.1 c with rfl|c
  ·omega
  have:=(adX.1 m).1 p c;grind [pD]
theorem abJ (h:Rf M n f):0<(Fa (ma f n (gh n f))).length/\(Fa (ma f n (gh n f))).length<=(ma f n (gh n f)).length:=by
 have b:=Ix h;unfold Fa;generalize ma f n (gh n f)=c at*
 match c,b with
 |q::c,_=>
  grind [List.takeWhile_prefix,List.takeWhile_cons_of_pos]
noncomputable def lY (f:FF) (n b:Nat) (m:Nat):Int:=(((dO f n (b:Int) n []).filter fun z=>decide (fA n f z=(m:Int))).length:Int)
theorem KK (f:FF) (n b:Nat):thL f n b=aN (b+1) (lY f n b):=dT fun m _=>by
 rw[RJ];exact aeO _
theorem Rc (h:Rf M n f) (b:Nat):lY f n b 0=1:=by
 have g: ∀z,z∈((dO f n (b:Int) n []).filter fun z=>decide (fA n f z=((0:Nat):Int)))↔z=List.replicate n 0:=fun z=>by
  rw[aeA,jW h.r (by omega),decide_eq_true_eq];constructor
  ·rintro⟨⟨c,_⟩,j⟩;by_cases e:cQ z=0
   ·grind [List.eq_replicate_iff,rj]
   have:=J6 h c e;omega
  grind [gA,jc]
 have l1:=sO (b:=[List.replicate n (0:Int)]) ((Cv (f:=f) (n:=n) (B:=(b:Int)) n []).filter fun z=>decide (fA n f z=((0:Nat):Int))) fun z l=>by grind
 have m:=aga ((g _).2 rfl);grind [lY]
theorem Rh (h:Rf M n f) {c:Nat} (r:c<=m) (q:0<c):0<=lY f n m c/\lY f n m c%2=0/\((c:Int)<rz f n->lY f n m c=0)/\((c:Int)=rz f n->lY f n m c=2*((Fa (ma f n (gh n f))).length:Int)):=by
 have j:=my h;obtain⟨s,t,l⟩:=sK h;have e:=W7 h (b:=m) (m:=(c:Int)) (by omega) (by omega);have p:lY f n m c=2*((MP f n m (c:Int) 1).length:Int):=by grind [lY]
 have ev:=fun(g:(c:Int)<=rz f n)=>aav h (b:=m) (m:=(c:Int)) (B:=gh n f) (by omega) (by omega) j.2 (by omega)
 refine⟨by omega,by omega,fun g=>?_,fun g=>?_⟩
 ·grind [List.filter_eq_nil_iff]
 have:=ev (by omega);have o:Fa (ma f n (gh n f))=_:=KL (rz f n) _ (Bu f n (gh n f)) l;grind
theorem X5 {x:Nat->Int}: ∀n,SymF f n->(∀i,i<n->f i i%2=0)->BF n f x x%2=0
 |0,_,_=>rfl
 |n+1,g,b=>by
  have p:=X5 (x:=x) n (fun i c j m=>g i (by omega) j (by omega)) fun i c=>b i (by omega)
  have l:=b n (by omega);have e:BF (n+1) f x x=BF n f x x+2*(x n*bW (fun j=>f n j*x j) n)+x n*(f n n*x n):=by
   unfold BF;rw[bW,aO n (G:=fun i=>x i*bW (fun j=>f i j*x j) n+x n*(f n i*x i)) fun i c=>by rw[bW,Int.mul_add,g i (by omega) n (by omega)];grind,lw,gp,bW];grind
  obtain⟨t,o⟩: ∃t,f n n=2*t:=⟨f n n/2,by omega⟩;have h:x n*(f n n*x n)=2*(x n*(t*x n)):=by grind
  omega
theorem ZL (h:Rf M n f) (e: ∀i,i<n->f i i%2=0) {c:Nat} (g:c%2=1):lY f n m c=0:=by
 unfold lY;rw[aeo.2 fun z _=>by
  have:=X5 (x:=fun i=>z.getD i 0) n h.r.1 e;grind [gA]]
 rfl
end
end
theorem q9 {n:Nat} {h:FF} (b:1<=n) (c:n<=8) (e:RedR h n):Rf (mat n n h) n (ent (mat n n h)):=by
 grind [Tf,fP,tl,aU]
def RC (f:FF):Nat->Bool
 |0=>true
 |i+1=>RC f i&&decide (f i i%2=0)
theorem Ma {f:FF}: ∀n,RC f n=true-> ∀i,i<n->f i i%2=0
 |n+1,h,i,b=>by
  unfold RC at h;rw[acN,decide_eq_true_eq]at h;by_cases e:i=n
  ·grind
  exact Ma n h.1 i (by omega)
theorem ZT {M:List (List Int)} {f:FF} (h:Rf M n f) {i:Nat} (p:i<=m) (g:0<i) (j:lY f n m i=x) (q:((Fa (ma f n (gh n f))).length:Int)=y) {v:Int} (r:rz f n=v) {e:Bool} (o:RC f n=e):
  (((i:Int)<v)=True/\(x=0)=True/\((i:Int)=v)=False\/((i:Int)<v)=False/\((i:Int)=v)=True/\(x=2*y)=True\/((i:Int)<v)=False/\((i:Int)=v)=False)/\(e=false\/e=true/\((i:Int)%2=1)=False\/e=true/\((i:Int)%2=1)=True/\(x=0)=True):=by
 subst j q r o;obtain⟨_,_,s,t⟩:=Rh h p g;grind [ZL,Ma]
theorem Ol (s p:Nat) (L B:List Int) (q:Nat) (hL:I8 L) (J:s<=255) (x:p<=255) (hq:q<=255):CallC prog 6 [tL s p L B,.raw (.int .u8 (q:Int))] ⟨[],.raw (.bool true)⟩:=by
 have cA:=qG;obtain⟨n,hn⟩: ∃n,n=1+s%4:=⟨_,rfl⟩;have t:1<=n:=by omega
 have N:n<=4:=by omega
 obtain⟨h,hr,cF⟩:=yx s p L B 4 n hL J x (by omega) (by omega) hn;rw[show((4:Nat):Int)=4 from rfl]at cF;have j:=q9 t (by omega) hr;generalize mat n n h=M at*
 clear hr;generalize ent M=f at*
 obtain⟨b,hb⟩: ∃b,b=q%6:=⟨_,rfl⟩;have ab:b<=5:=by omega
 have eb:Int.tmod (q:Int) 6=(b:Int):=by grind
 have u:gh n f<=dk f 1/\1<=dk f 1:=by
  have:=Mv (f:=f) t 0 (by omega);have:=my j;have e0:dk f 1=f 0 0:=by show bk f 0 0 0=f 0 0;exact cH f 0 0
  omega
 have Y:=my j;have t1:=Ih (j.vs (B:=gh n f) (by omega) Y.2) t N u.1 (by omega);have t2:=Ih (j.vs (B:=(b:Int)) (by omega) (by omega)) t N u.2 (by omega);have l1:=oE (f:=f) (n:=n) (B:=gh n f) (n-1) [];have l2:=oE (f:=f) (n:=n) (B:=(b:Int)) (n-1) [];rw[show n-1+1=n by omega]at l1 l2;have cM:=xP (k:=20000) j (by omega) (by omega) (by omega) (by omega);have cT:=tw (k:=20000) j b (by omega) (by omega) (by omega) (by omega);rw[KK]at cT;have W: ∀i,lY f n b i<=5044:=fun i=>by
  grind [lY]
 have I:=Rc j b;have H:=fun(i:Nat) (o:i<=b) (z:0<i)=>Rh j o z
 have O:=fun(i:Nat) (o:i<=b) (z:0<i) (c:Int) (hc:lY f n b i=c) (l:Int) (hl:((Fa (ma f n (gh n f))).length:Int)=l) (v:Int) (hv:rz f n=v) (e:Bool) (he:RC f n=e)=>ZT j o z hc hl hv he
 have ad:0<(Fa (ma f n (gh n f))).length/\(Fa (ma f n (gh n f))).length<=5044:=by
  grind [Lj,abJ]
 have ed: ∀i,i<n-> ∃r,M[i]?=some r/\r.length=n/\r[i]?=some (f i i)/\0<f i i/\f i i<=262144:=fun i o=>by
  have A:=j.b i i o o;have R:=j.r.pd.diag o;refine⟨aN n (f i),by rw[j.e];exact bD n f o,aD _ _,aB _ o,R,A.2⟩
 have U:=j.l;have F:((Fa (ma f n (gh n f))).map Prod.snd).length=(Fa (ma f n (gh n f))).length:=ac0 _;have e6:((ma f n (gh n f)).getD 0 (0,[])).1=rz f n:=rfl;rw[e6]at cM;generalize(Fa (ma f n (gh n f))).map Prod.snd=V at*
 generalize(Fa (ma f n (gh n f))).length=vl at*
 generalize rz f n=v at*
 have E:=aD (b+1) (lY f n b);have D:=fun(i:Nat) (o:i<b+1)=>aB (lY f n b) o
 generalize lY f n b=ct at*
 generalize aN (b+1) ct=Th at*
 have C:=D 0 (by omega);rw[I]at C;clear t1 t2 l1 l2 I Y u j hb hn;have aa:((vl:Int)=0)=False:=eq_false (by omega);refine ax func6 rfl ntmps6 (jS @tL.eq_1 (k:=dU [⟨1,_,_,_,cF⟩] @tL.eq_1 (k:=bj [⟨1,_,_,_,cM⟩] (k:=cj [⟨4,_,_,_,cT⟩] eb (k:=ai (aH (aC F (aC aa (aC E C))) (k:=ao rfl (ak (bi (k:=ai (dR U (k:=?_))))))))))));refine ay (G:=fY n) (fun g=>⟨(j4 (jk::cw M::.raw (.int .i64 v)::cw V::jk::eF Th::jk::.raw (.bool (RC f g.i))::j16 (j16 (j4 (j4 (jk::jk::rN n::rN g.i::j16 (j16 (j16 (j16 ([])))))))))),Hm []⟩) (fun g=>n-g.i) ⟨0,by omega⟩ ?_ ?_
 ·refine aj trivial ?_;simp[wk,RC]
 rintro⟨i,o⟩;simp only;by_cases X:i<n
 ·obtain⟨r,r1,r2,r3,r4,r5⟩:=ed i X;have Q:Int.tmod (f i i) 2=f i i%2:=aet (by omega);have P:RC f (i+1)=(RC f i&&decide (f i i%2=0)):=rfl;refine ar (k:=aV rfl (ai (am (bi (k:=?_)))));cases w:RC f i with
  |false=>
   rw[w,afi]at P;refine bu (k:=bu (k:=?_));refine⟨⟨i+1,by omega⟩,by grind,aj trivial ?_⟩;simp[wk,P]
  |true=>
   rw[w,afv]at P;refine dF (aC r1 (aC r3 Q)) (k:=bu (k:=?_));refine⟨⟨i+1,by omega⟩,by grind,aj trivial ?_⟩;simp[wk,P]
 obtain rfl:i=n:=by omega
 generalize w:RC f i=ev at*
 refine ar (k:=aW rfl (ai (dR E (k:=?_))));refine ay (G:=fY (b+1)) (fun g=>⟨(j4 (jk::jk::.raw (.int .i64 v)::cw V::jk::jk::jk::.raw (.bool ev)::j16 (j16 (j16 (j4 (j4 (jk::jk::jk::eF Th::.raw (.int .i64 ((b+1:Nat):Int))::rN g.i::j16 (j16 (j4 (j4 (j4 (jk::jk::[])))))))))))),Hm []⟩) (fun g=>b+1-g.i) ⟨0,by omega⟩ ?_ ?_
 ·refine aj trivial ?_;simp[wk]
 rintro⟨m,Y⟩;simp only;by_cases Z:m<b+1
 ·have hg:=D m Z;have ac:=W m;refine ar (k:=aV rfl (ai (am (aH hg (k:=?_)))));by_cases z:0<m
  ·obtain⟨a1,a2,_,_⟩:=H m (by omega) z;obtain⟨k1,k2⟩:=O m (by omega) z _ rfl _ rfl _ rfl _ rfl;generalize ct m=c at*
   have Q:Int.tmod c 2=0:=by grind
   have eo:Int.tmod (m:Int) 2=(m:Int)%2:=aet (by omega);have ew:IntKind.i64.wrap (2*(vl:Int))=2*(vl:Int):=aL (by omega) (by omega);have y:(0<(m:Int))=True:=eq_true (by omega);rcases k1 with⟨A,R,S⟩|⟨A,S,h6⟩|⟨A,S⟩<;>rcases k2 with T|⟨T,h8⟩|⟨T,h8,h9⟩<;>subst T
   all_goals
    (first|refine aw fun _ K=>?_|refine ai (aw fun _ K=>?_)|refine ai (ai (aw fun _ K=>?_)));simp(disch:=omega) only[kd,Nat.reduceAdd,y,Q,eo,F,ew, *];apply K
    first|refine ao rfl (ak ?_)|refine bs rfl (fun h=>by simp at h<;>omega) (fun _=>ak ?_)
    show bA _ _ _ _;refine bu (k:=?_);refine⟨⟨m+1,by omega⟩,by simp only;omega,aj trivial ?_⟩;simp[wk]
  have y:(0<(m:Int))=False:=eq_false (by omega);refine aH y (k:=ao rfl (ak (bu (k:=?_))));refine⟨⟨m+1,by omega⟩,by grind,aj trivial ?_⟩;simp[wk]
 obtain rfl:m=b+1:=by omega
 refine ar (k:=aW rfl (bj [⟨0,_,_,_,cA⟩] (k:=aE @results6)))
theorem CallC.law {P:Program} {f:FuncId} {args:List TV} {b:Bool} (h:CallC P f args ⟨[],.raw (.bool b)⟩) {w:World} {vs:Array Value} (c:vs.size=args.length)
  (o: ∀(j:Nat) t,args[j]?=some t-> ∃v:Value,vs[j]?=some v/\t.rel (fun _ _=>none) (fun _=>[]) (fun _=>False) w v):Calls P f vs w fun e g=>e= .returned (.bool b)/\Ext w g:=
 (h.calls c o).mono fun e g ⟨v,l,⟨p,H,X,m⟩,n⟩=>⟨by rw[l,qZ m],n⟩
end Go.Proofs.YtalmoejhjceflaaGreat
