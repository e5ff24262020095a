/-
  Part 33 of a proof (walks and plain facts).
-/
import Derived.Test.YtalmoejhjceflaaGreatR31
import Derived.Lib.SmallJoins
set_option linter.all false
set_option maxRecDepth 100000
set_option maxHeartbeats 64000000
namespace Go.Proofs.YtalmoejhjceflaaGreat
open Go.RowKit Go.Proofs.Tryz
variable {n m:Nat} {b:Nat->Int} {c:List Int} {e:FF} {w:World} {f:List (List Int)} {P:Program} {g:Value}
section
open Go.ChangeShapes Go.WideShapes Go.ChangeAt Go.RowKit
theorem Jv {A:Option Addr} (t:c.length<=n) (u:c.length<=9223372036854775807) (h:RdI .i8 w A c):bM (fun _=>False) w (.sl (ls f8 c)) (.slice A c.length n):=by
 cases c with
 |nil=>exact bM.nil _ _
 |cons o l0=>
  obtain⟨b,m,rfl,s⟩:=h (by simp);have q:=s 0 (.int .i8 o) (by simp);have r:b<w.heap.size:=mj q;have:=bM.sl (X:=fun _=>False) (w:=w) b m 1 n (ls f8 (o::l0)) (fun i _=> .int .i8 ((o::l0).getD i 0)) (fun h=>h) r (fun e f=>by
   obtain⟨z,_,rfl⟩:=aau.1 f;rfl) (by grind [co]) (by grind [co]) (fun i e j x f g=>by
   rw[dO]at f;obtain⟨z,p,rfl⟩:=aak.1 f;cases j with
   |succ j=>simp[f8]at g
   |zero=>
    grind) (fun i e j x f g=>by
   rw[dO]at f;obtain⟨z,p,rfl⟩:=aak.1 f;cases j with
   |succ j=>simp[f8]at g
   |zero=>
    simp[f8]at g;subst g;simp only[aaw,p,abD];exact bM.raw _ rfl)
  grind [co]
theorem xa {H:Type} {j:TypeId×Value->H} {f:Bool} {t e:TypeId} {y:DataW H×List MemPlace} (q:P.underlying t=some (.slice e)) (u:P.underlying e=some (.int .i8)) (s:P.cellsOf e=1) (h:DataW.trod j P w n (fun _=>true) f m t [g]=some y):
  ∃L:List Int,bM (fun _=>False) w (.sl (ls f8 L)) g/\I8 L:=by
 rcases adF q h with⟨b,_⟩|⟨x,l,c,_,_,_,_,b,_⟩
 ·simp at b;subst b;exact⟨[],bM.nil _ _,fun z o=>by simp at o⟩
 simp at b;subst b;obtain⟨A,B,C,D,E,r,_⟩:=D2 (enc:=j) (base:=n) (held:=f) (d:=y.1) (p:=y.2) q u s ⟨m,by simpa[Value.cells] using h⟩;refine⟨A,?_,fun z o=>E8 (r z o)⟩;grind [maxLen,Jv]
theorem xc {H:Type} {e:TypeId×Value->H} {c:Bool} {t:TypeId} {y:DataW H×List MemPlace} (f:P.underlying t=some (.int .u8)) (h:DataW.trod e P w n (fun _=>true) c m t [g]=some y): ∃b:Nat,g= .int .u8 (b:Int)/\b<=255:=by
 obtain⟨b,l,_,j⟩:=DataW.trod_int f h;have:=Rj j;refine⟨b.toNat,?_,by omega⟩;grind
theorem Y1 {d k:Nat} {B:List Int} {e:Value} (f:bM (fun _=>False) w (.sl (ls f8 c)) g) (h:bM (fun _=>False) w (.sl (ls f8 B)) e):
  (tL d k c B).rel (fun _ _=>none) (fun _=>[]) (fun _=>False) w (.agg #[.int .u8 (d:Int),.int .u8 (k:Int),g,e]):=by
 refine⟨#[.int .u8 (d:Int),.int .u8 (k:Int),g,e],rfl,rfl,fun j x b=>?_⟩
 match j,b with
 |0,b=>simp at b;subst b;exact⟨_,rfl,rfl,bM.raw _ rfl⟩
 |1,b=>simp at b;subst b;exact⟨_,rfl,rfl,bM.raw _ rfl⟩
 |2,b=>simp at b;subst b;exact⟨_,rfl,f.one,f⟩
 |3,b=>simp at b;subst b;exact⟨_,rfl,h.one,h⟩
 |j+4,b=>simp at b
theorem YB: ∀{b:List TV} {vs:List Value},b.length=vs.length->(∀(j:Nat) t v,b[j]?=some t->vs[j]?=some v->t.rel (fun _ _=>none) (fun _=>[]) (fun _=>False) w v)->
  ∀(j:Nat) t,b[j]?=some t-> ∃v:Value,vs.toArray[j]?=some v/\t.rel (fun _ _=>none) (fun _=>[]) (fun _=>False) w v:=fun{b vs} hl h j t hj=>by
 have c:=(aao.1 hj).1;obtain⟨v,e⟩: ∃v,vs[j]?=some v:=⟨_,aay (by omega)⟩;grind
end
theorem vS {f:FuncId} {args:List TV} {r:TV} (x:callable P f=true) (h: ∀(X:Nat->Prop) (w:World) (vs:Array Value),(∀b,X b->b<w.heap.size)->vs.size=args.length-> (∀(j:Nat) t,args[j]?=some t-> ∃v:Value,vs[j]?=some v/\t.rel (fun _ _=>none) (fun _=>[]) X w v)->Calls P f vs w fun e l=> ∃v,e= .returned v/\(∀z H Y,(∀b,Y b->b<w.heap.size)->r.rel z H Y l v)/\Ext w l):CallC P f args ⟨[],r⟩:=
 ⟨x,fun X w vs m g u=>(h X w vs m g u).mono fun e l ⟨v,p,q,s⟩=>⟨v,p,fun _ _=>none,I2 s m,q _ _ _ (fun b n=>by
  rcases n with n|⟨a,r,o,c,A,y⟩
  ·grind
  cases y)⟩⟩
section
theorem bX (c:Int) (F:Nat->Int): ∀k,smF (fun p=>c*F p) k=c*smF F k
 |0=>by simp[smF]
 |k+1=>by rw[smF,smF,bX c F k];grind
theorem nY (c:Int) (F:Nat->Int) (k:Nat):smF (fun p=>F p*c) k=smF F k*c:=by
 grind [Int.mul_comm,bX]
theorem jg (F:FF) (m:Nat): ∀n,smF (fun i=>smF (F i) m) n=smF (fun j=>smF (fun i=>F i j) n) m
 |0=>by simp_all[smF,dC]
 |n+1=>by rw[smF,jg F m n,<- mJ];rfl
def BF (n:Nat) (f:FF) (x y:Nat->Int):Int:=smF (fun i=>x i*smF (fun j=>f i j*y j) n) n
variable {n:Nat}
theorem jW {f':FF} {c y g:Nat->Int} (h: ∀i j,i<n->j<n->e i j=f' i j) (m: ∀i,i<n->b i=c i) (o: ∀i,i<n->y i=g i):BF n e b y=BF n f' c g:=
 aF n fun i l=>by grind [aF]
theorem ut (f g:FF) (x y:Nat->Int) (a b:Int):BF n (fun i j=>a*f i j+b*g i j) x y=a*BF n f x y+b*BF n g x y:=by
 unfold BF;rw[<- bX,<- bX,<- mJ];refine aF n fun i _=>?_
 rw[aF n (G:=fun j=>a*(f i j*y j)+b*(g i j*y j)) (fun j _=>by grind),mJ,bX,bX];grind
theorem Il (u v x y:Nat->Int):BF n (fun i j=>u i*v j) x y=smF (fun i=>x i*u i) n*smF (fun j=>v j*y j) n:=by
 unfold BF;rw[<- nY];refine aF n fun i _=>?_
 rw[aF n (G:=fun j=>u i*(v j*y j)) (fun j _=>by grind),bX];grind
theorem jU {f:FF} (q:SymF f n) (l: ∀k,k<n->0<dk f (k+1)) (x:Nat->Int): ∀m k,m+k=n->0<=BF n (bk f k) x x/\(BF n (bk f k) x x=0-> ∀i,k<=i->i<n->x i=0)
 |0,k,h=>by
  obtain rfl:k=n:=by omega
  refine⟨?_,fun _ i p s=>by omega⟩;have:BF k (bk f k) x x=0:=by
   simp_all[BF,aF,mg,dC]
  omega
 |m+1,k,h=>by
  obtain⟨p,s⟩:=jU q l x m (k+1) (by omega);have b: ∀t,t<n->dk f (t+1)≠0:=fun t o=>by grind
  have u:0<dk f k:=iA fun t o=>l t (by omega)
  have c:=l k (by omega);have key:dk f k*BF n (bk f (k+1)) x x=dk f (k+1)*BF n (bk f k) x x-smF (fun j=>bk f k k j*x j) n*smF (fun j=>bk f k k j*x j) n:=by
   have r:dk f k*BF n (bk f (k+1)) x x=BF n (fun i j=>dk f k*bk f (k+1) i j+0*bk f k i j) x x:=by rw[ut];omega
   rw[r,jW (f':=fun i j=>dk f (k+1)*bk f k i j+(-1)*(bk f k k i*bk f k k j)) (fun i j w B=>by
    have:=sylv f k (fun t o=>b t (by omega)) i j;have e:=jo q k (by omega) (fun t o=>b t (by omega)) i k w (by omega);grind) (fun _ _=>rfl) (fun _ _=>rfl),ut,Il,aF n (F:=fun i=>x i*bk f k k i) (G:=fun j=>bk f k k j*x j) (fun i _=>adj _ _)]
   omega
  have z:0<=smF (fun j=>bk f k k j*x j) n*smF (fun j=>bk f k k j*x j) n:=by
   rcases abU 0 (smF (fun j=>bk f k k j*x j) n)with h|h
   ·exact aaS h h
   exact aaU h h
  have y:=aaS (abT u) p;have v:0<=dk f (k+1)*BF n (bk f k) x x:=by omega
  refine⟨?_,fun A=>?_⟩
  ·rcases acp (BF n (bk f k) x x) 0 with g|g
   ·have:=Int.mul_neg_of_pos_of_neg c g;omega
   exact g
  rw[A,ab3]at key;have C:dk f k*BF n (bk f (k+1)) x x=0:=by omega
  have D:smF (fun j=>bk f k k j*x j) n*smF (fun j=>bk f k k j*x j) n=0:=by omega
  have E:BF n (bk f (k+1)) x x=0:=by
   grind [Int.mul_eq_zero]
  grind [Int.mul_eq_zero,kT,AL,cd]
end
theorem fb (M:List (List Int)):CallC prog 36 [cq M] ⟨[],.raw (.bool (isReducedM M))⟩:=by
 refine jK (by kernel_rfl) fun X w vs q l f=>?_
 obtain⟨r,n,m⟩:=sC f (j:=0) rfl;obtain⟨A,c,rfl,g,h,b⟩:=oJ m;obtain rfl:vs= #[.slice A M.length c]:=by
  grind
 refine(gf A c M w b h g).mono fun e s ⟨o,p⟩=>?_
 grind [xu]
theorem Xd (a b:List (List Int)):CallC prog 17 [cq a,cq b] ⟨[],.raw (.bool (decide (a=b)))⟩:=by
 refine jK (by kernel_rfl) fun X w vs u n g=>?_
 obtain⟨y,q,o⟩:=sC g (j:=0) rfl;obtain⟨z,r,p⟩:=sC g (j:=1) rfl;obtain⟨A,c,rfl,v,m,h⟩:=oJ o;obtain⟨B,d,rfl,x,f,l⟩:=oJ p;obtain rfl:vs= #[.slice A a.length c,.slice B b.length d]:=by
  grind
 refine(P5 A B c d a b w h l m f).mono fun e C ⟨s,t⟩=>?_
 grind [xu]
theorem PN {X:Nat->Prop} {f:Nat} (r: ¬X n) (s:n<w.heap.size) (y:c.length<=f) (A:c.length<=9223372036854775807) (h:RdI .i64 w (some ⟨n,m,none⟩) c):bM X w (.sl (ls fI c)) (.slice (some ⟨n,m,none⟩) c.length f):=by
 have t: ∀(i:Nat) (z:Int),c[i]?=some z->w.cell? ⟨n,m+i,none⟩=some (.int .i64 z):=fun i z p=>by
  cases c with
  |nil=>simp at p
  |cons B l0=>
   obtain⟨u,q,v,t⟩:=h (by simp);grind
 have:=bM.sl (X:=X) (w:=w) n m 1 f (ls fI c) (fun i _=> .int .i64 (c.getD i 0)) r s (fun e g=>by
  obtain⟨z,_,rfl⟩:=aau.1 g;rfl) (by grind [co]) (by grind [co]) (fun i e j x g o=>by
  grind [dO,fI]) (fun i e j x g o=>by
  rw[dO]at g;obtain⟨z,p,rfl⟩:=aak.1 g;cases j with
  |succ j=>simp[fI]at o
  |zero=>
   simp[fI]at o;subst o;simp only[aaw,p,abD];exact bM.raw _ rfl)
 grind [co]
/-! The plain side of Gram. -/
abbrev WI (G:List (List Int)) (b:Bool):TV:= .tup [(false,[.p (.sl (ls (fR fI) G))]),(false,[.p (.raw (.bool b))])]
theorem WK {y:List Int} (m:isReducedM f=true) (s:FitB f.length c=true) (u:FitB f.length y=true):
  fo c (fz f y) c.length=BF f.length (ent f) (fun i=>c.getD i 0) (fun i=>y.getD i 0):=by
 obtain⟨z,A,g,C⟩:=(j7 f).1 m;obtain⟨b,t⟩:=jX.1 s;obtain⟨h,v⟩:=jX.1 u;generalize B:f.length=n at*
 have w:f=mat n n (ent f):=by
  apply aaC;intro i;by_cases p:i<n
  ·rw[bF _ _ p];obtain⟨r,e⟩:=getElem?_of_lt (show i<f.length by omega);rw[e];have q:r.length=n:=by
    have:=g i (by omega);grind
   refine congrArg some ?_;apply aaC;grind [aw,ent,aI]
  grind [aT]
 have j: ∀(c:List Int),c.length=n->c=aN n (fun i=>c.getD i 0):=fun c b=>by
  apply aaC;grind [aw,aI]
 have o:isReducedM (mat n n (ent f))=true:=by grind
 have ex:=j c b;have l:=j y h;rw[show fz f y=ZH n n (ent f) y by grind [FN],b,ZH];generalize(fun i=>c.getD i 0)=fx at*
 generalize(fun i=>y.getD i 0)=fy at*
 rw[ex,l,qm _ _ n (aar _)];exact aF n fun i _=>by grind [qm]
theorem W9 {b:Func} {s:AS} {r:TV} (k:Nat) (f:s.tmps[k]?=some (.raw (.slice none 0 0))) (e:s.H 1000=[]) (h:pS P ⟨s.tmps.set k (.one (.p (.sl []))),s.H⟩ b.results.toList=some r) (g:noRefTV r=true): ∃c,bG s c/\mZ P b ⟨[],r⟩ c:=
 ⟨_,RW k f,lW e h g⟩
theorem yG (m:Nat) (b:List (ao P)) (e:List Nat) {id:Nat} {c:Array Oper} {s:AS} {Q:Exit->AS->Prop} (t:s.tmps.length<=1000000) (u:m<=c.toList.length) (h: ∀K:AS->Prop,(∀j,(∃f,bG j f/\f.tmps.length<=1000000/\ ∀K:AS->Prop,(∀g,Q .normal g->K g)->aS P (b.map ao.a) e (aJ c (c.toList.drop m) m) (some f) K)->K j)->aS P (b.map ao.a) e (aJ c (c.toList.take m) 0) (some s) K):bf P (.region id c false) Q s:=by
 obtain⟨j,l,f,q,p,n⟩:=aR P (b.map ao.a) e c _ 0 s _ (h _ fun _ h=>h);obtain⟨g,r,o⟩:=aR P (b.map ao.a) e c _ m f _ (n _ fun _ h=>h);refine tw m _ (ao.ok b) e l q ?_ o;grind
abbrev Ev (K:List (List Int)):TV:= .one (.p (.sl (ls (fR f8) K)))
def Ra (n:Nat) (K:List (List Int)) (i:Nat):List (List Int):=(K.take i).map fun c=>aN n (Vs c)
theorem Rb {i:Nat} (h:f[i]?=some c):Ra n f i++[aN n (Vs c)]=Ra n f (i+1):=by
 grind [Ra,List.take_add_one]
theorem oz (M:List (List Int)) (r:List Int):lc (fR fI) M++[[.p (.sl (ls fI r))]]=lc (fR fI) (M++[r]):=by simp[lc,fR]
theorem J4 (n:Nat) (K:List (List Int)) {i:Nat} (h:i<=K.length):(Ra n K i).length=i:=by
 grind [Ra]
theorem PO {A:Option Addr} (F:f.length<=n) (G:f.length<=9223372036854775807) (h:oP .i8 w A f):bM (fun _=>False) w (.sl (ls (fR f8) f)) (.slice A f.length n):=by
 cases f with
 |nil=>exact bM.nil _ _
 |cons s t=>
  obtain⟨b,m,rfl,p⟩:=h (by simp);obtain⟨J,u,_⟩:=p 0 s rfl;have E:b<w.heap.size:=mj u;have:=bM.sl (X:=fun _=>False) (w:=w) b m 1 n (ls (fR f8) (s::t)) (fun i _=>(w.cell? ⟨b,m+i,none⟩).getD undef) (fun h=>h) E (fun e g=>by
   obtain⟨z,_,rfl⟩:=aau.1 g;rfl) (by rw[co];exact F) (by rw[co];exact G) (fun i e j x g l=>by
   rw[dO]at g;obtain⟨r,q,rfl⟩:=aak.1 g;cases j with
   |succ j=>simp[fR]at l
   |zero=>
    obtain⟨v,o,I⟩:=p i r q;simp only[adz,aa5,o,abD]) (fun i e j x g l=>by
   rw[dO]at g;obtain⟨r,q,rfl⟩:=aak.1 g;cases j with
   |succ j=>simp[fR]at l
   |zero=>
    simp[fR]at l;subst l;obtain⟨v,o,B,H,rfl,y,C,D⟩:=p i r q;simp only[o,abD];exact Jv y C D)
  rw[co]at this;exact this
section
def PD (f:FF) (n:Nat):Prop:=SymF f n/\ ∀k,k<n->0<dk f (k+1)
theorem RedR.pd (h:RedR e n):PD e n:=⟨h.1,h.2.1⟩
variable {n:Nat}
theorem uv {y:Nat->Int} (c: ∀i,i<n->b i=0):BF n e b y=0:=by
 simp_all[BF,aF,dC]
theorem PD.pos (b:PD e n) (x:Nat->Int):0<=BF n e x x/\(BF n e x x=0↔ ∀i,i<n->x i=0):=by
 have h:=jU b.1 b.2 x n 0 rfl;grind [BF,dc,uv]
/-! The column of cofactors. -/
def eC (i:Nat):Nat->Int:=fun r=>if r=i then 1 else 0
def FJ (f:FF) (n j:Nat):Nat->Int:=fun i=>dk (mp f j (eC i)) n
theorem Xj (S:Nat->Int) (m r:Nat):smF (fun i=>S i*eC i r) m=if r<m then S r else 0:=by
 induction m with
 |zero=>simp[smF]
 |succ m b=>
  grind [smF,eC]
theorem tG {f:FF} {j:Nat} (b:j<n) (S:Nat->Int): ∀m,dk (mp f j (fun r=>smF (fun i=>S i*eC i r) m)) n=smF (fun i=>S i*FJ f n j i) m
 |0=>SG b fun i _=>rfl
 |m+1=>by
  have h:=NR (R:=f) b 1 (S m) (fun r=>smF (fun i=>S i*eC i r) m) (eC m);rw[tG b S m]at h;have e:(fun r=>smF (fun i=>S i*eC i r) (m+1))=fun r=>1*smF (fun i=>S i*eC i r) m+S m*eC m r:=by
   grind [smF]
  rw[e,h,smF,adu];rfl
theorem SF (b:m<n) (S:Nat->Int):dk (mp e m S) n=smF (fun i=>S i*FJ e n m i) n:=by
 rw[<- tG b S n];refine ny fun r c g _=>?_
 unfold mp;split
 ·show S r=smF (fun i=>S i*eC i r) n;simp_all[Xj]
 rfl
theorem R8 {k:Nat} (b:m<n) (c:k<n):smF (fun i=>e i k*FJ e n m i) n=if k=m then dk e n else 0:=by
 rw[<- SF b fun i=>e i k];grind [KJ,NT]
theorem Gu (p:dk e n≠0) (h: ∀i,i<n->smF (fun j=>e i j*b j) n=0): ∀j,j<n->b j=0:=fun j c=>by
 have g:smF (fun i=>smF (fun l=>e i l*b l) n*FJ e n j i) n=0:=by
  simp_all[aF,dC]
 have m:smF (fun i=>smF (fun l=>e i l*b l) n*FJ e n j i) n=smF (fun l=>smF (fun i=>e i l*b l*FJ e n j i) n) n:=by
  simp_all[jg,nY]
 have o:smF (fun l=>smF (fun i=>e i l*b l*FJ e n j i) n) n=smF (fun l=>b l*(if l=j then dk e n else 0)) n:=
  aF n fun l f=>by
   rw[<- R8 c f,<- bX];grind
 grind [kT,Int.mul_eq_zero]
/-! Bounds. -/
end
def dg (b j:Nat):Int:=((b/3^j%3:Nat):Int)-1
def ZS (n:Nat) (f:FF) (x:Nat->Int):Int:=BF n f x x
theorem WX {f:FF} {i:Nat} (b:i<n):ZS n f (eC i)=f i i:=by
 grind [eC,kT,ZS,BF]
theorem s8 (f:Nat->Int) (b:m<n):(aN n f).getD m 0=f m:=by
 grind [aw]
section
variable {n:Nat}
theorem PD.diag (g:PD e n) {i:Nat} (c:i<n):0<e i i:=by
 have h:=g.pos (eC i);have b:=WX (f:=e) c;grind [ZS,eC]
end
section
variable {n:Nat}
theorem xS {F:Nat->Int}: ∀m,(∀a,a<m->0<=F a)->0<=smF F m
 |0,_=>by simp[smF]
 |m+1,h=>by
  have:=xS m fun a b=>h a (by omega)
  grind [smF]
/-! Signs. -/
end
section
variable {n:Nat}
theorem Y4 {x:Int} (h:x*x<=(n:Int)*(n:Int)): -(n:Int)<=x/\x<=(n:Int):=by
 have c:x.natAbs*x.natAbs<=n*n:=by
  grind [Int.natAbs_mul_self]
 have e:x.natAbs<=n:=by
  rcases acQ n x.natAbs with b|b
  ·have:=Nat.mul_lt_mul'' b b;omega
  exact b
 omega
end
section
variable {n:Nat}
inductive ZZ where
 |swp (i:Nat)
 |rep (i c:Nat)
 |neg (i:Nat)
def ZZ.i:ZZ->Nat
 | .swp i=>i
 | .rep i _=>i
 | .neg i=>i
/-! What the operations do to the Gram matrix. -/
theorem rD {F G:Nat->Int} {i:Nat}: ∀{m},i<m->(∀a,a<m->a≠i->F a=G a)->smF G m=smF F m+(G i-F i)
 |m+1,f,h=>by
  rw[smF,smF];by_cases e:i=m
  ·grind [aF]
  rw[rD (m:=m) (by omega) (fun a c b=>h a (by omega) b),h m (by omega) (acE e)];omega
end
section
variable {n:Nat}
theorem lX (m:SymF e n) (q: ∀k,k<n->0<dk e (k+1)) (x:Nat->Int) {k:Nat} (p:k<n):
  dk e k*BF n (bk e (k+1)) x x=dk e (k+1)*BF n (bk e k) x x-smF (fun j=>bk e k k j*x j) n*smF (fun j=>bk e k k j*x j) n:=by
 have c: ∀t,t<n->dk e (t+1)≠0:=fun t g=>by grind
 have h:dk e k*BF n (bk e (k+1)) x x=BF n (fun i j=>dk e k*bk e (k+1) i j+0*bk e k i j) x x:=by rw[ut];omega
 rw[h,jW (f':=fun i j=>dk e (k+1)*bk e k i j+(-1)*(bk e k k i*bk e k k j)) (fun i j l o=>by
  have:=sylv e k (fun t g=>c t (by omega)) i j;have b:=jo m k (by omega) (fun t g=>c t (by omega)) i k l (by omega);grind) (fun _ _=>rfl) (fun _ _=>rfl),ut,Il,aF n (F:=fun i=>x i*bk e k k i) (G:=fun j=>bk e k k j*x j) (fun i _=>adj _ _)]
 omega
theorem EE {f:FF} (b:PD f n) (x:Nat->Int) {N:Int} (c:BF n f x x<=N): ∀k,k<=n->BF n (bk f k) x x<=N*dk f k
 |0,_=>by
  rw[cu,Int.mul_one,jW (fun i j _ _=>dc f i j) (fun _ _=>rfl) (fun _ _=>rfl)];exact c
 |k+1,r=>by
  have p:=EE b x c k (by omega);have e:=lX b.1 b.2 x (show k<n by omega);have l:0<dk f k:=iA fun t s=>b.2 t (by omega)
  have m:=b.2 k (by omega);have o:0<=smF (fun j=>bk f k k j*x j) n*smF (fun j=>bk f k k j*x j) n:=by
   rcases abU 0 (smF (fun j=>bk f k k j*x j) n)with h|h
   ·exact aaS h h
   exact aaU h h
  have q:dk f (k+1)*BF n (bk f k) x x<=dk f (k+1)*(N*dk f k):=aaH p (by omega);have g:dk f k*BF n (bk f (k+1)) x x<=dk f k*(N*dk f (k+1)):=by
   grind
  exact acR g l
theorem OK {f:FF} (b:RedR f n): ∀k,k<n->dk f k<=((2^k:Nat):Int)*dk f (k+1)
 |0,h=>by
  have q:=b.2.1 0 h;grind [cu]
 |k+1,h=>by
  have p:=OK b k (by omega);obtain⟨m,j⟩:=b.2.2.2 k h;have c:=b.2.1 k (by omega);have g:=b.2.1 (k+1) h;unfold Rs at j;have o:=m (k+1) h (by omega);generalize bk f k (k+1) k=l at*
  generalize dk f (k+1+1)=d2 at*
  generalize dk f (k+1)=d1 at*
  generalize dk f k=d0 at*
  have r:4*(l*l)<=d1*d1:=by
   have e:(2*l.natAbs)*(2*l.natAbs)<=d1.toNat*d1.toNat:=aaT (by omega) (by omega);grind [Int.natAbs_mul_self]
  have s:d1*d1<=2*(d0*d2):=by
   grind
  have t:d0*d2<=((2^k:Nat):Int)*d1*d2:=abi p (by omega);have u:d1*d1<=d1*(((2^(k+1):Nat):Int)*d2):=by
   have e:d1*(((2^(k+1):Nat):Int)*d2)=2*(((2^k:Nat):Int)*d1*d2):=by
    grind
   omega
  simp_all
theorem zc (v:RedR e n) (x:Nat->Int) {N:Int} (W:0<=N) (hN:BF n e x x<=N) (hM:N*((2^n:Nat):Int)<=(m:Int)*(m:Int)): ∀c k,c+k+1=n->(x k).natAbs<=m*2^c:=fun c=>by
 induction c using Nat.strongRecOn with
 |_ c ih=>
  intro k hk;have o:=v.pd;have g:k<n:=by omega
  have F: ∀t,t<n->dk e (t+1)≠0:=fun t T=>by have:=v.2.1 t T;omega
  have ab:=v.2.1 k g;have hd:0<dk e k:=iA fun t T=>v.2.1 t (by omega)
  have E:=lX o.1 o.2 x g;have K:=EE o x hN k (by omega);have R:=(jU o.1 o.2 x (n-(k+1)) (k+1) (by omega)).1;have O:=OK v k g
  -- the sum
  obtain⟨L,X⟩: ∃L,L=smF (fun j=>bk e k k j*x j) n:=⟨_,rfl⟩;rw[<- X]at E;have B:L*L<=(m*dk e (k+1))*(m*dk e (k+1)):=by
   have a1:0<=dk e k*BF n (bk e (k+1)) x x:=aaS (by omega) R;have a2:dk e (k+1)*BF n (bk e k) x x<=dk e (k+1)*(N*dk e k):=aaH K (by omega);have a3:dk e (k+1)*(N*dk e k)<=dk e (k+1)*(N*(((2^k:Nat):Int)*dk e (k+1))):=aaH (aaH O W) (by omega);have a4:N*((2^k:Nat):Int)<=(m:Int)*(m:Int):=by
    have:((2^k:Nat):Int)<=((2^n:Nat):Int):=aen.2 (aaJ (by omega) (by omega));exact Int.le_trans (aaH this W) hM
   have a5:N*((2^k:Nat):Int)*(dk e (k+1)*dk e (k+1))<=(m:Int)*(m:Int)*(dk e (k+1)*dk e (k+1)):=abi a4 (aaS (by omega) (by omega));grind
  have aa:L.natAbs<=m*(dk e (k+1)).toNat:=by
   have b:(m:Int)*dk e (k+1)=((m*(dk e (k+1)).toNat:Nat):Int):=by
    grind
   rw[b]at B;have:=Y4 B;omega
  -- the other coordinates
  have u: ∀q,k+1+q<=n->2*(smF (fun j=>bk e k k j*x j) (k+1+q)-dk e (k+1)*x k).natAbs<=(dk e (k+1)).toNat*(m*(2^(c+1)-2^(c+1-q))):=fun q=>by
   induction q with
   |zero=>
    intro _;have b:smF (fun j=>bk e k k j*x j) (k+1)=dk e (k+1)*x k:=by
     rw[smF,aF k (G:=fun _=>0) (fun j hj=>by rw[AL o.1 F (by omega) hj (by omega),acB]),dC,cd];omega
    grind
   |succ q V=>
    intro hq;have U:=V (by omega);rw[<- adE,smF];have Z:=ih (n-(k+1+q)-1) (by omega) (k+1+q) (by omega);have ad:=(v.2.2.2 k (by omega)).1 (k+1+q) (by omega) (by omega);have H:=jo o.1 k (by omega) (fun t T=>F t (by omega)) k (k+1+q) g (by omega);rw[H];rw[show n-(k+1+q)-1=c-1-q by omega]at Z;have s:2^(c+1-q)=2*2^(c+1-(q+1))/\2^(c+1-(q+1))=2*2^(c-1-q):=by
     refine⟨?_,?_⟩
     ·rw[show c+1-q=(c+1-(q+1))+1 by omega,abl];omega
     rw[show c+1-(q+1)=(c-1-q)+1 by omega,abl];omega
    have Q:2^(c+1-q)<=2^(c+1):=aaJ (by omega) (by omega);have hD:(((dk e (k+1)).toNat:Nat):Int)=dk e (k+1):=by omega
    have e5:smF (fun j=>bk e k k j*x j) (k+1+q)+bk e k (k+1+q) k*x (k+1+q)-dk e (k+1)*x k=(smF (fun j=>bk e k k j*x j) (k+1+q)-dk e (k+1)*x k)+bk e k (k+1+q) k*x (k+1+q):=by omega
    rw[e5];generalize smF (fun j=>bk e k k j*x j) (k+1+q)-dk e (k+1)*x k=S at*
    generalize bk e k (k+1+q) k=l at*
    generalize x (k+1+q)=y at*
    generalize(dk e (k+1)).toNat=D at*
    have hl:2*l.natAbs<=D:=by omega
    have ac:2*(l*y).natAbs<=D*(m*2^(c-1-q)):=by
     rw[abk,<- ab8];exact aaT hl Z
    have C:=adt S (l*y);generalize 2^(c-1-q)=P at*
    generalize 2^(c+1)=A at*
    obtain⟨p1,p2⟩:=s;rw[p1,p2]at U Q;rw[p2];have h6:D*(m*(A-2*(2*P)))+D*(m*P)<=D*(m*(A-2*P)):=by
     rw[<- aez,<- aez];exact aas _ (aas _ (by omega))
    omega
  have h:=u c (by omega);rw[show k+1+c=n by omega,<- X,show c+1-c=1 by omega]at h;have hD:(((dk e (k+1)).toNat:Nat):Int)=dk e (k+1):=by omega
  have I:0<(dk e (k+1)).toNat:=by omega
  have J:(dk e (k+1)*x k).natAbs=(dk e (k+1)).toNat*(x k).natAbs:=by
   grind
  have C:(dk e (k+1)*x k).natAbs<=L.natAbs+(L-dk e (k+1)*x k).natAbs:=by omega
  rw[J]at C;have s:2^(c+1)=2*2^c:=by omega
  have Y:0<2^c:=abh (by omega);generalize(L-dk e (k+1)*x k).natAbs=r at*
  generalize(dk e (k+1)).toNat=D at*
  generalize(x k).natAbs=z at*
  generalize L.natAbs=w at*
  rw[s]at h;generalize 2^c=P at*
  have h7:2*(m*D)+D*(m*(2*P-2^1))=D*(2*(m*P)):=by
   have b:2*P-2^1=2*(P-1):=by omega
   rw[b];obtain⟨p,rfl⟩: ∃p,P=p+1:=⟨P-1,by omega⟩;grind
  have h8:D*(2*z)<=D*(2*(m*P)):=by
   grind
  have:=adr h8 I;omega
end
section
variable {n:Nat}
theorem Qg {F:Nat->Int} {p q:Nat} (g:p<n) (j:q<n):smF (fun a=>if a=p then F q else if a=q then F p else F a) n=smF F n:=by
 by_cases h:p=q
 ·subst h;exact aF n fun a _=>by
   by_cases e:a=p
   ·subst e;rw[if_pos rfl]
   rw[if_neg e,if_neg e]
 have c:=rD (F:=F) (G:=fun a=>if a=p then F q else F a) g (fun a _ b=>(if_neg b).symm);have f:=rD (F:=fun a=>if a=p then F q else F a) (G:=fun a=>if a=p then F q else if a=q then F p else F a) j (fun a _ b=>by
  by_cases e:a=p
  ·rw[if_pos e,if_pos e]
  rw[if_neg e,if_neg e,if_neg b])
 rw[if_pos rfl]at c;rw[if_neg (acE h),if_pos rfl,if_neg (acE h)]at f;omega
end
section
variable {n:Nat}
theorem Ye {f:FF} {a:Nat} (c:a<n) (e:m<n):BF n f (eC a) (eC m)=f a m:=by
 grind [eC,kT,BF]
def l1 (y:Nat->Int):Nat->Nat
 |0=>0
 |k+1=>l1 y k+(y k).natAbs
end
section
variable {n:Nat}
theorem AZ: ∀(i:Nat) (X:FF),∃c:Nat->Int,(∃a,a<=i/\c a≠0)/\ ∀r,r<i->smF (fun a=>c a*X a r) (i+1)=0
 |0,_=>⟨fun _=>1,⟨0,by omega,by simp⟩,fun r u=>by omega⟩
 |i+1,X=>by
  by_cases z: ∀a,a<=i+1->X a i=0
  ·obtain⟨c,⟨a,f,E⟩,h⟩:=AZ i X;refine⟨fun a=>if a=i+1 then 0 else c a,⟨a,by omega,by show(if a=i+1 then 0 else c a)≠0;rw[if_neg (by omega)];exact E⟩,fun r u=>?_⟩;show smF (fun a=>(if a=i+1 then 0 else c a)*X a r) (i+1+1)=0;rw[smF,if_pos rfl,acB,adN];by_cases e:r=i
   ·subst e;rw[aF (r+1) (G:=fun _=>0) (fun a f=>by rw[z a (by omega),ab3]),dC]
   rw[aF (i+1) (G:=fun a=>c a*X a r) (fun a f=>by rw[if_neg (by omega)])];exact h r (by omega)
  obtain⟨p,I,o⟩: ∃p,p<=i+1/\X p i≠0:=by
   rcases Classical.em (∃p,p<=i+1/\X p i≠0)with h|h
   ·exact h
   exact absurd (fun a f=>adp fun w=>h ⟨a,f,w⟩) z
  obtain⟨Y,v⟩: ∃Y:Nat->Nat->Int,Y=fun a=>if a=p then X (i+1)else if a=i+1 then X p else X a:=⟨_,rfl⟩
  have j:Y (i+1)=X p:=by
   rw[v];by_cases e:i+1=p
   ·show(if i+1=p then X (i+1)else _)=_;rw[if_pos e,e]
   show(if i+1=p then X (i+1)else if i+1=i+1 then X p else X (i+1))=_;rw[if_neg e,if_pos rfl]
  obtain⟨q,x⟩: ∃q,q=X p i:=⟨_,rfl⟩;obtain⟨c,⟨g,D,l⟩,h⟩:=AZ i (fun a r=>q*Y a r-Y a i*X p r);obtain⟨s,y⟩: ∃s,s=smF (fun a=>c a*Y a i) (i+1):=⟨_,rfl⟩;have t: ∀r,r<i+1->smF (fun a=>(if a=i+1 then -s else q*c a)*Y a r) (i+1+1)=0:=fun r u=>by
   rw[smF,if_pos rfl,j,aF (i+1) (G:=fun a=>q*(c a*Y a r)) (fun a f=>by rw[if_neg (by omega)];grind),bX];by_cases e:r=i
   ·subst e;rw[<- y,<- x];grind
   have B:=h r (by omega);have C:smF (fun a=>c a*(q*Y a r-Y a i*X p r)) (i+1)=q*smF (fun a=>c a*Y a r) (i+1)-X p r*s:=by
    rw[y,<- bX,<- bX];have: ∀(F G:Nat->Int) m,smF (fun a=>F a-G a) m=smF F m-smF G m:=fun F G m=>by
     induction m with
     |zero=>rfl
     |succ m H=>rw[smF,smF,smF,H];omega
    rw[<- this];exact aF _ fun a _=>by grind
   rw[C]at B;have A: -s*X p r= -(X p r*s):=by grind
   rw[A];omega
  refine⟨fun a=>if a=p then -s else if a=i+1 then(if p=i+1 then -s else q*c p)else q*c a,?_,fun r u=>?_⟩
  ·by_cases e:g=p
   ·by_cases b:p=i+1
    ·omega
    refine⟨i+1,by omega,?_⟩;show(if i+1=p then -s else if i+1=i+1 then(if p=i+1 then -s else q*c p)else q*c (i+1))≠0;rw[if_neg (by omega),if_pos rfl,if_neg b];subst e;exact abN (by rw[x];exact o) l
   refine⟨g,by omega,?_⟩;show(if g=p then -s else if g=i+1 then(if p=i+1 then -s else q*c p)else q*c g)≠0;rw[if_neg e,if_neg (by omega)];exact abN (by rw[x];exact o) l
  rw[<- t r u,<- Qg (F:=fun a=>(if a=i+1 then -s else q*c a)*Y a r) (p:=p) (q:=i+1) (by omega) (by omega)];refine aF _ fun a f=>?_
  show(if a=p then -s else if a=i+1 then(if p=i+1 then -s else q*c p)else q*c a)*X a r=if a=p then(if i+1=i+1 then -s else q*c (i+1))*Y (i+1) r else if a=i+1 then(if p=i+1 then -s else q*c p)*Y p r else(if a=i+1 then -s else q*c a)*Y a r
  by_cases e:a=p
  ·subst e;rw[if_pos rfl,if_pos rfl,if_pos rfl,j]
  rw[if_neg e,if_neg e];by_cases b:a=i+1
  ·subst b;rw[if_pos rfl,if_pos rfl];have:Y p=X (i+1):=by rw[v];exact if_pos rfl
   rw[this]
  rw[if_neg b,if_neg b,if_neg b];have:Y a=X a:=by rw[v];show(if a=p then X (i+1)else if a=i+1 then X p else X a)=X a;rw[if_neg e,if_neg b]
  rw[this]
end
end Go.Proofs.YtalmoejhjceflaaGreat
