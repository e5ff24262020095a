/-
  Part 36 of a proof (walks and plain facts).
-/
import Derived.Test.YtalmoejhjceflaaGreatR34
set_option linter.all false
set_option maxRecDepth 100000
set_option maxHeartbeats 64000000
open List renaming replicate → ae
namespace Go.Proofs.YtalmoejhjceflaaGreat
open Go.RowKit Go.Proofs.Tryz
variable {n m j c p q:Nat} {b:List Nat}
theorem pU (o:List Nat) (k v:Nat):(o++ae (k+1) 0).set o.length v=(o++[v])++ae k 0:=by
 grind
theorem tb (o:List Nat) (k:Nat):(o++ae (k+1) 0)[o.length]?=some 0:=by
 simp
theorem wC (l m:List Nat) (q:Lmb l) (r:Lmb m) (s:uw l) (t:uw m) (w:l.length<=1073741824) (x:m.length<=1073741824):
  CallC prog 207 [cY l,cY m] ⟨[],.raw (.int .i64 (gD (natV l) (natV m)))⟩:=by
 rcases aby l.length m.length with p|j|n
 ·rw[ot (ja q t p)];refine aA func207 rfl ntmps207 (aC (k:=ai (am (ar (k:=ay rfl (bC (k:=aD @results207)))))))
 ·refine aA func207 rfl ntmps207 (aC (k:=ai (am (ar (k:=aq rfl (ar (k:=aq rfl (ak (ai (ar (k:=?_)))))))))));refine aB (G:={k:Nat//k<=l.length/\l.drop k=m.drop k}) (fun k=>⟨(cY l::cY m::jk::jk::jk::.raw (.int .i64 ((k.1:Int)-1))::j16 (j16 (j4 (jk::jk::jk::[])))),Hm []⟩) (fun k=>k.1) ⟨l.length,aar _,by rw[acL,j,acL]⟩ ?_ ?_
  ·refine aj trivial ?_;simp[wk]
  rintro⟨k,A,z⟩;simp only;by_cases y:0<k
  ·obtain⟨a,e⟩:=getElem?_of_lt (l:=l) (k:=k-1) (by omega);obtain⟨b,f⟩:=getElem?_of_lt (l:=m) (k:=k-1) (by omega);have h:((k:Int)-1).toNat=k-1:=by omega
   have g:l.drop (k-1+1)=m.drop (k-1+1):=by grind
   refine ai (ar (k:=ay rfl (ak (ai (am (am ?_))))));rcases aby a b with c|c|c
   ·rw[ot (mD q e f g c)];refine iu (aH h (aH e f)) (k:=ay rfl (bC (k:=aD @results207)))
   ·subst c;refine iu (aH h (aH e f)) (k:=aq rfl (iu (aH h (aH e f)) (k:=aq rfl (ak (bS (k:=?_))))));refine⟨⟨k-1,by omega,zh e f g⟩,by grind,aj trivial ?_⟩;have u:((k-1:Nat):Int)=(k:Int)-1:=by omega
    simp[wk,u]
   rw[uA (mD r f e g.symm c)];refine iu (aH h (aH e f)) (k:=aq rfl (iu (aH h (aH e f)) (k:=ay rfl (bC (k:=aD @results207)))))
  have o:k=0:=by omega
  subst o;have v:l=m:=by grind
  rw[show gD (natV l) (natV m)=0 by grind [gD]];refine ai (ar (k:=aq rfl (aZ (bC (k:=aD @results207)))))
 rw[uA (ja r s n)];refine aA func207 rfl ntmps207 (aC (k:=ai (am (ar (k:=aq rfl (ar (k:=ay rfl (bC (k:=aD @results207)))))))))
structure Zu (m n:List Nat) (e:Nat) where
 i:Nat
 o:List Nat
 c:Nat
 hi:i<=e
 hc:c<=1
 ho:o.length=i
 h:o++sumL (m.drop i) (n.drop i) c=sumL m n 0
structure Zv (m n:List Nat) where
 j:Nat
 o:List Nat
 c:Nat
 hj:n.length+j<=m.length
 hc:c<=1
 ho:o.length=n.length+j
 h:o++sumL (m.drop (n.length+j)) [] c=sumL m n 0
theorem zp (m n:List Nat) (T:Lmb m) (U:Lmb n) (K:m.length<=536870912) (L:n.length<=536870912):
  CallC prog 170 [cY m,cY n] ⟨[],cY (au (natV m+natV n))⟩:=by
 refine aA func170 rfl ntmps170 (aC (k:=?_));obtain⟨p,q,w,P⟩: ∃p q:List Nat,((p=m/\q=n/\ ¬m.length<n.length)\/(p=n/\q=m/\m.length<n.length))/\q.length<=p.length:=by
  by_cases h:m.length<n.length
  ·exact⟨n,m,.inr ⟨rfl,rfl,h⟩,by omega⟩
  exact⟨m,n,.inl ⟨rfl,rfl,h⟩,by omega⟩
 refine ai (l9 (S:=⟨(cY p::cY q::j16 (j16 (j16 (j16 (j16 (jk::[])))))),Hm []⟩) ?_ ?_)
 ·rcases w with⟨rfl,rfl,h⟩|⟨rfl,rfl,h⟩
  ·refine ar (k:=?_);refine bi rfl (fun h=>by simp at h<;>omega) (fun _=>ak (aj trivial ?_));simp[wk]
  refine ar (k:=ay rfl (ZG (k:=?_)));refine aj trivial ?_;simp[wk]
 have s:natV m+natV n=natV p+natV q:=by grind
 have H:Lmb p:=by grind
 have J:Lmb q:=by grind
 have V:p.length<=536870912:=by grind
 rw[s];clear s w T U K L;have M:(p.length:Int)+1=((p.length+1:Nat):Int):=by omega
 refine aL (aH M @mw) (k:=bC (k:=ai (bC (k:=?_))));refine aB (G:=Zu p q q.length) (fun g=>⟨(cY p::cY q::jk::jk::jk::.one (.sl 19 0 0 (p.length+1))::.raw (.int .u64 (g.c:Int))::j4 (j4 (j4 (jk::jk::rN q.length::rN g.i::j16 (j16 (j16 (j4 (j4 (j4 ([])))))))))),Hm [(19,[⟨165,1,lc fU (g.o++ae (p.length+1-g.i) 0)⟩])]⟩) (fun g=>q.length-g.i) ⟨0,[],0,by omega,by omega,rfl,rfl⟩ ?_ ?_
 ·refine aj ⟨?_,trivial⟩ ?_
  ·rfl
  simp[wk]
 rintro⟨i,o,c,W,B,r,h⟩;simp only;by_cases Q:i<q.length
 ·obtain⟨a,t⟩:=getElem?_of_lt (show i<p.length by omega);obtain⟨b,A⟩:=getElem?_of_lt Q;have z:=bZ H t;have O:=bZ J A;have u:IntKind.u32.wrap ((c:Int)+((a:Int)+(b:Int)))=(((c+a+b)%4294967296:Nat):Int):=by rw[<- E7];grind
  have y:Int.fdiv ((c:Int)+((a:Int)+(b:Int))) (2^(min 32 IntKind.u64.bits))=(((c+a+b)/4294967296:Nat):Int):=by rw[<- ML];grind
  have x:p.length+1-i=(p.length-i)+1:=by omega
  have f:=tb o (p.length-i);have e:=pU o (p.length-i) ((c+a+b)%4294967296);rw[r]at f e;rw[x];refine ar (k:=be rfl (ai (am (bC (k:=iu (aH t A) (k:=aL (aH u (aH f (aH @dq e))) (k:=jm y (k:=bS (k:=?_)))))))));refine⟨⟨i+1,o++[(c+a+b)%4294967296],(c+a+b)/4294967296,by omega,by omega,by simp[r],?_⟩,by simp only;omega,aj ⟨?_,trivial⟩ ?_⟩
  ·rw[<- h,dQ t,dQ A,sumL,aaM];rfl
  ·show _=[(⟨_,_,lc fU ((o++[(c+a+b)%4294967296])++ae (p.length+1-(i+1)) 0)⟩:OObj)];rw[show p.length+1-(i+1)=p.length-i by omega];rfl
  simp[wk]
 have C:i=q.length:=by omega
 subst C;rw[d8 (aar _)]at h;refine ar (k:=bv rfl ?_);show bf _ _ _ _;have N:(p.length:Int)-(q.length:Int)=((p.length-q.length:Nat):Int):=by omega
 refine ai (aL N (k:=?_));refine aB (G:=Zv p q) (fun g=>⟨(cY p::cY q::jk::jk::jk::.one (.sl 19 0 0 (p.length+1))::.raw (.int .u64 (g.c:Int))::j16 (j16 (j4 (j4 (jk::jk::jk::.raw (.int .i64 ((p.length-q.length:Nat):Int))::rN g.j::j16 (j4 (j4 (j4 (jk::jk::jk::[]))))))))),Hm [(19,[⟨165,1,lc fU (g.o++ae (p.length+1-(q.length+g.j)) 0)⟩])]⟩) (fun g=>p.length-q.length-g.j) ⟨0,o,c,by omega,B,r,h⟩ ?_ ?_
 ·refine aj ⟨rfl,trivial⟩ ?_;simp[wk]
 clear h r B c o;rintro⟨j,o,c,X,B,r,h⟩;simp only;have v:(q.length:Int)+(j:Int)=((q.length+j:Nat):Int):=by omega
 by_cases R:j<p.length-q.length
 ·obtain⟨a,t⟩:=getElem?_of_lt (show q.length+j<p.length by omega);have z:=bZ H t;have u:IntKind.u32.wrap ((c:Int)+(a:Int))=(((c+a)%4294967296:Nat):Int):=by rfl
  have y:Int.fdiv ((c:Int)+(a:Int)) (2^(min 32 IntKind.u64.bits))=(((c+a)/4294967296:Nat):Int):=by rw[<- ML];rfl
  have x:p.length+1-(q.length+j)=(p.length-(q.length+j))+1:=by omega
  have f:=tb o (p.length-(q.length+j));have e:=pU o (p.length-(q.length+j)) ((c+a)%4294967296);rw[r]at f e;rw[x];refine ar (k:=be rfl (ai (am (bC (k:=aL (aH v t) (k:=aL (aH v (aH u (aH f (aH @dq e)))) (k:=jm y (k:=bS (k:=?_)))))))));refine⟨⟨j+1,o++[(c+a)%4294967296],(c+a)/4294967296,by omega,by omega,by grind,?_⟩,by simp only;omega,aj ⟨?_,trivial⟩ ?_⟩
  ·rw[<- h,dQ t,sumL,aaM];rfl
  ·show _=[(⟨_,_,lc fU ((o++[(c+a)%4294967296])++ae (p.length+1-(q.length+(j+1))) 0)⟩:OObj)];rw[show p.length+1-(q.length+(j+1))=p.length-(q.length+j) by omega];rfl
  simp[wk]
 have D:q.length+j=p.length:=by omega
 rw[D]at h r;rw[d8 (aar _),sumL]at h;have u:IntKind.u32.wrap (c:Int)=(c:Int):=by rw[E7];omega
 have x:p.length+1-(q.length+j)=0+1:=by omega
 have f:=tb o 0;have e:=pU o 0 c;rw[r]at f e;rw[adh,aa8,h]at e;have F:(sumL p q 0).length=p.length+1:=by grind
 have E:=nK p q 0 H J (by omega);have I:=eA (sumL p q 0) (by omega);rw[ee E,lR,aa5]at I;rw[x];generalize sumL p q 0=S at*
 refine ar (k:=bv rfl (aL (aH u (aH f (aH @dq e))) (k:=?_)));refine bf.weak ((bD 19 (bO rfl)).trans (aj (tm:=(j4 (jk::cY S::j16 (j16 (j16 (j16 (j4 (j4 (j4 (jk::[])))))))))) (l:=[]) trivial (by simp[wk,ew,dF,ax,Hm,eY,eG,aaz,F]))) ?_;refine bK [⟨1,_,_,_,I⟩] (k:=aD @results170)
theorem sJ (m n:List Nat) (x:Lmb m) (y:Lmb n) (B:n.length<=m.length) (C:natV n<=natV m) (H:m.length<=536870912):
  CallC prog 171 [cY m,cY n] ⟨[],cY (au (natV m-natV n))⟩:=by
 refine aA func171 rfl ntmps171 (aC (k:=aL @mw (k:=bC (k:=ai (bC (k:=?_))))));refine aB (G:=Yi m n) (fun g=>⟨(cY m::cY n::jk::jk::jk::.one (.sl 11 0 0 m.length)::.raw (.int .u64 (g.c:Int))::j4 (jk::jk::rN m.length::rN g.i::j16 (j4 (j4 (j4 (jk::jk::[])))))),Hm [(11,[⟨165,1,lc fU (g.o++ae (m.length-g.i) 0)⟩])]⟩) (fun g=>m.length-g.i) ⟨0,[],0,by omega,by omega,rfl,rfl⟩ ?_ ?_
 ·refine aj ⟨?_,trivial⟩ ?_
  ·rfl
  simp[wk]
 rintro⟨i,o,c,J,I,e,h⟩;simp only;by_cases D:i<m.length
 ·obtain⟨a,j⟩:=getElem?_of_lt D;have z:=bZ x j;have F:m.length-i=(m.length-i-1)+1:=by omega
  have s:=tb o (m.length-i-1);rw[e]at s;rw[F];refine ar (k:=be rfl (ai (am (bC (k:=aL j (k:=?_))))));by_cases E:i<n.length
  ·obtain⟨b,r⟩:=getElem?_of_lt E;have A:=bZ y r;have p:IntKind.u32.wrap (IntKind.u64.wrap (IntKind.u64.wrap ((a:Int)-(c:Int))-(b:Int)))=(((a+8589934592-(c+b))%4294967296:Nat):Int):=by grind [IntKind.wrap_u32,IntKind.wrap_u64]
   have q:Int.fdiv (IntKind.u64.wrap (IntKind.u64.wrap ((a:Int)-(c:Int))-(b:Int))) (2^(min 63 IntKind.u64.bits))=(((if a<c+b then 1 else 0):Nat):Int):=by
    rw[aa1,aa1];show Int.fdiv _ 9223372036854775808=_;grind
   have f:=pU o (m.length-i-1) ((a+8589934592-(c+b))%4294967296);rw[e]at f;refine ai (ar (k:=ay rfl (eK r (k:=aL (aH p (aH s (aH @dq f))) (k:=jm q (k:=bS (k:=?_)))))));refine⟨⟨i+1,o++[(a+8589934592-(c+b))%4294967296],if a<c+b then 1 else 0,by omega,by grind,by simp[e],?_⟩,by simp only;omega,aj ⟨?_,trivial⟩ ?_⟩
   ·rw[<- h,dQ j,dQ r,diffL,aaM];rfl
   ·rfl
   simp[wk]
  have p:IntKind.u32.wrap (IntKind.u64.wrap ((a:Int)-(c:Int)))=(((a+8589934592-c)%4294967296:Nat):Int):=by rw[abQ,aa1];omega
  have q:Int.fdiv (IntKind.u64.wrap ((a:Int)-(c:Int))) (2^(min 63 IntKind.u64.bits))=(((if a<c then 1 else 0):Nat):Int):=by
   rw[aa1];show Int.fdiv _ 9223372036854775808=_;grind
  have f:=pU o (m.length-i-1) ((a+8589934592-c)%4294967296);rw[e]at f;refine ai (ar (k:=aq rfl (ak (aL (aH p (aH s (aH @dq f))) (k:=jm q (k:=bS (k:=?_)))))));refine⟨⟨i+1,o++[(a+8589934592-c)%4294967296],if a<c then 1 else 0,by omega,by grind,by simp[e],?_⟩,by simp only;omega,aj ⟨?_,trivial⟩ ?_⟩
  ·rw[<- h,dQ j,d8 (by omega:n.length<=i),d8 (by omega:n.length<=i+1),diffL,aaM];rfl
  ·rfl
  simp[wk]
 have t:i=m.length:=by omega
 subst t;rw[d8 (aar _),diffL,aa8]at h;rw[abC,adh,aa8,h];have v:(diffL m n 0).length=m.length:=jN m n 0;have u:=jP m n 0;have K:=iE m n 0 x y (by omega) B (by omega);have w:=eA (diffL m n 0) (by omega);rw[ee u,show natV (diffL m n 0)=natV m-natV n by omega]at w;generalize diffL m n 0=S at*
 refine ar (k:=bv rfl ?_);show bf _ _ _ _;refine bf.weak ((bD 11 (bO rfl)).trans (aj (tm:=(j4 (jk::cY S::j16 (j16 (j4 (jk::jk::jk::[])))))) (l:=[]) trivial (by simp[wk,ew,dF,ax,Hm,eY,eG,aaz,v]))) ?_;refine bK [⟨1,_,_,_,w⟩] (k:=aD @results171)
theorem Lh {B:List Nat} (g:Kc b B) (h:b[g.i]?=some 0): ∃c:Kc b B,c.i=g.i+1/\c.O=g.O:=by
 refine⟨⟨g.i+1,g.O,(aao.1 h).1,g.len,g.lmb,?_,fun k f e=>g.zero k (by omega) e⟩,rfl,rfl⟩;rw[bj h,g.val];simp
theorem K4 (A B:List Nat) (b:Lmb A) (e:Lmb B) (la:A.length<=536870912) (lb:B.length<=536870912):CallC prog 168 [cY A,cY B] ⟨[],cY (au (natV A*natV B))⟩:=by
 by_cases t:A.length<=1/\B.length<=1
 ·have u:=t.1;have v:=t.2;have w1:=qG A b (by omega);have w2:=qG B e (by omega);have N:natV A<4294967296:=by
   have:=gy b;exact aaA this (by have:=aaJ (n:=4294967296) (by omega) u;omega)
  have P:natV B<4294967296:=by
   have:=gy e;exact aaA this (by have:=aaJ (n:=4294967296) (by omega) v;omega)
  have W:=oE N P;have w3:=iZ (natV A*natV B) (by omega);have D:(natV A:Int)*(natV B:Int)=((natV A*natV B:Nat):Int):=by simp
  generalize natV A*natV B=p at*
  refine aA func168 rfl ntmps168 (aC (k:=ai (ar (k:=ay rfl (cO [⟨1,_,_,_,w1⟩,⟨3,_,_,_,w2⟩,⟨5,_,_,_,w3⟩] D (k:=aD @results168))))))
 have Q:((A.length:Int)+(B.length:Int)).toNat=A.length+B.length:=by omega
 refine aA func168 rfl ntmps168 (aC (k:=?_));refine ai (l9 (S:=⟨(cY A::cY B::j16 (j16 (j16 (j16 (j16 (j4 ([]))))))),Hm []⟩) ?_ ?_)
 ·by_cases U:A.length<=1
  ·refine ar (k:=?_);refine bi rfl (fun h=>by simp at h<;>omega) (fun _=>ak (aj trivial ?_));simp[wk]
  refine ar (k:=?_);refine bi rfl (fun h=>by simp at h<;>omega) (fun _=>ak (aj trivial ?_));simp[wk]
 refine aL (aH Q @mw) (k:=ai (bC (k:=?_)));refine aB (G:=Kc A B) (fun g=>⟨(cY A::cY B::jk::jk::jk::.one (.sl 31 0 0 (A.length+B.length))::j16 (j4 (j4 (jk::jk::cY A::rN A.length::rN g.i::j16 (j16 (j16 (jk::jk::jk::[]))))))),Hm [(31,[⟨165,1,lc fU g.O⟩])]⟩) (fun g=>A.length-g.i) ⟨0,ae (A.length+B.length) 0,by omega,by simp,fun x f=>by simp at f;omega,by simp[wP,natV],fun k U V=>by rw[aba,if_pos V]⟩ ?_ ?_
 ·refine aj ⟨rfl,trivial⟩ ?_;simp[wk]
 rintro⟨i,O,Z,len,lmb,val,zero⟩;simp only;by_cases K:i<A.length
 ·obtain⟨x,f⟩:=getElem?_of_lt K;have w:=bZ b f;refine ar (k:=be rfl (ai (am (aL f (k:=?_)))));by_cases H:x=0
  ·subst H;obtain⟨r,m,q⟩:=Lh (⟨i,O,Z,len,lmb,val,zero⟩:Kc A B) f;simp only at m q;refine ai (ar (k:=ay rfl (aZ (bS (k:=?_)))));refine⟨r,by omega,aj ⟨by rw[q];rfl,trivial⟩ ?_⟩;simp[wk,m]
  have T:(i:Int)+(B.length:Int)+1=((i+B.length+1:Nat):Int):=by omega
  have el:i+B.length+1-i=B.length+1:=by omega
  refine ai (ar (k:=aq rfl (ak (aL (aH T el) (k:=bC (k:=ai (bC (k:=?_))))))));refine aB (G:=MO A B i x) (fun g=>⟨(cY A::cY B::jk::jk::jk::.one (.sl 31 0 0 (A.length+B.length))::jk::.raw (.int .u32 (x:Int))::.one (.sl 31 0 i (B.length+1))::.raw (.int .u64 (g.c:Int))::j16 (j4 (jk::jk::cY A::rN A.length::rN i::j4 (j4 (j4 (jk::jk::cY B::rN B.length::rN g.j::j16 (j16 (jk::jk::[])))))))),Hm [(31,[⟨165,1,lc fU g.O⟩])]⟩) (fun g=>B.length-g.j) ⟨0,O,0,by omega,len,lmb,by omega,by simpa[natV] using val,zero⟩ ?_ ?_
  ·refine aj ⟨rfl,trivial⟩ ?_;simp[wk]
  intro g;by_cases L:g.j<B.length
  ·obtain⟨y,I⟩:=getElem?_of_lt L;have z:=bZ e I;have J:=g.len;obtain⟨o,C⟩:=getElem?_of_lt (show i+g.j<g.O.length by omega);have aa:=bZ g.lmb C;have W:=oE w z;have F:=g.hc;obtain⟨r,m,q,q3⟩:=zA g I C K w z;have D:(x:Int)*(y:Int)=((x*y:Nat):Int):=by simp
   generalize hp:x*y=p at*
   have E:IntKind.u32.wrap ((g.c:Int)+((p:Int)+(o:Int)))=(((g.c+(p+o))%4294967296:Nat):Int):=by rfl
   have R:Int.fdiv ((g.c:Int)+((p:Int)+(o:Int))) (2^(min 32 IntKind.u64.bits))=(((g.c+(p+o))/4294967296:Nat):Int):=by grind [ML]
   refine ar (k:=be rfl (ai (am (aL I (k:=aL (aH D C) (k:=aL (aH E (aH C @dq)) (k:=jm R (k:=bS (k:=?_)))))))));refine⟨r,by omega,aj ⟨by rw[q];rfl,trivial⟩ ?_⟩;simp[wk,m,q3]
  have X:=g.hj;have F:=g.hc;have Y:=g.len;obtain⟨r,m,q⟩:=zz f g L;have E:IntKind.u32.wrap (g.c:Int)=(g.c:Int):=by rw[E7];omega
  refine ar (k:=bv rfl ?_);show bf _ _ _ _;have hz:=g.zero (i+B.length) (aar _) (by omega);refine eK (aH E (aH hz @dq)) (k:=bS (k:=?_));refine⟨r,by omega,aj ⟨by rw[q];rfl,trivial⟩ ?_⟩;simp[wk,m]
 have s:natV O=natV A*natV B:=by
  grind
 have M:=eA O (by omega);rw[ee lmb,s]at M;refine ar (k:=bv rfl ?_);show bf _ _ _ _;refine bf.weak ((bD 31 (bO rfl)).trans (aj (tm:=(j4 (jk::cY O::j16 (j16 (j16 (j16 (j16 ([])))))))) (l:=[]) trivial (by simp[wk,ew,dF,ax,Hm,eY,eG,aaz,len]))) ?_;refine bK [⟨1,_,_,_,M⟩] (k:=aD @results168)
/-! Signed numbers. -/
theorem NH {a b:Nat}:0<=gD a b↔b<=a:=by grind [gD]
theorem Hb {c e:Bool} {a:Nat} (h:c≠e) (f:n<=a):f4 c (a-n)=f4 c a+f4 e n:=by
 grind [f4]
theorem Hc {e c:Bool} {a:Nat} (h:e≠c) (f:a<=n):f4 c (n-a)=f4 e a+f4 c n:=by
 grind [f4]
theorem TX (n:Bool) (a b:Nat):f4 n (a+b)=f4 n a+f4 n b:=by grind [f4]
theorem A6 (g m:Bool) (a b:Nat) (p:(au a).length<=536870912) (q:(au b).length<=536870912):CallC prog 166 [.raw (.bool g),cY (au a),.raw (.bool m),cY (au b)] ⟨[],tZ (f4 g a+f4 m b)⟩:=by
 by_cases o:g=m
 ·subst o;have c:=zp (au a) (au b) (aE _) (aE _) p q;rw[az,az]at c;have e:=eE g (a+b);rw[TX]at e;refine aA func166 rfl ntmps166 (aC (k:=ai (am (bC (k:=ay rfl (bL [⟨3,_,_,_,c⟩,⟨4,_,_,_,e⟩] (k:=aD @results166)))))))
 have l:(g==m)=false:=by grind
 have n:=wC (au a) (au b) (aE _) (aE _) (b9 _) (b9 _) (by omega) (by omega);rw[az,az]at n;have j:=NH (a:=a) (b:=b);by_cases f:b<=a
 ·have c:=sJ (au a) (au b) (aE _) (aE _) (i9 (aE _) (b9 _) (by grind [az])) (by grind [az]) p;rw[az,az]at c;have e:=eE g (a-b);rw[Hb o f]at e;have s:0<=gD a b:=j.2 f;generalize gD a b=r at*
  refine aA func166 rfl ntmps166 (aC (k:=ai (am (f9 l (k:=aq rfl (bL [⟨2,_,_,_,n⟩] (k:=ay rfl (bL [⟨3,_,_,_,c⟩,⟨4,_,_,_,e⟩] (k:=aD @results166)))))))))
 have c:=sJ (au b) (au a) (aE _) (aE _) (i9 (aE _) (b9 _) (by grind [az])) (by grind [az]) q;rw[az,az]at c;have e:=eE m (b-a);rw[Hc o (by omega)]at e;have s: ¬0<=gD a b:=fun h=>f (j.1 h)
 generalize gD a b=r at*
 refine aA func166 rfl ntmps166 (aC (k:=ai (am (f9 l (k:=aq rfl (bL [⟨2,_,_,_,n⟩] (k:=aq rfl (ak (bL [⟨3,_,_,_,c⟩,⟨4,_,_,_,e⟩] (k:=aD @results166))))))))))
theorem Om (a b:Int) (c:Bh a) (e:Bh b):CallC prog 118 [tZ a,tZ b] ⟨[],tZ (a-b)⟩:=by
 have t1:=eA (au a.natAbs) c.bg.len;have t2:=eA (au b.natAbs) e.bg.len;rw[ii]at t1 t2;have h:=A6 (decide (a<0)) (!decide (b<0)) a.natAbs b.natAbs c.len e.len;rw[Br,O0,<- aee]at h;refine aA func118 rfl ntmps118 (aC (k:=di [⟨4,_,_,_,t1⟩,⟨10,_,_,_,t2⟩,⟨11,_,_,_,h⟩] (k:=aD @results118)))
theorem A7 (a b:Int) (e:Bh a) (f:Bh b):CallC prog 119 [tZ a,tZ b] ⟨[],tZ (a*b)⟩:=by
 have t1:=eA (au a.natAbs) e.bg.len;have t2:=eA (au b.natAbs) f.bg.len;rw[ii]at t1 t2;have h:=K4 (au a.natAbs) (au b.natAbs) (aE _) (aE _) e.len f.len;rw[az,az]at h;have c:=eE (!(decide (a<0)==decide (b<0))) (a.natAbs*b.natAbs);rw[Jf]at c;refine aA func119 rfl ntmps119 (aC (k:=di [⟨7,_,_,_,t1⟩,⟨10,_,_,_,t2⟩,⟨11,_,_,_,h⟩,⟨12,_,_,_,c⟩] (k:=aD @results119)))
theorem YR {U V L:Nat} (c:n*4294967296*L<=V) (g:U<(m+1)*4294967296*L) (h:j*V<=U) (f:0<L):j*n<=m:=by
 have e:j*(n*4294967296*L)<=j*V:=aas _ c;have b:(j*n)*(4294967296*L)<(m+1)*(4294967296*L):=by
  grind
 have:=acj b;omega
theorem YQ {U V L high:Nat} (f:(n*4294967296+m)*L<=V) (t:U<(high*4294967296+j+1)*L) (l:q*V<=U) (u:c*n+p=high) (h:p*4294967296+j<c*m):q<c:=by
 by_cases b:q<c
 ·exact b
 exfalso;have o:c*((n*4294967296+m)*L)<=U:=aap (aaT (acP b) f) l;have e:(c*(n*4294967296+m))*L<(high*4294967296+j+1)*L:=by
  grind
 have s:=acj e;grind
theorem SY {U vl t3:Nat} (l: n = (j * 4294967296 + c) * m + vl) (b: vl < m) (h: t3 * m <= U) (u: U < (q + 1) * n) (o: p * (j * 4294967296 + c) <= t3) (f: p <= 4294967296) (hv1: 1 <= j) : p <= q + 1 := by
  have r : p * n <= U + p * vl := by
    calc p * n = (p * (j * 4294967296 + c)) * m + p * vl := by grind
      _ <= t3 * m + p * vl := ad3 (aav _ o) _
      _ <= _ := ad3 h _
  have s : p * vl <= 4294967296 * m := aaT f (acD b);have t : 4294967296 * m <= n := by
    rw [l];have : 4294967296 * m <= (j * 4294967296 + c) * m := aav _ (by omega);omega
  have e : p * n < (q + 2) * n := by
    grind
  have := acj e;omega
structure RK (u v:List Nat) (g:Nat) where
 i:Nat
 us:List Nat
 c:Nat
 b:Nat
 hi:i<=v.length
 len:us.length=i
 lmb:Lmb us
 hc:c<4294967296
 hb:b<=1
 val:natV us+g*natV (v.take i)=natV (u.take i)+(c+b)*4294967296^i
def RK.start (u v:List Nat) (g:Nat):RK u v g:=⟨0,[],0,0,aaW _,rfl,fun a h=>by simp at h,by omega,by omega,by simp[natV]⟩
theorem oF (l:List Nat) (a:Nat):natV (l++[a])=natV l+a*4294967296^l.length:=by
 grind [i7,natV]
theorem nJ {a:Nat} (h:Lmb b) (f:a<4294967296):Lmb (b++[a]):=fun x e=>by
 rcases abf.1 e with c|c
 ·exact h x c
 grind
theorem DW (b:n<=4294967296) (f:m<4294967296) (e:j<4294967296):j+n*m<18446744073709551616/\(j+n*m)/4294967296<4294967296:=by
 have:n*m<=4294967296*4294967295:=aaT b (by omega);omega
theorem Td {u v:List Nat} (e:RK u v n) {l b':Nat} (q:n<=4294967296) (p:v[e.i]?=some m) (s:u[e.i]?=some j) (t:Lmb v) (r:l<4294967296) (h:b'<=1) (z:l+(e.c+n*m)%4294967296+e.b=j+b'*4294967296): ∃f:RK u v n,f.i=e.i+1/\f.us=e.us++[l]/\f.c=(e.c+n*m)/4294967296/\f.b=b':=by
 have o:=bZ t p;refine⟨⟨e.i+1,e.us++[l],(e.c+n*m)/4294967296,b',?_,by rw[aaV,e.len];rfl,nJ e.lmb r,(DW q o e.hc).2,h,?_⟩,rfl,rfl,rfl,rfl⟩
 ·grind
 have A:=e.val;rw[oF,e.len,bj p,bj s,abl];have w:e.c+n*m=(e.c+n*m)%4294967296+4294967296*((e.c+n*m)/4294967296):=by omega
 grind
structure UK (u v:List Nat) where
 i:Nat
 us:List Nat
 c:Nat
 hi:i<=v.length
 len:us.length=i
 lmb:Lmb us
 hc:c<=1
 val:natV us+c*4294967296^i=natV (u.take i)+natV (v.take i)
def UK.start (u v:List Nat):UK u v:=⟨0,[],0,aaW _,rfl,fun a h=>by simp at h,by omega,by simp[natV]⟩
theorem R6 {v:List Nat} (e:UK b v) (g:v[e.i]?=some n) (h:b[e.i]?=some m) (p:Lmb v) (o:Lmb b):
  ∃f:UK b v,f.i=e.i+1/\f.us=e.us++[(e.c+(m+n))%4294967296]/\f.c=(e.c+(m+n))/4294967296:=by
 have j:=bZ p g;have l:=bZ o h;have q:=e.hc;refine⟨⟨e.i+1,e.us++[(e.c+(m+n))%4294967296],(e.c+(m+n))/4294967296,?_,by rw[aaV,e.len];rfl,nJ e.lmb (aaQ _ (by omega)),by omega,?_⟩,rfl,rfl,rfl⟩
 ·grind
 have s:=e.val;rw[oF,e.len,bj g,bj h,abl];have r:e.c+(m+n)=(e.c+(m+n))%4294967296+4294967296*((e.c+(m+n))/4294967296):=by omega
 grind
theorem Oz (l:c=n/m) (f:c<=j) (h:p+j*m=n) (b:0<m):j=c/\p=n%m:=by
 have e:j<=n/m:=(ac5 b).2 (by omega);grind [Nat.div_add_mod,Nat.mul_comm]
theorem SX {T Bn c t W:Nat} (s:p=n/m) (C:j<=p+1) (h:q+j*m=n+4294967296*Bn) (r:n<j*m) (l:0<m) (o:m<=Bn) (A:W<Bn) (z:q=T+t*Bn) (D:W+c*Bn=T+m) (B:c<=1) (u:t<4294967296):j=p+1/\(t+c)%4294967296=0/\W=n%m:=by
 have e:j=p+1:=by
  by_cases b:j=p+1
  ·exact b
  exfalso;have:j*m<=(n/m)*m:=aav _ (by omega);have:=adi n m;omega
 have f:=acn n m;have v:=aaQ n l;rw[<- s]at f;subst e;have w:(p+1)*m=m*p+m:=by grind
 have x:W+(t+c)*Bn=n%m+4294967296*Bn:=by
  grind
 have y:t+c=4294967296:=by
  rcases aby (t+c) 4294967296 with b|b|b
  ·exfalso;have:(t+c)*Bn+Bn<=4294967296*Bn:=by
    have:=aav Bn (show t+c+1<=4294967296 by omega);grind
   omega
  ·exact b
  omega
 grind
def bI:Nat->Nat->List Nat
 |0,_=>[]
 |n+1,x=>x%4294967296::bI n (x/4294967296)
theorem bP: ∀n x,(bI n x).length=n
 |0,_=>rfl
 |n+1,x=>by simp[bI,bP n]
theorem nI: ∀n x,Lmb (bI n x)
 |0,_=>fun a h=>by simp[bI]at h
 |n+1,x=>by rw[bI,du];exact⟨aaQ _ (by omega),nI n _⟩
theorem zF: ∀n x,natV (bI n x)=x%4294967296^n
 |0,x=>by grind [bI,natV]
 |n+1,x=>by
  rw[bI,natV,zF n,abl,abB (4294967296^n),Nat.mod_mul]
theorem g7 (h:m<4294967296^n):natV (bI n m)=m:=by rw[zF,acz h]
theorem IV: ∀{l:List Nat},Lmb l->l=bI l.length (natV l)
 |[],_=>rfl
 |a::l,h=>by
  rw[du]at h;have b:(a+4294967296*natV l)%4294967296=a:=by omega
  have c:(a+4294967296*natV l)/4294967296=natV l:=by omega
  show a::l=bI (l.length+1) (natV (a::l));rw[bI,natV,b,c,<- IV h.2]
theorem Dv (h:Lmb b) (c:b.length=n) (e:natV b=m):b=bI n m:=by
 grind [IV]
theorem ia: ∀{n x i:Nat},i<n->(bI n x)[i]?=some (x/4294967296^i%4294967296)
 |0,_,_,h=>by omega
 |n+1,x,0,_=>by simp[bI]
 |n+1,x,i+1,h=>by
  rw[bI,abI,ia (by omega),abu,abl,abB 4294967296]
theorem tg (h:m<4294967296^n):dD (bI n m)=au m:=by
 rw[ee (nI _ _),g7 h]
theorem qR {i a:Nat} (h:b[i]?=some a):natV (b.drop i)=a+4294967296*natV (b.drop (i+1)):=by rw[dQ h,natV]
/-! Short division. -/
theorem P6 {a Y:Nat} (c:0<n) (j:a<4294967296):(a+4294967296*Y)/n%4294967296=(Y%n*4294967296+a)/n/\(a+4294967296*Y)/n/4294967296=Y/n/\(a+4294967296*Y)%n=(Y%n*4294967296+a)%n:=by
 have g:=acn Y n;have h:=aaQ Y c;generalize l:Y/n=q at*
 generalize m:Y%n=r at*
 have e:a+4294967296*Y=n*(4294967296*q)+(r*4294967296+a):=by grind
 have f:(r*4294967296+a)/n<4294967296:=by
  rw[abx c];omega
 simp_all[adS]
theorem TS {l:List Nat} {i a b:Nat} (p:l.length=n) (o:i<n) (f:l[i]?=some a) (c:a<4294967296) (m:0<b):
  (l.take (i+1)++bI (n-(i+1)) (natV (l.drop (i+1))/b)).set i ((natV (l.drop (i+1))%b*4294967296+a)/b)=l.take i++bI (n-i) (natV (l.drop i)/b)/\
  (natV (l.drop (i+1))%b*4294967296+a)%b=natV (l.drop i)%b:=by
 obtain⟨g,h,j⟩:=P6 (Y:=natV (l.drop (i+1))) m c;rw[qR f];refine⟨?_,j.symm⟩;rw[show n-i=n-(i+1)+1 by omega,bI,g,h,adx,f];simp only[Option.toList_some,aaM,List.singleton_append];rw[abG _ _ (by simp;omega)];have e:i-(l.take i).length=0:=by simp;omega
 grind
/-! Shifts. -/
theorem D5 (b:m<32):2^m<=2147483648/\1<=2^m:=⟨by have:=aaJ (n:=2) (by omega) (show m<=31 by omega);omega,Nat.one_le_two_pow⟩
theorem Qm (b:j<=32):(n+18446744073709551616*m)/2^j%4294967296=n/2^j%4294967296:=by
 have e:18446744073709551616*m=2^j*(2^(32-j)*(4294967296*m)):=by
  rw[<- ab8,<- abP,show j+(32-j)=32 by omega];grind
 grind [Nat.add_mul_div_left]
theorem Y6 (f:Lmb b) {i:Nat} (m:n<=32):natV b/2^n/4294967296^i%4294967296=(b.getD i 0+4294967296*b.getD (i+1) 0)/2^n%4294967296:=by
 have e:natV b/2^n/4294967296^i=natV (b.drop i)/2^n:=by
  rw[abu,abB,<- abu]
  congr 1
  by_cases r:i<=b.length
  ·have o:natV b=natV (b.take i)+4294967296^i*natV (b.drop i):=by
    grind [List.take_append_drop,i7]
   simp_all[eZ,Nat.add_mul_div_left,abh]
  rw[acr.2 (by omega)];have p:=gy f;have q:4294967296^b.length<=4294967296^i:=aaJ (by omega) (by omega);rw[acO (by omega)];rfl
 rw[e];have g: ∀j,natV (b.drop j)=b.getD j 0+4294967296*natV (b.drop (j+1)):=fun j=>by
  rw[aaw];cases h:b[j]? with
  |none=>
   rw[List.getElem?_eq_none_iff]at h;rw[acr.2 h,acr.2 (by omega)];rfl
  |some a=>exact qR h
 rw[g i,g (i+1)];have c:b.getD i 0+4294967296*(b.getD (i+1) 0+4294967296*natV (b.drop (i+1+1)))=(b.getD i 0+4294967296*b.getD (i+1) 0)+18446744073709551616*natV (b.drop (i+1+1)):=by grind
 rw[c,Qm m]
theorem JL (h:Lmb b) {i v:Nat} (j:n<=32) (p:b.length=m) (g:i<m) (o:v=(b.getD i 0+4294967296*b.getD (i+1) 0)/2^n%4294967296):
  ((bI m (natV b/2^n)).take i++b.drop i).set i v=(bI m (natV b/2^n)).take (i+1)++b.drop (i+1):=by
 have c:=ia (n:=m) (x:=natV b/2^n) g;rw[Y6 h j,<- o]at c;have f:b.drop i=b[i]'(by omega)::b.drop (i+1):=abs (by omega);rw[abG _ _ (by grind),adx,c,f];have e:i-((bI m (natV b/2^n)).take i).length=0:=by grind
 grind
def yB (m:List Nat) (s i:Nat):Nat:=natV (m.take i)*2^s/4294967296^i
theorem Xh (c:Lmb b) (s i:Nat):yB b s i<2^s:=by
 simp_all[yB,abx,abh,abB,eZ]
theorem T0 {s i a:Nat} (c:b[i]?=some a):yB b s i+a*2^s=natV (b.take (i+1))*2^s/4294967296^i/\(yB b s i+a*2^s)/4294967296=yB b s (i+1):=by
 have f:=bj c;have e:natV (b.take (i+1))*2^s=natV (b.take i)*2^s+4294967296^i*(a*2^s):=by grind
 grind [yB,Nat.add_mul_div_left,Nat.div_div_eq_div_mul]
theorem Xi {m:List Nat} {s i j:Nat} (f:j<i) (c:i<=m.length):natV (m.take i)*2^s/4294967296^j%4294967296=natV m*2^s/4294967296^j%4294967296:=by
 have b:natV m=natV (m.take i)+4294967296^i*natV (m.drop i):=by
  grind [List.take_append_drop,i7]
 obtain⟨d,rfl⟩: ∃d,i=j+1+d:=⟨i-(j+1),by omega⟩;have e:natV m*2^s=natV (m.take (j+1+d))*2^s+4294967296^j*(4294967296*(4294967296^d*natV (m.drop (j+1+d))*2^s)):=by
  grind
 grind [Nat.add_mul_div_left]
theorem zP:bI (n+1) m=bI n m++[m/4294967296^n%4294967296]:=by
 apply aaC;grind [ia,bP]
end Go.Proofs.YtalmoejhjceflaaGreat
