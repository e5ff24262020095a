/-
  Part 16 of a proof (walks and plain facts).
-/
import Derived.Test.YtalmoejhjceflaaGreatV14
set_option linter.all false
set_option maxRecDepth 100000
set_option maxHeartbeats 64000000
open Nat renaming reduceAdd → aa
open Nat renaming reduceEqDiff → ae
open List renaming replicate → af
namespace Go.Proofs.YtalmoejhjceflaaGreat
open Go.RowKit Go.Proofs.Tryz
variable {b:List Nat} {n:Nat} {x:Int}
theorem cX:aD 0=[]:=by rw[aD];simp
theorem xv (h:n≠0):aD n=n%4294967296::aD (n/4294967296):=by grind [aD]
theorem aJ (n:Nat):natV (aD n)=n:=by
 induction n using Nat.strongRecOn with
 |_ n b=>
  grind [cX,xv,natV]
theorem aN (n:Nat):Lmb (aD n):=by
 induction n using Nat.strongRecOn with
 |_ n c=>
  by_cases h:n=0
  ·subst h;rw[cX];intro a b;simp at b
  rw[xv h];intro a b;rcases afn.1 b with rfl|b
  ·omega
  exact c _ (Rc h) a b
theorem di (n:Nat):zJ (aD n):=by
 induction n using Nat.strongRecOn with
 |_ n b=>
  grind [cX,zJ,xv]
theorem UC (c:Lmb b) (e:zJ b):b=aD (natV b):=
 YB c (aN _) e (di _) (aJ _).symm
theorem e8 (c:Lmb b):dC b=aD (natV b):=by
 grind [UC,W8,W6,Ro]
theorem kn (n:Nat):dC (aD n)=aD n:=yI (di n)
theorem Fz:aD n=[]↔n=0:=⟨fun h=>by rw[<- aJ n,h];rfl,fun h=>by rw[h,cX]⟩
theorem kM {n k:Nat} (h:n<4294967296^k):(aD n).length<=k:=KU (di n) (by grind [aJ])
theorem jC {n:Nat}:(aD n).length=0↔n=0:=by simp_all[Fz]
def Sz (z:Int) (k:Nat):Prop:=z.natAbs<4294967296^k
theorem Sz.len {k:Nat} (h:Sz x k):(aD x.natAbs).length<=k:=kM h
theorem Sz.mono {k l:Nat} (h:Sz x k) (b:k<=l):Sz x l:=aeT h (ae5 (by omega) b)
theorem pO (z:Int):(fZ z).length=2:=rfl
theorem wg (neg:Bool) (n:Nat):(jd neg n).natAbs=n:=by grind [jd]
theorem Pp (neg:Bool) (n:Nat):decide (jd neg n<0)=(neg&&decide (0<n)):=by
 grind [jd]
theorem kO (neg:Bool) (l:List Nat) (h:Lmb l) (b:l.length<=1073741824):CallC prog 105 [.raw (.bool neg),eY l] ⟨[],tZ (jd neg (natV l))⟩:=by
 have e:=km l b;rw[e8 h]at e;have c:(aD (natV l)).length<=1073741824:=by rw[<- e8 h];exact aeN (W7 l) b
 refine aB func105 rfl ntmps105 (aE (k:=bu [⟨1,_,_,_,e⟩] (k:=?_)));cases neg with
 |false=>
  refine ax (k:=?_);refine aM ⟨.inr rfl,bQ rfl ?_ rfl⟩;simp(disch:=omega) only[kd,results105,aa,tZ];rfl
 |true=>
  refine ax (k:=?_);refine aM ⟨.inr rfl,bQ rfl ?_ rfl⟩;simp(disch:=omega) only[kd,results105,aa,tZ];have:(0<(aD (natV l)).length)↔0<natV l:=by
   grind [jC]
  grind [wg,Pp]
abbrev Bg (z:Int):Prop:=Sz z 1073741824
theorem Bg.len (h:Bg x):(aD x.natAbs).length<=1073741824:=kM h
theorem Vw (z:Int):jd (!decide (z<0)) z.natAbs= -z:=by grind [jd]
theorem FG (z:Int):jd (decide (z<0)) z.natAbs=z:=by grind [jd]
theorem I4 (z:Int) (h:Bg z):CallC prog 79 [tZ z] ⟨[],tZ (-z)⟩:=by
 have b:=kO (!decide (z<0)) (aD z.natAbs) (aN _) h.len;rw[aJ,Vw]at b;refine aB func79 rfl ntmps79 (aE (k:=bD [⟨5,_,_,_,b⟩] (k:=aI @results79)))
theorem TB (z:Int) (h:Bg z):CallC prog 158 [tZ z] ⟨[],tZ z.natAbs⟩:=by
 have b:=kO false (aD z.natAbs) (aN _) h.len;rw[aJ,show jd false z.natAbs=z.natAbs from rfl]at b;refine aB func158 rfl ntmps158 (aE (k:=bD [⟨2,_,_,_,b⟩] (k:=aI @results158)))
theorem VJ (z:Int) (h:Bg z):CallC prog 52 [tZ z] ⟨[],tZ z⟩:=by
 have b:=kO (decide (z<0)) (aD z.natAbs) (aN _) h.len;rw[aJ,FG]at b;refine aB func52 rfl ntmps52 (aE (k:=bD [⟨4,_,_,_,b⟩] (k:=aI @results52)))
theorem GL (neg:Bool) (u:Nat) (g:u<18446744073709551616):CallC prog 128 [.raw (.bool neg),.raw (.int .u64 u)] ⟨[],tZ (jd neg u)⟩:=by
 have c:=kO neg [u%4294967296,u/4294967296] (by intro a f;grind) (by simp);rw[Eo]at c;have e:IntKind.u32.wrap (u:Int)=((u%4294967296:Nat):Int):=by rfl
 have b:IntKind.u32.wrap ((u:Int).fdiv (2^(min (32:Int).toNat IntKind.u64.bits)))=((u/4294967296:Nat):Int):=by
  rw[ahi];show(Int.fdiv (u:Int) 4294967296)%4294967296=_;grind
 simp only[Int.reduceToNat]at b;refine aB func128 rfl ntmps128 (aE (k:=ce [⟨7,_,_,_,c⟩] (aG @OM (aG e b)) (k:=aI @results128)))
theorem er (n:Int) (e: -9223372036854775808<=n) (f:n<=9223372036854775807):CallC prog 74 [.raw (.int .i64 n)] ⟨[],tZ n⟩:=by
 by_cases g:n<0
 ·have b:=GL true n.natAbs (by omega);have c:IntKind.u64.wrap (0-IntKind.u64.wrap n)=((n.natAbs:Nat):Int):=by grind [IntKind.wrap_u64]
  rw[show jd true n.natAbs=n by grind [jd]]at b;refine aB func74 rfl ntmps74 (aE (k:=aj (ax (k:=aC rfl (ce [⟨3,_,_,_,b⟩] c (k:=aI @results74))))))
 have b:=GL false n.natAbs (by omega);have c:IntKind.u64.wrap n=((n.natAbs:Nat):Int):=by rw[afK];omega
 rw[show jd false n.natAbs=n by grind [jd]]at b;refine aB func74 rfl ntmps74 (aE (k:=aj (ax (k:=aq rfl (al (ce [⟨2,_,_,_,b⟩] c (k:=aI @results74)))))))
theorem kh (z:Int) (h:Bg z):CallC prog 75 [tZ z] ⟨[],.raw (.int .i64 (sg z))⟩:=by
 have b:=km (aD z.natAbs) h.len;rw[kn]at b;have g:=jC (n:=z.natAbs);rcases Int.lt_trichotomy z 0 with c|c|c
 ·have e:sg z= -1:=by simp[sg,c]
  have f:(aD z.natAbs).length≠0:=by omega
  rw[e];refine aB func75 rfl ntmps75 (aE (k:=aj (ao (bD [⟨2,_,_,_,b⟩] (k:=aq rfl (aZ (k:=aC rfl (aZ (k:=aI @results75)))))))))
 ·subst c;rw[show sg 0=0 from rfl];rw[Int.natAbs_zero,cX]at b;rw[show tZ 0= .agg [.p (.raw (.bool false)),.p (.sl (ls fU []))]from by grind];refine aB func75 rfl ntmps75 (aE (k:=aj (ao (bD [⟨2,_,_,_,b⟩] (k:=aC rfl (aZ (k:=aI @results75)))))))
 have e:sg z=1:=by grind [sg]
 have f:(aD z.natAbs).length≠0:=by omega
 rw[e];refine aB func75 rfl ntmps75 (aE (k:=aj (ao (bD [⟨2,_,_,_,b⟩] (k:=aq rfl (aZ (k:=aq rfl (al (aZ (k:=aI @results75))))))))))
theorem N0 (l m:List Nat) (r:Lmb l) (s:Lmb m) (t:zJ l) (u:zJ m) (x:l.length<=1073741824) (y:m.length<=1073741824):
  CallC prog 157 [eY l,eY m] ⟨[],.raw (.int .i64 (jB (natV l) (natV m)))⟩:=by
 rcases af7 l.length m.length with q|n|o
 ·rw[rX (lL r u q)];refine aB func157 rfl ntmps157 (aE (k:=aj (ax (k:=aC rfl (aj (ax (k:=aC rfl (aZ (k:=aI @results157)))))))))
 ·refine aB func157 rfl ntmps157 (aE (k:=aj (ax (k:=aq rfl (al (aj (ax (k:=?_))))))));refine ay (G:={k:Nat//k<=l.length/\l.drop k=m.drop k}) (fun k=>⟨(eY l::eY m::jk::jk::.raw (.int .i64 0)::.raw (.int .i64 ((k.1:Int)-1))::j16 (j16 (jk::jk::jk::[]))),Hm []⟩) (fun k=>k.1) ⟨l.length,aeJ _,by rw[ags,n,ags]⟩ ?_ ?_
  ·refine ak trivial ?_;simp[wk]
  rintro⟨k,B,A⟩;simp only;by_cases z:0<k
  ·obtain⟨a,f⟩:=getElem?_of_lt (l:=l) (k:=k-1) (by omega);obtain⟨b,g⟩:=getElem?_of_lt (l:=m) (k:=k-1) (by omega);have j:((k:Int)-1).toNat=k-1:=by omega
   have e:l.drop (k-1+1)=m.drop (k-1+1):=by grind
   refine aj (ax (k:=aC rfl (al (aj (ao (iH (aG j (aG f g)) (k:=?_)))))));rcases af7 a b with c|c|c
   ·rw[rX (pX r f g e c)];refine aX rfl (fun _=>?_) (fun h=>by simp at h<;>omega);refine aj (iH (aG j (aG f g)) (k:=aC rfl (aZ (k:=aI @results157))))
   ·subst c;refine aX rfl (fun h=>by simp at h<;>omega) (fun _=>al ?_);show bv _ _ _ _;refine bK (k:=?_);refine⟨⟨k-1,by omega,Dv f g e⟩,by grind,ak trivial ?_⟩;have v:((k-1:Nat):Int)=(k:Int)-1:=by omega
    simp[wk,v]
   rw[zh (pX s g f e.symm c)];refine aX rfl (fun _=>?_) (fun h=>by simp at h<;>omega);refine aj (iH (aG j (aG f g)) (k:=aq rfl (al (aZ (k:=aI @results157)))))
  have p:k=0:=by omega
  subst p;have w:l=m:=by grind
  rw[show jB (natV l) (natV m)=0 by grind [jB]];refine aj (ax (k:=aq rfl (aT (aZ (k:=aI @results157)))))
 rw[zh (lL s t o)];refine aB func157 rfl ntmps157 (aE (k:=aj (ax (k:=aC rfl (aj (ax (k:=aq rfl (al (aZ (k:=aI @results157))))))))))
def nY (a b:Int):Int:=if a<b then -1 else if a=b then 0 else 1
theorem JD (z:Int): -1<=sg z/\sg z<=1:=by grind [sg]
theorem KZ (a b:Nat): -1<=jB a b/\jB a b<=1:=by grind [jB]
theorem YH {a:Int} (h:sg a≠sg x):nY a x=if sg a<sg x then -1 else 1:=by
 grind [sg,nY]
theorem YF {a:Int} (h:sg a=sg x):nY a x=sg a*jB a.natAbs x.natAbs:=by
 grind [sg,nY,jB]
theorem zK (a b:Int) (e:Bg a) (f:Bg b):CallC prog 106 [tZ a,tZ b] ⟨[],.raw (.int .i64 (nY a b))⟩:=by
 have g:=kh a e;have j:=kh b f;have t1:=km (aD a.natAbs) e.len;have t2:=km (aD b.natAbs) f.len;rw[kn]at t1 t2;have l:=N0 (aD a.natAbs) (aD b.natAbs) (aN _) (aN _) (di _) (di _) e.len f.len;rw[aJ,aJ]at l;have n:=JD a;have o:=JD b;have p:=KZ a.natAbs b.natAbs;have q: -1<=sg a*jB a.natAbs b.natAbs/\sg a*jB a.natAbs b.natAbs<=1:=by
  grind [sg]
 by_cases m:sg a=sg b
 ·rw[YF m];refine aB func106 rfl ntmps106 (aE (k:=dR [⟨1,_,_,_,g⟩,⟨3,_,_,_,j⟩] (k:=aj (ax (k:=aq rfl (al (dR [⟨3,_,_,_,t1⟩,⟨6,_,_,_,t2⟩,⟨7,_,_,_,l⟩] (k:=aI @results106))))))))
 rw[YH m];refine aB func106 rfl ntmps106 (aE (k:=dR [⟨1,_,_,_,g⟩,⟨3,_,_,_,j⟩] (k:=aj (ax (k:=aC rfl (aj (aZ (k:=?_))))))));by_cases c:sg a<sg b
 ·rw[if_pos c];refine aX rfl (fun _=>?_) (fun h=>by simp at h<;>omega);refine ax (k:=aI @results106)
 rw[if_neg c];refine aX rfl (fun h=>by simp at h<;>omega) (fun _=>al ?_);show bv _ _ _ _;refine ax (k:=aI @results106)
def sumL:List Nat->List Nat->Nat->List Nat
 |[],[],c=>[c]
 |a::m,[],c=>(c+a)%4294967296::sumL m [] ((c+a)/4294967296)
 |[],b::n,c=>(c+b)%4294967296::sumL [] n ((c+b)/4294967296)
 |a::m,b::n,c=>(c+a+b)%4294967296::sumL m n ((c+a+b)/4294967296)
theorem oR: ∀(m n:List Nat) (c:Nat),natV (sumL m n c)=natV m+natV n+c
 |[],[],c=>by simp[sumL,natV]
 |a::m,[],c=>by simp only[sumL,natV,oR m []];omega
 |[],b::n,c=>by simp only[sumL,natV,oR [] n];omega
 |a::m,b::n,c=>by simp only[sumL,natV,oR m n];omega
theorem fz {a:Nat}:Lmb (a::b)↔a<4294967296/\Lmb b:=by simp[Lmb]
theorem rl: ∀(m n:List Nat) (c:Nat),Lmb m->Lmb n->c<=1->Lmb (sumL m n c)
 |[],[],c,_,_,g=>by grind [sumL,Lmb]
 |a::m,[],c,e,f,g=>by
  rw[fz]at e;rw[sumL,fz];exact⟨afp _ (by omega),rl m [] _ e.2 f (by omega)⟩
 |[],b::n,c,e,f,g=>by
  rw[fz]at f;rw[sumL,fz];exact⟨afp _ (by omega),rl [] n _ e f.2 (by omega)⟩
 |a::m,b::n,c,e,f,g=>by
  rw[fz]at e f;rw[sumL,fz];exact⟨afp _ (by omega),rl m n _ e.2 f.2 (by omega)⟩
theorem wz: ∀(m n:List Nat) (c:Nat),(sumL m n c).length=max m.length n.length+1
 |[],[],c=>by simp[sumL]
 |a::m,[],c=>by simp[sumL,wz m []]
 |[],b::n,c=>by simp[sumL,wz [] n]
 |a::m,b::n,c=>by simp[sumL,wz m n]
theorem fX {i a:Nat} (h:b[i]?=some a):b.drop i=a::b.drop (i+1):=by
 grind [List.drop_eq_getElem_cons]
theorem fY {i:Nat} (h:b.length<=i):b.drop i=[]:=List.drop_eq_nil_iff.2 h
theorem e7 {i a:Nat} (c:Lmb b) (h:b[i]?=some a):a<4294967296:=c a (adQ h)
theorem SP (x:Nat):IntKind.u32.wrap (x:Int)=((x%4294967296:Nat):Int):=by rfl
theorem s32 (x:Nat):(x:Int).fdiv (2^(min 32 IntKind.u64.bits))=((x/4294967296:Nat):Int):=by
 show Int.fdiv (x:Int) 4294967296=_;grind
structure aep (m n:List Nat) where
 i:Nat
 o:List Nat
 c:Nat
 hi:i<=max m.length n.length
 hc:c<=1
 ho:o.length=i
 h:o++sumL (m.drop i) (n.drop i) c=sumL m n 0
theorem ad5 (m n:List Nat) (x:Lmb m) (t:Lmb n) (y:m.length<=1073741824) (z:n.length<=1073741824):
  CallC prog 172 [eY m,eY n] ⟨[],eY (sumL m n 0)⟩:=by
 refine aB func172 rfl ntmps172 (aE (k:=aZ (k:=aZ (k:=aj (aZ (k:=?_))))));refine ay (G:=aep m n) (fun g=>⟨(eY m::eY n::jk::jk::.raw (.slice none 0 0)::.one (.sl 46 0 0 g.o.length)::.raw (.int .u64 (g.c:Int))::rN g.i::j16 (j16 (j4 (j4 (j4 (jk::jk::[])))))),Hm [(46,[⟨165,1,lc fU g.o⟩])]⟩) (fun g=>max m.length n.length-g.i) ⟨0,[],0,by omega,by omega,rfl,rfl⟩ ?_ ?_
 ·refine(ca (k:=5) (d:=46) 165 1 (by omega) rfl rfl).trans (ak ⟨rfl,trivial⟩ ?_);simp[wk]
 rintro⟨i,o,c,B,A,r,h⟩;simp only;have w:max m.length n.length<=1073741824:=by omega
 by_cases v:i<m.length
 ·obtain⟨a,l⟩:=getElem?_of_lt v;have u:=e7 x l;refine aj (ax (k:=aC rfl (al (aj (ao (aj (ax (k:=aC rfl (dz l (k:=aj (aZ (k:=?_))))))))))));by_cases q:i<n.length
  ·obtain⟨b,f⟩:=getElem?_of_lt q;have p:=e7 t f;refine aX rfl (fun _=>?_) (fun h=>by simp at h<;>omega);refine dz f (k:=?_);show bv _ _ _ _;have e:IntKind.u32.wrap ((c:Int)+(a:Int)+(b:Int))=(((c+a+b)%4294967296:Nat):Int):=by rfl
   have j:Int.fdiv ((c:Int)+(a:Int)+(b:Int)) (2^(min 32 IntKind.u64.bits))=(((c+a+b)/4294967296:Nat):Int):=by rw[<- s32];rfl
   refine aF (aG e @lG) (k:=df j (k:=bK (k:=?_)));refine⟨⟨i+1,o++[(c+a+b)%4294967296],(c+a+b)/4294967296,by omega,by omega,by simp[r],?_⟩,by simp only;omega,ak ⟨rfl,trivial⟩ ?_⟩
   ·rw[<- h,fX l,fX f,sumL,ae8];rfl
   simp[wk]
  refine aX rfl (fun h=>by simp at h<;>omega) (fun _=>al ?_);show bv _ _ _ _;have e:IntKind.u32.wrap ((c:Int)+(a:Int))=(((c+a)%4294967296:Nat):Int):=by rfl
  have j:Int.fdiv ((c:Int)+(a:Int)) (2^(min 32 IntKind.u64.bits))=(((c+a)/4294967296:Nat):Int):=by rw[<- s32];rfl
  refine aF (aG e @lG) (k:=df j (k:=bK (k:=?_)));refine⟨⟨i+1,o++[(c+a)%4294967296],(c+a)/4294967296,by omega,by omega,by simp[r],?_⟩,by simp only;omega,ak ⟨rfl,trivial⟩ ?_⟩
  ·rw[<- h,fX l,fY (by omega:n.length<=i),fY (by omega:n.length<=i+1),sumL,ae8];rfl
  simp[wk]
 by_cases q:i<n.length
 ·obtain⟨b,f⟩:=getElem?_of_lt q;have p:=e7 t f;refine aj (ax (k:=aC rfl (al (aj (ao (aj (ax (k:=aq rfl (al (aj (ax (k:=aC rfl (dz f (k:=?_))))))))))))));show bv _ _ _ _;have e:IntKind.u32.wrap ((c:Int)+(b:Int))=(((c+b)%4294967296:Nat):Int):=by rfl
  have j:Int.fdiv ((c:Int)+(b:Int)) (2^(min 32 IntKind.u64.bits))=(((c+b)/4294967296:Nat):Int):=by rw[<- s32];rfl
  refine aF (aG e @lG) (k:=df j (k:=bK (k:=?_)));refine⟨⟨i+1,o++[(c+b)%4294967296],(c+b)/4294967296,by omega,by omega,by simp[r],?_⟩,by simp only;omega,ak ⟨rfl,trivial⟩ ?_⟩
  ·rw[<- h,fX f,fY (by omega:m.length<=i),fY (by omega:m.length<=i+1),sumL,ae8];rfl
  simp[wk]
 refine aj (ax (k:=aq rfl (aT ?_)));show bv _ _ _ _;have e:IntKind.u32.wrap (c:Int)=(c:Int):=by rw[SP];omega
 refine aF (aG e @lG) (k:=?_);have s:sumL m n 0=o++[c]:=by grind [fY,sumL]
 (refine aM ⟨.inr rfl,dI 46 (bj rfl) ?_ rfl⟩;simp(disch:=omega) only[kd,results172,eY])
 grind
def diffL:List Nat->List Nat->Nat->List Nat
 |[],_,_=>[]
 |a::m,[],w=>(a+8589934592-w)%4294967296::diffL m [] (if a<w then 1 else 0)
 |a::m,b::n,w=>(a+8589934592-(w+b))%4294967296::diffL m n (if a<w+b then 1 else 0)
theorem kQ: ∀(m n:List Nat) (w:Nat),Lmb m->Lmb n->w<=1->n.length<=m.length->natV n+w<=natV m->natV (diffL m n w)+(natV n+w)=natV m
 |[],[],w,_,_,_,_,h=>by grind [diffL,natV]
 |[],b::n,w,_,_,_,h,_=>by simp at h
 |a::m,[],w,c,e,g,f,h=>by
  rw[fz]at c;simp only[natV]at h;have:=kQ m [] (if a<w then 1 else 0) c.2 e (by grind) (by simp) (by grind [natV]);grind [diffL,natV]
 |a::m,b::n,w,c,e,g,f,h=>by
  rw[fz]at c e;simp only[natV]at h;have:=kQ m n (if a<w+b then 1 else 0) c.2 e.2 (by grind) (by grind) (by grind);grind [diffL,natV]
theorem mD: ∀(m n:List Nat) (w:Nat),Lmb (diffL m n w)
 |[],n,w=>by simp[diffL,Lmb]
 |a::m,[],w=>by rw[diffL,fz];exact⟨afp _ (by omega),mD m [] _⟩
 |a::m,b::n,w=>by rw[diffL,fz];exact⟨afp _ (by omega),mD m n _⟩
theorem my: ∀(m n:List Nat) (w:Nat),(diffL m n w).length=m.length
 |[],n,w=>by simp[diffL]
 |a::m,[],w=>by simp[diffL,my m []]
 |a::m,b::n,w=>by simp[diffL,my m n]
structure ads (m n:List Nat) where
 i:Nat
 o:List Nat
 c:Nat
 hi:i<=m.length
 hc:c<=1
 ho:o.length=i
 h:o++diffL (m.drop i) (n.drop i) c=diffL m n 0
theorem pN (m n:List Nat) (v:Lmb m) (w:Lmb n) (x:m.length<=1073741824) (y:n.length<=1073741824):
  CallC prog 173 [eY m,eY n] ⟨[],eY (diffL m n 0)⟩:=by
 refine aB func173 rfl ntmps173 (aE (k:=aZ (k:=aZ (k:=aj (aZ (k:=?_))))));refine ay (G:=ads m n) (fun g=>⟨(eY m::eY n::jk::jk::.raw (.slice none 0 0)::.one (.sl 37 0 0 g.o.length)::.raw (.int .u64 (g.c:Int))::rN g.i::j16 (j16 (j4 (jk::jk::[])))),Hm [(37,[⟨165,1,lc fU g.o⟩])]⟩) (fun g=>m.length-g.i) ⟨0,[],0,by omega,by omega,rfl,rfl⟩ ?_ ?_
 ·refine(ca (k:=5) (d:=37) 165 1 (by omega) rfl rfl).trans (ak ⟨rfl,trivial⟩ ?_);simp[wk]
 rintro⟨i,o,c,A,z,l,h⟩;simp only;by_cases t:i<m.length
 ·obtain⟨a,f⟩:=getElem?_of_lt t;have r:=e7 v f;refine aj (ax (k:=aC rfl (al (aj (ao (aZ (k:=aj (aZ (k:=?_)))))))));by_cases u:i<n.length
  ·obtain⟨b,j⟩:=getElem?_of_lt u;have s:=e7 w j;refine aX rfl (fun _=>?_) (fun h=>by simp at h<;>omega);refine dz j (k:=?_);show bv _ _ _ _;have p:IntKind.u32.wrap (IntKind.u64.wrap ((a:Int)-((c:Int)+(b:Int))))=(((a+8589934592-(c+b))%4294967296:Nat):Int):=by rw[ahi,afK];omega
   refine aF (aG f (aG p @lG)) (k:=aZ (k:=aF f (k:=?_)));by_cases e:a<c+b
   ·refine aX rfl (fun _=>?_) (fun h=>by simp at h<;>omega);refine bK (k:=bK (k:=?_));refine⟨⟨i+1,o++[(a+8589934592-(c+b))%4294967296],1,by omega,by omega,by simp[l],?_⟩,by simp only;omega,ak ⟨rfl,trivial⟩ ?_⟩
    ·rw[<- h,fX f,fX j,diffL,ae8,if_pos e];rfl
    simp[wk]
   refine aX rfl (fun h=>by simp at h<;>omega) (fun _=>al ?_);show bv _ _ _ _;refine bK (k:=?_);refine⟨⟨i+1,o++[(a+8589934592-(c+b))%4294967296],0,by omega,by omega,by simp[l],?_⟩,by simp only;omega,ak ⟨rfl,trivial⟩ ?_⟩
   ·rw[<- h,fX f,fX j,diffL,ae8,if_neg e];rfl
   simp[wk]
  refine aX rfl (fun h=>by simp at h<;>omega) (fun _=>al ?_);show bv _ _ _ _;have p:IntKind.u32.wrap (IntKind.u64.wrap ((a:Int)-(c:Int)))=(((a+8589934592-c)%4294967296:Nat):Int):=by rw[ahi,afK];omega
  refine aF (aG f (aG p @lG)) (k:=aZ (k:=aF f (k:=?_)));by_cases e:a<c
  ·refine aX rfl (fun _=>?_) (fun h=>by simp at h<;>omega);refine bK (k:=bK (k:=?_));refine⟨⟨i+1,o++[(a+8589934592-c)%4294967296],1,by omega,by omega,by simp[l],?_⟩,by simp only;omega,ak ⟨rfl,trivial⟩ ?_⟩
   ·rw[<- h,fX f,fY (by omega:n.length<=i),fY (by omega:n.length<=i+1),diffL,ae8,if_pos e];rfl
   simp[wk]
  refine aX rfl (fun h=>by simp at h<;>omega) (fun _=>al ?_);show bv _ _ _ _;refine bK (k:=?_);refine⟨⟨i+1,o++[(a+8589934592-c)%4294967296],0,by omega,by omega,by simp[l],?_⟩,by simp only;omega,ak ⟨rfl,trivial⟩ ?_⟩
  ·rw[<- h,fX f,fY (by omega:n.length<=i),fY (by omega:n.length<=i+1),diffL,ae8,if_neg e];rfl
  simp[wk]
 refine aj (ax (k:=aq rfl (aT (aZ (k:=?_)))));have q:diffL m n 0=o:=by grind [diffL]
 (refine aM ⟨.inr rfl,dI 37 (bj rfl) ?_ rfl⟩;simp(disch:=omega) only[kd,results173,eY])
 grind
abbrev Bh (z:Int):Prop:=Sz z 536870912
theorem Bh.bg (h:Bh x):Bg x:=h.mono (by omega)
theorem Bh.len (h:Bh x):(aD x.natAbs).length<=536870912:=kM h
theorem Sz.neg {k:Nat} (h:Sz x k):Sz (-x) k:=by grind [Sz]
theorem Bh.neg (h:Bh x):Bh (-x):=Sz.neg h
theorem TF {a:Int} (h:decide (a<0)=decide (x<0)):jd (decide (a<0)) (a.natAbs+x.natAbs)=a+x:=by
 grind [jd]
theorem Hx {a:Int} (h:decide (a<0)≠decide (x<0)) (c:x.natAbs<=a.natAbs) {d:Nat} (e:d+(x.natAbs+0)=a.natAbs):jd (decide (a<0)) d=a+x:=by
 grind [jd]
theorem lK {m:List Nat} (f:Lmb b) (c:zJ m) (h:natV m<=natV b):m.length<=b.length:=by
 by_cases e:m.length<=b.length
 ·exact e
 have:=lL f c (by omega);omega
theorem ql (a b:Int) (o:Bh a) (p:Bh b):CallC prog 123 [tZ a,tZ b] ⟨[],tZ (a+b)⟩:=by
 have q:=o.len;have r:=p.len;have t1:=km (aD a.natAbs) o.bg.len;have t2:=km (aD b.natAbs) p.bg.len;rw[kn]at t1 t2;by_cases l:decide (a<0)=decide (b<0)
 ·have f:=ad5 (aD a.natAbs) (aD b.natAbs) (aN _) (aN _) (by omega) (by omega);have e:=kO (decide (a<0)) (sumL (aD a.natAbs) (aD b.natAbs) 0) (rl _ _ _ (aN _) (aN _) (by omega)) (by rw[wz];omega);rw[oR,aJ,aJ,ago,TF l]at e;have c:(decide (a<0)==decide (b<0))=true:=by simp[l]
  refine aB func123 rfl ntmps123 (aE (k:=dR [⟨2,_,_,_,t1⟩,⟨5,_,_,_,t2⟩] (k:=aj (aF c (k:=aC rfl (dR [⟨4,_,_,_,f⟩,⟨5,_,_,_,e⟩] (k:=aI @results123)))))))
 have c:(decide (a<0)==decide (b<0))=false:=by grind
 have f:=N0 (aD a.natAbs) (aD b.natAbs) (aN _) (aN _) (di _) (di _) (by omega) (by omega);rw[aJ,aJ]at f;by_cases n:b.natAbs<=a.natAbs
 ·have m:0<=jB a.natAbs b.natAbs:=by grind [jB]
  have e:=pN (aD a.natAbs) (aD b.natAbs) (aN _) (aN _) (by omega) (by omega);have g:=kO (decide (a<0)) (diffL (aD a.natAbs) (aD b.natAbs) 0) (mD _ _ _) (by rw[my];omega);have j:=kQ (aD a.natAbs) (aD b.natAbs) 0 (aN _) (aN _) (by omega) (lK (aN _) (di _) (by grind [aJ])) (by grind [aJ]);rw[aJ,aJ]at j;rw[Hx l n j]at g;refine aB func123 rfl ntmps123 (aE (k:=dR [⟨2,_,_,_,t1⟩,⟨5,_,_,_,t2⟩] (k:=aj (aF c (k:=aq rfl (al (aj (bD [⟨2,_,_,_,f⟩] (k:=aC rfl (dR [⟨4,_,_,_,e⟩,⟨5,_,_,_,g⟩] (k:=aI @results123)))))))))))
 have m:jB a.natAbs b.natAbs<0:=by grind [jB]
 have e:=pN (aD b.natAbs) (aD a.natAbs) (aN _) (aN _) (by omega) (by omega);have g:=kO (decide (b<0)) (diffL (aD b.natAbs) (aD a.natAbs) 0) (mD _ _ _) (by rw[my];omega);have j:=kQ (aD b.natAbs) (aD a.natAbs) 0 (aN _) (aN _) (by omega) (lK (aN _) (di _) (by grind [aJ])) (by grind [aJ]);rw[aJ,aJ]at j;rw[Hx (fun h=>l h.symm) (by omega) j,Int.add_comm]at g;refine aB func123 rfl ntmps123 (aE (k:=dR [⟨2,_,_,_,t1⟩,⟨5,_,_,_,t2⟩] (k:=aj (aF c (k:=aq rfl (al (aj (bD [⟨2,_,_,_,f⟩] (k:=aq rfl (al (dR [⟨4,_,_,_,e⟩,⟨5,_,_,_,g⟩] (k:=aI @results123))))))))))))
theorem ta (a b:Int) (g:Bh a) (e:Bh b):CallC prog 77 [tZ a,tZ b] ⟨[],tZ (a-b)⟩:=by
 have f:=I4 b e.bg;have c:=ql a (-b) g e.neg;rw[<- aiM]at c;refine aB func77 rfl ntmps77 (aE (k:=dR [⟨2,_,_,_,f⟩,⟨3,_,_,_,c⟩] (k:=aI @results77)))
theorem oQ: ∀(l:List Nat) (k v o:Nat),l[k]?=some o->natV (l.set k v)+o*4294967296^k=natV l+v*4294967296^k
 |[],k,v,o,h=>by simp at h
 |a::l,0,v,o,h=>by grind [natV]
 |a::l,k+1,v,o,h=>by
  simp at h;have:=oQ l k v o h;simp only[ag4,natV,af3];grind
theorem pV (h:Lmb b) {k:Nat} (e:n<4294967296):Lmb (b.set k n):=fun a c=>by
 rcases af5 c with c|rfl
 ·exact h a c
 exact e
theorem ke (n:Nat):natV (af n 0)=0:=by induction n with
 |zero=>rfl
 |succ n b=>simp[agG,natV,b]
theorem iN {i a:Nat} (h:b[i]?=some a):natV (b.take (i+1))=natV (b.take i)+a*4294967296^i:=by
 grind [List.take_succ_eq_append_getElem,yx,natV]
theorem pU (n:Nat):af n [AV.p (.raw (.int .u32 0))]=lc fU (af n 0):=by simp[lc,fU]
theorem ir (l:List Nat) (k v:Nat):(lc fU l).set k [AV.p (.raw (.int .u32 (v:Int)))]=lc fU (l.set k v):=by simp_all[lc,fU]
structure P9 (A B:List Nat) where
 i:Nat
 O:List Nat
 hi:i<=A.length
 len:O.length=A.length+B.length
 lmb:Lmb O
 val:natV O=natV (A.take i)*natV B
 zero: ∀k,i+B.length<=k->k<A.length+B.length->O[k]?=some 0
structure S7 (A B:List Nat) (i a:Nat) where
 j:Nat
 O:List Nat
 c:Nat
 hj:j<=B.length
 len:O.length=A.length+B.length
 lmb:Lmb O
 hc:c<4294967296
 val:natV O+c*4294967296^(i+j)=natV (A.take i)*natV B+a*natV (B.take j)*4294967296^i
 zero: ∀k,i+B.length<=k->k<A.length+B.length->O[k]?=some 0
theorem sr {a:Nat} (c:a<4294967296) (e:n<4294967296):a*n<=18446744065119617025:=by
 have:a*n<=4294967295*4294967295:=afd (by omega) (by omega);omega
theorem DM {B:List Nat} {i a:Nat} (g:S7 b B i a) {o:Nat} (q:B[g.j]?=some n) (p:g.O[i+g.j]?=some o) (w:i<b.length) (r:a<4294967296) (h:n<4294967296):
  ∃e:S7 b B i a,e.j=g.j+1/\e.O=g.O.set (i+g.j) ((g.c+(a*n+o))%4294967296)/\e.c=(g.c+(a*n+o))/4294967296:=by
 have f:g.j<B.length:=(aeI.1 q).1;have s:=e7 g.lmb p;have u:=sr r h;have v:=g.hc;refine⟨⟨g.j+1,g.O.set (i+g.j) ((g.c+(a*n+o))%4294967296),(g.c+(a*n+o))/4294967296,f,by simp[g.len],pV g.lmb (afp _ (by omega)),?_,?_,fun k l m=>?_⟩,rfl,rfl,rfl⟩
 ·omega
 ·have l:=oQ g.O (i+g.j) ((g.c+(a*n+o))%4294967296) o p;have m:=iN q;have t:=g.val;grind [Nat.mod_add_div]
 rw[afB (by omega)];exact g.zero k l m
theorem DL {B:List Nat} {i a:Nat} (m:b[i]?=some a) (g:S7 b B i a) (q: ¬g.j<B.length): ∃f:P9 b B,f.i=i+1/\f.O=g.O.set (i+B.length) g.c:=by
 have n:=(aeI.1 m).1;have o:=g.hj;have e:g.j=B.length:=by omega
 have p:=g.zero (i+B.length) (aeJ _) (by omega);refine⟨⟨i+1,g.O.set (i+B.length) g.c,n,by simp[g.len],pV g.lmb g.hc,?_,fun k l h=>?_⟩,rfl,rfl⟩
 ·have l:=oQ g.O (i+B.length) g.c 0 p;have h:=g.val;grind [iN]
 rw[afB (by omega)];exact g.zero k (by omega) h
theorem OS (a b:Int):jd (!(decide (a<0)==decide (b<0))) (a.natAbs*b.natAbs)=a*b:=by
 grind [jd]
abbrev uy (neg:Bool) (A:List Nat):List OObj:=[⟨65,2,[[.p (.raw (.bool neg)),.p (.sl (ls fU A))]]⟩]
abbrev sX:List OObj:=[⟨65,2,[[.raw (.bool false),.raw (.slice none 0 0)]]⟩]
theorem gu (a b:Int) (P:Bh a) (D:Bh b):CallC prog 78 [tZ a,tZ b] ⟨[],tZ (a*b)⟩:=by
 have Y:=P.len;have Z:=D.len;have t:=aN a.natAbs;have u:=aN b.natAbs;have vA:=aJ a.natAbs;have vB:=aJ b.natAbs;refine b6 func78 rfl (by kernel_rfl) ?_;rw[ntmps78];refine am fun _ K=>?_;simp(disch:=omega) only[kd,aa,tZ,af,ae];apply K
 generalize aD a.natAbs=A at*
 generalize aD b.natAbs=B at*
 have I:((A.length:Int)+(B.length:Int)).toNat=A.length+B.length:=by omega
 refine am fun _ K=>?_;simp(disch:=omega) only[kd,aa,ae,aH,I,pU];apply K
 refine aj (am fun _ K=>?_);simp(disch:=omega) only[kd,aa,ae];apply K;refine ay (G:=P9 A B) (fun g=>⟨(jk::jk::.one (.ptr 2 0 0 0)::.one (.ptr 3 0 0 0)::.one (.ptr 4 0 0 0)::.one (.sl 18 0 0 (A.length+B.length))::j4 (j4 (j4 (jk::jk::eY A::rN A.length::rN g.i::j16 (j16 (j16 (j4 (jk::jk::[])))))))),Hm [(2,uy (decide (a<0)) A),(3,uy (decide (b<0)) B),(4,sX),(18,[⟨165,1,lc fU g.O⟩])]⟩) (fun g=>A.length-g.i) ⟨0,af (A.length+B.length) 0,by omega,by simp,fun x f=>by simp at f;omega,by simp[ke,natV],fun k V N=>by rw[agC,if_pos N]⟩ ?_ ?_
 ·refine ak ⟨rfl,rfl,rfl,rfl,trivial⟩ ?_;simp[wk]
 rintro⟨i,O,W,len,lmb,val,zero⟩;simp only;by_cases F:i<A.length
 ·obtain⟨x,f⟩:=getElem?_of_lt F;have h:=e7 t f;refine am fun _ K=>?_;simp(disch:=omega) only[kd,eY];apply K
  refine aP rfl ?_;refine aj (ao ?_);refine am fun _ K=>?_;simp(disch:=omega) only[kd,aa,f];apply K
  refine am fun _ K=>?_;simp only[kd];apply K
  refine aj (am fun _ K=>?_);simp(disch:=omega) only[kd,aa,ae];apply K;refine ay (G:=S7 A B i x) (fun g=>⟨(jk::jk::.one (.ptr 2 0 0 0)::.one (.ptr 3 0 0 0)::.one (.ptr 4 0 0 0)::.one (.sl 18 0 0 (A.length+B.length))::rN i::.raw (.int .u32 (x:Int))::.raw (.int .u64 (g.c:Int))::j4 (j4 (jk::jk::jk::eY A::rN A.length::rN i::j4 (jk::eY B::rN B.length::rN g.j::j16 (j16 (j4 (j4 (j4 (jk::jk::[]))))))))),Hm [(2,uy (decide (a<0)) A),(3,uy (decide (b<0)) B),(4,sX),(18,[⟨165,1,lc fU g.O⟩])]⟩) (fun g=>B.length-g.j) ⟨0,O,0,by omega,len,lmb,by omega,by simpa[natV] using val,zero⟩ ?_ ?_
  ·refine ak ⟨rfl,rfl,rfl,rfl,trivial⟩ ?_;simp[wk]
  intro g;by_cases H:g.j<B.length
  ·obtain⟨y,v⟩:=getElem?_of_lt H;have l:=e7 u v;have E:=g.len;obtain⟨o,n⟩:=getElem?_of_lt (show i+g.j<g.O.length by omega);have S:=e7 g.lmb n;have D:=sr h l;have s:=g.hc;obtain⟨r,w,z,U⟩:=DM g v n F h l;have m:((i:Int)+(g.j:Int)).toNat=i+g.j:=by omega
   have J:(x:Int)*(y:Int)=((x*y:Nat):Int):=by simp
   generalize X:x*y=p at*
   have q:IntKind.u32.wrap ((g.c:Int)+((p:Int)+(o:Int)))=(((g.c+(p+o))%4294967296:Nat):Int):=by rfl
   have L:Int.fdiv ((g.c:Int)+((p:Int)+(o:Int))) (2^(min 32 IntKind.u64.bits))=(((g.c+(p+o))/4294967296:Nat):Int):=by grind [s32]
   refine am fun _ K=>?_;simp(disch:=omega) only[kd,eY];apply K
   refine aP rfl ?_;refine aj (ao ?_);refine am fun _ K=>?_;simp(disch:=omega) only[kd,aa,v];apply K
   refine am fun _ K=>?_;simp(disch:=omega) only[kd,aa,eD,J,aH,m,ae,n];apply K
   refine am fun _ K=>?_;simp(disch:=omega) only[kd,aa,aH,q,m,ae,n,ir];apply K
   refine cJ fun _ K=>?_;simp only[kd,aa,Int.reduceLE,Int.reduceToNat,L];apply K
   show bv _ _ _ _;refine cJ fun _ K=>?_;simp(disch:=omega) only[kd,aH];apply K
   refine⟨r,by omega,ak ⟨rfl,rfl,rfl,by rw[z];rfl,trivial⟩ ?_⟩;simp[wk,w,U]
  have Q:=g.hj;have s:=g.hc;have R:=g.len;obtain⟨r,w,z⟩:=DL f g H;have m:((i:Int)+(B.length:Int)).toNat=i+B.length:=by omega
  have q:IntKind.u32.wrap (g.c:Int)=(g.c:Int):=by rw[SP];omega
  refine am fun _ K=>?_;simp(disch:=omega) only[kd,eY];apply K
  refine aQ rfl ?_;show bv _ _ _ _;have T:=g.zero (i+B.length) (aeJ _) (by omega);refine cJ fun _ K=>?_;simp(disch:=omega) only[kd,aa,ae,aH,q,m,T,ir];apply K
  show bv _ _ _ _;refine cJ fun _ K=>?_;simp(disch:=omega) only[kd,aH];apply K
  refine⟨r,by omega,ak ⟨rfl,rfl,rfl,by rw[z];rfl,trivial⟩ ?_⟩;simp[wk,w]
 have e:natV O=a.natAbs*b.natAbs:=by
  grind
 have C:=kO (!(decide (a<0)==decide (b<0))) O lmb (by omega);rw[e,OS]at C;refine am fun _ K=>?_;simp(disch:=omega) only[kd,eY];apply K
 refine aQ rfl ?_;show bv _ _ _ _;refine bv.weak (bR 18 (bj rfl)) ?_;have M:List.take (A.length+B.length) O=O:=aeS (by omega);simp(disch:=omega) only[kd,tZ,ae,M];refine bf [⟨6,_,_,_,C⟩] [] fun _ K=>?_;simp(disch:=omega) only[kd,eY,tZ,aa,ae];apply K
 (refine aM ⟨.inr rfl,bQ rfl ?_ rfl⟩;simp(disch:=omega) only[kd,results78,ae,aa])
def dblL:List Nat->Nat->List Nat
 |[],b=>[b]
 |x::l,b=>(2*x+b)%4294967296::dblL l (x/2147483648)
theorem DQ: ∀(l:List Nat) (b:Nat),Lmb l->b<=1->natV (dblL l b)=2*natV l+b
 |[],b,_,_=>by simp[dblL,natV]
 |x::l,b,c,e=>by
  rw[fz]at c;have f:=c.1;simp only[dblL,natV,DQ l (x/2147483648) c.2 (by omega)];omega
theorem IW: ∀(l:List Nat) (b:Nat),Lmb l->b<=1->Lmb (dblL l b)
 |[],b,_,e=>by grind [dblL,Lmb]
 |x::l,b,c,e=>by
  rw[fz]at c;have f:=c.1;rw[dblL,fz];exact⟨afp _ (by omega),IW l _ c.2 (by omega)⟩
theorem In: ∀(l:List Nat) (b:Nat),(dblL l b).length=l.length+1
 |[],b=>rfl
 |x::l,b=>by simp[dblL,In l]
theorem Bz (a b n:Nat) (h:b<2^n):(a*2^n)|||b=a*2^n+b:=by
 have:=Nat.shiftLeft_add_eq_or_of_lt h a;grind [Nat.shiftLeft_eq]
theorem O3 (a b n:Nat) (h:b<2^n):b|||(a*2^n)=a*2^n+b:=by rw[Nat.or_comm,Bz a b n h]
theorem ZD (a b:Nat) (c:a<4294967296) (f:b<4294967296):IntKind.u32.wrap (((BitVec.ofInt IntKind.u32.bits (a:Int)|||BitVec.ofInt IntKind.u32.bits (b:Int)).toNat:Nat):Int)=((a|||b:Nat):Int):=by
 rw[SP];show(((BitVec.ofInt 32 (a:Int)|||BitVec.ofInt 32 (b:Int)).toNat%4294967296:Nat):Int)=_;rw[BitVec.toNat_or];have e: ∀x:Nat,x<4294967296->(BitVec.ofInt 32 (x:Int)).toNat=x:=fun x g=>by grind
 grind
theorem ZE (a b:Nat) (c:a<18446744073709551616) (f:b<18446744073709551616):IntKind.u64.wrap (((BitVec.ofInt IntKind.u64.bits (a:Int)|||BitVec.ofInt IntKind.u64.bits (b:Int)).toNat:Nat):Int)=((a|||b:Nat):Int):=by
 rw[afK];show((BitVec.ofInt 64 (a:Int)|||BitVec.ofInt 64 (b:Int)).toNat:Int)%_=_;rw[BitVec.toNat_or];have e: ∀x:Nat,x<18446744073709551616->(BitVec.ofInt 64 (x:Int)).toNat=x:=fun x g=>by grind
 grind
theorem adE (a b:Nat) (c:a<4294967296) (e:b<4294967296):IntKind.u32.wrap (((BitVec.ofInt IntKind.u32.bits (a:Int)&&&BitVec.ofInt IntKind.u32.bits (b:Int)).toNat:Nat):Int)=((a&&&b:Nat):Int):=by
 rw[SP];show(((BitVec.ofInt 32 (a:Int)&&&BitVec.ofInt 32 (b:Int)).toNat%4294967296:Nat):Int)=_;grind [Nat.and_le_left]
structure aek (l:List Nat) (b:Nat) where
 i:Nat
 o:List Nat
 c:Nat
 hi:i<=l.length
 hc:c<=1
 ho:o.length=i
 h:o++dblL (l.drop i) c=dblL l b
theorem Ur (l:List Nat) (b:Nat) (u:Lmb l) (r:b<=1) (v:l.length<=1073741824):CallC prog 221 [eY l,.raw (.int .u32 (b:Int))] ⟨[],eY (dblL l b)⟩:=by
 refine aB func221 rfl ntmps221 (aE (k:=aZ (k:=aj (aZ (k:=?_)))));refine ay (G:=aek l b) (fun g=>⟨(eY l::.raw (.int .u32 (g.c:Int))::jk::jk::.raw (.slice none 0 0)::.one (.sl 20 0 0 g.o.length)::jk::jk::eY l::rN l.length::rN g.i::j16 (jk::[])),Hm [(20,[⟨165,1,lc fU g.o⟩])]⟩) (fun g=>l.length-g.i) ⟨0,[],b,by omega,r,rfl,rfl⟩ ?_ ?_
 ·refine(ca (k:=5) (d:=20) 165 1 (by omega) rfl rfl).trans (ak ⟨rfl,trivial⟩ ?_);simp[wk]
 rintro⟨i,o,c,x,w,t,h⟩;simp only;by_cases s:i<l.length
 ·obtain⟨a,e⟩:=getElem?_of_lt s;have q:=e7 u e;have m:IntKind.u32.wrap ((a:Int)*2^min 1 IntKind.u32.bits)=((2*a%4294967296:Nat):Int):=by
   rw[<- SP];congr 1;show(a:Int)*2=_;omega
  have f:=ZD (2*a%4294967296) c (by omega) (by omega);have n:(2*a%4294967296)|||c=(2*a+c)%4294967296:=by
   have:=Bz (a%2147483648) c 1 (by omega);grind
  rw[n]at f;have p:Int.fdiv (a:Int) (2^(min 31 IntKind.u32.bits))=((a/2147483648:Nat):Int):=by
   show Int.fdiv (a:Int) 2147483648=_;grind
  refine ax (k:=aP rfl (aj (ao (aF e (k:=aF (aG m (aG f @lG)) (k:=df p (k:=bK (k:=?_))))))));refine⟨⟨i+1,o++[(2*a+c)%4294967296],a/2147483648,by omega,by omega,by simp[t],?_⟩,by simp only;omega,ak ⟨rfl,trivial⟩ ?_⟩
  ·rw[<- h,fX e,dblL,ae8];rfl
  simp[wk]
 refine ax (k:=aQ rfl (aF @lG (k:=?_)));have j:dblL l b=o++[c]:=by grind [dblL]
 (refine aM ⟨.inr rfl,dI 20 (bj rfl) ?_ rfl⟩;simp(disch:=omega) only[kd,results221,eY])
 grind
structure adu (l:List Nat) where
 i:Nat
 u:Nat
 hi:i<=l.length/\i<=2
 hu:u=natV (l.take i)
theorem vC (h:Lmb b) (k:Nat):natV (b.take k)<4294967296^k:=by
 grind [Lmb,j9,Nat.lt_of_lt_of_le,Nat.pow_le_pow_right,List.length_take]
theorem Vh (l:List Nat) (q:Lmb l) (v:l.length<=1073741824):CallC prog 73 [eY l] ⟨[],.raw (.int .u64 (natV (l.take 2):Nat))⟩:=by
 refine aB func73 rfl ntmps73 (aE (k:=aZ (k:=aj (aZ (k:=?_)))));refine ay (G:=adu l) (fun g=>⟨(eY l::jk::.raw (.int .u64 0)::.raw (.int .u64 (g.u:Int))::rN g.i::j16 (j4 (jk::[]))),Hm []⟩) (fun g=>l.length-g.i) ⟨0,0,⟨by omega,by omega⟩,rfl⟩ ?_ ?_
 ·refine ak trivial ?_;simp[wk]
 rintro⟨i,u,x,p⟩;simp only;have b:=vC q i;rw[<- p]at b;by_cases n:i<l.length/\i<2
 ·obtain⟨a,h⟩:=getElem?_of_lt n.1;have r:=e7 q h;have t:=n.2;have s:=n.1;have o:=iN h;rw[<- p]at o;refine aj (ax (k:=aC rfl (al (aj (ao ?_)))));have m:i=0\/i=1:=by omega
  rcases m with rfl|rfl
  ·have j:IntKind.u64.wrap ((a:Int)*2^min (32*((0:Nat):Int)).toNat IntKind.u64.bits)=(a:Int):=by
    grind [IntKind.wrap_u64]
   have f:u=0:=by omega
   have c:=ZE u a (by omega) (by omega);rw[f,Nat.zero_or,<- f]at c;refine dz (aG h (aG j c)) (k:=bK (k:=?_));refine⟨⟨1,a,⟨by omega,by omega⟩,by grind⟩,by grind,ak trivial ?_⟩;simp[wk]
  have j:IntKind.u64.wrap ((a:Int)*2^min (32*((1:Nat):Int)).toNat IntKind.u64.bits)=((a*4294967296:Nat):Int):=by
   rw[afK];show((a:Int)*4294967296)%_=_;omega
  simp only[Nat.pow_one]at b;have c:=ZE u (a*4294967296) (by omega) (by omega);rw[show a*4294967296=a*2^32 from rfl,O3 _ _ _ b,show a*2^32=a*4294967296 from rfl]at c;refine dz (aG h (aG j c)) (k:=bK (k:=?_));refine⟨⟨2,a*4294967296+u,⟨by omega,by omega⟩,by grind⟩,by grind,ak trivial ?_⟩;simp[wk]
 have e:u=natV (l.take 2):=by
  grind
 rw[<- e];by_cases w:i<l.length
 ·refine aj (ax (k:=aq rfl (aT (aZ (k:=aI @results73)))))
 refine aj (ax (k:=aq rfl (aT (aZ (k:=aI @results73)))))
def kK (z:Int):TV:=if -9223372036854775808<=z/\z<=9223372036854775807 then .tup [(false,[.p (.raw (.int .i64 z))]),(false,[.p (.raw (.bool true))])]else .tup [(false,[.p (.raw (.int .i64 0))]),(false,[.p (.raw (.bool false))])]
theorem Bj (h:2<(aD n).length):18446744073709551616<=n:=by
 grind [aD]
theorem jJ {n:Nat} (h:(aD n).length<=2):n<18446744073709551616:=by
 grind [aD]
theorem nt (z:Int) (h:Bg z):CallC prog 33 [tZ z] ⟨[],kK z⟩:=by
 have b:=km (aD z.natAbs) h.len;rw[kn]at b;have c:=Vh (aD z.natAbs) (aN _) h.len;have l:=h.len;by_cases g:2<(aD z.natAbs).length
 ·have j:=Bj g;rw[show kK z= .tup [(false,[.p (.raw (.int .i64 0))]),(false,[.p (.raw (.bool false))])] by grind [kK]];refine aB func33 rfl ntmps33 (aE (k:=bu [⟨2,_,_,_,b⟩] (k:=bu [⟨1,_,_,_,c⟩] (k:=aj (ao (ax (k:=aC rfl (aZ (k:=aI @results33)))))))))
 have j:=jJ (n:=z.natAbs) (by omega);rw[aeS (by omega),aJ]at c;by_cases m:z<0
 ·have e:IntKind.i64.wrap (IntKind.u64.wrap (0-(z.natAbs:Int)))=z\/9223372036854775808<z.natAbs:=by
   grind [IntKind.wrap_u64,IntKind.wrap_i64]
  by_cases f:z.natAbs<=9223372036854775808
  ·replace e:=e.resolve_right (by omega)
   rw[show kK z= .tup [(false,[.p (.raw (.int .i64 z))]),(false,[.p (.raw (.bool true))])] by grind [kK]];refine aB func33 rfl ntmps33 (aE (k:=bu [⟨2,_,_,_,b⟩] (k:=bu [⟨1,_,_,_,c⟩] (k:=aj (ao (ax (k:=aq rfl (ax (k:=aC rfl (d9 e (k:=aI @results33)))))))))))
  rw[show kK z= .tup [(false,[.p (.raw (.int .i64 0))]),(false,[.p (.raw (.bool false))])] by grind [kK]];refine aB func33 rfl ntmps33 (aE (k:=bu [⟨2,_,_,_,b⟩] (k:=bu [⟨1,_,_,_,c⟩] (k:=aj (ao (ax (k:=aq rfl (ax (k:=aq rfl (ax (k:=aq rfl (al (aZ (k:=aI @results33))))))))))))))
 by_cases f:z.natAbs<9223372036854775808
 ·have e:IntKind.i64.wrap (z.natAbs:Int)=z:=by rw[IntKind.wrap_i64];omega
  rw[show kK z= .tup [(false,[.p (.raw (.int .i64 z))]),(false,[.p (.raw (.bool true))])] by grind [kK]];refine aB func33 rfl ntmps33 (aE (k:=bu [⟨2,_,_,_,b⟩] (k:=bu [⟨1,_,_,_,c⟩] (k:=aj (ao (ax (k:=aq rfl (ax (k:=aq rfl (ax (k:=aC rfl (d9 e (k:=aI @results33)))))))))))))
 rw[show kK z= .tup [(false,[.p (.raw (.int .i64 0))]),(false,[.p (.raw (.bool false))])] by grind [kK]];refine aB func33 rfl ntmps33 (aE (k:=bu [⟨2,_,_,_,b⟩] (k:=bu [⟨1,_,_,_,c⟩] (k:=aj (ao (ax (k:=aq rfl (ax (k:=aq rfl (ax (k:=aq rfl (al (aZ (k:=aI @results33))))))))))))))
theorem mW: ∀{l:List Nat} {i x:Nat},Lmb l->l[i]?=some x->natV l/4294967296^i%4294967296=x
 |[],i,x,_,h=>by simp at h
 |a::l,0,x,b,h=>by
  grind [fz,natV]
 |a::l,i+1,x,b,h=>by
  rw[fz]at b;have c:=b.1;simp at h;have:=mW b.2 h;rw[af3,ahl,<- aig];grind [natV]
theorem vK (i:Nat):4294967296^i=2^(32*i):=by rw[Nat.pow_mul]
theorem Qx {a k:Nat} (h:(aD a)[k/32]?=some n):n/2^(k%32)%2=a/2^k%2:=by
 have b:=mW (aN a) h;rw[aJ,vK]at b;rw[<- Nat.toNat_testBit,<- Nat.toNat_testBit,<- b,show(4294967296:Nat)=2^32 from rfl,Nat.testBit_mod_two_pow,Nat.testBit_div_two_pow];grind
structure abv (a b n:Nat) where
 t:Nat
 O:List Nat
 ht:t<=32*n
 len:O.length=n
 lmb:Lmb O
 val:natV O=a/2^t/b*2^t
theorem adR (a k:Nat):a/2^k=2*(a/2^(k+1))+a/2^k%2:=by
 rw[af3,<- aig];omega
theorem Um {a k:Nat} (j:0<n) (h:2*(a/2^(k+1)%n)+a/2^k%2<n):a/2^k/n=2*(a/2^(k+1)/n)/\a/2^k%n=2*(a/2^(k+1)%n)+a/2^k%2:=by
 have c:=adR a k;have f:=aij (a/2^(k+1)) n;generalize a/2^(k+1)=X at*
 generalize a/2^k%2=e at*
 generalize X%n=r at*
 generalize X/n=q at*
 have g:a/2^k=n*(2*q)+(2*r+e):=by grind
 grind [Nat.mul_add_div,Nat.div_eq_of_lt,Nat.mul_add_mod,Nat.mod_eq_of_lt]
theorem Ul {a k:Nat} (f:0<n) (h:n<=2*(a/2^(k+1)%n)+a/2^k%2):a/2^k/n=2*(a/2^(k+1)/n)+1/\a/2^k%n=2*(a/2^(k+1)%n)+a/2^k%2-n:=by
 have j:=adR a k;have l:=aij (a/2^(k+1)) n;have o:a/2^(k+1)%n<n:=afp _ f;have m:a/2^k%2<2:=afp _ (by omega);generalize a/2^(k+1)=X at*
 generalize a/2^k%2=e at*
 generalize X%n=r at*
 generalize X/n=q at*
 have g:a/2^k=n*(2*q+1)+(2*r+e-n):=by grind
 have c:2*r+e-n<n:=by omega
 rw[g];exact⟨by rw[Nat.mul_add_div f,aib c,ago],by rw[Nat.mul_add_mod,ahk c]⟩
theorem YS {a c k:Nat} (e:0<n) (f:k+1<=32*c) (len:b.length=c) (lmb:Lmb b) (val:natV b=a/2^(k+1)/n*2^(k+1)) (h:2*(a/2^(k+1)%n)+a/2^k%2<n): ∃g:abv a n c,g.t=k/\g.O=b:=
 ⟨⟨k,b,by omega,len,lmb,by grind [Um]⟩,rfl,rfl⟩
theorem YR {a c k x:Nat} (p:0<n) (u:k+1<=32*c) (len:b.length=c) (lmb:Lmb b) (val:natV b=a/2^(k+1)/n*2^(k+1)) (h:n<=2*(a/2^(k+1)%n)+a/2^k%2) (f:b[k/32]?=some x): ∃g:abv a n c,g.t=k/\g.O=b.set (k/32) (x|||2^(k%32)):=by
 have j:=e7 lmb f;have r:k%32<32:=afp _ (by omega);have e:x|||2^(k%32)<4294967296:=ah2 (n:=32) j (afZ (by omega) r);refine⟨⟨k,b.set (k/32) (x|||2^(k%32)),by omega,by simp[len],pV lmb e,?_⟩,rfl,rfl⟩;have l:=mW lmb f;have o:=oQ b (k/32) (x|||2^(k%32)) x f;have m:2^(k+1)=2^(32*(k/32))*2^(k%32+1):=by rw[<- af8];grind
 rw[vK]at l o;rw[(Ul p h).1];generalize a/2^(k+1)/n=q at*
 have s:x=q%2^(31-k%32)*2^(k%32+1):=by
  rw[<- l,val,m,ahl (2^(32*(k/32))),<- agj,ahT _ (agB (by omega))];rw[show(4294967296:Nat)=2^(31-k%32)*2^(k%32+1) by rw[<- af8,show 31-k%32+(k%32+1)=32 by omega],ahx]
 grind [Bz]
theorem Du {a:Nat} (h:(aD a).length=n):a/2^(32*n)=0:=by
 grind [j9,aN,aJ,vK,Nat.div_eq_of_lt]
end Go.Proofs.YtalmoejhjceflaaGreat
