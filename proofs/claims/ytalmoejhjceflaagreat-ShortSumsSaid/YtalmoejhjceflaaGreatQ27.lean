/-
  Part 28 of a proof (walks and plain facts).
-/
import Derived.Test.YtalmoejhjceflaaGreatQ26
set_option linter.all false
set_option maxRecDepth 100000
set_option maxHeartbeats 64000000
open Nat renaming reduceAdd → aa
open Nat renaming reduceEqDiff → ab
open List renaming replicate → ae
open Nat renaming reduceBEq → af
namespace Go.Proofs.YtalmoejhjceflaaGreat
open Go.RowKit Go.Proofs.Tryz
variable {n m:Nat} {b:List (List Int)} {x:Int}
def ky (z:Int):TV:=if -9223372036854775808<=z/\z<=9223372036854775807 then .tup [(false,[.p (.raw (.int .i64 z))]),(false,[.p (.raw (.bool true))])]else .tup [(false,[.p (.raw (.int .i64 0))]),(false,[.p (.raw (.bool false))])]
theorem Ac (h:2<(au n).length):18446744073709551616<=n:=by
 grind [au]
theorem i4 {n:Nat} (h:(au n).length<=2):n<18446744073709551616:=by
 grind [au]
theorem nY (z:Int) (h:Bg z):CallC prog 33 [tZ z] ⟨[],ky z⟩:=by
 have b:=jE (au z.natAbs) h.len;rw[jF]at b;have c:=Sj (au z.natAbs) (aI _) h.len;have l:=h.len;by_cases g:2<(au z.natAbs).length
 ·have j:=Ac g;rw[show ky z= .tup [(false,[.p (.raw (.int .i64 0))]),(false,[.p (.raw (.bool false))])] by grind [ky]];refine ax func33 rfl ntmps33 (aA (k:=bj [⟨2,_,_,_,b⟩] (k:=bj [⟨1,_,_,_,c⟩] (k:=ai (am (ar (k:=az rfl (bi (k:=aE @results33)))))))))
 have j:=i4 (n:=z.natAbs) (by omega);rw[ack (by omega),aG]at c;by_cases m:z<0
 ·have e:IntKind.i64.wrap (IntKind.u64.wrap (0-(z.natAbs:Int)))=z\/9223372036854775808<z.natAbs:=by
   grind [IntKind.wrap_u64,IntKind.wrap_i64]
  by_cases f:z.natAbs<=9223372036854775808
  ·replace e:=e.resolve_right (by omega)
   rw[show ky z= .tup [(false,[.p (.raw (.int .i64 z))]),(false,[.p (.raw (.bool true))])] by grind [ky]];refine ax func33 rfl ntmps33 (aA (k:=bj [⟨2,_,_,_,b⟩] (k:=bj [⟨1,_,_,_,c⟩] (k:=ai (am (ar (k:=ao rfl (ar (k:=az rfl (dR e (k:=aE @results33)))))))))))
  rw[show ky z= .tup [(false,[.p (.raw (.int .i64 0))]),(false,[.p (.raw (.bool false))])] by grind [ky]];refine ax func33 rfl ntmps33 (aA (k:=bj [⟨2,_,_,_,b⟩] (k:=bj [⟨1,_,_,_,c⟩] (k:=ai (am (ar (k:=ao rfl (ar (k:=ao rfl (ar (k:=ao rfl (ak (bi (k:=aE @results33))))))))))))))
 by_cases f:z.natAbs<9223372036854775808
 ·have e:IntKind.i64.wrap (z.natAbs:Int)=z:=by rw[afp];omega
  rw[show ky z= .tup [(false,[.p (.raw (.int .i64 z))]),(false,[.p (.raw (.bool true))])] by grind [ky]];refine ax func33 rfl ntmps33 (aA (k:=bj [⟨2,_,_,_,b⟩] (k:=bj [⟨1,_,_,_,c⟩] (k:=ai (am (ar (k:=ao rfl (ar (k:=ao rfl (ar (k:=az rfl (dR e (k:=aE @results33)))))))))))))
 rw[show ky z= .tup [(false,[.p (.raw (.int .i64 0))]),(false,[.p (.raw (.bool false))])] by grind [ky]];refine ax func33 rfl ntmps33 (aA (k:=bj [⟨2,_,_,_,b⟩] (k:=bj [⟨1,_,_,_,c⟩] (k:=ai (am (ar (k:=ao rfl (ar (k:=ao rfl (ar (k:=ao rfl (ak (bi (k:=aE @results33))))))))))))))
theorem l7: ∀{l:List Nat} {i x:Nat},Lmb l->l[i]?=some x->natV l/4294967296^i%4294967296=x
 |[],i,x,_,h=>by simp at h
 |a::l,0,x,b,h=>by
  grind [dJ,natV]
 |a::l,i+1,x,b,h=>by
  rw[dJ]at b;have c:=b.1;simp at h;have:=l7 b.2 h;rw[adk,adu,<- adI];grind [natV]
theorem uC (i:Nat):4294967296^i=2^(32*i):=by rw[Nat.pow_mul]
theorem NK {a k:Nat} (h:(au a)[k/32]?=some n):n/2^(k%32)%2=a/2^k%2:=by
 have b:=l7 (aI a) h;rw[aG,uC]at b;rw[<- Nat.toNat_testBit,<- Nat.toNat_testBit,<- b,show(4294967296:Nat)=2^32 from rfl,Nat.testBit_mod_two_pow,Nat.testBit_div_two_pow];grind
structure YZ (a b n:Nat) where
 t:Nat
 O:List Nat
 ht:t<=32*n
 len:O.length=n
 lmb:Lmb O
 val:natV O=a/2^t/b*2^t
theorem abr (a k:Nat):a/2^k=2*(a/2^(k+1))+a/2^k%2:=by
 rw[adk,<- adI];omega
theorem Rn {a k:Nat} (j:0<n) (h:2*(a/2^(k+1)%n)+a/2^k%2<n):a/2^k/n=2*(a/2^(k+1)/n)/\a/2^k%n=2*(a/2^(k+1)%n)+a/2^k%2:=by
 have c:=abr a k;have f:=aeB (a/2^(k+1)) n;generalize a/2^(k+1)=X at*
 generalize a/2^k%2=e at*
 generalize X%n=r at*
 generalize X/n=q at*
 have g:a/2^k=n*(2*q)+(2*r+e):=by grind
 grind [Nat.mul_add_div,Nat.div_eq_of_lt,Nat.mul_add_mod,Nat.mod_eq_of_lt]
theorem Rm {a k:Nat} (f:0<n) (h:n<=2*(a/2^(k+1)%n)+a/2^k%2):a/2^k/n=2*(a/2^(k+1)/n)+1/\a/2^k%n=2*(a/2^(k+1)%n)+a/2^k%2-n:=by
 have j:=abr a k;have l:=aeB (a/2^(k+1)) n;have o:a/2^(k+1)%n<n:=acM _ f;have m:a/2^k%2<2:=acM _ (by omega);generalize a/2^(k+1)=X at*
 generalize a/2^k%2=e at*
 generalize X%n=r at*
 generalize X/n=q at*
 have g:a/2^k=n*(2*q+1)+(2*r+e-n):=by grind
 have c:2*r+e-n<n:=by omega
 rw[g];exact⟨by rw[agk f,ae5 c,ac9],by rw[Nat.mul_add_mod,adR c]⟩
theorem VG {a k:Nat} {O:List Nat} (c:0<n) (e:k+1<=32*m) (len:O.length=m) (lmb:Lmb O) (val:natV O=a/2^(k+1)/n*2^(k+1)) (h:2*(a/2^(k+1)%n)+a/2^k%2<n): ∃g:YZ a n m,g.t=k/\g.O=O:=
 ⟨⟨k,O,by omega,len,lmb,by grind [Rn]⟩,rfl,rfl⟩
theorem VF {a k x:Nat} {O:List Nat} (p:0<n) (u:k+1<=32*m) (len:O.length=m) (lmb:Lmb O) (val:natV O=a/2^(k+1)/n*2^(k+1)) (h:n<=2*(a/2^(k+1)%n)+a/2^k%2) (e:O[k/32]?=some x): ∃g:YZ a n m,g.t=k/\g.O=O.set (k/32) (x|||2^(k%32)):=by
 have f:=bV lmb e;have r:k%32<32:=acM _ (by omega);have c:x|||2^(k%32)<4294967296:=afY (n:=32) f (adw (by omega) r);refine⟨⟨k,O.set (k/32) (x|||2^(k%32)),by omega,by simp[len],oL lmb c,?_⟩,rfl,rfl⟩;have j:=l7 lmb e;have o:=nB O (k/32) (x|||2^(k%32)) x e;have l:2^(k+1)=2^(32*(k/32))*2^(k%32+1):=by rw[<- adv];grind
 rw[uC]at j o;rw[(Rm p h).1];generalize a/2^(k+1)/n=q at*
 have s:x=q%2^(31-k%32)*2^(k%32+1):=by
  rw[<- j,val,l,adu (2^(32*(k/32))),<- ad1,aff _ (adg (by omega))];rw[show(4294967296:Nat)=2^(31-k%32)*2^(k%32+1) by rw[<- adv,show 31-k%32+(k%32+1)=32 by omega],afo]
 grind [qm]
theorem Ct {a:Nat} (h:(au a).length=n):a/2^(32*n)=0:=by
 grind [fF,aI,aG,uC,Nat.div_eq_of_lt]
theorem LQ {a:Nat} (h:n<=a):0<=iP a n:=by grind [iP]
theorem Q6 {a b:Nat} (h:a<b):iP a b<0:=by grind [qJ]
abbrev Gj (a b:Nat):TV:= .tup [(false,[.p (.sl (ls fU (au (a/b))))]),(false,[.p (.sl (ls fU (au (a%b))))])]
theorem sH {a:Nat} (h:a<=n):(au a).length<=(au n).length:=kE (aI _) (cb _) (by grind [aG])
theorem Ro (a b:Nat) (s:0<b) (la:(au a).length<=536870912) (lb:(au b).length<=536870912):CallC prog 186 [cW (au a),cW (au b)] ⟨[],Gj a b⟩:=by
 by_cases hs:(au a).length<=2/\(au b).length<=2
 ·obtain⟨U,V⟩:=hs;have ua:=i4 U;have ub:=i4 V;have p:=Sj (au a) (aI _) (by omega);have e:=Sj (au b) (aI _) (by omega);rw[ack U,aG]at p;rw[ack V,aG]at e;have C:a/b<=a:=aeC _ _;have D:a%b<b:=acM _ s;have c:=Fg false (a/b) (by omega);have u:=Fg false (a%b) (by omega);rw[show iq false (a/b)=((a/b:Nat):Int)from rfl]at c;rw[show iq false (a%b)=((a%b:Nat):Int)from rfl]at u;have F:(b:Int)≠0:=by omega
  have z:IntKind.u64.wrap (Int.tdiv (a:Int) (b:Int))=((a/b:Nat):Int):=by
   grind [IntKind.wrap_u64]
  have A:Int.tmod (a:Int) (b:Int)=((a%b:Nat):Int):=by
   rfl
  unfold Gj;generalize a/b=q at*
  generalize a%b=r at*
  refine ax func186 rfl ntmps186 (aA (k:=ai (ar (k:=az rfl (bj [⟨1,_,_,_,p⟩,⟨3,_,_,_,e⟩] (k:=ch [⟨3,_,_,_,c⟩,⟨8,_,_,_,u⟩] (aC @afM (aC (@ne_eq.{1}) (aC F (aC @not_false_eq_true (aC z A))))) (k:=aE @results186)))))))
 refine ax func186 rfl ntmps186 (aA (k:=?_));by_cases c:(au a).length<=2
 all_goals
  (first|refine aw fun _ K=>?_|refine ai (aw fun _ K=>?_)|refine ai (ai (aw fun _ K=>?_)));simp(disch:=omega) only[kd,aa];apply K
  first|refine ao rfl (ak ?_)|refine bs rfl (fun h=>by simp at h<;>omega) (fun _=>ak ?_)
  show bA _ _ _ _
  (first|refine aw fun _ K=>?_|refine ai (aw fun _ K=>?_)|refine ai (ai (aw fun _ K=>?_)));simp(disch:=omega) only[kd,aa,lj];apply K
  (first|refine aw fun _ K=>?_|refine ai (aw fun _ K=>?_)|refine ai (ai (aw fun _ K=>?_)));simp(disch:=omega) only[kd,aa,aL];apply K
  refine ay (G:=YZ a b (au a).length) (fun g=>⟨(cW (au a)::cW (au b)::jk::jk::.one (.sl 33 0 0 (au a).length)::cW (au (a/2^g.t%b))::jk::jk::.raw (.int .i64 ((g.t:Int)-1))::j16 (j16 (j16 (j16 (jk::jk::[]))))),Hm [(33,[⟨165,1,lc fU g.O⟩])]⟩) (fun g=>g.t) ⟨32*(au a).length,ae (au a).length 0,by omega,by simp,fun x v=>by simp at v;omega,by rw[ju,Ct rfl];simp⟩ ?_ ?_
  ·refine(cz (k:=5) (d:=900) 165 1 (by omega) rfl rfl).trans ((bF 900 (bf (f:=fU) (l:=[]) rfl)).trans (aj ⟨rfl,trivial⟩ ?_));simp[wk,fk,dP,Ct rfl,cn];rfl
  rintro⟨t,O,T,len,lmb,val⟩;simp only;cases t with
  |zero=>
   have o:=jE O (by omega);rw[dw lmb,val]at o;simp only[agX,Nat.div_one,afh]at o;simp only[agX,Nat.div_one]
   (first|refine aw fun _ K=>?_|refine ai (aw fun _ K=>?_)|refine ai (ai (aw fun _ K=>?_)));simp(disch:=omega) only[kd,cW];apply K
   first|refine ao rfl (aX ?_)|refine bs rfl (fun h=>by simp at h<;>omega) (fun _=>aX ?_)
   show bA _ _ _ _;refine bA.weak (bF 33 (bf rfl)) ?_;have Y:List.take (au a).length O=O:=ack (by omega);simp(disch:=omega) only[kd,Y]
   (first|refine bC [⟨1,_,_,_,o⟩] [] fun _ K=>?_|refine ai (bC [⟨1,_,_,_,o⟩] [] fun _ K=>?_)|refine ai (ai (bC [⟨1,_,_,_,o⟩] [] fun _ K=>?_)));simp only[kd,cW,aa];apply K
   (refine aQ ⟨.inr rfl,b8 rfl ?_ rfl⟩;simp(disch:=omega) only[kd,results186])
  |succ k=>
   have Z:((k+1:Nat):Int)-1=(k:Int):=by omega
   simp only[Z];have H:k/32<(au a).length:=by omega
   obtain⟨x,v⟩:=getElem?_of_lt H;have ac:=bV (aI a) v;obtain⟨y,L⟩:=getElem?_of_lt (show k/32<O.length by omega);have M:=bV lmb L;have w:=NK v;have C:IntKind.i64.wrap (Int.tdiv (k:Int) 32)=((k/32:Nat):Int):=by
    grind [IntKind.wrap_i64]
   have D:Int.tmod (k:Int) 32=((k%32:Nat):Int):=by rfl
   have S:min (k%32) IntKind.u32.bits=k%32:=by show min (k%32) 32=_;omega
   have z:Int.fdiv (x:Int) (2^min (k%32) IntKind.u32.bits)=((x/2^(k%32):Nat):Int):=by
    grind
   have ad:x/2^(k%32)<=x:=aeC _ _;have A:IntKind.u32.wrap (((BitVec.ofInt IntKind.u32.bits ((x/2^(k%32):Nat):Int)&&&BitVec.ofInt IntKind.u32.bits (1:Int)).toNat:Nat):Int)=((a/2^k%2:Nat):Int):=by
    rw[<- w,<- Nat.and_one_is_mod];exact abh (x/2^(k%32)) 1 (by omega) (by omega)
   have ab:a/2^k%2<2:=acM _ (by omega);have J:a/2^(k+1)%b<b:=acM _ s;have lr:=sH (aeR J);have p:=Rr (au (a/2^(k+1)%b)) (a/2^k%2) (aI _) (by omega) (by omega);have e:=jE (dblL (au (a/2^(k+1)%b)) (a/2^k%2)) (by rw[Gh];omega);rw[dw (GS _ _ (aI _) (by omega)),CN _ _ (aI _) (by omega),aG]at e;by_cases j:b<=2*(a/2^(k+1)%b)+a/2^k%2
   ·obtain⟨E,P,Q⟩:=VF s T len lmb val j L;have m:=(Rm s j).2;have N:=lI (n:=2*(a/2^(k+1)%b)+a/2^k%2) (k:=(au b).length+1) (by
     grind [fF,aI,aG])
    generalize 2*(a/2^(k+1)%b)+a/2^k%2=R at*
    have c:=LR (au R) (au b) (aI _) (aI _) (cb _) (cb _) (by omega) (by omega);rw[aG,aG]at c;have hc:=LQ j;have u:=oD (au R) (au b) (aI _) (aI _) (by omega) (by omega);have B:=jE (diffL (au R) (au b) 0) (by rw[lF];omega);have hd:=j5 (au R) (au b) 0 (aI _) (aI _) (by omega) (sH j) (by grind [aG]);rw[aG,aG]at hd;rw[dw (lJ _ _ _),show natV (diffL (au R) (au b) 0)=a/2^k%b by omega]at B;have I:2^(k%32)<4294967296:=adw (a:=2) (n:=32) (by omega) (acM _ (by omega));have W:IntKind.u32.wrap (1*2^min (k%32) IntKind.u32.bits)=((2^(k%32):Nat):Int):=by
     grind [BT]
    have X:=Wx y (2^(k%32)) M I
    (first|refine aw fun _ K=>?_|refine ai (aw fun _ K=>?_)|refine ai (ai (aw fun _ K=>?_)));simp(disch:=omega) only[kd,cW];apply K
    first|refine az rfl (ak ?_)|refine bs rfl (fun _=>ak ?_) (fun h=>by simp at h<;>omega)
    refine ai (am ?_)
    (first|refine bC [⟨10,_,_,_,p⟩,⟨11,_,_,_,e⟩] [] fun _ K=>?_|refine ai (bC [⟨10,_,_,_,p⟩,⟨11,_,_,_,e⟩] [] fun _ K=>?_)|refine ai (ai (bC [⟨10,_,_,_,p⟩,⟨11,_,_,_,e⟩] [] fun _ K=>?_)));simp(disch:=omega) only[kd,cW,aa,C,v,D,z,A,af];apply K
    (first|refine bC [⟨2,_,_,_,c⟩] [] fun _ K=>?_|refine ai (bC [⟨2,_,_,_,c⟩] [] fun _ K=>?_)|refine ai (ai (bC [⟨2,_,_,_,c⟩] [] fun _ K=>?_)));simp(disch:=omega) only[kd,cW,aa];apply K
    first|refine az rfl ?_|refine bs rfl (fun _=>?_) (fun h=>by simp at h<;>omega)
    (first|refine bC [⟨2,_,_,_,u⟩,⟨3,_,_,_,B⟩] [] fun _ K=>?_|refine ai (bC [⟨2,_,_,_,u⟩,⟨3,_,_,_,B⟩] [] fun _ K=>?_)|refine ai (ai (bC [⟨2,_,_,_,u⟩,⟨3,_,_,_,B⟩] [] fun _ K=>?_)));simp only[kd,cW,aa,af];apply K
    refine pQ (aC C (aC L (aC D (aC W (aC X @cX))))) (k:=bu (k:=?_));refine⟨E,by omega,aj ⟨by rw[Q];rfl,trivial⟩ ?_⟩;simp[wk,P]
   obtain⟨E,P,Q⟩:=VG s T len lmb val (by omega);have m:=(Rn (a:=a) (k:=k) s (by omega)).2;rw[<- m]at e j;have N:=sH (aeR (acM (a/2^k) s));have c:=LR (au (a/2^k%b)) (au b) (aI _) (aI _) (cb _) (cb _) (by omega) (by omega);rw[aG,aG]at c;have hc:=Q6 (a:=a/2^k%b) (b:=b) (by omega)
   (first|refine aw fun _ K=>?_|refine ai (aw fun _ K=>?_)|refine ai (ai (aw fun _ K=>?_)));simp(disch:=omega) only[kd,cW];apply K
   first|refine az rfl (ak ?_)|refine bs rfl (fun _=>ak ?_) (fun h=>by simp at h<;>omega)
   refine ai (am ?_)
   (first|refine bC [⟨10,_,_,_,p⟩,⟨11,_,_,_,e⟩] [] fun _ K=>?_|refine ai (bC [⟨10,_,_,_,p⟩,⟨11,_,_,_,e⟩] [] fun _ K=>?_)|refine ai (ai (bC [⟨10,_,_,_,p⟩,⟨11,_,_,_,e⟩] [] fun _ K=>?_)));simp(disch:=omega) only[kd,cW,aa,C,v,D,z,A,af];apply K
   (first|refine bC [⟨2,_,_,_,c⟩] [] fun _ K=>?_|refine ai (bC [⟨2,_,_,_,c⟩] [] fun _ K=>?_)|refine ai (ai (bC [⟨2,_,_,_,c⟩] [] fun _ K=>?_)));simp(disch:=omega) only[kd,cW,aa];apply K
   first|refine ao rfl (ak ?_)|refine bs rfl (fun h=>by simp at h<;>omega) (fun _=>ak ?_)
   show bA _ _ _ _;refine bu (k:=?_);refine⟨E,by omega,aj ⟨by rw[Q];rfl,trivial⟩ ?_⟩;simp[wk,P]
theorem TS {P:Program} {q t n:Nat} (h:i7 P t=some n) (b:n≠1): ∀x∈[(m,q,t)],i7 P x.2.2≠some 1:=fun x c=>by
 grind
theorem Kv {s:AS} {t a r i j b g e f:Nat} (v:s.tmps[n]?=some (.one (.ptr a r i j))) (w:s.tmps[m]?=some (.one (.ptr b g e f))) (c:b≠a):Fv [(n,m,t)] s:=fun x y h D z B l E A C o u=>by
 grind
def tq (a b:Int):Int:=iq (!(decide (a<0)==decide (b<0))) (a.natAbs/b.natAbs)
def tr (a b:Int):Int:=iq (decide (a<0)) (a.natAbs%b.natAbs)
theorem TX (a b:Int):tr a b+b*tq a b=a:=by
 have h:=aeB a.natAbs b.natAbs;have c:(b.natAbs:Int)*((a.natAbs/b.natAbs:Nat):Int)+((a.natAbs%b.natAbs:Nat):Int)=(a.natAbs:Int):=by
  omega
 unfold tq tr iq;grind
theorem TY (a b:Int):(tr a b).natAbs=a.natAbs%b.natAbs:=uW _ _
theorem TW (a b:Int):(tq a b).natAbs=a.natAbs/b.natAbs:=uW _ _
theorem Nf {a b:Int} (c:b≠0):(tr a b).natAbs<b.natAbs:=by simp_all[TY,acM]
theorem Ju {a b:Int} (c:b≠0) (h:0<=tr a b):a/b=tq a b/\a%b=tr a b:=by
 have e:=TX a b;have f:=Nf (a:=a) c;grind [Int.ediv_emod_unique',Int.ediv_emod_unique]
theorem L4 {a b:Int} (c:b<0) (h:tr a b<0):a/b=tq a b+1/\a%b=tr a b+b.natAbs:=by
 have e:=TX a b;have f:=Nf (a:=a) (b:=b) (by omega);refine(Int.ediv_emod_unique' c).2 ⟨?_,by omega,by omega⟩;grind
theorem L5 {a b:Int} (c:0<b) (h:tr a b<0):a/b=tq a b-1/\a%b=tr a b+b.natAbs:=by
 have e:=TX a b;have f:=Nf (a:=a) (b:=b) (by omega);refine(afx c).2 ⟨?_,by omega,by omega⟩;grind
theorem Sz.le {y:Int} {k:Nat} (h:Sz y k) (b:x.natAbs<=y.natAbs):Sz x k:=adn b h
theorem pb {k:Nat} (h:0<k):Sz 1 k:=by grind [Sz]
theorem QP:Bh 1:=pb (by omega)
theorem Tw (h:x<0):sg x= -1:=by simp[sg,h]
theorem C7 {z:Int} (h:0<=z):0<=sg z:=by grind [sg]
theorem Fp (a b:Int) (g:b≠0) (x:Bh a) (s:Bh b):CallC prog 129 [tZ a,tZ b] ⟨[],.tup [(true,cZ (a/b)),(true,cZ (a%b)),(false,[.p (.raw (.bool true))])]⟩:=by
 have E:=x.len;have F:=s.len;have t1:=jE (au a.natAbs) x.bg.len;have t2:=jE (au b.natAbs) s.bg.len;rw[jF]at t1 t2;have D:(au b.natAbs).length≠0:=fun h=>g (by grind [gU])
 have y:=Ro a.natAbs b.natAbs (by omega) E F;have u:Bh (tq a b):=x.le (by simp_all[TW,aeC]);have v:Bh (tr a b):=s.le (aeR (Nf g));have c:=jZ (!(decide (a<0)==decide (b<0))) (au (a.natAbs/b.natAbs)) (aI _) (by have:=u.bg.len;grind [TW]);have e:=jZ (decide (a<0)) (au (a.natAbs%b.natAbs)) (aI _) (by have:=v.bg.len;grind [TY]);rw[aG,show iq _ _=tq a b from rfl]at c;rw[aG,show iq _ _=tr a b from rfl]at e;have t:=kW (tr a b) v.bg;have G:= @Ju a b g;have H:= @L4 a b;have I:= @L5 a b;generalize tq a b=Q at*
 generalize tr a b=R at*
 by_cases w:R<0
 ·have j:=jZ false (au b.natAbs) (aI _) (by omega);rw[aG,show iq false b.natAbs=((b.natAbs:Nat):Int)from rfl]at j;have C:=rD R (b.natAbs:Int) v (by grind [Sz]);have m:=kW b s.bg;have B:=fh 1 (by omega) (by omega);rw[Tw w]at t;by_cases r:b<0
  ·obtain⟨o,q⟩:=H r w;rw[o,q];rw[Tw r]at m;have f:=rD Q 1 u QP;refine ax func129 rfl ntmps129 (aA (k:=da [⟨2,_,_,_,t1⟩,⟨5,_,_,_,t2⟩] (k:=ai (ar (k:=ao rfl (ak (bj [⟨2,_,_,_,y⟩] (k:=da [⟨6,_,_,_,c⟩,⟨10,_,_,_,e⟩] (k:=?_)))))))));refine bA.weak (aj (tm:=(jk::jk::.one (.ptr 2 0 0 0)::.one (.ptr 3 0 0 0)::.one (.ptr 4 0 0 0)::.one (.ptr 5 0 0 0)::.raw (.bool false)::jk::cW (au b.natAbs)::jk::jk::.one (.ptr 11 0 0 0)::.one (.ptr 12 0 0 0)::j16 (j16 (j16 ([]))))) (l:=[(2,tc (decide (a<0)) (au a.natAbs)),(3,tc true (au b.natAbs)),(4,ru),(5,ru),(11,tc (decide (Q<0)) (au Q.natAbs)),(12,tc true (au R.natAbs))]) ⟨rfl,rfl,rfl,rfl,rfl,rfl,trivial⟩ (by simp[wk])) ?_;refine ai (bE [⟨1,_,_,_,t⟩] (k:=az rfl (da [⟨2,_,_,_,j⟩,⟨3,_,_,_,C⟩] (k:=ai (bE [⟨1,_,_,_,m⟩] (k:=az rfl ?_))))));refine yN [(12,4,65)] cu [⟨1,_,_,_,B⟩,⟨2,_,_,_,f⟩] [] (by kernel_rfl) (TS (n:=2) (by simp only[yr,vq,rq,pi,yq,vp,pj,Br,vt,pe,Fc,yp,vr]) (by decide)) (Kv rfl rfl (by decide)) fun _ K=>?_;simp(disch:=omega) only[kd,tZ,aa,ab,af];apply K
   (refine aQ ⟨.inr rfl,b8 rfl ?_ rfl⟩;simp(disch:=omega) only[kd,results129,ab,aa,cZ])
  obtain⟨o,q⟩:=I (by omega) w;rw[o,q];have A:=C7 (z:=b) (by omega);have f:=wQ Q 1 u QP;refine ax func129 rfl ntmps129 (aA (k:=da [⟨2,_,_,_,t1⟩,⟨5,_,_,_,t2⟩] (k:=ai (ar (k:=ao rfl (ak (bj [⟨2,_,_,_,y⟩] (k:=da [⟨6,_,_,_,c⟩,⟨10,_,_,_,e⟩] (k:=?_)))))))));refine bA.weak (aj (tm:=(jk::jk::.one (.ptr 2 0 0 0)::.one (.ptr 3 0 0 0)::.one (.ptr 4 0 0 0)::.one (.ptr 5 0 0 0)::.raw (.bool false)::jk::cW (au b.natAbs)::jk::jk::.one (.ptr 11 0 0 0)::.one (.ptr 12 0 0 0)::j16 (j16 (j16 ([]))))) (l:=[(2,tc (decide (a<0)) (au a.natAbs)),(3,tc false (au b.natAbs)),(4,ru),(5,ru),(11,tc (decide (Q<0)) (au Q.natAbs)),(12,tc true (au R.natAbs))]) ⟨rfl,rfl,rfl,rfl,rfl,rfl,trivial⟩ (by simp[wk])) ?_;refine ai (bE [⟨1,_,_,_,t⟩] (k:=az rfl (da [⟨2,_,_,_,j⟩,⟨3,_,_,_,C⟩] (k:=ai (bE [⟨1,_,_,_,m⟩] (k:=ao rfl (ak ?_)))))));refine yN [(12,4,65)] cu [⟨1,_,_,_,B⟩,⟨2,_,_,_,f⟩] [] (by kernel_rfl) (TS (n:=2) (by simp only[yr,vq,rq,pi,yq,vp,pj,Br,vt,pe,Fc,yp,vr]) (by decide)) (Kv rfl rfl (by decide)) fun _ K=>?_;simp(disch:=omega) only[kd,tZ,aa,ab,af];apply K
  (refine aQ ⟨.inr rfl,b8 rfl ?_ rfl⟩;simp(disch:=omega) only[kd,results129,ab,aa,cZ])
 obtain⟨o,q⟩:=G (by omega);rw[o,q];have A:=C7 (z:=R) (by omega);refine ax func129 rfl ntmps129 (aA (k:=da [⟨2,_,_,_,t1⟩,⟨5,_,_,_,t2⟩] (k:=ai (ar (k:=ao rfl (ak (bj [⟨2,_,_,_,y⟩] (k:=da [⟨6,_,_,_,c⟩,⟨10,_,_,_,e⟩] (k:=?_)))))))));refine bA.weak (aj (tm:=(jk::jk::.one (.ptr 2 0 0 0)::.one (.ptr 3 0 0 0)::.one (.ptr 4 0 0 0)::.one (.ptr 5 0 0 0)::.raw (.bool false)::jk::cW (au b.natAbs)::jk::jk::.one (.ptr 11 0 0 0)::.one (.ptr 12 0 0 0)::j16 (j16 (j16 ([]))))) (l:=[(2,tc (decide (a<0)) (au a.natAbs)),(3,tc (decide (b<0)) (au b.natAbs)),(4,ru),(5,ru),(11,tc (decide (Q<0)) (au Q.natAbs)),(12,tc false (au R.natAbs))]) ⟨rfl,rfl,rfl,rfl,rfl,rfl,trivial⟩ (by simp[wk])) ?_;refine ai (bE [⟨1,_,_,_,t⟩] (k:=ao rfl (ak ?_)));refine yN [(12,4,65)] cu [] [] (by kernel_rfl) (TS (n:=2) (by simp only[yr,vq,rq,pi,yq,vp,pj,Br,vt,pe,Fc,yp,vr]) (by decide)) (Kv rfl rfl (by decide)) fun _ K=>?_;simp(disch:=omega) only[kd,aa,ab];apply K
 (refine aQ ⟨.inr rfl,b8 rfl ?_ rfl⟩;simp(disch:=omega) only[kd,results129,ab,aa,cZ])
theorem wO (a b:Int) (c:b≠0) (f:Bh a) (g:Bh b):CallC prog 76 [tZ a,tZ b] ⟨[],tZ (a/b)⟩:=by
 have e:=Fp a b c f g;refine ax func76 rfl ntmps76 (aA (k:=bE [⟨2,_,_,_,e⟩] (k:=ar (k:=aE @results76))))
abbrev rOk (n:Nat) (r:List Int):Prop:=1<=r.length/\r.length<=16/\r.length=n
def IL (M:List (List Int)):Prop:=1<=M.length/\M.length<=16/\ ∀r∈M,rOk (M.headD []).length r
instance (M:List (List Int)):Decidable (IL M):=by unfold IL;exact inferInstance
def shT (M:List (List Int)):TV:=if IL M then .tup [(false,[.p (.raw (.int .i64 (M.length:Int)))]),(false,[.p (.raw (.int .i64 ((M.headD []).length:Int)))]),(false,[.p (.raw (.bool true))])]
 else .tup [(false,[.p (.raw (.int .i64 0))]),(false,[.p (.raw (.int .i64 0))]),(false,[.p (.raw (.bool false))])]
theorem iC (h: ¬IL b):shT b= .tup [(false,[.p (.raw (.int .i64 0))]),(false,[.p (.raw (.int .i64 0))]),(false,[.p (.raw (.bool false))])]:=by grind [shT]
theorem jB (h:IL b):shT b= .tup [(false,[.p (.raw (.int .i64 (b.length:Int)))]),(false,[.p (.raw (.int .i64 ((b.headD []).length:Int)))]),(false,[.p (.raw (.bool true))])]:=by grind [shT]
theorem kw {M:List (List Int)} (h:1<=M.length):M[0]?=some (M.headD []):=by cases M with
 |nil=>simp at h
 |cons r M=>rfl
structure ShG (M:List (List Int)) where
 i:Nat
 hi:i<=M.length
 ok: ∀r∈M.take i,rOk (M.headD []).length r
theorem tp (M:List (List Int)):CallC prog 113 [dr M] ⟨[],shT M⟩:=by
 by_cases p:M.length<1
 ·rw[iC (fun h=>by have:=h.1;omega)];refine ax func113 rfl ntmps113 (aA (k:=ai (ar (k:=az rfl (bi (k:=aE @results113))))))
 by_cases q:16<M.length
 ·rw[iC (fun h=>by have:=h.2.1;omega)];refine ax func113 rfl ntmps113 (aA (k:=ai (ar (k:=az rfl (bi (k:=aE @results113))))))
 have e:=kw (M:=M) (by omega);refine ax func113 rfl ntmps113 (aA (k:=ai (ar (k:=ao rfl (ak (ai (bi (k:=?_))))))));refine ay (G:=ShG M) (fun g=>⟨(dr M::jk::.raw (.int .i64 0)::.raw (.int .i64 0)::.raw (.bool false)::j4 (j4 (jk::jk::dr M::rN M.length::rN g.i::j16 (j4 (j4 (jk::jk::jk::[])))))),Hm []⟩) (fun g=>M.length-g.i) ⟨0,by omega,fun r c=>by simp at c⟩ ?_ ?_
 ·refine aj trivial ?_;simp[wk]
 rintro⟨i,s,ok⟩;simp only;by_cases j:i<M.length
 ·obtain⟨r,c⟩:=getElem?_of_lt j;have b:r∈M:=acd c;refine ar (k:=aV rfl (ai (am (aH c (k:=?_)))));by_cases m:r.length<1
  ·rw[iC (fun h=>by have:=(h.2.2 r b).1;omega)];refine ar (k:=az rfl (bi (k:=aE @results113)))
  by_cases n:16<r.length
  ·rw[iC (fun h=>by have:=(h.2.2 r b).2.1;omega)];refine ar (k:=az rfl (bi (k:=aE @results113)))
  by_cases o:r.length=(M.headD []).length
  ·refine aH e (k:=ao rfl (ak (bu (k:=?_))));refine⟨⟨i+1,by omega,fun t l=>?_⟩,by simp only;omega,aj trivial ?_⟩
   ·grind [List.take_add_one]
   simp[wk]
  rw[iC (fun h=>by have:=(h.2.2 r b).2.2;omega)];refine aH e (k:=az rfl (bi (k:=aE @results113)))
 have f:IL M:=⟨by omega,by omega,fun r c=>ok r (by grind)⟩;rw[jB f];refine ar (k:=aW rfl (gM e (k:=aE @results113)))
def SqP (M:List (List Int)):Prop:=IL M/\M.length=(M.headD []).length
instance (M:List (List Int)):Decidable (SqP M):=by unfold SqP;exact inferInstance
def YL (M:List (List Int)):TV:=if SqP M then .tup [(false,[.p (.raw (.int .i64 (M.length:Int)))]),(false,[.p (.raw (.bool true))])]else .tup [(false,[.p (.raw (.int .i64 0))]),(false,[.p (.raw (.bool false))])]
theorem Fw (M:List (List Int)):CallC prog 102 [dr M] ⟨[],YL M⟩:=by
 have b:=tp M;by_cases c:IL M
 ·rw[jB c]at b;by_cases e:M.length=(M.headD []).length
  ·rw[show YL M=_ from if_pos ⟨c,e⟩];refine ax func102 rfl ntmps102 (aA (k:=bj [⟨1,_,_,_,b⟩] (k:=ai (ar (k:=ao rfl (ak (bi (k:=aE @results102))))))))
  rw[show YL M=_ from if_neg (fun h=>e h.2)];refine ax func102 rfl ntmps102 (aA (k:=bj [⟨1,_,_,_,b⟩] (k:=ai (ar (k:=az rfl (bi (k:=aE @results102)))))))
 rw[iC c]at b;rw[show YL M=_ from if_neg (fun h=>c h.1)];refine ax func102 rfl ntmps102 (aA (k:=bj [⟨1,_,_,_,b⟩] (k:=ai (ar (k:=az rfl (bi (k:=aE @results102)))))))
def l9 (d:Nat) (l:List Nat):List (List AV):=l.mapIdx fun k c=>[.sl d (k+1) 0 c]
def qv (r:List Int):OObj:=⟨65,2,lc fZ r⟩
def YB (d:Nat) (R:List (List Int)):List OObj:=⟨85,1,l9 d (R.map List.length)⟩::R.map qv
def YU (d n c i:Nat):List OObj:=⟨85,1,l9 d (ae i c)++ae (n-i) [.p (.sl [])]⟩::ae i (qv (ae c 0))
theorem dE (d:Nat) (l:List Nat):(l9 d l).length=l.length:=by simp[l9]
theorem vd (d:Nat) (l:List Nat) (c:Nat):l9 d (l++[c])=l9 d l++[[.sl d (l.length+1) 0 c]]:=by simp_all[l9]
theorem YK (d:Nat) (l:List Nat):(l9 d l).map (List.map Fl)=l9 d l:=by
 apply acz;intro k;simp only[l9,ach,agt];cases l[k]?<;>rfl
theorem abA (r:List Int):(lc fZ r).map (List.map Fl)=lc fZ r:=by simp[lc,fZ,Fl,IA]
theorem PW (d n c:Nat):([⟨85,1,ae n [.raw (.slice none 0 0)]⟩]:List OObj).map zO=YU d n c 0:=by
 simp[YU,zO,l9,Fl,IA]
theorem UI (d n c:Nat):YU d n c n=YB d (ae n (ae c 0)):=by
 simp[YU,YB]
theorem Nk {d c i:Nat} (b:i<n):(l9 d (ae i c)++ae (n-i) [AV.p (PV.sl [])])[i]?=some [.p (.sl [])]:=by
 grind [dE]
theorem UJ {d i:Nat} (e:i<n):
  ((⟨85,1,(l9 d (ae i m)++ae (n-i) [AV.p (PV.sl [])]).set i [.sl d (i+1) 0 m]⟩::ae i (qv (ae m 0))++[⟨65,2,ae m [.raw (.bool false),.raw (.slice none 0 0)]⟩]:List OObj)).map zO=YU d n m (i+1):=by
 have b:(l9 d (ae i m)++ae (n-i) [AV.p (PV.sl [])]).set i [.sl d (i+1) 0 m]=l9 d (ae (i+1) m)++ae (n-(i+1)) [AV.p (PV.sl [])]:=by
  rw[adV _ _ (by simp[dE]),dE,acX,aeq,aeI (n:=i),vd,acX,acI]
  congr 1
  rw[show n-i=n-(i+1)+1 by omega,aeL];rfl
 rw[b];simp only[ad9,acA,ac1,agK,YU]
 congr 1
 ·simp[zO,YK,Fl,IA]
 rw[aeI]
 congr 1
 ·grind [zO,qv,abA]
 simp[zO,qv,lc,fZ,Fl,IA,cn,ls]
theorem MW (d e:Nat) (l:List Nat):(l9 d l).map (List.map (b6 e))=l9 e l:=by
 apply acz;intro k;simp only[l9,ach,agt];cases l[k]?<;>rfl
theorem W0 (e:Nat) (r:List Int):renO e (qv r)=qv r:=by simp[renO,qv,gT]
theorem My (d e:Nat) (R:List (List Int)):(YB d R).map (renO e)=YB e R:=by
 grind [YB,renO,MW,List.map_congr_left,W0]
structure ZrG (n:Nat) where
 i:Nat
 hi:i<=n
theorem rU (n c:Nat) (l:n<=16) (h:c<=16):CallC prog 51 [.raw (.int .i64 (n:Int)),.raw (.int .i64 (c:Int))] ⟨YB 0 (ae n (ae c 0)),.one (.sl 0 0 0 n)⟩:=by
 refine ax func51 rfl ntmps51 (aA (k:=ar (k:=ai (bi (k:=?_)))));refine ay (G:=ZrG n) (fun g=>⟨(.raw (.int .i64 (n:Int))::rN c::jk::jk::.raw (.slice none 0 0)::.one (.sl 8 0 0 n)::j4 (.raw (.int .i64 (n:Int))::rN g.i::j4 (j4 (jk::[])))),Hm [(8,YU 8 n c g.i)]⟩) (fun g=>n-g.i) ⟨0,by omega⟩ ?_ ?_
 ·refine(g7 8).trans (aj ⟨PW 8 n c,trivial⟩ ?_);simp[wk]
 rintro⟨i,j⟩;simp only;by_cases e:i<n
 ·refine ar (k:=aV rfl (ai (am (bi (k:=?_)))));simp only[YU];have f:=Nk (d:=8) (c:=c) e;refine dF (aC f (aC @acX (aC @aeu (@ite_self.{1})))) (k:=bu (k:=?_));refine⟨⟨i+1,by omega⟩,by grind,(g7 8).trans (aj ⟨UJ e,trivial⟩ ?_)⟩;simp[wk]
 have b:i=n:=by omega
 subst b;refine ar (k:=aW rfl ?_);show bA _ _ _ _;rw[UI];refine bi (k:=?_);refine aQ ⟨.inr rfl,_,bJ.refl _,?_⟩;refine⟨.one (.sl 8 0 0 i),8,?_,rfl,?_,rfl⟩
 ·simp(disch:=omega) only[kd,results51]
 grind [My]
end Go.Proofs.YtalmoejhjceflaaGreat
