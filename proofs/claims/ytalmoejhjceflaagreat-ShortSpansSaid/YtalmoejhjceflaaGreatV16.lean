/-
  Part 17 of a proof (walks and plain facts).
-/
import Derived.Test.YtalmoejhjceflaaGreatV15
set_option linter.all false
set_option maxRecDepth 100000
set_option maxHeartbeats 64000000
open Nat renaming reduceAdd → aa
open Nat renaming reduceEqDiff → ae
open List renaming replicate → af
open Nat renaming reduceBEq → ag
namespace Go.Proofs.YtalmoejhjceflaaGreat
open Go.RowKit Go.Proofs.Tryz
variable {n m:Nat} {b:List (List Int)} {x:Int} {c:FF}
theorem NZ {a:Nat} (h:n<=a):0<=jB a n:=by grind [jB]
theorem T4 {a b:Nat} (h:a<b):jB a b<0:=by grind [rX]
abbrev QJ (a b:Nat):TV:= .tup [(false,[.p (.sl (ls fU (aD (a/b))))]),(false,[.p (.sl (ls fU (aD (a%b))))])]
theorem xu {a:Nat} (h:a<=n):(aD a).length<=(aD n).length:=lK (aN _) (di _) (by grind [aJ])
theorem Un (a b:Nat) (s:0<b) (la:(aD a).length<=536870912) (lb:(aD b).length<=536870912):CallC prog 186 [eY (aD a),eY (aD b)] ⟨[],QJ a b⟩:=by
 by_cases hs:(aD a).length<=2/\(aD b).length<=2
 ·obtain⟨U,V⟩:=hs;have ua:=jJ U;have ub:=jJ V;have p:=Vh (aD a) (aN _) (by omega);have e:=Vh (aD b) (aN _) (by omega);rw[aeS U,aJ]at p;rw[aeS V,aJ]at e;have C:a/b<=a:=ag9 _ _;have D:a%b<b:=afp _ s;have c:=GL false (a/b) (by omega);have u:=GL false (a%b) (by omega);rw[show jd false (a/b)=((a/b:Nat):Int)from rfl]at c;rw[show jd false (a%b)=((a%b:Nat):Int)from rfl]at u;have F:(b:Int)≠0:=by omega
  have z:IntKind.u64.wrap (Int.tdiv (a:Int) (b:Int))=((a/b:Nat):Int):=by
   grind [IntKind.wrap_u64]
  have A:Int.tmod (a:Int) (b:Int)=((a%b:Nat):Int):=by
   rfl
  unfold QJ;generalize a/b=q at*
  generalize a%b=r at*
  refine aB func186 rfl ntmps186 (aE (k:=aj (ax (k:=aC rfl (bu [⟨1,_,_,_,p⟩,⟨3,_,_,_,e⟩] (k:=dF [⟨3,_,_,_,c⟩,⟨8,_,_,_,u⟩] (aG @Int.natAbs_natCast (aG (@ne_eq.{1}) (aG F (aG @not_false_eq_true (aG z A))))) (k:=aI @results186)))))))
 refine aB func186 rfl ntmps186 (aE (k:=?_));by_cases c:(aD a).length<=2
 all_goals
  (first|refine am fun _ K=>?_|refine aj (am fun _ K=>?_)|refine aj (aj (am fun _ K=>?_)));simp(disch:=omega) only[kd,aa];apply K
  first|refine aq rfl (al ?_)|refine aX rfl (fun h=>by simp at h<;>omega) (fun _=>al ?_)
  show bv _ _ _ _
  (first|refine am fun _ K=>?_|refine aj (am fun _ K=>?_)|refine aj (aj (am fun _ K=>?_)));simp(disch:=omega) only[kd,aa,pU];apply K
  (first|refine am fun _ K=>?_|refine aj (am fun _ K=>?_)|refine aj (aj (am fun _ K=>?_)));simp(disch:=omega) only[kd,aa,aH];apply K
  refine ay (G:=abv a b (aD a).length) (fun g=>⟨(eY (aD a)::eY (aD b)::jk::jk::.one (.sl 33 0 0 (aD a).length)::eY (aD (a/2^g.t%b))::jk::jk::.raw (.int .i64 ((g.t:Int)-1))::j16 (j16 (j16 (j16 (jk::jk::[]))))),Hm [(33,[⟨165,1,lc fU g.O⟩])]⟩) (fun g=>g.t) ⟨32*(aD a).length,af (aD a).length 0,by omega,by simp,fun x v=>by simp at v;omega,by rw[ke,Du rfl];simp⟩ ?_ ?_
  ·refine(ca (k:=5) (d:=900) 165 1 (by omega) rfl rfl).trans ((bR 900 (bj (f:=fU) (l:=[]) rfl)).trans (ak ⟨rfl,trivial⟩ ?_));simp[wk,f5,gn,Du rfl,cX];rfl
  rintro⟨t,O,T,len,lmb,val⟩;simp only;cases t with
  |zero=>
   have o:=km O (by omega);rw[e8 lmb,val]at o;simp only[ai1,Nat.div_one,aja]at o;simp only[ai1,Nat.div_one]
   (first|refine am fun _ K=>?_|refine aj (am fun _ K=>?_)|refine aj (aj (am fun _ K=>?_)));simp(disch:=omega) only[kd,eY];apply K
   first|refine aq rfl (aT ?_)|refine aX rfl (fun h=>by simp at h<;>omega) (fun _=>aT ?_)
   show bv _ _ _ _;refine bv.weak (bR 33 (bj rfl)) ?_;have Y:List.take (aD a).length O=O:=aeS (by omega);simp(disch:=omega) only[kd,Y]
   (first|refine bf [⟨1,_,_,_,o⟩] [] fun _ K=>?_|refine aj (bf [⟨1,_,_,_,o⟩] [] fun _ K=>?_)|refine aj (aj (bf [⟨1,_,_,_,o⟩] [] fun _ K=>?_)));simp only[kd,eY,aa];apply K
   (refine aM ⟨.inr rfl,bQ rfl ?_ rfl⟩;simp(disch:=omega) only[kd,results186])
  |succ k=>
   have Z:((k+1:Nat):Int)-1=(k:Int):=by omega
   simp only[Z];have H:k/32<(aD a).length:=by omega
   obtain⟨x,v⟩:=getElem?_of_lt H;have ac:=e7 (aN a) v;obtain⟨y,L⟩:=getElem?_of_lt (show k/32<O.length by omega);have M:=e7 lmb L;have w:=Qx v;have C:IntKind.i64.wrap (Int.tdiv (k:Int) 32)=((k/32:Nat):Int):=by
    grind [IntKind.wrap_i64]
   have D:Int.tmod (k:Int) 32=((k%32:Nat):Int):=by rfl
   have S:min (k%32) IntKind.u32.bits=k%32:=by show min (k%32) 32=_;omega
   have z:Int.fdiv (x:Int) (2^min (k%32) IntKind.u32.bits)=((x/2^(k%32):Nat):Int):=by
    grind
   have ad:x/2^(k%32)<=x:=ag9 _ _;have A:IntKind.u32.wrap (((BitVec.ofInt IntKind.u32.bits ((x/2^(k%32):Nat):Int)&&&BitVec.ofInt IntKind.u32.bits (1:Int)).toNat:Nat):Int)=((a/2^k%2:Nat):Int):=by
    rw[<- w,<- Nat.and_one_is_mod];exact adE (x/2^(k%32)) 1 (by omega) (by omega)
   have ab:a/2^k%2<2:=afp _ (by omega);have J:a/2^(k+1)%b<b:=afp _ s;have lr:=xu (ahN J);have p:=Ur (aD (a/2^(k+1)%b)) (a/2^k%2) (aN _) (by omega) (by omega);have e:=km (dblL (aD (a/2^(k+1)%b)) (a/2^k%2)) (by rw[In];omega);rw[e8 (IW _ _ (aN _) (by omega)),DQ _ _ (aN _) (by omega),aJ]at e;by_cases j:b<=2*(a/2^(k+1)%b)+a/2^k%2
   ·obtain⟨E,P,Q⟩:=YR s T len lmb val j L;have m:=(Ul s j).2;have N:=kM (n:=2*(a/2^(k+1)%b)+a/2^k%2) (k:=(aD b).length+1) (by
     grind [j9,aN,aJ])
    generalize 2*(a/2^(k+1)%b)+a/2^k%2=R at*
    have c:=N0 (aD R) (aD b) (aN _) (aN _) (di _) (di _) (by omega) (by omega);rw[aJ,aJ]at c;have hc:=NZ j;have u:=pN (aD R) (aD b) (aN _) (aN _) (by omega) (by omega);have B:=km (diffL (aD R) (aD b) 0) (by rw[my];omega);have hd:=kQ (aD R) (aD b) 0 (aN _) (aN _) (by omega) (xu j) (by grind [aJ]);rw[aJ,aJ]at hd;rw[e8 (mD _ _ _),show natV (diffL (aD R) (aD b) 0)=a/2^k%b by omega]at B;have I:2^(k%32)<4294967296:=afZ (a:=2) (n:=32) (by omega) (afp _ (by omega));have W:IntKind.u32.wrap (1*2^min (k%32) IntKind.u32.bits)=((2^(k%32):Nat):Int):=by
     grind [SP]
    have X:=ZD y (2^(k%32)) M I
    (first|refine am fun _ K=>?_|refine aj (am fun _ K=>?_)|refine aj (aj (am fun _ K=>?_)));simp(disch:=omega) only[kd,eY];apply K
    first|refine aC rfl (al ?_)|refine aX rfl (fun _=>al ?_) (fun h=>by simp at h<;>omega)
    refine aj (ao ?_)
    (first|refine bf [⟨10,_,_,_,p⟩,⟨11,_,_,_,e⟩] [] fun _ K=>?_|refine aj (bf [⟨10,_,_,_,p⟩,⟨11,_,_,_,e⟩] [] fun _ K=>?_)|refine aj (aj (bf [⟨10,_,_,_,p⟩,⟨11,_,_,_,e⟩] [] fun _ K=>?_)));simp(disch:=omega) only[kd,eY,aa,C,v,D,z,A,ag];apply K
    (first|refine bf [⟨2,_,_,_,c⟩] [] fun _ K=>?_|refine aj (bf [⟨2,_,_,_,c⟩] [] fun _ K=>?_)|refine aj (aj (bf [⟨2,_,_,_,c⟩] [] fun _ K=>?_)));simp(disch:=omega) only[kd,eY,aa];apply K
    first|refine aC rfl ?_|refine aX rfl (fun _=>?_) (fun h=>by simp at h<;>omega)
    (first|refine bf [⟨2,_,_,_,u⟩,⟨3,_,_,_,B⟩] [] fun _ K=>?_|refine aj (bf [⟨2,_,_,_,u⟩,⟨3,_,_,_,B⟩] [] fun _ K=>?_)|refine aj (aj (bf [⟨2,_,_,_,u⟩,⟨3,_,_,_,B⟩] [] fun _ K=>?_)));simp only[kd,eY,aa,ag];apply K
    refine jz (aG C (aG L (aG D (aG W (aG X @ir))))) (k:=bK (k:=?_));refine⟨E,by omega,ak ⟨by rw[Q];rfl,trivial⟩ ?_⟩;simp[wk,P]
   obtain⟨E,P,Q⟩:=YS s T len lmb val (by omega);have m:=(Um (a:=a) (k:=k) s (by omega)).2;rw[<- m]at e j;have N:=xu (ahN (afp (a/2^k) s));have c:=N0 (aD (a/2^k%b)) (aD b) (aN _) (aN _) (di _) (di _) (by omega) (by omega);rw[aJ,aJ]at c;have hc:=T4 (a:=a/2^k%b) (b:=b) (by omega)
   (first|refine am fun _ K=>?_|refine aj (am fun _ K=>?_)|refine aj (aj (am fun _ K=>?_)));simp(disch:=omega) only[kd,eY];apply K
   first|refine aC rfl (al ?_)|refine aX rfl (fun _=>al ?_) (fun h=>by simp at h<;>omega)
   refine aj (ao ?_)
   (first|refine bf [⟨10,_,_,_,p⟩,⟨11,_,_,_,e⟩] [] fun _ K=>?_|refine aj (bf [⟨10,_,_,_,p⟩,⟨11,_,_,_,e⟩] [] fun _ K=>?_)|refine aj (aj (bf [⟨10,_,_,_,p⟩,⟨11,_,_,_,e⟩] [] fun _ K=>?_)));simp(disch:=omega) only[kd,eY,aa,C,v,D,z,A,ag];apply K
   (first|refine bf [⟨2,_,_,_,c⟩] [] fun _ K=>?_|refine aj (bf [⟨2,_,_,_,c⟩] [] fun _ K=>?_)|refine aj (aj (bf [⟨2,_,_,_,c⟩] [] fun _ K=>?_)));simp(disch:=omega) only[kd,eY,aa];apply K
   first|refine aq rfl (al ?_)|refine aX rfl (fun h=>by simp at h<;>omega) (fun _=>al ?_)
   show bv _ _ _ _;refine bK (k:=?_);refine⟨E,by omega,ak ⟨by rw[Q];rfl,trivial⟩ ?_⟩;simp[wk,P]
def tq (a b:Int):Int:=jd (!(decide (a<0)==decide (b<0))) (a.natAbs/b.natAbs)
def tr (a b:Int):Int:=jd (decide (a<0)) (a.natAbs%b.natAbs)
theorem W4 (a b:Int):tr a b+b*tq a b=a:=by
 have h:=aij a.natAbs b.natAbs;have c:(b.natAbs:Int)*((a.natAbs/b.natAbs:Nat):Int)+((a.natAbs%b.natAbs:Nat):Int)=(a.natAbs:Int):=by
  omega
 unfold tq tr jd;grind
theorem W5 (a b:Int):(tr a b).natAbs=a.natAbs%b.natAbs:=wg _ _
theorem WZ (a b:Int):(tq a b).natAbs=a.natAbs/b.natAbs:=wg _ _
theorem PN {a b:Int} (c:b≠0):(tr a b).natAbs<b.natAbs:=by simp_all[W5,afp]
theorem Lb {a b:Int} (c:b≠0) (h:0<=tr a b):a/b=tq a b/\a%b=tr a b:=by
 have e:=W4 a b;have f:=PN (a:=a) c;grind [Int.ediv_emod_unique',Int.ediv_emod_unique]
theorem Ok {a b:Int} (c:b<0) (h:tr a b<0):a/b=tq a b+1/\a%b=tr a b+b.natAbs:=by
 have e:=W4 a b;have f:=PN (a:=a) (b:=b) (by omega);refine(Int.ediv_emod_unique' c).2 ⟨?_,by omega,by omega⟩;grind
theorem Ol {a b:Int} (c:0<b) (h:tr a b<0):a/b=tq a b-1/\a%b=tr a b+b.natAbs:=by
 have e:=W4 a b;have f:=PN (a:=a) (b:=b) (by omega);refine(ahC c).2 ⟨?_,by omega,by omega⟩;grind
theorem Sz.le {y:Int} {k:Nat} (h:Sz y k) (b:x.natAbs<=y.natAbs):Sz x k:=agd b h
theorem ni {k:Nat} (h:0<k):Sz 1 k:=by grind [Sz]
theorem TM:Bh 1:=ni (by omega)
theorem Wr (h:x<0):sg x= -1:=by simp[sg,h]
theorem Ec {z:Int} (h:0<=z):0<=sg z:=by grind [sg]
theorem GX (a b:Int) (g:b≠0) (y:Bh a) (s:Bh b):CallC prog 129 [tZ a,tZ b] ⟨[],.tup [(true,cZ (a/b)),(true,cZ (a%b)),(false,[.p (.raw (.bool true))])]⟩:=by
 have F:=y.len;have G:=s.len;have t1:=km (aD a.natAbs) y.bg.len;have t2:=km (aD b.natAbs) s.bg.len;rw[kn]at t1 t2;have E:(aD b.natAbs).length≠0:=fun h=>g (by grind [jC])
 have A:=Un a.natAbs b.natAbs (by omega) F G;have v:Bh (tq a b):=y.le (by simp_all[WZ,ag9]);have w:Bh (tr a b):=s.le (ahN (PN g));have c:=kO (!(decide (a<0)==decide (b<0))) (aD (a.natAbs/b.natAbs)) (aN _) (by have:=v.bg.len;grind [WZ]);have e:=kO (decide (a<0)) (aD (a.natAbs%b.natAbs)) (aN _) (by have:=w.bg.len;grind [W5]);rw[aJ,show jd _ _=tq a b from rfl]at c;rw[aJ,show jd _ _=tr a b from rfl]at e;have u:=kh (tr a b) w.bg;have H:= @Lb a b g;have I:= @Ok a b;have J:= @Ol a b;generalize tq a b=Q at*
 generalize tr a b=R at*
 by_cases x:R<0
 ·have j:=kO false (aD b.natAbs) (aN _) (by omega);rw[aJ,show jd false b.natAbs=((b.natAbs:Nat):Int)from rfl]at j;have D:=ql R (b.natAbs:Int) w (by grind [Sz]);have m:=kh b s.bg;have C:=er 1 (by omega) (by omega);rw[Wr x]at u;by_cases r:b<0
  ·obtain⟨o,q⟩:=I r x;rw[o,q];rw[Wr r]at m;have f:=ql Q 1 v TM;refine aB func129 rfl ntmps129 (aE (k:=dR [⟨2,_,_,_,t1⟩,⟨5,_,_,_,t2⟩] (k:=aj (ax (k:=aq rfl (al (bu [⟨2,_,_,_,A⟩] (k:=dR [⟨6,_,_,_,c⟩,⟨10,_,_,_,e⟩] (k:=?_)))))))));refine bv.weak (ak (tm:=(jk::jk::.one (.ptr 2 0 0 0)::.one (.ptr 3 0 0 0)::.one (.ptr 4 0 0 0)::.one (.ptr 5 0 0 0)::.raw (.bool false)::jk::eY (aD b.natAbs)::jk::jk::.one (.ptr 11 0 0 0)::.one (.ptr 12 0 0 0)::j16 (j16 (j16 ([]))))) (l:=[(2,uy (decide (a<0)) (aD a.natAbs)),(3,uy true (aD b.natAbs)),(4,sX),(5,sX),(11,uy (decide (Q<0)) (aD Q.natAbs)),(12,uy true (aD R.natAbs))]) ⟨rfl,rfl,rfl,rfl,rfl,rfl,trivial⟩ (by simp[wk])) ?_;refine aj (bD [⟨1,_,_,_,u⟩] (k:=aC rfl (dR [⟨2,_,_,_,j⟩,⟨3,_,_,_,D⟩] (k:=aj (bD [⟨1,_,_,_,m⟩] (k:=aC rfl ?_))))));refine Ae [(12,12,65),(4,4,65)] bZ [⟨1,_,_,_,C⟩,⟨2,_,_,_,f⟩] [] (by kernel_rfl) (PF (t:=65) (n:=2) (by simp only[wH,rQ,o8,qi,zG,wD,qj,wE,wG,qh,GD,zF,wF]) (by decide) rfl) (Gj rfl) fun _ K=>?_;simp(disch:=omega) only[kd,tZ,aa,ae,ag];apply K
   (refine aM ⟨.inr rfl,bQ rfl ?_ rfl⟩;simp(disch:=omega) only[kd,results129,ae,aa,cZ])
  obtain⟨o,q⟩:=J (by omega) x;rw[o,q];have B:=Ec (z:=b) (by omega);have f:=ta Q 1 v TM;refine aB func129 rfl ntmps129 (aE (k:=dR [⟨2,_,_,_,t1⟩,⟨5,_,_,_,t2⟩] (k:=aj (ax (k:=aq rfl (al (bu [⟨2,_,_,_,A⟩] (k:=dR [⟨6,_,_,_,c⟩,⟨10,_,_,_,e⟩] (k:=?_)))))))));refine bv.weak (ak (tm:=(jk::jk::.one (.ptr 2 0 0 0)::.one (.ptr 3 0 0 0)::.one (.ptr 4 0 0 0)::.one (.ptr 5 0 0 0)::.raw (.bool false)::jk::eY (aD b.natAbs)::jk::jk::.one (.ptr 11 0 0 0)::.one (.ptr 12 0 0 0)::j16 (j16 (j16 ([]))))) (l:=[(2,uy (decide (a<0)) (aD a.natAbs)),(3,uy false (aD b.natAbs)),(4,sX),(5,sX),(11,uy (decide (Q<0)) (aD Q.natAbs)),(12,uy true (aD R.natAbs))]) ⟨rfl,rfl,rfl,rfl,rfl,rfl,trivial⟩ (by simp[wk])) ?_;refine aj (bD [⟨1,_,_,_,u⟩] (k:=aC rfl (dR [⟨2,_,_,_,j⟩,⟨3,_,_,_,D⟩] (k:=aj (bD [⟨1,_,_,_,m⟩] (k:=aq rfl (al ?_)))))));refine Ae [(12,12,65),(4,4,65)] bZ [⟨1,_,_,_,C⟩,⟨2,_,_,_,f⟩] [] (by kernel_rfl) (PF (t:=65) (n:=2) (by simp only[wH,rQ,o8,qi,zG,wD,qj,wE,wG,qh,GD,zF,wF]) (by decide) rfl) (Gj rfl) fun _ K=>?_;simp(disch:=omega) only[kd,tZ,aa,ae,ag];apply K
  (refine aM ⟨.inr rfl,bQ rfl ?_ rfl⟩;simp(disch:=omega) only[kd,results129,ae,aa,cZ])
 obtain⟨o,q⟩:=H (by omega);rw[o,q];have B:=Ec (z:=R) (by omega);refine aB func129 rfl ntmps129 (aE (k:=dR [⟨2,_,_,_,t1⟩,⟨5,_,_,_,t2⟩] (k:=aj (ax (k:=aq rfl (al (bu [⟨2,_,_,_,A⟩] (k:=dR [⟨6,_,_,_,c⟩,⟨10,_,_,_,e⟩] (k:=?_)))))))));refine bv.weak (ak (tm:=(jk::jk::.one (.ptr 2 0 0 0)::.one (.ptr 3 0 0 0)::.one (.ptr 4 0 0 0)::.one (.ptr 5 0 0 0)::.raw (.bool false)::jk::eY (aD b.natAbs)::jk::jk::.one (.ptr 11 0 0 0)::.one (.ptr 12 0 0 0)::j16 (j16 (j16 ([]))))) (l:=[(2,uy (decide (a<0)) (aD a.natAbs)),(3,uy (decide (b<0)) (aD b.natAbs)),(4,sX),(5,sX),(11,uy (decide (Q<0)) (aD Q.natAbs)),(12,uy false (aD R.natAbs))]) ⟨rfl,rfl,rfl,rfl,rfl,rfl,trivial⟩ (by simp[wk])) ?_;refine aj (bD [⟨1,_,_,_,u⟩] (k:=aq rfl (al ?_)));refine Ae [(12,12,65),(4,4,65)] bZ [] [] (by kernel_rfl) (PF (t:=65) (n:=2) (by simp only[wH,rQ,o8,qi,zG,wD,qj,wE,wG,qh,GD,zF,wF]) (by decide) rfl) (Gj rfl) fun _ K=>?_;simp(disch:=omega) only[kd,aa,ae];apply K
 (refine aM ⟨.inr rfl,bQ rfl ?_ rfl⟩;simp(disch:=omega) only[kd,results129,ae,aa,cZ])
theorem s9 (a b:Int) (c:b≠0) (f:Bh a) (g:Bh b):CallC prog 76 [tZ a,tZ b] ⟨[],tZ (a/b)⟩:=by
 have e:=GX a b c f g;refine aB func76 rfl ntmps76 (aE (k:=bD [⟨2,_,_,_,e⟩] (k:=ax (k:=aI @results76))))
theorem ach {b:Type} (f:b->List PV) (r:List b):(fR f r).length=1:=rfl
abbrev rOk (n:Nat) (r:List Int):Prop:=1<=r.length/\r.length<=16/\r.length=n
def Td (M:List (List Int)):Prop:=1<=M.length/\M.length<=16/\ ∀r∈M,rOk (M.headD []).length r
instance (M:List (List Int)):Decidable (Td M):=by unfold Td;exact inferInstance
def shT (M:List (List Int)):TV:=if Td M then .tup [(false,[.p (.raw (.int .i64 (M.length:Int)))]),(false,[.p (.raw (.int .i64 ((M.headD []).length:Int)))]),(false,[.p (.raw (.bool true))])]
 else .tup [(false,[.p (.raw (.int .i64 0))]),(false,[.p (.raw (.int .i64 0))]),(false,[.p (.raw (.bool false))])]
theorem ng (h: ¬Td b):shT b= .tup [(false,[.p (.raw (.int .i64 0))]),(false,[.p (.raw (.int .i64 0))]),(false,[.p (.raw (.bool false))])]:=by grind [shT]
theorem jx (h:Td b):shT b= .tup [(false,[.p (.raw (.int .i64 (b.length:Int)))]),(false,[.p (.raw (.int .i64 ((b.headD []).length:Int)))]),(false,[.p (.raw (.bool true))])]:=by grind [shT]
theorem vj {M:List (List Int)} (h:1<=M.length):M[0]?=some (M.headD []):=by cases M with
 |nil=>simp at h
 |cons r M=>rfl
structure ShG (M:List (List Int)) where
 i:Nat
 hi:i<=M.length
 ok: ∀r∈M.take i,rOk (M.headD []).length r
theorem ph (M:List (List Int)):CallC prog 113 [dq M] ⟨[],shT M⟩:=by
 by_cases p:M.length<1
 ·rw[ng (fun h=>by have:=h.1;omega)];refine aB func113 rfl ntmps113 (aE (k:=aj (ax (k:=aC rfl (aZ (k:=aI @results113))))))
 by_cases q:16<M.length
 ·rw[ng (fun h=>by have:=h.2.1;omega)];refine aB func113 rfl ntmps113 (aE (k:=aj (ax (k:=aC rfl (aZ (k:=aI @results113))))))
 have e:=vj (M:=M) (by omega);refine aB func113 rfl ntmps113 (aE (k:=aj (ax (k:=aq rfl (al (aj (aZ (k:=?_))))))));refine ay (G:=ShG M) (fun g=>⟨(dq M::jk::.raw (.int .i64 0)::.raw (.int .i64 0)::.raw (.bool false)::j4 (j4 (jk::jk::dq M::rN M.length::rN g.i::j16 (j4 (j4 (jk::jk::jk::[])))))),Hm []⟩) (fun g=>M.length-g.i) ⟨0,by omega,fun r c=>by simp at c⟩ ?_ ?_
 ·refine ak trivial ?_;simp[wk]
 rintro⟨i,s,ok⟩;simp only;by_cases j:i<M.length
 ·obtain⟨r,c⟩:=getElem?_of_lt j;have b:r∈M:=adQ c;refine ax (k:=aP rfl (aj (ao (aF c (k:=?_)))));by_cases m:r.length<1
  ·rw[ng (fun h=>by have:=(h.2.2 r b).1;omega)];refine ax (k:=aC rfl (aZ (k:=aI @results113)))
  by_cases n:16<r.length
  ·rw[ng (fun h=>by have:=(h.2.2 r b).2.1;omega)];refine ax (k:=aC rfl (aZ (k:=aI @results113)))
  by_cases o:r.length=(M.headD []).length
  ·refine aF e (k:=aq rfl (al (bK (k:=?_))));refine⟨⟨i+1,by omega,fun t l=>?_⟩,by simp only;omega,ak trivial ?_⟩
   ·grind [List.take_add_one]
   simp[wk]
  rw[ng (fun h=>by have:=(h.2.2 r b).2.2;omega)];refine aF e (k:=aC rfl (aZ (k:=aI @results113)))
 have f:Td M:=⟨by omega,by omega,fun r c=>ok r (by grind)⟩;rw[jx f];refine ax (k:=aQ rfl (iH e (k:=aI @results113)))
def SqP (M:List (List Int)):Prop:=Td M/\M.length=(M.headD []).length
instance (M:List (List Int)):Decidable (SqP M):=by unfold SqP;exact inferInstance
def sqT (M:List (List Int)):TV:=if SqP M then .tup [(false,[.p (.raw (.int .i64 (M.length:Int)))]),(false,[.p (.raw (.bool true))])]else .tup [(false,[.p (.raw (.int .i64 0))]),(false,[.p (.raw (.bool false))])]
theorem G4 (M:List (List Int)):CallC prog 102 [dq M] ⟨[],sqT M⟩:=by
 have b:=ph M;by_cases c:Td M
 ·rw[jx c]at b;by_cases e:M.length=(M.headD []).length
  ·rw[show sqT M=_ from if_pos ⟨c,e⟩];refine aB func102 rfl ntmps102 (aE (k:=bu [⟨1,_,_,_,b⟩] (k:=aj (ax (k:=aq rfl (al (aZ (k:=aI @results102))))))))
  rw[show sqT M=_ from if_neg (fun h=>e h.2)];refine aB func102 rfl ntmps102 (aE (k:=bu [⟨1,_,_,_,b⟩] (k:=aj (ax (k:=aC rfl (aZ (k:=aI @results102)))))))
 rw[ng c]at b;rw[show sqT M=_ from if_neg (fun h=>c h.1)];refine aB func102 rfl ntmps102 (aE (k:=bu [⟨1,_,_,_,b⟩] (k:=aj (ax (k:=aC rfl (aZ (k:=aI @results102)))))))
def kw (d:Nat) (l:List Nat):List (List AV):=l.mapIdx fun k c=>[.sl d (k+1) 0 c]
def rH (r:List Int):OObj:=⟨65,2,lc fZ r⟩
def mxO (d:Nat) (R:List (List Int)):List OObj:=⟨85,1,kw d (R.map List.length)⟩::R.map rH
def zst (d n c i:Nat):List OObj:=⟨85,1,kw d (af i c)++af (n-i) [.p (.sl [])]⟩::af i (rH (af c 0))
theorem eQ (d:Nat) (l:List Nat):(kw d l).length=l.length:=by simp[kw]
theorem ws (d:Nat) (l:List Nat) (c:Nat):kw d (l++[c])=kw d l++[[.sl d (l.length+1) 0 c]]:=by simp_all[kw]
theorem abl (d:Nat) (l:List Nat):(kw d l).map (List.map GP)=kw d l:=by
 apply aeW;intro k;simp only[kw,aeG,aiu];cases l[k]?<;>rfl
theorem ad2 (r:List Int):(lc fZ r).map (List.map GP)=lc fZ r:=by simp[lc,fZ,GP,GV]
theorem SQ (d n c:Nat):([⟨85,1,af n [.raw (.slice none 0 0)]⟩]:List OObj).map zO=zst d n c 0:=by
 simp[zst,zO,kw,GP,GV]
theorem XY (d n c:Nat):zst d n c n=mxO d (af n (af c 0)):=by
 simp[zst,mxO]
theorem P6 {d c i:Nat} (b:i<n):(kw d (af i c)++af (n-i) [AV.p (PV.sl [])])[i]?=some [.p (.sl [])]:=by
 grind [eQ]
theorem XZ {d i:Nat} (e:i<n):
  ((⟨85,1,(kw d (af i m)++af (n-i) [AV.p (PV.sl [])]).set i [.sl d (i+1) 0 m]⟩::af i (rH (af m 0))++[⟨65,2,af m [.raw (.bool false),.raw (.slice none 0 0)]⟩]:List OObj)).map zO=zst d n m (i+1):=by
 have b:(kw d (af i m)++af (n-i) [AV.p (PV.sl [])]).set i [.sl d (i+1) 0 m]=kw d (af (i+1) m)++af (n-(i+1)) [AV.p (PV.sl [])]:=by
  rw[ahe _ _ (by simp[eQ]),eQ,afc,afO,agS (n:=i),ws,afc,ae8]
  congr 1
  rw[show n-i=n-(i+1)+1 by omega,agG];rfl
 rw[b];simp only[agr,aeX,afv,aiO,zst]
 congr 1
 ·simp[zO,abl,GP,GV]
 rw[agS]
 congr 1
 ·grind [zO,rH,ad2]
 simp[zO,rH,lc,fZ,GP,GV,cX,ls]
theorem Px (d e:Nat) (l:List Nat):(kw d l).map (List.map (dA e))=kw e l:=by
 apply aeW;intro k;simp only[kw,aeG,aiu];cases l[k]?<;>rfl
theorem ZZ (e:Nat) (r:List Int):renO e (rH r)=rH r:=by simp[renO,rH,jh]
theorem OT (d e:Nat) (R:List (List Int)):(mxO d R).map (renO e)=mxO e R:=by
 grind [mxO,renO,Px,List.map_congr_left,ZZ]
structure ZrG (n:Nat) where
 i:Nat
 hi:i<=n
theorem qL (n c:Nat) (l:n<=16) (h:c<=16):CallC prog 51 [.raw (.int .i64 (n:Int)),.raw (.int .i64 (c:Int))] ⟨mxO 0 (af n (af c 0)),.one (.sl 0 0 0 n)⟩:=by
 refine aB func51 rfl ntmps51 (aE (k:=ax (k:=aj (aZ (k:=?_)))));refine ay (G:=ZrG n) (fun g=>⟨(.raw (.int .i64 (n:Int))::rN c::jk::jk::.raw (.slice none 0 0)::.one (.sl 8 0 0 n)::j4 (.raw (.int .i64 (n:Int))::rN g.i::j4 (j4 (jk::[])))),Hm [(8,zst 8 n c g.i)]⟩) (fun g=>n-g.i) ⟨0,by omega⟩ ?_ ?_
 ·refine(io 8).trans (ak ⟨SQ 8 n c,trivial⟩ ?_);simp[wk]
 rintro⟨i,j⟩;simp only;by_cases e:i<n
 ·refine ax (k:=aP rfl (aj (ao (aZ (k:=?_)))));simp only[zst];have f:=P6 (d:=8) (c:=c) e;refine dz (aG f (aG @afc (aG @agb (@ite_self.{1})))) (k:=bK (k:=?_));refine⟨⟨i+1,by omega⟩,by grind,(io 8).trans (ak ⟨XZ e,trivial⟩ ?_)⟩;simp[wk]
 have b:i=n:=by omega
 subst b;refine ax (k:=aQ rfl ?_);show bv _ _ _ _;rw[XY];refine aZ (k:=?_);refine aM ⟨.inr rfl,_,bN.refl _,?_⟩;refine⟨.one (.sl 8 0 0 i),8,?_,rfl,?_,rfl⟩
 ·simp(disch:=omega) only[kd,results51]
 grind [OT]
abbrev gC (d n c:Nat) (f:FF):List OObj:=⟨85,1,kw d (af n c)⟩::(mat n c f).map rH
theorem Vr (n c:Nat) (f:FF):(mat n c f).map List.length=af n c:=by
 apply aeW;grind [bA,az,aS]
theorem n5 (d n c:Nat) (f:FF):mxO d (mat n c f)=gC d n c f:=by rw[mxO,Vr]
theorem nH (n c:Nat):af n (af c (0:Int))=mat n c fun _ _=>0:=by
 apply aeW;intro i;rw[agC];by_cases h:i<n
 ·rw[bA _ _ h,if_pos h]
  congr 1
  apply aeW;grind [aw,az]
 grind [aS]
theorem bO {n i:Nat} (d c:Nat) (h:i<n):(kw d (af n c))[i]?=some [.sl d (i+1) 0 c]:=by
 simp[kw,h]
theorem dp {n i:Nat} (c:Nat) (f:FF) (h:i<n):((mat n c f).map rH)[i]?=some ⟨65,2,lc fZ (aA c (f i))⟩:=by
 rw[aeG,bA _ _ h];rfl
def upd (f:FF) (i j:Nat) (v:Int):Nat->Nat->Int:=fun a=>if a=i then(fun b=>if b=j then v else f i b)else f a
theorem gS {n i j:Nat} (c:Nat) (f:FF) (v:Int):((mat n c f).map rH).set i ⟨65,2,(lc fZ (aA c (f i))).set j [.p (.raw (.bool (decide (v<0)))),.p (.sl (ls fU (aD v.natAbs)))]⟩=(mat n c (upd f i j v)).map rH:=by
 have e:(⟨65,2,(lc fZ (aA c (f i))).set j [.p (.raw (.bool (decide (v<0)))),.p (.sl (ls fU (aD v.natAbs)))]⟩:OObj)=rH (aA c fun b=>if b=j then v else f i b):=by
  rw[<- lQ,rH,<- tW];rfl
 rw[e,<- aiX,OQ];rfl
theorem bC {g:FF} (h: ∀i j,i<n->j<m->c i j=g i j):(mat n m c).map rH=(mat n m g).map rH:=by rw[gJ h]
theorem fD (d e n c:Nat) (f:FF):(gC d n c f).map (renO e)=gC e n c f:=by rw[<- n5,<- n5,OT]
theorem iq {H:OH} {d n c:Nat} {f:FF} (h:H d=gC d n c f):ve H d:=fun r o b e g x j=>by
 rw[h]at b;cases r with
 |succ r=>
  rw[agW,aeG]at b;obtain⟨l,m,rfl⟩:=adT.1 b;exact .inl (bF _ _ l e g x j)
 |zero=>
  grind [List.mem_iff_getElem?,eQ,bO,rH,bF,bA]
theorem Ow {H:OH} {d n c:Nat} {f:FF} (h:H d=gC d n c f):f5 H d (.one (.sl d 0 0 n))=dq (mat n c f):=by
 have e:((kw d (af n c)).map (List.map (qo H d)))=ls (fR fZ) (mat n c f):=by
  apply aeW;intro i;rw[aeG,kN];by_cases b:i<n
  ·rw[bO d c b,bA _ _ b];simp only[afV,aeX,afh,qo,h,agW,dp _ _ b,fR,ld,Fx,nG];grind [az]
  grind [eQ,aS]
 grind [f5,gn,eQ]
def fiY (M:List (List Int)):TV:= .tup [(false,[.p (.sl (ls (fR fZ) M))]),(false,[.p (.raw (.bool true))])]
structure fp (n:Nat) where
 i:Nat
 hi:i<=n
def part (f:FF) (i j:Nat):Nat->Nat->Int:=fun a b=>if a<i\/(a=i/\b<j)then f a b else 0
theorem ij (f:FF) (i j a b:Nat):upd (part f i j) i j (f i j) a b=part f i (j+1) a b:=by
 unfold upd part;by_cases c:a=i
 ·subst c;grind
 simp[c]
theorem jr (f:FF) (i a b:Nat) (e:b<n):part f i n a b=part f (i+1) 0 a b:=by
 grind [part]
theorem jq (f:FF) (a b:Nat) (c:a<n):part f n 0 a b=f a b:=by
 grind [part]
theorem sI (f:FF):part f 0 0=fun _ _=>0:=by
 grind [part]
theorem zN (n c:Nat) (f:FF) (I:1<=n) (F:n<=16) (C:1<=c) (B:c<=16) (v: ∀i j,i<n->j<c-> -9223372036854775808<=f i j/\f i j<=9223372036854775807):
  CallC prog 53 [bV (mat n c f)] ⟨[],fiY (mat n c f)⟩:=by
 have o:=aS n c f;have t:=bA (n:=n) c f (i:=0) (by omega);have u:=qL n c F B;rw[nH,n5]at u;refine aB func53 rfl ntmps53 (aE (k:=aj (aF o (k:=aq rfl (al (aj (d9 o (k:=?_))))))));refine ay (G:=fp n) (fun g=>⟨(bV (mat n c f)::jk::.raw (.slice none 0 0)::.raw (.bool false)::j4 (j4 (j4 (jk::bV (mat n c f)::rN n::rN g.i::j16 (j16 (j16 (j4 (j4 (jk::jk::[]))))))))),Hm []⟩) (fun g=>n-g.i) ⟨0,by omega⟩ ?_ ?_
 ·refine ak trivial ?_;simp[wk]
 rintro⟨i,D⟩;simp only;by_cases E:i<n
 ·have p:=bA c f E;refine ax (k:=aP rfl (aj (ao (aF p (k:=aF (aG @az t) (k:=aq rfl (al (bK (k:=?_)))))))));refine⟨⟨i+1,by omega⟩,by grind,ak trivial ?_⟩;simp[wk]
 refine ax (k:=aQ rfl (ce [⟨6,_,_,_,u⟩] (aG o (aG t @az)) (k:=aj (d9 o (k:=?_)))));refine ay (G:=fp n) (fun g=>⟨(bV (mat n c f)::jk::.raw (.slice none 0 0)::.raw (.bool false)::jk::jk::.one (.sl 47 0 0 n)::j16 (j16 (j4 (j4 (jk::jk::rN n::rN g.i::j16 (j4 (j4 (jk::jk::jk::[])))))))),Hm [(47,gC 47 n c (part f g.i 0))]⟩) (fun g=>n-g.i) ⟨0,by omega⟩ ?_ ?_
 ·refine ak ⟨?_,trivial⟩ ?_
  ·rw[sI];exact fD 0 47 n c _
  simp[wk]
 rintro⟨i,D⟩;simp only;by_cases h:i<n
 ·have p:=bA c f h;refine ax (k:=aP rfl (aj (ao (aZ (k:=aF (aG p @az) (k:=?_))))));refine ay (G:=fp c) (fun g=>⟨(bV (mat n c f)::jk::.raw (.slice none 0 0)::.raw (.bool false)::jk::jk::.one (.sl 47 0 0 n)::rN i::j16 (j16 (j4 (j4 (jk::rN n::rN i::j4 (jk::jk::rN c::rN g.i::j16 (jk::jk::jk::[]))))))),Hm [(47,gC 47 n c (part f i g.i))]⟩) (fun g=>c-g.i) ⟨0,by omega⟩ ?_ ?_
  ·refine ak ⟨rfl,trivial⟩ ?_;simp[wk]
  rintro⟨j,J⟩;simp only;by_cases m:j<c
  ·have s:=aw (f i) m;have z:=er (f i j) (v i j h m).1 (v i j h m).2;have w:=bO (n:=n) (i:=i) 47 c h;have x:=dp c (part f i j) h;have y:=aw (part f i j i) m;refine ax (k:=aP rfl (aj (ao (aZ (k:=fP [⟨12,_,_,_,z⟩] (aG w (aG p (aG s (aG x (aG y @gS))))) (k:=bK (k:=?_)))))));refine⟨⟨j+1,by omega⟩,by grind,ak ⟨?_,trivial⟩ ?_⟩
   ·show _::_=_::_;simp_all[bC,ij]
   simp[wk]
  have r:j=c:=by omega
  subst r;refine ax (k:=aQ rfl (bK (k:=?_)));refine⟨⟨i+1,by omega⟩,by grind,ak ⟨?_,trivial⟩ ?_⟩
  ·show _::_=_::_;rw[bC fun a b _ A=>jr f i a b A]
  simp[wk]
 have q:i=n:=by omega
 subst q;refine ax (k:=aQ rfl ?_);show bv _ _ _ _;have e:gC 47 i c (part f i 0)=gC 47 i c f:=by
  grind [bC,jq]
 rw[e];refine bv.weak ((bR 47 (iq rfl)).trans (ak (tm:=(j4 (jk::jk::dq (mat i c f)::j16 (j16 (j16 (j16 (j4 (jk::jk::jk::[])))))))) (l:=[]) trivial (by simp[wk];exact(Ow (H:=Hm [(47,gC 47 i c f)]) (d:=47) (n:=i) (c:=c) (f:=f) rfl).symm))) ?_;refine aZ (k:=aI (aG @results53 @fiY.eq_1))
theorem Ku (n c:Nat) (f:FF) (e:1<=n) (m:n<=16) (b:1<=c) (h:c<=16) (l: ∀i j,i<n->j<c-> -9223372036854775808<=f i j/\f i j<=9223372036854775807):
  CallC prog 23 [bV (mat n c f)] ⟨[],dq (mat n c f)⟩:=by
 have g:=zN n c f e m b h l;refine aB func23 rfl ntmps23 (aE (k:=fJ [⟨1,_,_,_,g⟩] @fiY.eq_1 (k:=aZ (k:=aI @results23))))
theorem vb (k b:Nat) (j:k<=16) (f:b<=16):CallC prog 151 [.raw (.int .i64 (k:Int)),.raw (.int .i64 (b:Int))] ⟨[],Gq (List.range k++[b])⟩:=by
 refine aB func151 rfl ntmps151 (aE (k:=aZ (k:=aj (aZ (k:=?_)))));refine ay (G:=fp k) (fun g=>⟨(.raw (.int .i64 (k:Int))::rN b::jk::jk::.raw (.slice none 0 0)::.one (.sl 15 0 0 g.i)::rN g.i::j4 (j4 (j4 (jk::[])))),Hm [(15,[⟨3,1,lc fN (List.range g.i)⟩])]⟩) (fun g=>k-g.i) ⟨0,by omega⟩ ?_ ?_
 ·refine(ca (k:=5) (d:=15) 3 1 (by omega) rfl rfl).trans (ak ⟨rfl,trivial⟩ ?_);simp[wk]
 rintro⟨i,h⟩;simp only;by_cases f:i<k
 ·refine aj (ax (k:=aC rfl (al (aj (ao (dz (aG @agR @oL) (k:=bK (k:=?_))))))));refine⟨⟨i+1,by omega⟩,by grind,ak ⟨?_,trivial⟩ ?_⟩
  ·rw[afH];rfl
  simp[wk]
 have c:i=k:=by omega
 subst c;refine aj (ax (k:=aq rfl (aT (aF (aG @agR @oL) (k:=?_)))));refine aM ⟨.inr rfl,dI 15 (bj rfl) ?_ rfl⟩;have e:List.take (i+1) (List.range i++[b])=List.range i++[b]:=aeS (by simp);simp(disch:=omega) only[kd,results151,e,Gq]
structure SeG (n:Nat) where
 i:Nat
 hi:i<=n
theorem oM (l:List Int) (v:Int):lc fZ l++[[.p (.raw (.bool (decide (v<0)))),.p (.sl (ls fU (aD v.natAbs)))]]=lc fZ (l++[v]):=by simp[lc,fZ]
theorem IS (M:List (List Int)) (r:List Int):lc (fR fZ) M++[[.p (.sl (ls fZ r))]]=lc (fR fZ) (M++[r]):=by simp[lc,fR]
theorem El {b c:Type} {l:List b} {i:Nat} {x:b} (g:b->c) (h:l[i]?=some x):(l.take i).map g++[g x]=(l.take (i+1)).map g:=by
 grind [List.take_add_one]
theorem uH (n c:Nat) (f:FF) (b e:List Nat) (L:n<=16) (I:c<=16) (E: ∀x∈b,x<n) (F: ∀x∈e,x<c) (M:b.length<=17) (H:e.length<=17):
  CallC prog 150 [dq (mat n c f),Gq b,Gq e] ⟨[],dq (b.map fun i=>e.map (f i))⟩:=by
 have D:=aS n c f;refine aB func150 rfl ntmps150 (aE (k:=aZ (k:=aj (aZ (k:=?_)))));refine ay (G:=SeG b.length) (fun g=>⟨(dq (mat n c f)::Gq b::Gq e::jk::jk::jk::.raw (.slice none 0 0)::.one (.sl 39 0 0 g.i)::j4 (jk::Gq b::rN b.length::rN g.i::j16 (j4 (j4 (jk::jk::[]))))),Hm [(39,[⟨85,1,lc (fR fZ) ((b.take g.i).map fun i=>e.map (f i))⟩])]⟩) (fun g=>b.length-g.i) ⟨0,by omega⟩ ?_ ?_
 ·refine(ca (k:=7) (d:=39) 85 1 (by omega) rfl rfl).trans (ak ⟨rfl,trivial⟩ ?_);simp[wk]
 rintro⟨i,J⟩;simp only;by_cases C:i<b.length
 ·obtain⟨r,h⟩:=getElem?_of_lt C;have y:=E r (adQ h);have q:=bA c f y;refine ax (k:=aP rfl (aj (ao (aF h (k:=aZ (k:=aj (aZ (k:=?_))))))));refine ay (G:=SeG e.length) (fun g=>⟨(dq (mat n c f)::Gq b::Gq e::jk::jk::jk::.raw (.slice none 0 0)::.one (.sl 39 0 0 i)::jk::rN r::.one (.sl 34 0 0 g.i)::jk::jk::Gq b::rN b.length::rN i::jk::jk::jk::Gq e::rN e.length::rN g.i::j16 (j4 ([]))),Hm [(39,[⟨85,1,lc (fR fZ) ((b.take i).map fun i=>e.map (f i))⟩]),(34,[⟨65,2,lc fZ ((e.take g.i).map (f r))⟩])]⟩) (fun g=>e.length-g.i) ⟨0,by omega⟩ ?_ ?_
  ·refine(ca (k:=10) (d:=34) 65 2 (by omega) rfl rfl).trans (ak ⟨rfl,rfl,trivial⟩ ?_);simp[wk]
  rintro⟨j,K⟩;simp only;by_cases w:j<e.length
  ·obtain⟨s,m⟩:=getElem?_of_lt w;have z:=F s (adQ m);have o:=aw (f r) z;have t:((e.take j).map (f r)).length=j:=by simp;omega
   refine ax (k:=aP rfl (aj (ao (aF m (k:=dz (aG q (aG o (aG t (aG @oM (El (f r) m))))) (k:=bK (k:=?_)))))));refine⟨⟨j+1,by omega⟩,by grind,ak ⟨rfl,rfl,trivial⟩ ?_⟩;simp[wk]
  have v:j=e.length:=by omega
  subst v;refine ax (k:=aQ rfl ?_);show bv _ _ _ _;refine bv.weak ((bR 34 (bj rfl)).trans (ak (tm:=(dq (mat n c f)::Gq b::Gq e::jk::jk::jk::.raw (.slice none 0 0)::.one (.sl 39 0 0 i)::jk::jk::.one (.p (.sl (ls fZ (e.map (f r)))))::jk::jk::Gq b::rN b.length::rN i::j16 (j4 (j4 (jk::jk::[]))))) (l:=[(39,[⟨85,1,lc (fR fZ) ((b.take i).map fun i=>e.map (f i))⟩])]) ⟨rfl,trivial⟩ (by simp[wk,f5,gn,Hm,ld,jp,aeS]))) ?_;have t:((b.take i).map fun i=>e.map (f i)).length=i:=by simp;omega
  have A:=El (fun i=>e.map (f i)) h;refine dz (aG t (aG @IS A)) (k:=bK (k:=?_));refine⟨⟨i+1,by omega⟩,by grind,ak ⟨rfl,trivial⟩ ?_⟩;simp[wk]
 have u:i=b.length:=by omega
 subst u;refine ax (k:=aQ rfl (aZ (k:=?_)));refine aM ⟨.inr rfl,dI 39 (bj rfl) ?_ rfl⟩;have B:List.take b.length (List.map (fun i=>e.map (f i)) b)=b.map fun i=>e.map (f i):=aeS (by simp)
 simp(disch:=omega) only[kd,results150,afS,B,dq]
abbrev vD:List AV:=[.raw (.slice none 0 0)]
theorem FD {b:Type} {A:List b} {x:b} {l:List b} {i:Nat} (h:A.length=i):(A++x::l)[i]?=some x:=by
 grind
theorem FE {b:Type} {A:List b} {x y:b} {l:List b} {i:Nat} (h:A.length=i):(A++x::l).set i y=A++y::l:=by
 simp_all
theorem Wj (k:Nat->Nat->Bool) (R:List (List Int)):(R.map rH).map (oI k)=R.map rH:=by
 grind [List.map_congr_left,oI,rH,zp]
theorem WG (d i c:Nat):(kw d (af i c)).map (List.map (aY fun x y=>x==d&&y==i+1))=kw d (af i c):=by
 apply aeW;grind [bO,aY,eQ]
def cpO (d n c:Nat) (f:FF) (i:Nat):List OObj:=⟨85,1,kw d (af i c)++af (n-i) vD⟩::(mat i c f).map rH
def cpI (d n c:Nat) (f:FF) (i j:Nat):List OObj:=⟨85,1,kw d (af i c)++[.sl d (i+1) 0 (j+1)]::af (n-i-1) vD⟩::((mat i c f).map rH++[rH (aA (j+1) (f i))])
def cpS (d n c:Nat) (f:FF) (i:Nat):Nat->List OObj
 |0=>cpO d n c f i
 |j+1=>cpI d n c f i j
theorem IY (i c:Nat) (f:FF):mat (i+1) c f=mat i c f++[aA c (f i)]:=by simp[mat,afH]
theorem kS (j:Nat) (g:Nat->Int):aA (j+1) g=aA j g++[g j]:=by simp[aA,afH]
theorem ab8 {d i:Nat} (f:FF) (b:1<=m) (e:i<n):cpS d n m f i m=cpO d n m f (i+1):=by
 obtain⟨j,rfl⟩: ∃j,m=j+1:=⟨m-1,by omega⟩;show cpI d n (j+1) f i j=_;grind [cpI,cpO,IY,List.replicate_succ',ws]
theorem ab7 (d n c:Nat) (f:FF):cpO d n c f n=gC d n c f:=by
 unfold cpO;simp
theorem YN {d i:Nat} (f:FF) (b:i<n):cpO d n m f i=⟨85,1,kw d (af i m)++vD::af (n-i-1) vD⟩::(mat i m f).map rH:=by
 unfold cpO;rw[show n-i=n-i-1+1 by omega,agG];rfl
theorem Ey (n c:Nat) (f:FF) (B:n<=17) (s:1<=c) (y:c<=17) (x: ∀i j,i<n->j<c->Bg (f i j)):
  CallC prog 55 [dq (mat n c f)] ⟨gC 0 n c f,.one (.sl 0 0 0 n)⟩:=by
 have m:=aS n c f;refine b6 func55 rfl (by kernel_rfl) ?_;rw[ntmps55];refine am fun _ K=>?_;simp only[kd,dq,af];apply K
 refine am fun _ K=>?_;simp(disch:=omega) only[kd,aa,m];apply K
 refine aj (am fun _ K=>?_);simp only[kd,aa,m];apply K;refine ay (G:=fp n) (fun g=>⟨(dq (mat n c f)::jk::.raw (.slice none 0 0)::.one (.sl 9 0 0 n)::j4 (jk::jk::jk::rN n::rN g.i::j16 (j4 (j4 (jk::[]))))),Hm [(9,cpO 9 n c f g.i)]⟩) (fun g=>n-g.i) ⟨0,by omega⟩ ?_ ?_
 ·refine ak ⟨?_,trivial⟩ ?_
  ·rfl
  simp[wk]
 rintro⟨i,z⟩;simp only;by_cases q:i<n
 ·have o:=bA c f q;have v:=aS i c f;have b:(kw 9 (af i c)).length=i:=by simp_all[eQ]
  have h:((mat i c f).map rH).length=i:=by grind
  refine am fun _ K=>?_;simp(disch:=omega) only[kd,dq];apply K
  refine aP rfl ?_;refine aj (ao ?_);refine am fun _ K=>?_;simp only[kd];apply K
  refine am fun _ K=>?_;simp(disch:=omega) only[kd,aa,o,fR,az];apply K
  refine ay (G:=fp c) (fun g=>⟨(dq (mat n c f)::jk::.raw (.slice none 0 0)::.one (.sl 9 0 0 n)::rN i::j4 (jk::jk::rN n::rN i::j4 (jk::.one (.p (.sl (ls fZ (aA c (f i)))))::rN c::rN g.i::j16 (jk::[])))),Hm [(9,cpS 9 n c f i g.i)]⟩) (fun g=>c-g.i) ⟨0,by omega⟩ ?_ ?_
  ·refine ak ⟨rfl,trivial⟩ ?_;simp[wk]
  rintro⟨j,A⟩;simp only;by_cases l:j<c
  ·have e:=aw (f i) l;have w:=VJ (f i j) (x i j q l);cases j with
   |zero=>
    rw[cpS,YN f q];refine am fun _ K=>?_;simp(disch:=omega) only[kd,dq];apply K
    refine aP rfl ?_;refine aj (ao ?_);refine am fun _ K=>?_;simp(disch:=omega) only[kd,aa,e,fZ,ae];apply K
    refine ou bZ [⟨7,_,_,_,w⟩] [] (by kernel_rfl) fun _ K=>?_;simp(disch:=omega) only[kd,tZ,aa,ae,FD b,Nat.reduceMul,Nat.reduceLeDiff,FE b,v,ag];apply K
    show bv _ _ _ _;refine cJ fun _ K=>?_;simp(disch:=omega) only[kd,aH];apply K
    refine⟨⟨1,by omega⟩,by grind,ak ⟨?_,trivial⟩ ?_⟩
    ·rfl
    simp[wk]
   |succ j=>
    have r:(0==i+1)=false:=by simp
    rw[cpS,cpI];refine am fun _ K=>?_;simp(disch:=omega) only[kd,dq];apply K
    refine aP rfl ?_;refine aj (ao ?_);refine am fun _ K=>?_;simp(disch:=omega) only[kd,aa,e,fZ,ae];apply K
    refine ou bZ [⟨7,_,_,_,w⟩] [] (by kernel_rfl) fun _ K=>?_;simp(disch:=omega) only[kd,tZ,aa,rH,ae,FD b,Nat.reduceMul,Nat.reduceLeDiff,FD h,az,afv,WG,aiO,Wj,oM,FE h,r,ag,FE b,reduceCtorEq,afg,h];apply K
    show bv _ _ _ _;refine cJ fun _ K=>?_;simp(disch:=omega) only[kd,aH];apply K
    refine⟨⟨j+1+1,by omega⟩,by grind,ak ⟨?_,trivial⟩ ?_⟩
    ·show _=cpI 9 n c f i (j+1);rw[cpI,rH,kS (j+1)];rfl
    simp[wk]
  have u:j=c:=by omega
  subst u;refine am fun _ K=>?_;simp(disch:=omega) only[kd,dq];apply K
  refine aQ rfl ?_;show bv _ _ _ _;rw[ab8 f s q];refine cJ fun _ K=>?_;simp(disch:=omega) only[kd,aH];apply K
  refine⟨⟨i+1,by omega⟩,by grind,ak ⟨rfl,trivial⟩ ?_⟩;simp[wk]
 have t:i=n:=by omega
 subst t;refine am fun _ K=>?_;simp(disch:=omega) only[kd,dq];apply K
 refine aQ rfl ?_;show bv _ _ _ _;rw[ab7];refine am fun _ K=>?_;simp only[kd];apply K
 refine aM ⟨.inr rfl,_,bN.refl _,?_⟩;refine⟨.one (.sl 9 0 0 i),9,?_,rfl,?_,rfl⟩
 ·simp(disch:=omega) only[kd,results55]
 grind [fD]
end Go.Proofs.YtalmoejhjceflaaGreat
