/-
  Part 26 of a proof (walks and plain facts).
-/
import Derived.Test.YtalmoejhjceflaaGreatR24
set_option linter.all false
set_option maxRecDepth 100000
set_option maxHeartbeats 64000000
open Nat renaming reduceAdd → aa
open Nat renaming reduceEqDiff → ab
open List renaming replicate → ae
open Nat renaming reduceBEq → af
namespace Go.Proofs.YtalmoejhjceflaaGreat
open Go.RowKit Go.Proofs.Tryz
variable {n m:Nat} {b:List (List Int)} {x:Int} {c:FF}
theorem IF {a:Nat} (h:n<=a):0<=gD a n:=by grind [gD]
theorem NI {a b:Nat} (h:a<b):gD a b<0:=by grind [ot]
abbrev Dk (a b:Nat):TV:= .tup [(false,[.p (.sl (ls fU (au (a/b))))]),(false,[.p (.sl (ls fU (au (a%b))))])]
theorem pD {a:Nat} (h:a<=n):(au a).length<=(au n).length:=i9 (aE _) (b9 _) (by grind [az])
theorem NQ (a b:Nat) (s:0<b) (la:(au a).length<=536870912) (lb:(au b).length<=536870912):CallC prog 186 [cY (au a),cY (au b)] ⟨[],Dk a b⟩:=by
 by_cases hs:(au a).length<=2/\(au b).length<=2
 ·obtain⟨U,V⟩:=hs;have ua:=gP U;have ub:=gP V;have p:=ON (au a) (aE _) (by omega);have e:=ON (au b) (aE _) (by omega);rw[aaz U,az]at p;rw[aaz V,az]at e;have C:a/b<=a:=aco _ _;have D:a%b<b:=aaQ _ s;have c:=Cl false (a/b) (by omega);have u:=Cl false (a%b) (by omega);rw[show f4 false (a/b)=((a/b:Nat):Int)from rfl]at c;rw[show f4 false (a%b)=((a%b:Nat):Int)from rfl]at u;have F:(b:Int)≠0:=by omega
  have z:IntKind.u64.wrap (Int.tdiv (a:Int) (b:Int))=((a/b:Nat):Int):=by
   grind [IntKind.wrap_u64]
  have A:Int.tmod (a:Int) (b:Int)=((a%b:Nat):Int):=by
   rfl
  unfold Dk;generalize a/b=q at*
  generalize a%b=r at*
  refine aA func186 rfl ntmps186 (aC (k:=ai (ar (k:=ay rfl (bK [⟨1,_,_,_,p⟩,⟨3,_,_,_,e⟩] (k:=mb [⟨3,_,_,_,c⟩,⟨8,_,_,_,u⟩] (aH @Int.natAbs_natCast (aH (@ne_eq.{1}) (aH F (aH @not_false_eq_true (aH z A))))) (k:=aD @results186)))))))
 refine aA func186 rfl ntmps186 (aC (k:=?_));by_cases c:(au a).length<=2
 all_goals
  (first|refine an fun _ K=>?_|refine ai (an fun _ K=>?_)|refine ai (ai (an fun _ K=>?_)));simp(disch:=omega) only[kd,aa];apply K
  first|refine aq rfl (ak ?_)|refine bi rfl (fun h=>by simp at h<;>omega) (fun _=>ak ?_)
  show bf _ _ _ _
  (first|refine an fun _ K=>?_|refine ai (an fun _ K=>?_)|refine ai (ai (an fun _ K=>?_)));simp(disch:=omega) only[kd,aa,mw];apply K
  (first|refine an fun _ K=>?_|refine ai (an fun _ K=>?_)|refine ai (ai (an fun _ K=>?_)));simp(disch:=omega) only[kd,aa,aK];apply K
  refine aB (G:=Vy a b (au a).length) (fun g=>⟨(cY (au a)::cY (au b)::jk::jk::.one (.sl 33 0 0 (au a).length)::cY (au (a/2^g.t%b))::jk::jk::.raw (.int .i64 ((g.t:Int)-1))::j16 (j16 (j16 (j16 (jk::jk::[]))))),Hm [(33,[⟨165,1,lc fU g.O⟩])]⟩) (fun g=>g.t) ⟨32*(au a).length,ae (au a).length 0,by omega,by simp,fun x v=>by simp at v;omega,by rw[wP,zg rfl];simp⟩ ?_ ?_
  ·refine(dZ (k:=5) (d:=900) 165 1 (by omega) rfl rfl).trans ((bD 900 (bO (f:=fU) (l:=[]) rfl)).trans (aj ⟨rfl,trivial⟩ ?_));simp[wk,ew,dF,zg rfl,cj];rfl
  rintro⟨t,O,T,len,lmb,val⟩;simp only;cases t with
  |zero=>
   have o:=jv O (by omega);rw[ee lmb,val]at o;simp only[aer,Nat.div_one,adz]at o;simp only[aer,Nat.div_one]
   (first|refine an fun _ K=>?_|refine ai (an fun _ K=>?_)|refine ai (ai (an fun _ K=>?_)));simp(disch:=omega) only[kd,cY];apply K
   first|refine aq rfl (aZ ?_)|refine bi rfl (fun h=>by simp at h<;>omega) (fun _=>aZ ?_)
   show bf _ _ _ _;refine bf.weak (bD 33 (bO rfl)) ?_;have Y:List.take (au a).length O=O:=aaz (by omega);simp(disch:=omega) only[kd,Y]
   (first|refine aQ [⟨1,_,_,_,o⟩] [] fun _ K=>?_|refine ai (aQ [⟨1,_,_,_,o⟩] [] fun _ K=>?_)|refine ai (ai (aQ [⟨1,_,_,_,o⟩] [] fun _ K=>?_)));simp only[kd,cY,aa];apply K
   (refine aW ⟨.inr rfl,bW rfl ?_ rfl⟩;simp(disch:=omega) only[kd,results186])
  |succ k=>
   have Z:((k+1:Nat):Int)-1=(k:Int):=by omega
   simp only[Z];have H:k/32<(au a).length:=by omega
   obtain⟨x,v⟩:=getElem?_of_lt H;have ac:=bZ (aE a) v;obtain⟨y,L⟩:=getElem?_of_lt (show k/32<O.length by omega);have M:=bZ lmb L;have w:=Kx v;have C:IntKind.i64.wrap (Int.tdiv (k:Int) 32)=((k/32:Nat):Int):=by
    grind [IntKind.wrap_i64]
   have D:Int.tmod (k:Int) 32=((k%32:Nat):Int):=by rfl
   have S:min (k%32) IntKind.u32.bits=k%32:=by show min (k%32) 32=_;omega
   have z:Int.fdiv (x:Int) (2^min (k%32) IntKind.u32.bits)=((x/2^(k%32):Nat):Int):=by
    grind
   have ad:x/2^(k%32)<=x:=aco _ _;have A:IntKind.u32.wrap (((BitVec.ofInt IntKind.u32.bits ((x/2^(k%32):Nat):Int)&&&BitVec.ofInt IntKind.u32.bits (1:Int)).toNat:Nat):Int)=((a/2^k%2:Nat):Int):=by
    rw[<- w,<- Nat.and_one_is_mod];exact Yz (x/2^(k%32)) 1 (by omega) (by omega)
   have ab:a/2^k%2<2:=aaQ _ (by omega);have J:a/2^(k+1)%b<b:=aaQ _ s;have lr:=pD (acD J);have p:=NU (au (a/2^(k+1)%b)) (a/2^k%2) (aE _) (by omega) (by omega);have e:=jv (dblL (au (a/2^(k+1)%b)) (a/2^k%2)) (by rw[Di];omega);rw[ee (DO _ _ (aE _) (by omega)),zE _ _ (aE _) (by omega),az]at e;by_cases j:b<=2*(a/2^(k+1)%b)+a/2^k%2
   ·obtain⟨E,P,Q⟩:=SD s T len lmb val j L;have m:=(NO s j).2;have N:=lP (n:=2*(a/2^(k+1)%b)+a/2^k%2) (k:=(au b).length+1) (by
     grind [gy,aE,az])
    generalize 2*(a/2^(k+1)%b)+a/2^k%2=R at*
    have c:=IG (au R) (au b) (aE _) (aE _) (b9 _) (b9 _) (by omega) (by omega);rw[az,az]at c;have hc:=IF j;have u:=mr (au R) (au b) (aE _) (aE _) (by omega) (by omega);have B:=jv (diffL (au R) (au b) 0) (by rw[jN];omega);have hd:=iE (au R) (au b) 0 (aE _) (aE _) (by omega) (pD j) (by grind [az]);rw[az,az]at hd;rw[ee (jP _ _ _),show natV (diffL (au R) (au b) 0)=a/2^k%b by omega]at B;have I:2^(k%32)<4294967296:=ad4 (a:=2) (n:=32) (by omega) (aaQ _ (by omega));have W:IntKind.u32.wrap (1*2^min (k%32) IntKind.u32.bits)=((2^(k%32):Nat):Int):=by
     grind [E7]
    have X:=Y0 y (2^(k%32)) M I
    (first|refine an fun _ K=>?_|refine ai (an fun _ K=>?_)|refine ai (ai (an fun _ K=>?_)));simp(disch:=omega) only[kd,cY];apply K
    first|refine ay rfl (ak ?_)|refine bi rfl (fun _=>ak ?_) (fun h=>by simp at h<;>omega)
    refine ai (am ?_)
    (first|refine aQ [⟨10,_,_,_,p⟩,⟨11,_,_,_,e⟩] [] fun _ K=>?_|refine ai (aQ [⟨10,_,_,_,p⟩,⟨11,_,_,_,e⟩] [] fun _ K=>?_)|refine ai (ai (aQ [⟨10,_,_,_,p⟩,⟨11,_,_,_,e⟩] [] fun _ K=>?_)));simp(disch:=omega) only[kd,cY,aa,C,v,D,z,A,af];apply K
    (first|refine aQ [⟨2,_,_,_,c⟩] [] fun _ K=>?_|refine ai (aQ [⟨2,_,_,_,c⟩] [] fun _ K=>?_)|refine ai (ai (aQ [⟨2,_,_,_,c⟩] [] fun _ K=>?_)));simp(disch:=omega) only[kd,cY,aa];apply K
    first|refine ay rfl ?_|refine bi rfl (fun _=>?_) (fun h=>by simp at h<;>omega)
    (first|refine aQ [⟨2,_,_,_,u⟩,⟨3,_,_,_,B⟩] [] fun _ K=>?_|refine ai (aQ [⟨2,_,_,_,u⟩,⟨3,_,_,_,B⟩] [] fun _ K=>?_)|refine ai (ai (aQ [⟨2,_,_,_,u⟩,⟨3,_,_,_,B⟩] [] fun _ K=>?_)));simp only[kd,cY,aa,af];apply K
    refine nn (aH C (aH L (aH D (aH W (aH X @dq))))) (k:=bS (k:=?_));refine⟨E,by omega,aj ⟨by rw[Q];rfl,trivial⟩ ?_⟩;simp[wk,P]
   obtain⟨E,P,Q⟩:=SE s T len lmb val (by omega);have m:=(NP (a:=a) (k:=k) s (by omega)).2;rw[<- m]at e j;have N:=pD (acD (aaQ (a/2^k) s));have c:=IG (au (a/2^k%b)) (au b) (aE _) (aE _) (b9 _) (b9 _) (by omega) (by omega);rw[az,az]at c;have hc:=NI (a:=a/2^k%b) (b:=b) (by omega)
   (first|refine an fun _ K=>?_|refine ai (an fun _ K=>?_)|refine ai (ai (an fun _ K=>?_)));simp(disch:=omega) only[kd,cY];apply K
   first|refine ay rfl (ak ?_)|refine bi rfl (fun _=>ak ?_) (fun h=>by simp at h<;>omega)
   refine ai (am ?_)
   (first|refine aQ [⟨10,_,_,_,p⟩,⟨11,_,_,_,e⟩] [] fun _ K=>?_|refine ai (aQ [⟨10,_,_,_,p⟩,⟨11,_,_,_,e⟩] [] fun _ K=>?_)|refine ai (ai (aQ [⟨10,_,_,_,p⟩,⟨11,_,_,_,e⟩] [] fun _ K=>?_)));simp(disch:=omega) only[kd,cY,aa,C,v,D,z,A,af];apply K
   (first|refine aQ [⟨2,_,_,_,c⟩] [] fun _ K=>?_|refine ai (aQ [⟨2,_,_,_,c⟩] [] fun _ K=>?_)|refine ai (ai (aQ [⟨2,_,_,_,c⟩] [] fun _ K=>?_)));simp(disch:=omega) only[kd,cY,aa];apply K
   first|refine aq rfl (ak ?_)|refine bi rfl (fun h=>by simp at h<;>omega) (fun _=>ak ?_)
   show bf _ _ _ _;refine bS (k:=?_);refine⟨E,by omega,aj ⟨by rw[Q];rfl,trivial⟩ ?_⟩;simp[wk,P]
def tq (a b:Int):Int:=f4 (!(decide (a<0)==decide (b<0))) (a.natAbs/b.natAbs)
def tr (a b:Int):Int:=f4 (decide (a<0)) (a.natAbs%b.natAbs)
theorem Qz (a b:Int):tr a b+b*tq a b=a:=by
 have h:=acn a.natAbs b.natAbs;have c:(b.natAbs:Int)*((a.natAbs/b.natAbs:Nat):Int)+((a.natAbs%b.natAbs:Nat):Int)=(a.natAbs:Int):=by
  omega
 unfold tq tr f4;grind
theorem QB (a b:Int):(tr a b).natAbs=a.natAbs%b.natAbs:=rA _ _
theorem Qy (a b:Int):(tq a b).natAbs=a.natAbs/b.natAbs:=rA _ _
theorem JW {a b:Int} (c:b≠0):(tr a b).natAbs<b.natAbs:=by simp_all[QB,aaQ]
theorem F8 {a b:Int} (c:b≠0) (h:0<=tr a b):a/b=tq a b/\a%b=tr a b:=by
 have e:=Qz a b;have f:=JW (a:=a) c;grind [Int.ediv_emod_unique',Int.ediv_emod_unique]
theorem IQ {a b:Int} (c:b<0) (h:tr a b<0):a/b=tq a b+1/\a%b=tr a b+b.natAbs:=by
 have e:=Qz a b;have f:=JW (a:=a) (b:=b) (by omega);refine(Int.ediv_emod_unique' c).2 ⟨?_,by omega,by omega⟩;grind
theorem IR {a b:Int} (c:0<b) (h:tr a b<0):a/b=tq a b-1/\a%b=tr a b+b.natAbs:=by
 have e:=Qz a b;have f:=JW (a:=a) (b:=b) (by omega);refine(ada c).2 ⟨?_,by omega,by omega⟩;grind
theorem Sz.le {y:Int} {k:Nat} (h:Sz y k) (b:x.natAbs<=y.natAbs):Sz x k:=abS b h
theorem mL {k:Nat} (h:0<k):Sz 1 k:=by grind [Sz]
theorem Nv:Bh 1:=mL (by omega)
theorem Qb (h:x<0):sg x= -1:=by simp[sg,h]
theorem Ad {z:Int} (h:0<=z):0<=sg z:=by grind [sg]
theorem Cv (a b:Int) (g:b≠0) (y:Bh a) (s:Bh b):CallC prog 129 [tZ a,tZ b] ⟨[],.tup [(true,cZ (a/b)),(true,cZ (a%b)),(false,[.p (.raw (.bool true))])]⟩:=by
 have F:=y.len;have G:=s.len;have t1:=jv (au a.natAbs) y.bg.len;have t2:=jv (au b.natAbs) s.bg.len;rw[ii]at t1 t2;have E:(au b.natAbs).length≠0:=fun h=>g (by grind [fD])
 have A:=NQ a.natAbs b.natAbs (by omega) F G;have v:Bh (tq a b):=y.le (by simp_all[Qy,aco]);have w:Bh (tr a b):=s.le (acD (JW g));have c:=j8 (!(decide (a<0)==decide (b<0))) (au (a.natAbs/b.natAbs)) (aE _) (by have:=v.bg.len;grind [Qy]);have e:=j8 (decide (a<0)) (au (a.natAbs%b.natAbs)) (aE _) (by have:=w.bg.len;grind [QB]);rw[az,show f4 _ _=tq a b from rfl]at c;rw[az,show f4 _ _=tr a b from rfl]at e;have u:=mI (tr a b) w.bg;have H:= @F8 a b g;have I:= @IQ a b;have J:= @IR a b;generalize tq a b=Q at*
 generalize tr a b=R at*
 by_cases x:R<0
 ·have j:=j8 false (au b.natAbs) (aE _) (by omega);rw[az,show f4 false b.natAbs=((b.natAbs:Nat):Int)from rfl]at j;have D:=ve R (b.natAbs:Int) w (by grind [Sz]);have m:=mI b s.bg;have C:=fc 1 (by omega) (by omega);rw[Qb x]at u;by_cases r:b<0
  ·obtain⟨o,q⟩:=I r x;rw[o,q];rw[Qb r]at m;have f:=ve Q 1 v Nv;refine aA func129 rfl ntmps129 (aC (k:=di [⟨2,_,_,_,t1⟩,⟨5,_,_,_,t2⟩] (k:=ai (ar (k:=aq rfl (ak (bK [⟨2,_,_,_,A⟩] (k:=di [⟨6,_,_,_,c⟩,⟨10,_,_,_,e⟩] (k:=?_)))))))));refine bf.weak (aj (tm:=(jk::jk::.one (.ptr 2 0 0 0)::.one (.ptr 3 0 0 0)::.one (.ptr 4 0 0 0)::.one (.ptr 5 0 0 0)::.raw (.bool false)::jk::cY (au b.natAbs)::jk::jk::.one (.ptr 11 0 0 0)::.one (.ptr 12 0 0 0)::j16 (j16 (j16 ([]))))) (l:=[(2,Cp (decide (a<0)) (au a.natAbs)),(3,Cp true (au b.natAbs)),(4,AO),(5,AO),(11,Cp (decide (Q<0)) (au Q.natAbs)),(12,Cp true (au R.natAbs))]) ⟨rfl,rfl,rfl,rfl,rfl,rfl,trivial⟩ (by simp[wk])) ?_;refine ai (bL [⟨1,_,_,_,u⟩] (k:=ay rfl (di [⟨2,_,_,_,j⟩,⟨3,_,_,_,D⟩] (k:=ai (bL [⟨1,_,_,_,m⟩] (k:=ay rfl ?_))))));refine vz [(12,12,65),(4,4,65)] b8 [⟨1,_,_,_,C⟩,⟨2,_,_,_,f⟩] [] (by kernel_rfl) (JQ (t:=65) (n:=2) (by simp only[rV,n7,lZ,mN,vd,rR,mO,rS,rU,mM,Cg,uZ,rT]) (by decide) rfl) (BV rfl) fun _ K=>?_;simp(disch:=omega) only[kd,tZ,aa,ab,af];apply K
   (refine aW ⟨.inr rfl,bW rfl ?_ rfl⟩;simp(disch:=omega) only[kd,results129,ab,aa,cZ])
  obtain⟨o,q⟩:=J (by omega) x;rw[o,q];have B:=Ad (z:=b) (by omega);have f:=MS Q 1 v Nv;refine aA func129 rfl ntmps129 (aC (k:=di [⟨2,_,_,_,t1⟩,⟨5,_,_,_,t2⟩] (k:=ai (ar (k:=aq rfl (ak (bK [⟨2,_,_,_,A⟩] (k:=di [⟨6,_,_,_,c⟩,⟨10,_,_,_,e⟩] (k:=?_)))))))));refine bf.weak (aj (tm:=(jk::jk::.one (.ptr 2 0 0 0)::.one (.ptr 3 0 0 0)::.one (.ptr 4 0 0 0)::.one (.ptr 5 0 0 0)::.raw (.bool false)::jk::cY (au b.natAbs)::jk::jk::.one (.ptr 11 0 0 0)::.one (.ptr 12 0 0 0)::j16 (j16 (j16 ([]))))) (l:=[(2,Cp (decide (a<0)) (au a.natAbs)),(3,Cp false (au b.natAbs)),(4,AO),(5,AO),(11,Cp (decide (Q<0)) (au Q.natAbs)),(12,Cp true (au R.natAbs))]) ⟨rfl,rfl,rfl,rfl,rfl,rfl,trivial⟩ (by simp[wk])) ?_;refine ai (bL [⟨1,_,_,_,u⟩] (k:=ay rfl (di [⟨2,_,_,_,j⟩,⟨3,_,_,_,D⟩] (k:=ai (bL [⟨1,_,_,_,m⟩] (k:=aq rfl (ak ?_)))))));refine vz [(12,12,65),(4,4,65)] b8 [⟨1,_,_,_,C⟩,⟨2,_,_,_,f⟩] [] (by kernel_rfl) (JQ (t:=65) (n:=2) (by simp only[rV,n7,lZ,mN,vd,rR,mO,rS,rU,mM,Cg,uZ,rT]) (by decide) rfl) (BV rfl) fun _ K=>?_;simp(disch:=omega) only[kd,tZ,aa,ab,af];apply K
  (refine aW ⟨.inr rfl,bW rfl ?_ rfl⟩;simp(disch:=omega) only[kd,results129,ab,aa,cZ])
 obtain⟨o,q⟩:=H (by omega);rw[o,q];have B:=Ad (z:=R) (by omega);refine aA func129 rfl ntmps129 (aC (k:=di [⟨2,_,_,_,t1⟩,⟨5,_,_,_,t2⟩] (k:=ai (ar (k:=aq rfl (ak (bK [⟨2,_,_,_,A⟩] (k:=di [⟨6,_,_,_,c⟩,⟨10,_,_,_,e⟩] (k:=?_)))))))));refine bf.weak (aj (tm:=(jk::jk::.one (.ptr 2 0 0 0)::.one (.ptr 3 0 0 0)::.one (.ptr 4 0 0 0)::.one (.ptr 5 0 0 0)::.raw (.bool false)::jk::cY (au b.natAbs)::jk::jk::.one (.ptr 11 0 0 0)::.one (.ptr 12 0 0 0)::j16 (j16 (j16 ([]))))) (l:=[(2,Cp (decide (a<0)) (au a.natAbs)),(3,Cp (decide (b<0)) (au b.natAbs)),(4,AO),(5,AO),(11,Cp (decide (Q<0)) (au Q.natAbs)),(12,Cp false (au R.natAbs))]) ⟨rfl,rfl,rfl,rfl,rfl,rfl,trivial⟩ (by simp[wk])) ?_;refine ai (bL [⟨1,_,_,_,u⟩] (k:=aq rfl (ak ?_)));refine vz [(12,12,65),(4,4,65)] b8 [] [] (by kernel_rfl) (JQ (t:=65) (n:=2) (by simp only[rV,n7,lZ,mN,vd,rR,mO,rS,rU,mM,Cg,uZ,rT]) (by decide) rfl) (BV rfl) fun _ K=>?_;simp(disch:=omega) only[kd,aa,ab];apply K
 (refine aW ⟨.inr rfl,bW rfl ?_ rfl⟩;simp(disch:=omega) only[kd,results129,ab,aa,cZ])
theorem CD (a b:Int) (c:b≠0) (f:Bh a) (g:Bh b):CallC prog 76 [tZ a,tZ b] ⟨[],tZ (a/b)⟩:=by
 have e:=Cv a b c f g;refine aA func76 rfl ntmps76 (aC (k:=bL [⟨2,_,_,_,e⟩] (k:=ar (k:=aD @results76))))
abbrev rOk (n:Nat) (r:List Int):Prop:=1<=r.length/\r.length<=16/\r.length=n
def Fu (M:List (List Int)):Prop:=1<=M.length/\M.length<=16/\ ∀r∈M,rOk (M.headD []).length r
instance (M:List (List Int)):Decidable (Fu M):=by unfold Fu;exact inferInstance
def Xf (M:List (List Int)):TV:=if Fu M then .tup [(false,[.p (.raw (.int .i64 (M.length:Int)))]),(false,[.p (.raw (.int .i64 ((M.headD []).length:Int)))]),(false,[.p (.raw (.bool true))])]
 else .tup [(false,[.p (.raw (.int .i64 0))]),(false,[.p (.raw (.int .i64 0))]),(false,[.p (.raw (.bool false))])]
theorem fY (h: ¬Fu b):Xf b= .tup [(false,[.p (.raw (.int .i64 0))]),(false,[.p (.raw (.int .i64 0))]),(false,[.p (.raw (.bool false))])]:=by grind [Xf]
theorem ig (h:Fu b):Xf b= .tup [(false,[.p (.raw (.int .i64 (b.length:Int)))]),(false,[.p (.raw (.int .i64 ((b.headD []).length:Int)))]),(false,[.p (.raw (.bool true))])]:=by grind [Xf]
theorem iY {M:List (List Int)} (h:1<=M.length):M[0]?=some (M.headD []):=by cases M with
 |nil=>simp at h
 |cons r M=>rfl
structure ShG (M:List (List Int)) where
 i:Nat
 hi:i<=M.length
 ok: ∀r∈M.take i,rOk (M.headD []).length r
theorem qc (M:List (List Int)):CallC prog 113 [da M] ⟨[],Xf M⟩:=by
 by_cases p:M.length<1
 ·rw[fY (fun h=>by have:=h.1;omega)];refine aA func113 rfl ntmps113 (aC (k:=ai (ar (k:=ay rfl (bC (k:=aD @results113))))))
 by_cases q:16<M.length
 ·rw[fY (fun h=>by have:=h.2.1;omega)];refine aA func113 rfl ntmps113 (aC (k:=ai (ar (k:=ay rfl (bC (k:=aD @results113))))))
 have e:=iY (M:=M) (by omega);refine aA func113 rfl ntmps113 (aC (k:=ai (ar (k:=aq rfl (ak (ai (bC (k:=?_))))))));refine aB (G:=ShG M) (fun g=>⟨(da M::jk::.raw (.int .i64 0)::.raw (.int .i64 0)::.raw (.bool false)::j4 (j4 (jk::jk::da M::rN M.length::rN g.i::j16 (j4 (j4 (jk::jk::jk::[])))))),Hm []⟩) (fun g=>M.length-g.i) ⟨0,by omega,fun r c=>by simp at c⟩ ?_ ?_
 ·refine aj trivial ?_;simp[wk]
 rintro⟨i,s,ok⟩;simp only;by_cases j:i<M.length
 ·obtain⟨r,c⟩:=getElem?_of_lt j;have b:r∈M:=aai c;refine ar (k:=be rfl (ai (am (aL c (k:=?_)))));by_cases m:r.length<1
  ·rw[fY (fun h=>by have:=(h.2.2 r b).1;omega)];refine ar (k:=ay rfl (bC (k:=aD @results113)))
  by_cases n:16<r.length
  ·rw[fY (fun h=>by have:=(h.2.2 r b).2.1;omega)];refine ar (k:=ay rfl (bC (k:=aD @results113)))
  by_cases o:r.length=(M.headD []).length
  ·refine aL e (k:=aq rfl (ak (bS (k:=?_))));refine⟨⟨i+1,by omega,fun t l=>?_⟩,by simp only;omega,aj trivial ?_⟩
   ·grind [List.take_add_one]
   simp[wk]
  rw[fY (fun h=>by have:=(h.2.2 r b).2.2;omega)];refine aL e (k:=ay rfl (bC (k:=aD @results113)))
 have f:Fu M:=⟨by omega,by omega,fun r c=>ok r (by grind)⟩;rw[ig f];refine ar (k:=bv rfl (iu e (k:=aD @results113)))
def Zj (M:List (List Int)):Prop:=Fu M/\M.length=(M.headD []).length
instance (M:List (List Int)):Decidable (Zj M):=by unfold Zj;exact inferInstance
def Vl (M:List (List Int)):TV:=if Zj M then .tup [(false,[.p (.raw (.int .i64 (M.length:Int)))]),(false,[.p (.raw (.bool true))])]else .tup [(false,[.p (.raw (.int .i64 0))]),(false,[.p (.raw (.bool false))])]
theorem CF (M:List (List Int)):CallC prog 102 [da M] ⟨[],Vl M⟩:=by
 have b:=qc M;by_cases c:Fu M
 ·rw[ig c]at b;by_cases e:M.length=(M.headD []).length
  ·rw[show Vl M=_ from if_pos ⟨c,e⟩];refine aA func102 rfl ntmps102 (aC (k:=bK [⟨1,_,_,_,b⟩] (k:=ai (ar (k:=aq rfl (ak (bC (k:=aD @results102))))))))
  rw[show Vl M=_ from if_neg (fun h=>e h.2)];refine aA func102 rfl ntmps102 (aC (k:=bK [⟨1,_,_,_,b⟩] (k:=ai (ar (k:=ay rfl (bC (k:=aD @results102)))))))
 rw[fY c]at b;rw[show Vl M=_ from if_neg (fun h=>c h.1)];refine aA func102 rfl ntmps102 (aC (k:=bK [⟨1,_,_,_,b⟩] (k:=ai (ar (k:=ay rfl (bC (k:=aD @results102)))))))
def ju (d:Nat) (l:List Nat):List (List AV):=l.mapIdx fun k c=>[.sl d (k+1) 0 c]
def nW (r:List Int):OObj:=⟨65,2,lc fZ r⟩
def Vb (d:Nat) (R:List (List Int)):List OObj:=⟨85,1,ju d (R.map List.length)⟩::R.map nW
def Vv (d n c i:Nat):List OObj:=⟨85,1,ju d (ae i c)++ae (n-i) [.p (.sl [])]⟩::ae i (nW (ae c 0))
theorem cJ (d:Nat) (l:List Nat):(ju d l).length=l.length:=by simp[ju]
theorem rF (d:Nat) (l:List Nat) (c:Nat):ju d (l++[c])=ju d l++[[.sl d (l.length+1) 0 c]]:=by simp_all[ju]
theorem Vk (d:Nat) (l:List Nat):(ju d l).map (List.map Fa)=ju d l:=by
 apply aaC;intro k;simp only[ju,aam,ad1];cases l[k]?<;>rfl
theorem Y3 (r:List Int):(lc fZ r).map (List.map Fa)=lc fZ r:=by simp[lc,fZ,Fa,Fi]
theorem MD (d n c:Nat):([⟨85,1,ae n [.raw (.slice none 0 0)]⟩]:List OObj).map zO=Vv d n c 0:=by
 simp[Vv,zO,ju,Fa,Fi]
theorem Rq (d n c:Nat):Vv d n c n=Vb d (ae n (ae c 0)):=by
 simp[Vv,Vb]
theorem Kb {d c i:Nat} (b:i<n):(ju d (ae i c)++ae (n-i) [AV.p (PV.sl [])])[i]?=some [.p (.sl [])]:=by
 grind [cJ]
theorem Rr {d i:Nat} (e:i<n):
  ((⟨85,1,(ju d (ae i m)++ae (n-i) [AV.p (PV.sl [])]).set i [.sl d (i+1) 0 m]⟩::ae i (nW (ae m 0))++[⟨65,2,ae m [.raw (.bool false),.raw (.slice none 0 0)]⟩]:List OObj)).map zO=Vv d n m (i+1):=by
 have b:(ju d (ae i m)++ae (n-i) [AV.p (PV.sl [])]).set i [.sl d (i+1) 0 m]=ju d (ae (i+1) m)++ae (n-(i+1)) [AV.p (PV.sl [])]:=by
  rw[abG _ _ (by simp[cJ]),cJ,aaL,abC,acu (n:=i),rF,aaL,aaM]
  congr 1
  rw[show n-i=n-(i+1)+1 by omega,acx];rfl
 rw[b];simp only[aca,aaI,abe,aeg,Vv]
 congr 1
 ·simp[zO,Vk,Fa,Fi]
 rw[acu]
 congr 1
 ·grind [zO,nW,Y3]
 simp[zO,nW,lc,fZ,Fa,Fi,cj,ls]
theorem JI (d e:Nat) (l:List Nat):(ju d l).map (List.map (cb e))=ju e l:=by
 apply aaC;intro k;simp only[ju,aam,ad1];cases l[k]?<;>rfl
theorem TP (e:Nat) (r:List Int):renO e (nW r)=nW r:=by simp[renO,nW,iC]
theorem Jg (d e:Nat) (R:List (List Int)):(Vb d R).map (renO e)=Vb e R:=by
 grind [Vb,renO,JI,List.map_congr_left,TP]
structure ZrG (n:Nat) where
 i:Nat
 hi:i<=n
theorem vG (n c:Nat) (l:n<=16) (h:c<=16):CallC prog 51 [.raw (.int .i64 (n:Int)),.raw (.int .i64 (c:Int))] ⟨Vb 0 (ae n (ae c 0)),.one (.sl 0 0 0 n)⟩:=by
 refine aA func51 rfl ntmps51 (aC (k:=ar (k:=ai (bC (k:=?_)))));refine aB (G:=ZrG n) (fun g=>⟨(.raw (.int .i64 (n:Int))::rN c::jk::jk::.raw (.slice none 0 0)::.one (.sl 8 0 0 n)::j4 (.raw (.int .i64 (n:Int))::rN g.i::j4 (j4 (jk::[])))),Hm [(8,Vv 8 n c g.i)]⟩) (fun g=>n-g.i) ⟨0,by omega⟩ ?_ ?_
 ·refine(gn 8).trans (aj ⟨MD 8 n c,trivial⟩ ?_);simp[wk]
 rintro⟨i,j⟩;simp only;by_cases e:i<n
 ·refine ar (k:=be rfl (ai (am (bC (k:=?_)))));simp only[Vv];have f:=Kb (d:=8) (c:=c) e;refine eK (aH f (aH @aaL (aH @acf (@ite_self.{1})))) (k:=bS (k:=?_));refine⟨⟨i+1,by omega⟩,by grind,(gn 8).trans (aj ⟨Rr e,trivial⟩ ?_)⟩;simp[wk]
 have b:i=n:=by omega
 subst b;refine ar (k:=bv rfl ?_);show bf _ _ _ _;rw[Rq];refine bC (k:=?_);refine aW ⟨.inr rfl,_,bG.refl _,?_⟩;refine⟨.one (.sl 8 0 0 i),8,?_,rfl,?_,rfl⟩
 ·simp(disch:=omega) only[kd,results51]
 grind [Jg]
abbrev gu (d n c:Nat) (f:FF):List OObj:=⟨85,1,ju d (ae n c)⟩::(mat n c f).map nW
theorem OV (n c:Nat) (f:FF):(mat n c f).map List.length=ae n c:=by
 apply aaC;grind [bF,aI,aT]
theorem pJ (d n c:Nat) (f:FF):Vb d (mat n c f)=gu d n c f:=by rw[Vb,OV]
theorem qL (n c:Nat):ae n (ae c (0:Int))=mat n c fun _ _=>0:=by
 apply aaC;intro i;rw[aba];by_cases h:i<n
 ·rw[bF _ _ h,if_pos h]
  congr 1
  apply aaC;grind [aw,aI]
 grind [aT]
theorem bU {n i:Nat} (d c:Nat) (h:i<n):(ju d (ae n c))[i]?=some [.sl d (i+1) 0 c]:=by
 simp[ju,h]
theorem dS {n i:Nat} (c:Nat) (f:FF) (h:i<n):((mat n c f).map nW)[i]?=some ⟨65,2,lc fZ (aN c (f i))⟩:=by
 rw[aam,bF _ _ h];rfl
def upd (f:FF) (i j:Nat) (v:Int):Nat->Nat->Int:=fun a=>if a=i then(fun b=>if b=j then v else f i b)else f a
theorem iL {n i j:Nat} (c:Nat) (f:FF) (v:Int):((mat n c f).map nW).set i ⟨65,2,(lc fZ (aN c (f i))).set j [.p (.raw (.bool (decide (v<0)))),.p (.sl (ls fU (au v.natAbs)))]⟩=(mat n c (upd f i j v)).map nW:=by
 have e:(⟨65,2,(lc fZ (aN c (f i))).set j [.p (.raw (.bool (decide (v<0)))),.p (.sl (ls fU (au v.natAbs)))]⟩:OObj)=nW (aN c fun b=>if b=j then v else f i b):=by
  rw[<- kj,nW,<- wM];rfl
 rw[e,<- aeo,Jd];rfl
theorem bQ {g:FF} (h: ∀i j,i<n->j<m->c i j=g i j):(mat n m c).map nW=(mat n m g).map nW:=by rw[gQ h]
theorem fk (d e n c:Nat) (f:FF):(gu d n c f).map (renO e)=gu e n c f:=by rw[<- pJ,<- pJ,Jg]
theorem iK {H:OH} {d n c:Nat} {f:FF} (h:H d=gu d n c f):qB H d:=fun r o b e g x j=>by
 rw[h]at b;cases r with
 |succ r=>
  rw[abI,aam]at b;obtain⟨l,m,rfl⟩:=aak.1 b;exact .inl (bo _ _ l e g x j)
 |zero=>
  grind [List.mem_iff_getElem?,cJ,bU,nW,bo,bF]
theorem Rv {H:OH} {d n c:Nat} {f:FF} (h:H d=gu d n c f):ew H d (.one (.sl d 0 0 n))=da (mat n c f):=by
 have e:((ju d (ae n c)).map (List.map (kC H d)))=ls (fR fZ) (mat n c f):=by
  apply aaC;intro i;rw[aam,dO];by_cases b:i<n
  ·rw[bU d c b,bF _ _ b];simp only[abv,aaI,aaY,kC,h,abI,dS _ _ b,fR,eY,Be,oA];grind [aI]
  grind [cJ,aT]
 grind [ew,dF,cJ]
def WE:TV:= .tup [(false,[.p (.raw (.slice none 0 0))]),(false,[.p (.raw (.bool false))])]
def Ru (M:List (List Int)):TV:= .tup [(false,[.p (.sl (ls (fR fZ) M))]),(false,[.p (.raw (.bool true))])]
structure jx (n:Nat) where
 i:Nat
 hi:i<=n
def part (f:FF) (i j:Nat):Nat->Nat->Int:=fun a b=>if a<i\/(a=i/\b<j)then f a b else 0
theorem iF (f:FF) (i j a b:Nat):upd (part f i j) i j (f i j) a b=part f i (j+1) a b:=by
 unfold upd part;by_cases c:a=i
 ·subst c;grind
 simp[c]
theorem kf (f:FF) (i a b:Nat) (e:b<n):part f i n a b=part f (i+1) 0 a b:=by
 grind [part]
theorem ke (f:FF) (a b:Nat) (c:a<n):part f n 0 a b=f a b:=by
 grind [part]
theorem zR (f:FF):part f 0 0=fun _ _=>0:=by
 grind [part]
theorem vh (n c:Nat) (f:FF) (I:1<=n) (F:n<=16) (C:1<=c) (B:c<=16) (v: ∀i j,i<n->j<c-> -9223372036854775808<=f i j/\f i j<=9223372036854775807):
  CallC prog 53 [cq (mat n c f)] ⟨[],Ru (mat n c f)⟩:=by
 have o:=aT n c f;have t:=bF (n:=n) c f (i:=0) (by omega);have u:=vG n c F B;rw[qL,pJ]at u;refine aA func53 rfl ntmps53 (aC (k:=ai (aL o (k:=aq rfl (ak (ai (f9 o (k:=?_))))))));refine aB (G:=jx n) (fun g=>⟨(cq (mat n c f)::jk::.raw (.slice none 0 0)::.raw (.bool false)::j4 (j4 (j4 (jk::cq (mat n c f)::rN n::rN g.i::j16 (j16 (j16 (j4 (j4 (jk::jk::[]))))))))),Hm []⟩) (fun g=>n-g.i) ⟨0,by omega⟩ ?_ ?_
 ·refine aj trivial ?_;simp[wk]
 rintro⟨i,D⟩;simp only;by_cases E:i<n
 ·have p:=bF c f E;refine ar (k:=be rfl (ai (am (aL p (k:=aL (aH @aI t) (k:=aq rfl (ak (bS (k:=?_)))))))));refine⟨⟨i+1,by omega⟩,by grind,aj trivial ?_⟩;simp[wk]
 refine ar (k:=bv rfl (cO [⟨6,_,_,_,u⟩] (aH o (aH t @aI)) (k:=ai (f9 o (k:=?_)))));refine aB (G:=jx n) (fun g=>⟨(cq (mat n c f)::jk::.raw (.slice none 0 0)::.raw (.bool false)::jk::jk::.one (.sl 47 0 0 n)::j16 (j16 (j4 (j4 (jk::jk::rN n::rN g.i::j16 (j4 (j4 (jk::jk::jk::[])))))))),Hm [(47,gu 47 n c (part f g.i 0))]⟩) (fun g=>n-g.i) ⟨0,by omega⟩ ?_ ?_
 ·refine aj ⟨?_,trivial⟩ ?_
  ·rw[zR];exact fk 0 47 n c _
  simp[wk]
 rintro⟨i,D⟩;simp only;by_cases h:i<n
 ·have p:=bF c f h;refine ar (k:=be rfl (ai (am (bC (k:=aL (aH p @aI) (k:=?_))))));refine aB (G:=jx c) (fun g=>⟨(cq (mat n c f)::jk::.raw (.slice none 0 0)::.raw (.bool false)::jk::jk::.one (.sl 47 0 0 n)::rN i::j16 (j16 (j4 (j4 (jk::rN n::rN i::j4 (jk::jk::rN c::rN g.i::j16 (jk::jk::jk::[]))))))),Hm [(47,gu 47 n c (part f i g.i))]⟩) (fun g=>c-g.i) ⟨0,by omega⟩ ?_ ?_
  ·refine aj ⟨rfl,trivial⟩ ?_;simp[wk]
  rintro⟨j,J⟩;simp only;by_cases m:j<c
  ·have s:=aw (f i) m;have z:=fc (f i j) (v i j h m).1 (v i j h m).2;have w:=bU (n:=n) (i:=i) 47 c h;have x:=dS c (part f i j) h;have y:=aw (part f i j i) m;refine ar (k:=be rfl (ai (am (bC (k:=gX [⟨12,_,_,_,z⟩] (aH w (aH p (aH s (aH x (aH y @iL))))) (k:=bS (k:=?_)))))));refine⟨⟨j+1,by omega⟩,by grind,aj ⟨?_,trivial⟩ ?_⟩
   ·show _::_=_::_;simp_all[bQ,iF]
   simp[wk]
  have r:j=c:=by omega
  subst r;refine ar (k:=bv rfl (bS (k:=?_)));refine⟨⟨i+1,by omega⟩,by grind,aj ⟨?_,trivial⟩ ?_⟩
  ·show _::_=_::_;rw[bQ fun a b _ A=>kf f i a b A]
  simp[wk]
 have q:i=n:=by omega
 subst q;refine ar (k:=bv rfl ?_);show bf _ _ _ _;have e:gu 47 i c (part f i 0)=gu 47 i c f:=by
  grind [bQ,ke]
 rw[e];refine bf.weak ((bD 47 (iK rfl)).trans (aj (tm:=(j4 (jk::jk::da (mat i c f)::j16 (j16 (j16 (j16 (j4 (jk::jk::jk::[])))))))) (l:=[]) trivial (by simp[wk];exact(Rv (H:=Hm [(47,gu 47 i c f)]) (d:=47) (n:=i) (c:=c) (f:=f) rfl).symm))) ?_;refine bC (k:=aD (aH @results53 @Ru.eq_1))
structure FiN (M:List (List Int)) where
 i:Nat
 hi:i<=M.length
 ok: ∀r∈M.take i,rOk (M.headD []).length r
theorem Cx (M:List (List Int)) (e: ¬Fu M):CallC prog 53 [cq M] ⟨[],WE⟩:=by
 by_cases n:M.length<1
 ·refine aA func53 rfl ntmps53 (aC (k:=ai (ar (k:=ay rfl (bC (k:=aD (aH @results53 @WE.eq_1)))))))
 by_cases o:16<M.length
 ·refine aA func53 rfl ntmps53 (aC (k:=ai (ar (k:=ay rfl (bC (k:=aD (aH @results53 @WE.eq_1)))))))
 have c:=iY (M:=M) (by omega);refine aA func53 rfl ntmps53 (aC (k:=ai (ar (k:=aq rfl (ak (ai (bC (k:=?_))))))));refine aB (G:=FiN M) (fun g=>⟨(cq M::jk::.raw (.slice none 0 0)::.raw (.bool false)::j4 (j4 (j4 (jk::cq M::rN M.length::rN g.i::j16 (j16 (j16 (j4 (j4 (jk::jk::[]))))))))),Hm []⟩) (fun g=>M.length-g.i) ⟨0,by omega,fun r b=>by simp at b⟩ ?_ ?_
 ·refine aj trivial ?_;simp[wk]
 rintro⟨i,p,ok⟩;simp only;by_cases f:i<M.length
 ·obtain⟨r,b⟩:=getElem?_of_lt f;refine ar (k:=be rfl (ai (am (aL b (k:=?_)))));by_cases j:r.length<1
  ·refine ar (k:=ay rfl (bC (k:=aD (aH @results53 @WE.eq_1))))
  by_cases l:16<r.length
  ·refine ar (k:=ay rfl (bC (k:=aD (aH @results53 @WE.eq_1))))
  by_cases m:r.length=(M.headD []).length
  ·refine aL c (k:=aq rfl (ak (bS (k:=?_))));refine⟨⟨i+1,by omega,fun q h=>?_⟩,by simp only;omega,aj trivial ?_⟩
   ·grind [List.take_add_one]
   simp[wk]
  refine aL c (k:=ay rfl (bC (k:=aD (aH @results53 @WE.eq_1))))
 exact absurd ⟨by omega,by omega,fun r b=>ok r (by grind)⟩ e
theorem Yq (n c:Nat) (f:FF) (e:1<=n) (m:n<=16) (b:1<=c) (h:c<=16) (l: ∀i j,i<n->j<c-> -9223372036854775808<=f i j/\f i j<=9223372036854775807):
  CallC prog 23 [cq (mat n c f)] ⟨[],da (mat n c f)⟩:=by
 have g:=vh n c f e m b h l;refine aA func23 rfl ntmps23 (aC (k:=im [⟨1,_,_,_,g⟩] @Ru.eq_1 (k:=bC (k:=aD @results23))))
end Go.Proofs.YtalmoejhjceflaaGreat
