/-
  Part 3 of a proof (walks and plain facts).
-/
import Derived.Test.YtalmoejhjceflaaGreatR01
set_option linter.all false
set_option maxRecDepth 100000
set_option maxHeartbeats 64000000
namespace Go.Proofs.YtalmoejhjceflaaGreat
open Go.RowKit Go.Proofs.Tryz
variable {b:List Int} {c:List (List Int)} {x:Int} {n:Nat} {e:FF}
theorem kU (h l x y:Int) (j:0<=h) (r:h<18446744073709551616) (l0:0<=l) (l1:l<18446744073709551616) (p:0<=x) (t:x<18446744073709551616) (q:0<=y) (u:y<18446744073709551616)
  (s:h*18446744073709551616+l+x*y<340282366920938463463374607431768211456) (w:World):
  Calls prog 194 #[.agg #[.int .u64 h,.int .u64 l],.int .u64 x,.int .u64 y] w fun e f=>
   ∃b c:Int,e= .returned (.agg #[.int .u64 b,.int .u64 c])/\0<=b/\b<18446744073709551616/\0<=c/\c<18446744073709551616/\b*18446744073709551616+c=h*18446744073709551616+l+x*y/\Ext w f:=by
 obtain⟨h,rfl⟩:=aaK j;obtain⟨l,rfl⟩:=aaK l0;obtain⟨x,rfl⟩:=aaK p;obtain⟨y,rfl⟩:=aaK q;have key:=E9 (h*18446744073709551616+l) x y (by omega) (by omega) (by omega) w;have g:wd (h*18446744073709551616+l)= .agg #[.int .u64 (h:Int),.int .u64 (l:Int)]:=by
  grind [wd]
 rw[g]at key;refine key.mono fun e f ⟨m,o⟩=>?_
 have n:((h*18446744073709551616+l+x*y:Nat):Int)=(h:Int)*18446744073709551616+l+(x:Int)*y:=by simp
 refine⟨_,_,m,by omega,?_,by omega,by omega,?_,o⟩
 ·omega
 omega
theorem oY (h l b c:Int) (g:0<=h) (o:h<18446744073709551616) (l0:0<=l) (l1:l<18446744073709551616) (m:0<=b) (q:b<18446744073709551616) (n:0<=c) (r:c<18446744073709551616) (w:World):
  Calls prog 195 #[.agg #[.int .u64 h,.int .u64 l],.agg #[.int .u64 b,.int .u64 c]] w fun e j=>
   e= .returned (ij (h*18446744073709551616+l).toNat (b*18446744073709551616+c).toNat)/\Ext w j:=by
 obtain⟨h,rfl⟩:=aaK g;obtain⟨l,rfl⟩:=aaK l0;obtain⟨b,rfl⟩:=aaK m;obtain⟨c,rfl⟩:=aaK n;have key:=yC (h*18446744073709551616+l) (b*18446744073709551616+c) (by omega) (by omega) w;have f: ∀h l:Nat,l<18446744073709551616->wd (h*18446744073709551616+l)= .agg #[.int .u64 (h:Int),.int .u64 (l:Int)]:=fun h l p=>by
  unfold wd;grind
 rw[f h l (by omega),f b c (by omega)]at key;rw[show((h:Int)*18446744073709551616+l).toNat=h*18446744073709551616+l from by omega,show((b:Int)*18446744073709551616+c).toNat=b*18446744073709551616+c from by omega];exact key
def fo (x y:List Int):Nat->Int
 |0=>0
 |l+1=>fo x y l+x.getD l 0*y.getD l 0
def Ts (h l:Int):Nat->Value:=fun j=>if j=0 then .int .u64 h else .int .u64 l
def Dl (s:Int):Value:=if -4611686018427387904<=s/\s<=4611686018427387904 then .tuple #[.int .i64 s,.bool true]else .tuple #[.int .i64 0,.bool false]
theorem kP {a b:Int} (f:a<=1099511627776) (e:0<=a) (h:b<=2305843009213693952) (c:0<=b):0<=a*b/\a*b<=2535301200456458802993406410752:=
 ⟨aaS e c,by
  have g:a*b<=1099511627776*b:=abi f c;omega⟩
theorem SH (A B:Option Addr) (c d:Nat) (x y:List Int) (w:World) (hx:RdI .i64 w A x) (hy:RdI .i64 w B y) (hl:x.length<=y.length) (hn:x.length<=65536) (hly:y.length<=9223372036854775807)
  (hbx: ∀(i:Nat) z,x[i]?=some z-> -1099511627776<=z/\z<=1099511627776) (hby: ∀(i:Nat) z,y[i]?=some z-> -2305843009213693952<=z/\z<=2305843009213693952):
  Calls prog 133 #[.slice A x.length c,.slice B y.length d] w fun e w'=>e= .returned (Dl (fo x y x.length))/\Ext w w':=by
 have HX:=aal hx;have HY:=aal hy;have HBX:=aal hbx;have HBY:=aal hby;clear hx hy hbx hby
 go_enter func133,ntmps133
 go_wp2_with fail
 go_loopw [17,8,9,10] (fun i _ _ _ wr=> ∃(k:Nat) (ph pl nh nl:Int),k<=x.length/\i= .int .i64 k/\0<=ph/\ph<18446744073709551616/\0<=pl/\pl<18446744073709551616/\0<=nh/\nh<18446744073709551616/\0<=nl/\nl<18446744073709551616/\
   Hid (wr.rowIs w.heap.size 232 2 (Ts ph pl))/\Hid (wr.rowIs (w.heap.size+1) 232 2 (Ts nh nl))/\Hid (Ext w wr)/\
   Hid (ph*18446744073709551616+pl-(nh*18446744073709551616+nl)=fo x y k/\ph*18446744073709551616+pl+(nh*18446744073709551616+nl)<=k*2535301200456458802993406410752)) (fun i _ _ _ _=>x.length-(intOf i).toNat)
 case atStart=>
  refine⟨0,0,0,0,0,aaW _,rfl,by omega,by omega,by omega,by omega,by omega,by omega,by omega,by omega,aal ?_,aal ?_,aal (((Ext.refl _).alloc _).alloc _),aal ⟨rfl,by omega⟩⟩
  ·refine(World.rowIs.alloc (adB w _ _ (Ts 0 0) ?_) _);intro i hi
   match i,hi with
   |0,_=>rfl
   |1,_=>rfl
  have:=adB (w.alloc (.cells #[.int .u64 0,.int .u64 0] 232)) #[.int .u64 0,.int .u64 0] 232 (Ts 0 0) (by
   intro i hi
   match i,hi with
   |0,_=>rfl
   |1,_=>rfl)
  simp_all
 case round=>
  obtain⟨k,ph,pl,nh,nl,hk,rfl,p0,p1,p2,p3,n0,n1,n2,n3,HP,HN,HE,HQ⟩:=hrel;have t1:wr.cell? ⟨w.heap.size,0,none⟩=some (.int .u64 ph):=HP.out.cell (by omega);have t2:wr.cell? ⟨w.heap.size,1,none⟩=some (.int .u64 pl):=HP.out.cell (by omega);have t3:wr.cell? ⟨w.heap.size+1,0,none⟩=some (.int .u64 nh):=HN.out.cell (by omega);have t4:wr.cell? ⟨w.heap.size+1,1,none⟩=some (.int .u64 nl):=HN.out.cell (by omega);by_cases hlt:k<x.length
  ·obtain⟨a,ha⟩:=getElem?_of_lt hlt;obtain⟨b,off,rfl,hc⟩:=(HX.out.ext HE.out).at_ ha;obtain⟨a2,ha2⟩:=getElem?_of_lt (l:=y) (k:=k) (by omega);obtain⟨b2,off2,rfl,hc2⟩:=(HY.out.ext HE.out).at_ ha2;obtain⟨ax0,ax1⟩:=HBX.out k a ha;obtain⟨ay0,ay1⟩:=HBY.out k a2 ha2;have HS:Hid (fo x y (k+1)=fo x y k+a*a2):=aal (by grind [fo]);clear ha ha2;have hky:(k:Int)<(y.length:Int):=by omega
   by_cases ga:0<=a
   ·by_cases gb:0<=a2
    ·have hp:=kP (a:=a) (b:=a2) (by omega) (by omega) (by omega) (by omega);have hq:=HQ.out;have hs:ph*18446744073709551616+pl+a*a2<340282366920938463463374607431768211456:=by omega
     have HM:=aal (kU ph pl (a) (a2) (by omega) (by omega) (by omega) (by omega) (by omega) (by omega) (by omega) (by omega) hs);clear hp hq hs
     go_wp2_with fail
     refine(HM.out _).mono ?_;rintro e w1 ⟨h',l',rfl,q0,q1,q2,q3,q4,he⟩;have HE1:=aal (HE.out.trans he);have HO1:=aal (cB HP.out he);have HO2:=aal (cB HN.out he);have HQ4:=aal q4;have s1:w1.cell? ⟨w.heap.size,0,none⟩=some (.int .u64 ph):=HO1.out.cell (by omega);have s2:w1.cell? ⟨w.heap.size,1,none⟩=some (.int .u64 pl):=HO1.out.cell (by omega);have s3:w1.frozen? ⟨w.heap.size,0,none⟩=false:=HO1.out.frozen 0;have s4:w1.frozen? ⟨w.heap.size,1,none⟩=false:=HO1.out.frozen 1;clear q4 he HP HN HE HM t1 t2 t3 t4 hc hc2
     go_wp2_with fail
     go_roundw
     case rel=>
      refine⟨k+1,h',l',nh,nl,by omega,by go_num,by omega,by omega,by omega,by omega,by omega,by omega,by omega,by omega,aal ?_,aal ?_,aal ((HE1.out.setCell (by simp) _).setCell (by simp) _),aal ⟨by rw[HS.out];have:=HQ.out.1;have:=HQ4.out;omega,by have:=HQ.out.2;have:=HQ4.out;have:=kP (a:=a) (b:=a2) (by omega) (by omega) (by omega) (by omega);omega⟩⟩
      ·exact((HO1.out.set 0 _).set 1 _).congr (fun j hj=>by match j,hj with|0,_=>rfl|1,_=>rfl)
      exact(HO2.out.setOther (by simp) _).setOther (by simp) _
     grind [intOf]
    have hp:=kP (a:=a) (b:= -a2) (by omega) (by omega) (by omega) (by omega);have hq:=HQ.out;have hs:nh*18446744073709551616+nl+a* -a2<340282366920938463463374607431768211456:=by omega
    have HM:=aal (kU nh nl (a) (-a2) (by omega) (by omega) (by omega) (by omega) (by omega) (by omega) (by omega) (by omega) hs);clear hp hq hs
    go_wp2_with fail
    refine(HM.out _).mono ?_;rintro e w1 ⟨h',l',rfl,q0,q1,q2,q3,q4,he⟩;have HE1:=aal (HE.out.trans he);have HO1:=aal (cB HN.out he);have HO2:=aal (cB HP.out he);have HQ4:=aal q4;have s1:w1.cell? ⟨w.heap.size+1,0,none⟩=some (.int .u64 nh):=HO1.out.cell (by omega);have s2:w1.cell? ⟨w.heap.size+1,1,none⟩=some (.int .u64 nl):=HO1.out.cell (by omega);have s3:w1.frozen? ⟨w.heap.size+1,0,none⟩=false:=HO1.out.frozen 0;have s4:w1.frozen? ⟨w.heap.size+1,1,none⟩=false:=HO1.out.frozen 1;clear q4 he HP HN HE HM t1 t2 t3 t4 hc hc2
    go_wp2_with fail
    go_roundw
    case rel=>
     refine⟨k+1,ph,pl,h',l',by omega,by go_num,by omega,by omega,by omega,by omega,by omega,by omega,by omega,by omega,aal ?_,aal ?_,aal ((HE1.out.setCell (by simp) _).setCell (by simp) _),aal ⟨by rw[HS.out];have:=HQ.out.1;have:=HQ4.out;grind,by have:=HQ.out.2;have:=HQ4.out;have:=kP (a:=a) (b:= -a2) (by omega) (by omega) (by omega) (by omega);omega⟩⟩
     ·exact(HO2.out.setOther (by simp) _).setOther (by simp) _
     exact((HO1.out.set 0 _).set 1 _).congr (fun j hj=>by match j,hj with|0,_=>rfl|1,_=>rfl)
    grind [intOf]
   by_cases gb:0<=a2
   ·have hp:=kP (a:= -a) (b:=a2) (by omega) (by omega) (by omega) (by omega);have hq:=HQ.out;have hs:nh*18446744073709551616+nl+ -a*a2<340282366920938463463374607431768211456:=by omega
    have HM:=aal (kU nh nl (-a) (a2) (by omega) (by omega) (by omega) (by omega) (by omega) (by omega) (by omega) (by omega) hs);clear hp hq hs
    go_wp2_with fail
    refine(HM.out _).mono ?_;rintro e w1 ⟨h',l',rfl,q0,q1,q2,q3,q4,he⟩;have HE1:=aal (HE.out.trans he);have HO1:=aal (cB HN.out he);have HO2:=aal (cB HP.out he);have HQ4:=aal q4;have s1:w1.cell? ⟨w.heap.size+1,0,none⟩=some (.int .u64 nh):=HO1.out.cell (by omega);have s2:w1.cell? ⟨w.heap.size+1,1,none⟩=some (.int .u64 nl):=HO1.out.cell (by omega);have s3:w1.frozen? ⟨w.heap.size+1,0,none⟩=false:=HO1.out.frozen 0;have s4:w1.frozen? ⟨w.heap.size+1,1,none⟩=false:=HO1.out.frozen 1;clear q4 he HP HN HE HM t1 t2 t3 t4 hc hc2
    go_wp2_with fail
    go_roundw
    case rel=>
     refine⟨k+1,ph,pl,h',l',by omega,by go_num,by omega,by omega,by omega,by omega,by omega,by omega,by omega,by omega,aal ?_,aal ?_,aal ((HE1.out.setCell (by simp) _).setCell (by simp) _),aal ⟨by rw[HS.out];have:=HQ.out.1;have:=HQ4.out;grind,by have:=HQ.out.2;have:=HQ4.out;have:=kP (a:= -a) (b:=a2) (by omega) (by omega) (by omega) (by omega);omega⟩⟩
     ·exact(HO2.out.setOther (by simp) _).setOther (by simp) _
     exact((HO1.out.set 0 _).set 1 _).congr (fun j hj=>by match j,hj with|0,_=>rfl|1,_=>rfl)
    grind [intOf]
   have hp:=kP (a:= -a) (b:= -a2) (by omega) (by omega) (by omega) (by omega);have hq:=HQ.out;have hs:ph*18446744073709551616+pl+ -a* -a2<340282366920938463463374607431768211456:=by omega
   have HM:=aal (kU ph pl (-a) (-a2) (by omega) (by omega) (by omega) (by omega) (by omega) (by omega) (by omega) (by omega) hs);clear hp hq hs
   go_wp2_with fail
   refine(HM.out _).mono ?_;rintro e w1 ⟨h',l',rfl,q0,q1,q2,q3,q4,he⟩;have HE1:=aal (HE.out.trans he);have HO1:=aal (cB HP.out he);have HO2:=aal (cB HN.out he);have HQ4:=aal q4;have s1:w1.cell? ⟨w.heap.size,0,none⟩=some (.int .u64 ph):=HO1.out.cell (by omega);have s2:w1.cell? ⟨w.heap.size,1,none⟩=some (.int .u64 pl):=HO1.out.cell (by omega);have s3:w1.frozen? ⟨w.heap.size,0,none⟩=false:=HO1.out.frozen 0;have s4:w1.frozen? ⟨w.heap.size,1,none⟩=false:=HO1.out.frozen 1;clear q4 he HP HN HE HM t1 t2 t3 t4 hc hc2
   go_wp2_with fail
   go_roundw
   case rel=>
    refine⟨k+1,h',l',nh,nl,by omega,by go_num,by omega,by omega,by omega,by omega,by omega,by omega,by omega,by omega,aal ?_,aal ?_,aal ((HE1.out.setCell (by simp) _).setCell (by simp) _),aal ⟨by rw[HS.out];have:=HQ.out.1;have:=HQ4.out;grind,by have:=HQ.out.2;have:=HQ4.out;have:=kP (a:= -a) (b:= -a2) (by omega) (by omega) (by omega) (by omega);omega⟩⟩
    ·exact((HO1.out.set 0 _).set 1 _).congr (fun j hj=>by match j,hj with|0,_=>rfl|1,_=>rfl)
    exact(HO2.out.setOther (by simp) _).setOther (by simp) _
   grind [intOf]
  have hkl:k=x.length:=by omega
  have HK:Hid (ph*18446744073709551616+pl-(nh*18446744073709551616+nl)=fo x y x.length):=aal (by have:=HQ.out.1;grind);obtain⟨D,hD⟩: ∃D,D=fo x y x.length:=⟨_,rfl⟩;have HM:=aal (oY ph pl nh nl p0 p1 p2 p3 n0 n1 n2 n3);have HM2:=aal (oY nh nl ph pl n0 n1 n2 n3 p0 p1 p2 p3);have hK:=HK.out;rw[<- hD]at hK;have HDD:=aal hD;by_cases g1:0<=D/\D<=4611686018427387904
  ·have e1:ij (ph*18446744073709551616+pl).toNat (nh*18446744073709551616+nl).toNat= .tuple #[.int .i64 D,.bool true]:=mP (by omega) (by omega);have HV:Hid (Dl D= .tuple #[.int .i64 D,.bool true]):=aal (if_pos (by omega));rw[e1]at HM;clear hK hD e1 hkl HM2
   go_wp2_with fail
   refine(HM.out _).mono ?_;rintro e w1 ⟨rfl,he⟩;have HE1:=aal (HE.out.trans he);clear he
   go_wp2_with fail
   go_ret2
   exact⟨by rw[<- HDD.out,HV.out];rfl,HE1.out⟩
  have e1:ij (ph*18446744073709551616+pl).toNat (nh*18446744073709551616+nl).toNat= .tuple #[.int .i64 0,.bool false]:=ik (by omega);rw[e1]at HM;by_cases g2: -4611686018427387904<=D/\D<=0
  ·have e2:ij (nh*18446744073709551616+nl).toNat (ph*18446744073709551616+pl).toNat= .tuple #[.int .i64 (-D),.bool true]:=mP (by omega) (by omega);have HV:Hid (Dl D= .tuple #[.int .i64 D,.bool true]):=aal (if_pos (by omega));have g3:=g2.1;have g4:=g2.2;rw[e2]at HM2;clear hK hD e1 e2 hkl
   go_wp2_with fail
   refine(HM.out _).mono ?_;rintro e w1 ⟨rfl,he⟩;have HE1:=aal (HE.out.trans he);have s1:w1.cell? ⟨w.heap.size,0,none⟩=some (.int .u64 ph):=he.cell t1;have s2:w1.cell? ⟨w.heap.size,1,none⟩=some (.int .u64 pl):=he.cell t2;have s3:w1.cell? ⟨w.heap.size+1,0,none⟩=some (.int .u64 nh):=he.cell t3;have s4:w1.cell? ⟨w.heap.size+1,1,none⟩=some (.int .u64 nl):=he.cell t4;clear he t1 t2 t3 t4
   go_wp2_with fail
   refine(HM2.out _).mono ?_;rintro e w2 ⟨rfl,he⟩;have HE2:=aal (HE1.out.trans he);clear he s1 s2 s3 s4
   go_wp2_with fail
   go_ret2
   refine⟨?_,HE2.out⟩;rw[<- HDD.out,HV.out]
   simp
  have e2:ij (nh*18446744073709551616+nl).toNat (ph*18446744073709551616+pl).toNat= .tuple #[.int .i64 0,.bool false]:=ik (by omega);have HV:Hid (Dl D= .tuple #[.int .i64 0,.bool false]):=aal (if_neg (by omega));rw[e2]at HM2;clear hK hD e1 e2 hkl g1 g2
  go_wp2_with fail
  refine(HM.out _).mono ?_;rintro e w1 ⟨rfl,he⟩;have HE1:=aal (HE.out.trans he);have s1:w1.cell? ⟨w.heap.size,0,none⟩=some (.int .u64 ph):=he.cell t1;have s2:w1.cell? ⟨w.heap.size,1,none⟩=some (.int .u64 pl):=he.cell t2;have s3:w1.cell? ⟨w.heap.size+1,0,none⟩=some (.int .u64 nh):=he.cell t3;have s4:w1.cell? ⟨w.heap.size+1,1,none⟩=some (.int .u64 nl):=he.cell t4;clear he t1 t2 t3 t4
  go_wp2_with fail
  refine(HM2.out _).mono ?_;rintro e w2 ⟨rfl,he⟩;have HE2:=aal (HE1.out.trans he);clear he s1 s2 s3 s4
  go_wp2_with fail
  go_ret2
  refine⟨?_,HE2.out⟩;rw[<- HDD.out,HV.out];rfl
theorem Tryz.inI64:(prog.info? 2).map (fun i=>(i.zero,i.size,i.bytes))=some (some (.int .i64 0),1,8):=by kernel_rfl
theorem FZ (A:Option Addr) (c:Nat) (x:List Int) (w:World) (hx:RdI .i64 w A x) (hl:x.length*8<=140737488355328):
  Calls prog 142 #[.slice A x.length c] w fun e w'=> ∃v,e= .returned v/\w'.ownsRow w.heap.size 2 1 v x.length (x.map (Value.int .i64))/\Ext w w':=by
 have hnil:=fun(w:World) (n c:Nat)=>adV (P:=prog) w 35 2 A n c 0 0 underlying35
 cases A with
 |none=>
  have hx0:x=[]:=by
   cases x with
   |nil=>rfl
   |cons a l=>obtain⟨_,_,h,_⟩:=hx (by simp);cases h
  subst hx0
  go_enter func142,ntmps142
  go_wp2_with fail
  go_ret
  exact⟨_,rfl,acH _ _ _ _,Ext.refl _⟩
 |some a=>
  go_enter func142,ntmps142
  go_wp2_with (at_builtin;refine iI _ rfl (.tmp 5) (.tmp 6) _ rfl w.heap.size 2 (.int .i64 0) 1 8 underlying35 Tryz.inI64 rfl (by omega) _ 0 [] rfl (acZ w #[] 0 (aar _) (aaW _) rfl) (some a) x.length c _ rfl (Rd.ext hx ((Ext.refl _).alloc _)) (by simp) qV (by simp only[maxLen];omega) (by omega) (by simp) ?_;intro v1 w1 hown1 hg1 _)
  go_ret
  exact⟨_,rfl,by simpa using hown1,zo hg1 (acZ w #[] 0 (aar _) (aaW _) rfl:World.ownsRow _ w.heap.size 2 1 _ 0 []) ((Ext.refl w).alloc _) (aar _)⟩
def tJ (x:List Int):Int:=match x.findIdx? (fun c=>c !=0)with|some i=>i|none=> -1
theorem On {k:Nat} {a:Int} (h: ∀j c,j<k->b[j]?=some c->c=0) (f:b[k]?=some a) (e:(a !=0)=true):tJ b=k:=by
 unfold tJ;have:b.findIdx? (fun c=>c !=0)=some k:=by
  grind [List.findIdx?_eq_some_iff_getElem]
 rw[this]
theorem Gt {k:Nat} (h: ∀j c,j<k->b[j]?=some c->c=0) (g:b.length<=k):tJ b= -1:=by
 unfold tJ;have:b.findIdx? (fun c=>c !=0)=none:=by
  rw[List.findIdx?_eq_none_iff];intro c e;obtain⟨j,f,rfl⟩:=abo e;simp[h j _ (by omega) (aay f)]
 rw[this]
theorem l6 (h:Ay b=true) {k:Nat} (e:b[k]?=some x): -1099511627776<=x/\x<=1099511627776:=by
 unfold Ay at h;rw[aat]at h;have:=h x (aai e);grind
theorem vV (a:Int) (w:World):
  Calls prog 197 #[.int .i64 a] w fun e w'=>e= .returned (.bool (a !=0))/\w=w':=by
 go_enter func197,ntmps197
 go_wp2_with fail
 go_ret
 simp
theorem oT (A:Option Addr) (c:Nat) (x:List Int) (w:World) (hx:RdI .i64 w A x) (lx:x.length<=9223372036854775807):
  Calls prog 196 #[.slice A x.length c,.func (Fn.func 197) #[] #[]] w fun e w'=>e= .returned (.int .i64 (tJ x))/\w=w':=by
 have HX:=aal hx;clear hx
 go_enter func196,ntmps196
 go_wp2_with fail
 go_loop [8,5] (fun i _=> ∃k:Nat,k<=x.length/\i= .int .i64 k/\Hid (∀j c,j<k->x[j]?=some c->c=0)) (fun i _=>x.length-(intOf i).toNat)
 case atStart=>grind [Lib.hid]
 case round=>
  obtain⟨k,hk,rfl,HR⟩:=hrel;by_cases hlt:k<x.length
  ·obtain⟨a,ha⟩:=getElem?_of_lt hlt;obtain⟨b,off,rfl,hc⟩:=HX.out.at_ ha;have HA:=aal ha;clear ha;by_cases h0:(a !=0)=true
   ·go_wp2_with (go_at_call 197;refine(vV _ _).mono ?_;rintro e w' ⟨rfl,rfl⟩)
    go_ret
    exact⟨gB (On HR.out HA.out h0).symm,rfl⟩
   have h0':(a !=0)=false:=by grind
   have H0:=aal h0';clear h0
   go_wp2_with (go_at_call 197;refine(vV _ _).mono ?_;rintro e w' ⟨rfl,rfl⟩)
   go_round
   case rel=>exact⟨k+1,by omega,by go_num,aal (tj (P:=fun c=>c=0) HR.out HA.out (by grind))⟩
   grind [intOf]
  go_wp2_with fail
  go_ret
  exact⟨gB (Gt HR.out (by omega)).symm,rfl⟩
def iy (x:List Int):Option (List Int):=
 if Ay x then(match x.find? (fun c=>c !=0)with
  |none=>none
  |some c=>some (if c<0 then x.map (fun a=> -a)else x))else none
theorem DE (x:List Int):(tJ x= -1/\x.find? (fun c=>c !=0)=none)\/ ∃(k:Nat) (a:Int),tJ x=k/\k<x.length/\x[k]?=some a/\x.find? (fun c=>c !=0)=some a:=by
 unfold tJ;cases h:x.findIdx? (fun c=>c !=0)with
 |none=>
  grind
 |some k=>
  right;rw[List.findIdx?_eq_some_iff_getElem]at h;obtain⟨b,e,f⟩:=h;refine⟨k,x[k],rfl,b,aay b,?_⟩;grind [List.find?_eq_some_iff_getElem]
def O9 (x:List Int) (k:Nat) (f:Nat->Value):Nat->Value:=fun j=>if j<k then .int .i64 (-(x.getD j 0))else f j
def NE (f b:World) (r:Option (List Int)) (e:Ending):Prop:=match r with
 |none=>e= .returned (.tuple #[.slice none 0 0,.bool false])
 |some z=> ∃A c,e= .returned (.tuple #[.slice A z.length c,.bool true])/\z.length<=c/\RdI .i64 b A z/\ ∀p,A=some p->f.heap.size<=p.block/\p.block<b.heap.size
theorem kB (A:Option Addr) (c:Nat) (x:List Int) (w:World) (hx:RdI .i64 w A x) (hl:x.length*8<=140737488355328):
  Calls prog 135 #[.slice A x.length c] w fun e w'=>NE w w' (iy x) e/\Ext w w':=by
 have HX:=aal hx;cases hI:Ay x with
 |false=>
  have HF:Hid (iy x=none):=aal (by simp[iy,hI])
  go_enter func135,ntmps135
  go_wp2_with (go_at_call 163;refine(kG A c x _ hx (by omega)).mono ?_;rintro e w' ⟨rfl,rfl⟩)
  go_ret2
  exact⟨by rw[HF.out];rfl,Ext.refl _⟩
 |true=>
  have HIB:=aal hI;rcases DE x with⟨h1,h2⟩|⟨k,a,h1,hk,ha,h2⟩
  ·have HF:Hid (iy x=none):=aal (by grind [iy]);have HC:=aal (oT A c x w hx (by omega));rw[h1]at HC;clear h1 h2
   go_enter func135,ntmps135
   go_wp2_with (go_at_call 163;refine(kG A c x _ hx (by omega)).mono ?_;rintro e w' ⟨rfl,rfl⟩)
   refine HC.out.mono ?_;rintro e w' ⟨rfl,rfl⟩
   go_wp2_with fail
   go_ret2
   exact⟨by rw[HF.out];rfl,Ext.refl _⟩
  have HC:=aal (oT A c x w hx (by omega));rw[h1]at HC;have HF:Hid (iy x=some (if a<0 then x.map (fun a=> -a)else x)):=aal (by grind [iy]);obtain⟨b,off,rfl,hc⟩:=hx.at_ ha;clear h1 h2 ha
  go_enter func135,ntmps135
  go_wp2_with (go_at_call 163;refine(kG _ c x _ hx (by omega)).mono ?_;rintro e w' ⟨rfl,rfl⟩)
  refine HC.out.mono ?_;rintro e w' ⟨rfl,rfl⟩
  go_wp2_with fail
  refine(FZ _ c x _ hx hl).mono ?_;rintro e w1 ⟨v,rfl,hown,he⟩;have hc1:=he.cell hc;obtain⟨g,cap,f,rfl,hcap,hg,hrow,hf⟩:=LD hown (by omega);have HE:=aal he;have HROW:=aal hrow;have HFF:=aal hf;clear hown he hrow hf hx;by_cases h0:a<0
  ·go_wp2_with fail
   go_loopw [24,6,7] (fun i _ _ wr=> ∃l:Nat,l<=x.length/\i= .int .i64 l/\Hid (wr.rowIs g 2 cap (O9 x l f))/\Hid (Ext w wr)) (fun i _ _ _=>x.length-(intOf i).toNat)
   case atStart=>exact⟨0,aaW _,rfl,aal (HROW.out.congr (fun j _=>by simp[O9])),HE⟩
   case round=>
    clear hc1 HROW HE;obtain⟨l,hl',rfl,HROW,HE⟩:=hrel;by_cases hlt:l<x.length
    ·obtain⟨a2,ha2⟩:=getElem?_of_lt hlt;obtain⟨b2,off2,hbb,hc2⟩:=(HX.out.ext HE.out).at_ ha2;cases hbb;have hB:=l6 HIB.out ha2;have t1:wr.cell? ⟨g,l,none⟩=some (f l):=by rw[HROW.out.cell (by omega)];simp[O9]
     have t2:wr.frozen? ⟨g,l,none⟩=false:=HROW.out.frozen l;have hlc:(l:Int)<(cap:Int):=by omega
     have HA2:Hid (x.getD l 0=a2):=aal (by grind);clear ha2;have hB1:=hB.1;have hB2:=hB.2
     go_wp2_with fail
     go_roundw
     case rel=>
      refine⟨l+1,by omega,by go_num,aal ((HROW.out.set l _).congr (fun j _=>?_)),aal (HE.out.setCell hg _)⟩;unfold O9;by_cases e:j=l
      ·subst e;rw[if_pos rfl,if_pos (by omega),HA2.out]
      grind
     grind [intOf]
    go_wp2_with fail
    go_ret2
    refine⟨?_,HE.out⟩;rw[HF.out,if_pos h0];refine⟨some ⟨g,0,none⟩,cap,by simp,by grind,RdI.of_row HROW.out (by grind) (fun i z hz=>?_),(by rintro p ⟨⟩;exact⟨hg,HROW.out.lt⟩)⟩;grind [O9]
  go_wp2_with fail
  go_ret2
  refine⟨?_,HE.out⟩;rw[HF.out,if_neg (by omega)];exact⟨some ⟨g,0,none⟩,cap,rfl,hcap,RdI.of_row HROW.out hcap (fun i z hz=>HFF.out i _ (by simp[hz])),(by rintro p ⟨⟩;exact⟨hg,HROW.out.lt⟩)⟩
theorem mC {a b A B:Int} (j: -A<=a/\a<=A) (l: -B<=b/\b<=B) (h:0<=B) (g:0<=A): -(A*B)<=a*b/\a*b<=A*B:=by
 have c:a.natAbs<=A.toNat:=by omega
 have e:b.natAbs<=B.toNat:=by omega
 have f:(a*b).natAbs<=A.toNat*B.toNat:=by simp_all[abk,aaT]
 grind
theorem IY (c:0<=x) (h: ∀(i:Nat) z,b[i]?=some z-> -x<=z/\z<=x) (j:Nat): -x<=b.getD j 0/\b.getD j 0<=x:=by
 grind
theorem pg {row x:List Int} (b: ∀(i:Nat) z,row[i]?=some z-> -262144<=z/\z<=262144) (c: ∀(i:Nat) z,x[i]?=some z-> -1099511627776<=z/\z<=1099511627776):
  ∀l:Nat,l<=8->ql row x l=fo row x l/\ -(l*288230376151711744)<=fo row x l/\fo row x l<=l*288230376151711744
 |0,_=>⟨rfl,by simp[fo],by simp[fo]⟩
 |l+1,h=>by
  obtain⟨e,f,g⟩:=pg b c l (by omega);have j:=mC (IY (by omega) b l) (IY (by omega) c l) (by omega) (by omega);grind [IntWalk.wrap64_in,fo,ql]
theorem jl.row_len (h:jl c) {i:Nat} (e:c[i]?=some b):b.length=c.length:=(show Sq c from h.2.2.1).at_ e
theorem jl.row_bd (h:jl c) {i:Nat} (f:c[i]?=some b): ∀(j:Nat) z,b[j]?=some z-> -262144<=z/\z<=262144:=by
 intro j z l;have g:=(aao.1 f).1;have e:=(aao.1 l).1;rw[h.row_len f]at e;have:=h.2.2.2 i g j e;grind [kX,pA]
theorem Kr (h:jl c) (j:Ay b=true): ∀(i:Nat) z,(fz c b)[i]?=some z-> -2305843009213693952<=z/\z<=2305843009213693952:=by
 intro i z f;obtain⟨row,g,rfl⟩:=yY f;have o:=h.row_len g;have n:=h.2.1;obtain⟨e,l,m⟩:=pg (h.row_bd g) (fun i z f=>l6 j f) row.length (by omega);omega
theorem jX:FitB n b=true↔b.length=n/\Ay b=true:=by
 grind [FitB]
theorem iB (h:isReducedM c=true):jl c:=by
 grind [isReducedM]
theorem yl (b:List (List Int)) (x:List Int):(fz b x).length=b.length:=by simp[fz]
def Iq (R:FF) (n t:Nat):Prop:= ∀i,i<n->t<i-> -(dk R (t+1))<=2*bk R t i t/\2*bk R t i t<=dk R (t+1)
def Rs (R:FF) (t:Nat):Prop:=3*dk R (t+1)*dk R (t+1)<=4*(dk R t*dk R (t+1+1)+bk R t (t+1) t*bk R t (t+1) t)
def RN (R:FF) (n t:Nat):Prop:=0<dk R (t+1)/\dk R (t+1)<65536/\Iq R n t
def RedR (R:FF) (n:Nat):Prop:=
 (∀i,i<n-> ∀j,j<n->R i j=R j i)/\(∀k,k<n->0<dk R (k+1))/\dk R n<=10000/\(∀t,t+1<n->Iq R n t/\Rs R t)
theorem jo {R:FF} {n:Nat} (l: ∀i,i<n-> ∀j,j<n->R i j=R j i): ∀k,k<=n->(∀t,t<k->dk R (t+1)≠0)-> ∀i j,i<n->j<n->bk R k i j=bk R k j i
 |0,_,_,i,j,c,e=>by grind [dc]
 |k+1,s,b,i,j,c,e=>by
  have f:=jo l k (by omega) (fun t g=>b t (by omega));have q:=sylv R k (fun t g=>b t (by omega)) i j;have r:=sylv R k (fun t g=>b t (by omega)) j i;have m:=f i j c e;have o:=f i k c (by omega);have p:=f k j (by omega) e;have h:dk R k≠0:=by
   cases k with
   |zero=>rw[cu];omega
   |succ k=>grind
  grind [Int.eq_of_mul_eq_mul_left]
theorem iA {k:Nat} (h: ∀t,t<k->0<dk e (t+1)):0<dk e k:=by
 cases k with
 |zero=>rw[cu];omega
 |succ k=>grind
theorem T7 {C E c a b y:Int} (v:0<=C) (w:0<x) (z:0<E) (q:E<65536) (h:x*y=E*c-a*b) (j: -(C*x)<=c/\c<=C*x) (t: -E<=2*a/\2*a<=E) (u: -E<=2*b/\2*b<=E):
  -((C+16384)*E)<=y/\y<=(C+16384)*E:=by
 have f:=mC t u (by omega) (by omega);have l:2*a*(2*b)=4*(a*b):=by grind
 rw[l]at f;have s:E*E<=65536*E:=abi (by omega) (by omega);have r:E*1<=E*x:=aaH (by omega) (by omega);have o:E*c<=E*(C*x):=aaH j.2 (by omega);have p:E*(-(C*x))<=E*c:=aaH j.1 (by omega);have m:E*(-(C*x))= -(C*(E*x)):=by grind
 have n:E*(C*x)=C*(E*x):=by grind
 rw[n]at o;rw[m]at p;constructor
 ·rcases acp y (-((C+16384)*E))with g|e
  ·exfalso;have:=aaH (show y<= -((C+16384)*E)-1 by omega) (show 0<=x by omega);grind
  exact e
 rcases acp ((C+16384)*E) y with g|e
 ·exfalso;have:=aaH (show(C+16384)*E+1<=y by omega) (show 0<=x by omega);grind
 exact e
theorem Da {R:FF} {n:Nat} (m: ∀i,i<n-> ∀j,j<n->R i j=R j i) (s: ∀i,i<n-> ∀j,j<n-> -262144<=R i j/\R i j<=262144):
  ∀k,(∀t,t<k->RN R n t)-> ∀i j,k<=i->i<n->k<=j->j<n-> -((262144+k*16384)*dk R k)<=bk R k i j/\bk R k i j<=(262144+k*16384)*dk R k
 |0,_,i,j,_,h,_,e=>by
  grind [dc,cu]
 |k+1,f,i,j,u,h,v,e=>by
  have w:=Da m s k (fun t o=>f t (by omega)) i j (by omega) h (by omega) e;obtain⟨r,g,c⟩:=f k (by omega);have b: ∀t,t<k->dk R (t+1)≠0:=fun t o=>by have:=(f t (by omega)).1;omega
  have q:0<dk R k:=iA (fun t o=>(f t (by omega)).1);have p:=c i h (by omega);have l:=c j e (by omega);rw[jo m k (by omega) b j k e (by omega)]at l;have:=T7 (C:=262144+k*16384) (by omega) q r g (sylv R k b i j) w p l;grind
def Zl (R:FF) (n k:Nat) (b:List (List Int)):Prop:=b.length=n-k/\ ∀i j,i<n-k->j<n-k->ent b i j=bk R k (k+i) (k+j)
theorem kA (u:n<=8) (q: ∀i,i<n-> ∀j,j<n->e i j=e j i) (l: ∀i,i<n-> ∀j,j<n-> -262144<=e i j/\e i j<=262144) {k:Nat} (p:k<n) (b: ∀t,t<k->RN e n t) {i j:Nat} (c:k<=i) (m:i<n) (f:k<=j) (o:j<n): -34359738368<=bk e k i j/\bk e k i j<=34359738368:=by
 have h:=Da q l k b i j c m f o;have s:0<dk e k:=iA (fun t v=>(b t (by omega)).1);have g:dk e k<65536:=by
  cases k with
  |zero=>rw[cu];omega
  |succ k=>exact(b k (by omega)).2.1
 have r:((262144:Int)+k*16384)*dk e k<=524288*65536:=aa7 (by omega) (by omega) (by omega) (by omega);omega
theorem Lv (q:n<=8) (r: ∀i,i<n-> ∀j,j<n->e i j=e j i) (o: ∀i,i<n-> ∀j,j<n-> -262144<=e i j/\e i j<=262144) {k:Nat} (B:k+1<n) (p: ∀t,t<k+1->RN e n t) (f:Zl e n k c) {i j:Nat} (H:i<n-(k+1)) (I:j<n-(k+1)):
  Th c (dk e k) i j=bk e (k+1) (k+1+i) (k+1+j):=by
 have b: ∀t,t<k->RN e n t:=fun t w=>p t (by omega)
 have s: ∀t,t<k->dk e (t+1)≠0:=fun t w=>by have:=(p t (by omega)).1;omega
 have F:0<dk e k:=iA (fun t w=>(b t w).1);obtain⟨G,z,v⟩:=p k (by omega);have g:=f.2 0 0 (by omega) (by omega);have m:=f.2 (i+1) (j+1) (by omega) (by omega);have l:=f.2 (i+1) 0 (by omega) (by omega);have h:=f.2 0 (j+1) (by omega) (by omega);simp only[aa5]at g l h;rw[<- cd]at g;rw[show k+(i+1)=k+1+i by omega]at m l;rw[show k+(j+1)=k+1+j by omega]at m h;have x:=kA q r o (by omega) b (i:=k+1+i) (j:=k+1+j) (by omega) (by omega) (by omega) (by omega);have D:=kA q r o (by omega) b (i:=k+1+i) (j:=k) (by omega) (by omega) (by omega) (by omega);have y:=kA q r o (by omega) b (i:=k) (j:=k+1+j) (by omega) (by omega) (by omega) (by omega);have E:=kA q r o (by omega) p (i:=k+1+i) (j:=k+1+j) (by omega) (by omega) (by omega) (by omega);have C:=v (k+1+i) (by omega) (by omega);have J:=mC (a:=dk e (k+1)) (A:=65536) ⟨by omega,by omega⟩ x (by omega) (by omega);have K:=mC (a:=bk e k (k+1+i) k) (A:=65536) ⟨by omega,by omega⟩ y (by omega) (by omega);have u:=sylv e k s (k+1+i) (k+1+j);unfold Th;rw[g,m,l,h];rw[acq (dk e (k+1)*bk e k (k+1+i) (k+1+j)) ⟨by omega,by omega⟩,acq (bk e k (k+1+i) k*bk e k k (k+1+j)) ⟨by omega,by omega⟩];rw[acq (dk e (k+1)*bk e k (k+1+i) (k+1+j)-bk e k (k+1+i) k*bk e k k (k+1+j)) ⟨by omega,by omega⟩];rw[<- u,acT _ (by omega),acq _ ⟨by omega,by omega⟩]
theorem xt {R:FF} {n:Nat} (q:n<=8) (r: ∀i,i<n-> ∀j,j<n->R i j=R j i) (p: ∀i,i<n-> ∀j,j<n-> -262144<=R i j/\R i j<=262144):
  ∀f k c,k<n->n<=f+k->(∀t,t<k->RN R n t)->Zl R n k c->
   (rj f c (dk R k)=true↔(∀t,k<=t->t+1<n->RN R n t/\Rs R t)/\0<dk R n/\dk R n<=10000)
 |0,k,c,O,L,_,_=>by omega
 |f+1,k,c,O,L,o,g=>by
  have m:=g.2 0 0 (by omega) (by omega);simp only[aa5]at m;rw[<- cd]at m;by_cases P:n=k+1
  ·subst P;rw[rj,if_pos (by rw[g.1];omega),m];grind
  rw[rj,if_neg (by rw[g.1];omega)];have v:l7 c↔RN R n k:=by
   unfold l7 RN Iq o7;rw[m,g.1];refine and_congr Iff.rfl (and_congr Iff.rfl ⟨fun h i u N=>?_,fun h i u M=>?_⟩)
   ·have H:=h (i-k) (by omega) (by omega);have e:=g.2 (i-k) 0 (by omega) (by omega);rw[show k+(i-k)=i by omega,aa5]at e;have G:=kA q r p (by omega) o (i:=i) (j:=k) (by omega) (by omega) (by omega) (by omega);grind [IntWalk.wrap64_in]
   have H:=h (k+i) (by omega) (by omega);have e:=g.2 i 0 (by omega) (by omega);rw[aa5]at e;have G:=kA q r p (by omega) o (i:=k+i) (j:=k) (by omega) (by omega) (by omega) (by omega);grind [IntWalk.wrap64_in]
  by_cases K:l7 c
  ·rw[if_pos K];have l: ∀t,t<k+1->RN R n t:=fun t F=>by
    grind
   obtain⟨T,J,z⟩:=l k (by omega);have S:0<dk R k:=iA (fun t F=>(o t F).1);have I:dk R k<65536:=by
    cases k with
    |zero=>rw[cu];omega
    |succ k=>exact(o k (by omega)).2.1
   have y: ∀i j,i<n-(k+1)->j<n-(k+1)->Th c (dk R k) i j=bk R (k+1) (k+1+i) (k+1+j):=fun i j u D=>Lv q r p (by omega) l g u D
   have s:Zl R n (k+1) (Ti c (dk R k)):=by
    unfold Ti;rw[g.1];refine⟨by rw[oV];omega,fun i j u D=>?_⟩;grind [ent,Gl]
   have E:Fp c (dk R k)↔ ¬Rs R k:=by
    unfold Fp Rs;have w:ent c 1 0=bk R k (k+1) k:=g.2 1 0 (by omega) (by omega);have x:=y 0 0 (by omega) (by omega);simp only[aa5]at x;rw[<- cd]at x;rw[x,w,m];have C:=kA q r p (by omega) l (i:=k+1) (j:=k+1) (by omega) (by omega) (by omega) (by omega);rw[<- cd]at C;have Q:=z (k+1) (by omega) (by omega);have V:=mC (a:=dk R k) (A:=65536) ⟨by omega,by omega⟩ C (by omega) (by omega);have W:=mC (a:=bk R k (k+1) k) (b:=bk R k (k+1) k) (A:=65536) (B:=65536) ⟨by omega,by omega⟩ ⟨by omega,by omega⟩ (by omega) (by omega);have m3:=mC (a:=3*dk R (k+1)) (b:=dk R (k+1)) (A:=196608) (B:=65536) ⟨by omega,by omega⟩ ⟨by omega,by omega⟩ (by omega) (by omega);grind [IntWalk.wrap64_in]
   by_cases U:Rs R k
   ·rw[if_neg (by grind),m,xt q r p f (k+1) _ (by omega) (by omega) l s];grind
   grind
  grind
end Go.Proofs.YtalmoejhjceflaaGreat
