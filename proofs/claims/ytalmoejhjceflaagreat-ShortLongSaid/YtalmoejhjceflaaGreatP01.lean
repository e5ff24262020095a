/-
  Part 2 of a proof (walks and plain facts).
-/
import Derived.Test.YtalmoejhjceflaaGreatP00
set_option linter.all false
set_option maxRecDepth 100000
set_option maxHeartbeats 64000000
open Nat renaming le_refl → ae
open Nat renaming add_zero → ao
open List renaming getElem?_eq_none → au
open List renaming getElem?_eq_getElem → aw
open Nat renaming le_trans → aA
open Nat renaming mul_le_mul_left → aB
open Nat renaming lt_of_le_of_lt → aC
namespace Go.Proofs.YtalmoejhjceflaaGreat
open Go.RowKit
theorem jC (h l x y:Int) (h0:0<=h) (h1:h<18446744073709551616) (l0:0<=l) (l1:l<18446744073709551616) (x0:0<=x) (x1:x<18446744073709551616) (y0:0<=y) (y1:y<18446744073709551616)
  (hs:h*18446744073709551616+l+x*y<340282366920938463463374607431768211456) (w:World):
  Calls Tryz.prog 194 #[.agg #[.int .u64 h,.int .u64 l],.int .u64 x,.int .u64 y] w fun e w'=>
   ∃h' l':Int,e= .returned (.agg #[.int .u64 h',.int .u64 l'])/\0<=h'/\h'<18446744073709551616/\0<=l'/\l'<18446744073709551616/\h'*18446744073709551616+l'=h*18446744073709551616+l+x*y/\Ext w w':=by
 obtain⟨h,rfl⟩:=Int.eq_ofNat_of_zero_le h0;obtain⟨l,rfl⟩:=Int.eq_ofNat_of_zero_le l0;obtain⟨x,rfl⟩:=Int.eq_ofNat_of_zero_le x0;obtain⟨y,rfl⟩:=Int.eq_ofNat_of_zero_le y0;have key:=AW (h*18446744073709551616+l) x y (by omega) (by omega) (by omega) w;have e1:wd (h*18446744073709551616+l)= .agg #[.int .u64 (h:Int),.int .u64 (l:Int)]:=by
  unfold wd;rw[show(h*18446744073709551616+l)/18446744073709551616=h from by omega,show(h*18446744073709551616+l)%18446744073709551616=l from by omega]
 rw[e1]at key;refine key.mono fun e w' ⟨he,hw⟩=>?_
 have hnn:((h*18446744073709551616+l+x*y:Nat):Int)=(h:Int)*18446744073709551616+l+(x:Int)*y:=by simp
 refine⟨_,_,he,by omega,?_,by omega,by omega,?_,hw⟩
 ·rw[<- hnn]at hs;omega
 rw[<- hnn];omega
theorem mU (h l h2 l2:Int) (h0:0<=h) (h1:h<18446744073709551616) (l0:0<=l) (l1:l<18446744073709551616) (x0:0<=h2) (x1:h2<18446744073709551616) (y0:0<=l2) (y1:l2<18446744073709551616) (w:World):
  Calls Tryz.prog 195 #[.agg #[.int .u64 h,.int .u64 l],.agg #[.int .u64 h2,.int .u64 l2]] w fun e w'=>
   e= .returned (gd (h*18446744073709551616+l).toNat (h2*18446744073709551616+l2).toNat)/\Ext w w':=by
 obtain⟨h,rfl⟩:=Int.eq_ofNat_of_zero_le h0;obtain⟨l,rfl⟩:=Int.eq_ofNat_of_zero_le l0;obtain⟨h2,rfl⟩:=Int.eq_ofNat_of_zero_le x0;obtain⟨l2,rfl⟩:=Int.eq_ofNat_of_zero_le y0;have key:=uZ (h*18446744073709551616+l) (h2*18446744073709551616+l2) (by omega) (by omega) w;have e1: ∀h l:Nat,l<18446744073709551616->wd (h*18446744073709551616+l)= .agg #[.int .u64 (h:Int),.int .u64 (l:Int)]:=fun h l hl=>by
  unfold wd;rw[show(h*18446744073709551616+l)/18446744073709551616=h from by omega,show(h*18446744073709551616+l)%18446744073709551616=l from by omega]
 rw[e1 h l (by omega),e1 h2 l2 (by omega)]at key;rw[show((h:Int)*18446744073709551616+l).toNat=h*18446744073709551616+l from by omega,show((h2:Int)*18446744073709551616+l2).toNat=h2*18446744073709551616+l2 from by omega];exact key
def fz (x y:List Int):Nat->Int
 |0=>0
 |l+1=>fz x y l+x.getD l 0*y.getD l 0
def MS (h l:Int):Nat->Value:=fun j=>if j=0 then .int .u64 h else .int .u64 l
def yT (s:Int):Value:=if -4611686018427387904<=s/\s<=4611686018427387904 then .tuple #[.int .i64 s,.bool true]else .tuple #[.int .i64 0,.bool false]
theorem jw {a b:Int} (ha:a<=1099511627776) (ha0:0<=a) (hb:b<=2305843009213693952) (hb0:0<=b):0<=a*b/\a*b<=2535301200456458802993406410752:=
 ⟨Int.mul_nonneg ha0 hb0,by
  have h1:a*b<=1099511627776*b:=Int.mul_le_mul_of_nonneg_right ha hb0;omega⟩
theorem L8 (A B:Option Addr) (c d:Nat) (x y:List Int) (w:World) (hx:RdI .i64 w A x) (hy:RdI .i64 w B y) (hl:x.length<=y.length) (hn:x.length<=65536) (hly:y.length<=9223372036854775807)
  (hbx: ∀(i:Nat) z,x[i]?=some z-> -1099511627776<=z/\z<=1099511627776) (hby: ∀(i:Nat) z,y[i]?=some z-> -2305843009213693952<=z/\z<=2305843009213693952):
  Calls Tryz.prog 133 #[.slice A x.length c,.slice B y.length d] w fun e w'=>e= .returned (yT (fz x y x.length))/\Ext w w':=by
 have HX:=Lib.hid hx;have HY:=Lib.hid hy;have HBX:=Lib.hid hbx;have HBY:=Lib.hid hby;clear hx hy hbx hby
 go_enter Tryz.func133,Tryz.ntmps133
 go_wp2_with fail
 go_loopw [17,8,9,10] (fun i _ _ _ wr=> ∃(k:Nat) (ph pl nh nl:Int),k<=x.length/\i= .int .i64 k/\0<=ph/\ph<18446744073709551616/\0<=pl/\pl<18446744073709551616/\0<=nh/\nh<18446744073709551616/\0<=nl/\nl<18446744073709551616/\
   Hid (wr.rowIs w.heap.size 232 2 (MS ph pl))/\Hid (wr.rowIs (w.heap.size+1) 232 2 (MS nh nl))/\Hid (Ext w wr)/\
   Hid (ph*18446744073709551616+pl-(nh*18446744073709551616+nl)=fz x y k/\ph*18446744073709551616+pl+(nh*18446744073709551616+nl)<=k*2535301200456458802993406410752)) (fun i _ _ _ _=>x.length-(intOf i).toNat)
 case atStart=>
  refine⟨0,0,0,0,0,Nat.zero_le _,rfl,by omega,by omega,by omega,by omega,by omega,by omega,by omega,by omega,Lib.hid ?_,Lib.hid ?_,Lib.hid (((Ext.refl _).alloc _).alloc _),Lib.hid ⟨rfl,by omega⟩⟩
  ·refine(World.rowIs.alloc (World.rowIs_alloc w _ _ (MS 0 0) ?_) _);intro i hi
   match i,hi with
   |0,_=>rfl
   |1,_=>rfl
  have:=World.rowIs_alloc (w.alloc (.cells #[.int .u64 0,.int .u64 0] 232)) #[.int .u64 0,.int .u64 0] 232 (MS 0 0) (by
   intro i hi
   match i,hi with
   |0,_=>rfl
   |1,_=>rfl)
  simpa using this
 case round=>
  obtain⟨k,ph,pl,nh,nl,hk,rfl,p0,p1,p2,p3,n0,n1,n2,n3,HP,HN,HE,HQ⟩:=hrel;have t1:wr.cell? ⟨w.heap.size,0,none⟩=some (.int .u64 ph):=HP.out.cell (by omega);have t2:wr.cell? ⟨w.heap.size,1,none⟩=some (.int .u64 pl):=HP.out.cell (by omega);have t3:wr.cell? ⟨w.heap.size+1,0,none⟩=some (.int .u64 nh):=HN.out.cell (by omega);have t4:wr.cell? ⟨w.heap.size+1,1,none⟩=some (.int .u64 nl):=HN.out.cell (by omega);by_cases hlt:k<x.length
  ·obtain⟨a,ha⟩:=getElem?_of_lt hlt;obtain⟨b,off,rfl,hc⟩:=(HX.out.ext HE.out).at_ ha;obtain⟨a2,ha2⟩:=getElem?_of_lt (l:=y) (k:=k) (by omega);obtain⟨b2,off2,rfl,hc2⟩:=(HY.out.ext HE.out).at_ ha2;obtain⟨ax0,ax1⟩:=HBX.out k a ha;obtain⟨ay0,ay1⟩:=HBY.out k a2 ha2;have HS:Hid (fz x y (k+1)=fz x y k+a*a2):=Lib.hid (by simp[fz,List.getD_eq_getElem?_getD,ha,ha2]);clear ha ha2;have hky:(k:Int)<(y.length:Int):=by omega
   by_cases ga:0<=a
   ·by_cases gb:0<=a2
    ·have hp:=jw (a:=a) (b:=a2) (by omega) (by omega) (by omega) (by omega);have hq:=HQ.out;have hs:ph*18446744073709551616+pl+a*a2<340282366920938463463374607431768211456:=by omega
     have HM:=Lib.hid (jC ph pl (a) (a2) (by omega) (by omega) (by omega) (by omega) (by omega) (by omega) (by omega) (by omega) hs);clear hp hq hs
     go_wp2_with fail
     refine(HM.out _).mono ?_;rintro e w1 ⟨h',l',rfl,q0,q1,q2,q3,q4,he⟩;have HE1:=Lib.hid (HE.out.trans he);have HO1:=Lib.hid (ct HP.out he);have HO2:=Lib.hid (ct HN.out he);have HQ4:=Lib.hid q4;have s1:w1.cell? ⟨w.heap.size,0,none⟩=some (.int .u64 ph):=HO1.out.cell (by omega);have s2:w1.cell? ⟨w.heap.size,1,none⟩=some (.int .u64 pl):=HO1.out.cell (by omega);have s3:w1.frozen? ⟨w.heap.size,0,none⟩=false:=HO1.out.frozen 0;have s4:w1.frozen? ⟨w.heap.size,1,none⟩=false:=HO1.out.frozen 1;clear q4 he HP HN HE HM t1 t2 t3 t4 hc hc2
     go_wp2_with fail
     go_roundw
     case rel=>
      refine⟨k+1,h',l',nh,nl,by omega,by go_num,by omega,by omega,by omega,by omega,by omega,by omega,by omega,by omega,Lib.hid ?_,Lib.hid ?_,Lib.hid ((HE1.out.setCell (by show w.heap.size<=w.heap.size;omega) _).setCell (by show w.heap.size<=w.heap.size;omega) _),Lib.hid ⟨by rw[HS.out];have:=HQ.out.1;have:=HQ4.out;omega,by have:=HQ.out.2;have:=HQ4.out;have:=jw (a:=a) (b:=a2) (by omega) (by omega) (by omega) (by omega);omega⟩⟩
      ·exact((HO1.out.set 0 _).set 1 _).congr (fun j hj=>by match j,hj with|0,_=>rfl|1,_=>rfl)
      exact(HO2.out.setOther (by show w.heap.size+1≠w.heap.size;omega) _).setOther (by show w.heap.size+1≠w.heap.size;omega) _
     case measure=>simp[intOf];omega
    have hp:=jw (a:=a) (b:= -a2) (by omega) (by omega) (by omega) (by omega);have hq:=HQ.out;have hs:nh*18446744073709551616+nl+a* -a2<340282366920938463463374607431768211456:=by omega
    have HM:=Lib.hid (jC nh nl (a) (-a2) (by omega) (by omega) (by omega) (by omega) (by omega) (by omega) (by omega) (by omega) hs);clear hp hq hs
    go_wp2_with fail
    refine(HM.out _).mono ?_;rintro e w1 ⟨h',l',rfl,q0,q1,q2,q3,q4,he⟩;have HE1:=Lib.hid (HE.out.trans he);have HO1:=Lib.hid (ct HN.out he);have HO2:=Lib.hid (ct HP.out he);have HQ4:=Lib.hid q4;have s1:w1.cell? ⟨w.heap.size+1,0,none⟩=some (.int .u64 nh):=HO1.out.cell (by omega);have s2:w1.cell? ⟨w.heap.size+1,1,none⟩=some (.int .u64 nl):=HO1.out.cell (by omega);have s3:w1.frozen? ⟨w.heap.size+1,0,none⟩=false:=HO1.out.frozen 0;have s4:w1.frozen? ⟨w.heap.size+1,1,none⟩=false:=HO1.out.frozen 1;clear q4 he HP HN HE HM t1 t2 t3 t4 hc hc2
    go_wp2_with fail
    go_roundw
    case rel=>
     refine⟨k+1,ph,pl,h',l',by omega,by go_num,by omega,by omega,by omega,by omega,by omega,by omega,by omega,by omega,Lib.hid ?_,Lib.hid ?_,Lib.hid ((HE1.out.setCell (by show w.heap.size<=w.heap.size+1;omega) _).setCell (by show w.heap.size<=w.heap.size+1;omega) _),Lib.hid ⟨by rw[HS.out];have:=HQ.out.1;have:=HQ4.out;have e:a*a2= -(a* -a2):=(by rw[Int.mul_neg,Int.neg_neg]);omega,by have:=HQ.out.2;have:=HQ4.out;have:=jw (a:=a) (b:= -a2) (by omega) (by omega) (by omega) (by omega);omega⟩⟩
     ·exact(HO2.out.setOther (by show w.heap.size≠w.heap.size+1;omega) _).setOther (by show w.heap.size≠w.heap.size+1;omega) _
     exact((HO1.out.set 0 _).set 1 _).congr (fun j hj=>by match j,hj with|0,_=>rfl|1,_=>rfl)
    case measure=>simp[intOf];omega
   by_cases gb:0<=a2
   ·have hp:=jw (a:= -a) (b:=a2) (by omega) (by omega) (by omega) (by omega);have hq:=HQ.out;have hs:nh*18446744073709551616+nl+ -a*a2<340282366920938463463374607431768211456:=by omega
    have HM:=Lib.hid (jC nh nl (-a) (a2) (by omega) (by omega) (by omega) (by omega) (by omega) (by omega) (by omega) (by omega) hs);clear hp hq hs
    go_wp2_with fail
    refine(HM.out _).mono ?_;rintro e w1 ⟨h',l',rfl,q0,q1,q2,q3,q4,he⟩;have HE1:=Lib.hid (HE.out.trans he);have HO1:=Lib.hid (ct HN.out he);have HO2:=Lib.hid (ct HP.out he);have HQ4:=Lib.hid q4;have s1:w1.cell? ⟨w.heap.size+1,0,none⟩=some (.int .u64 nh):=HO1.out.cell (by omega);have s2:w1.cell? ⟨w.heap.size+1,1,none⟩=some (.int .u64 nl):=HO1.out.cell (by omega);have s3:w1.frozen? ⟨w.heap.size+1,0,none⟩=false:=HO1.out.frozen 0;have s4:w1.frozen? ⟨w.heap.size+1,1,none⟩=false:=HO1.out.frozen 1;clear q4 he HP HN HE HM t1 t2 t3 t4 hc hc2
    go_wp2_with fail
    go_roundw
    case rel=>
     refine⟨k+1,ph,pl,h',l',by omega,by go_num,by omega,by omega,by omega,by omega,by omega,by omega,by omega,by omega,Lib.hid ?_,Lib.hid ?_,Lib.hid ((HE1.out.setCell (by show w.heap.size<=w.heap.size+1;omega) _).setCell (by show w.heap.size<=w.heap.size+1;omega) _),Lib.hid ⟨by rw[HS.out];have:=HQ.out.1;have:=HQ4.out;have e:a*a2= -(-a*a2):=(by rw[Int.neg_mul,Int.neg_neg]);omega,by have:=HQ.out.2;have:=HQ4.out;have:=jw (a:= -a) (b:=a2) (by omega) (by omega) (by omega) (by omega);omega⟩⟩
     ·exact(HO2.out.setOther (by show w.heap.size≠w.heap.size+1;omega) _).setOther (by show w.heap.size≠w.heap.size+1;omega) _
     exact((HO1.out.set 0 _).set 1 _).congr (fun j hj=>by match j,hj with|0,_=>rfl|1,_=>rfl)
    case measure=>simp[intOf];omega
   have hp:=jw (a:= -a) (b:= -a2) (by omega) (by omega) (by omega) (by omega);have hq:=HQ.out;have hs:ph*18446744073709551616+pl+ -a* -a2<340282366920938463463374607431768211456:=by omega
   have HM:=Lib.hid (jC ph pl (-a) (-a2) (by omega) (by omega) (by omega) (by omega) (by omega) (by omega) (by omega) (by omega) hs);clear hp hq hs
   go_wp2_with fail
   refine(HM.out _).mono ?_;rintro e w1 ⟨h',l',rfl,q0,q1,q2,q3,q4,he⟩;have HE1:=Lib.hid (HE.out.trans he);have HO1:=Lib.hid (ct HP.out he);have HO2:=Lib.hid (ct HN.out he);have HQ4:=Lib.hid q4;have s1:w1.cell? ⟨w.heap.size,0,none⟩=some (.int .u64 ph):=HO1.out.cell (by omega);have s2:w1.cell? ⟨w.heap.size,1,none⟩=some (.int .u64 pl):=HO1.out.cell (by omega);have s3:w1.frozen? ⟨w.heap.size,0,none⟩=false:=HO1.out.frozen 0;have s4:w1.frozen? ⟨w.heap.size,1,none⟩=false:=HO1.out.frozen 1;clear q4 he HP HN HE HM t1 t2 t3 t4 hc hc2
   go_wp2_with fail
   go_roundw
   case rel=>
    refine⟨k+1,h',l',nh,nl,by omega,by go_num,by omega,by omega,by omega,by omega,by omega,by omega,by omega,by omega,Lib.hid ?_,Lib.hid ?_,Lib.hid ((HE1.out.setCell (by show w.heap.size<=w.heap.size;omega) _).setCell (by show w.heap.size<=w.heap.size;omega) _),Lib.hid ⟨by rw[HS.out];have:=HQ.out.1;have:=HQ4.out;have e:a*a2= -a* -a2:=(by rw[Int.neg_mul_neg]);omega,by have:=HQ.out.2;have:=HQ4.out;have:=jw (a:= -a) (b:= -a2) (by omega) (by omega) (by omega) (by omega);omega⟩⟩
    ·exact((HO1.out.set 0 _).set 1 _).congr (fun j hj=>by match j,hj with|0,_=>rfl|1,_=>rfl)
    exact(HO2.out.setOther (by show w.heap.size+1≠w.heap.size;omega) _).setOther (by show w.heap.size+1≠w.heap.size;omega) _
   case measure=>simp[intOf];omega
  have hkl:k=x.length:=by omega
  have HK:Hid (ph*18446744073709551616+pl-(nh*18446744073709551616+nl)=fz x y x.length):=Lib.hid (by have:=HQ.out.1;rw[hkl]at this;exact this);obtain⟨D,hD⟩: ∃D,D=fz x y x.length:=⟨_,rfl⟩;have HM:=Lib.hid (mU ph pl nh nl p0 p1 p2 p3 n0 n1 n2 n3);have HM2:=Lib.hid (mU nh nl ph pl n0 n1 n2 n3 p0 p1 p2 p3);have hK:=HK.out;rw[<- hD]at hK;have HDD:=Lib.hid hD;by_cases g1:0<=D/\D<=4611686018427387904
  ·have e1:gd (ph*18446744073709551616+pl).toNat (nh*18446744073709551616+nl).toNat= .tuple #[.int .i64 D,.bool true]:=kU (by omega) (by omega);have HV:Hid (yT D= .tuple #[.int .i64 D,.bool true]):=Lib.hid (if_pos (by omega));rw[e1]at HM;clear hK hD e1 hkl HM2
   go_wp2_with fail
   refine(HM.out _).mono ?_;rintro e w1 ⟨rfl,he⟩;have HE1:=Lib.hid (HE.out.trans he);clear he
   go_wp2_with fail
   go_ret2
   exact⟨by rw[<- HDD.out,HV.out];rfl,HE1.out⟩
  have e1:gd (ph*18446744073709551616+pl).toNat (nh*18446744073709551616+nl).toNat= .tuple #[.int .i64 0,.bool false]:=gf (by omega);rw[e1]at HM;by_cases g2: -4611686018427387904<=D/\D<=0
  ·have e2:gd (nh*18446744073709551616+nl).toNat (ph*18446744073709551616+pl).toNat= .tuple #[.int .i64 (-D),.bool true]:=kU (by omega) (by omega);have HV:Hid (yT D= .tuple #[.int .i64 D,.bool true]):=Lib.hid (if_pos (by omega));have g3:=g2.1;have g4:=g2.2;rw[e2]at HM2;clear hK hD e1 e2 hkl
   go_wp2_with fail
   refine(HM.out _).mono ?_;rintro e w1 ⟨rfl,he⟩;have HE1:=Lib.hid (HE.out.trans he);have s1:w1.cell? ⟨w.heap.size,0,none⟩=some (.int .u64 ph):=he.cell t1;have s2:w1.cell? ⟨w.heap.size,1,none⟩=some (.int .u64 pl):=he.cell t2;have s3:w1.cell? ⟨w.heap.size+1,0,none⟩=some (.int .u64 nh):=he.cell t3;have s4:w1.cell? ⟨w.heap.size+1,1,none⟩=some (.int .u64 nl):=he.cell t4;clear he t1 t2 t3 t4
   go_wp2_with fail
   refine(HM2.out _).mono ?_;rintro e w2 ⟨rfl,he⟩;have HE2:=Lib.hid (HE1.out.trans he);clear he s1 s2 s3 s4
   go_wp2_with fail
   go_ret2
   refine⟨?_,HE2.out⟩;rw[<- HDD.out,HV.out]
   simp
  have e2:gd (nh*18446744073709551616+nl).toNat (ph*18446744073709551616+pl).toNat= .tuple #[.int .i64 0,.bool false]:=gf (by omega);have HV:Hid (yT D= .tuple #[.int .i64 0,.bool false]):=Lib.hid (if_neg (by omega));rw[e2]at HM2;clear hK hD e1 e2 hkl g1 g2
  go_wp2_with fail
  refine(HM.out _).mono ?_;rintro e w1 ⟨rfl,he⟩;have HE1:=Lib.hid (HE.out.trans he);have s1:w1.cell? ⟨w.heap.size,0,none⟩=some (.int .u64 ph):=he.cell t1;have s2:w1.cell? ⟨w.heap.size,1,none⟩=some (.int .u64 pl):=he.cell t2;have s3:w1.cell? ⟨w.heap.size+1,0,none⟩=some (.int .u64 nh):=he.cell t3;have s4:w1.cell? ⟨w.heap.size+1,1,none⟩=some (.int .u64 nl):=he.cell t4;clear he t1 t2 t3 t4
  go_wp2_with fail
  refine(HM2.out _).mono ?_;rintro e w2 ⟨rfl,he⟩;have HE2:=Lib.hid (HE1.out.trans he);clear he s1 s2 s3 s4
  go_wp2_with fail
  go_ret2
  refine⟨?_,HE2.out⟩;rw[<- HDD.out,HV.out];rfl
theorem Tryz.inI64:(Tryz.prog.info? 2).map (fun i=>(i.zero,i.size,i.bytes))=some (some (.int .i64 0),1,8):=by kernel_rfl
theorem By (A:Option Addr) (c:Nat) (x:List Int) (w:World) (hx:RdI .i64 w A x) (hl:x.length*8<=140737488355328):
  Calls Tryz.prog 142 #[.slice A x.length c] w fun e w'=> ∃v,e= .returned v/\w'.ownsRow w.heap.size 2 1 v x.length (x.map (Value.int .i64))/\Ext w w':=by
 have hnil:=fun(w:World) (n c:Nat)=>Lib.run_eql_slice_nil (P:=Tryz.prog) w 35 2 A n c 0 0 Tryz.underlying35
 cases A with
 |none=>
  have hx0:x=[]:=by
   cases x with
   |nil=>rfl
   |cons a l=>obtain⟨_,_,h,_⟩:=hx (by simp);cases h
  subst hx0
  go_enter Tryz.func142,Tryz.ntmps142
  go_wp2_with fail
  go_ret
  exact⟨_,rfl,World.ownsRow_nil _ _ _ _,Ext.refl _⟩
 |some a=>
  go_enter Tryz.func142,Tryz.ntmps142
  go_wp2_with (at_builtin;refine gN _ rfl (.tmp 5) (.tmp 6) _ rfl w.heap.size 2 (.int .i64 0) 1 8 Tryz.underlying35 Tryz.inI64 rfl (by omega) _ 0 [] rfl (World.ownsRow_made w #[] 0 (ae _) (Nat.zero_le _) rfl) (some a) x.length c _ rfl (Rd.ext hx ((Ext.refl _).alloc _)) (by simp) oQ (by simp only[maxLen];omega) (by omega) (by simp) ?_;intro v1 w1 hown1 hg1 _)
  go_ret
  exact⟨_,rfl,by simpa using hown1,vG hg1 (World.ownsRow_made w #[] 0 (ae _) (Nat.zero_le _) rfl:World.ownsRow _ w.heap.size 2 1 _ 0 []) ((Ext.refl w).alloc _) (ae _)⟩
def qE (x:List Int):Int:=match x.findIdx? (fun c=>c !=0)with|some i=>i|none=> -1
theorem IQ {x:List Int} {k:Nat} {a:Int} (h: ∀j c,j<k->x[j]?=some c->c=0) (hk:x[k]?=some a) (ha:(a !=0)=true):qE x=k:=by
 unfold qE;have:x.findIdx? (fun c=>c !=0)=some k:=by
  rw[List.findIdx?_eq_some_iff_getElem];obtain⟨hlt,rfl⟩:=List.getElem?_eq_some_iff.1 hk;exact⟨hlt,ha,fun j hj=>by simp[h j x[j] hj (aw (by omega))]⟩
 rw[this]
theorem B7 {x:List Int} {k:Nat} (h: ∀j c,j<k->x[j]?=some c->c=0) (hk:x.length<=k):qE x= -1:=by
 unfold qE;have:x.findIdx? (fun c=>c !=0)=none:=by
  rw[List.findIdx?_eq_none_iff];intro c hc;obtain⟨j,hj,rfl⟩:=List.getElem_of_mem hc;simp[h j _ (by omega) (aw hj)]
 rw[this]
theorem ko {x:List Int} (h:AZ x=true) {k:Nat} {c:Int} (hk:x[k]?=some c): -1099511627776<=c/\c<=1099511627776:=by
 unfold AZ at h;rw[List.all_eq_true]at h;have:=h c (List.mem_of_getElem? hk);simp at this;exact this
theorem sd (a:Int) (w:World):
  Calls Tryz.prog 197 #[.int .i64 a] w fun e w'=>e= .returned (.bool (a !=0))/\w=w':=by
 go_enter Tryz.func197,Tryz.ntmps197
 go_wp2_with fail
 go_ret
 exact⟨rfl,rfl⟩
theorem mQ (A:Option Addr) (c:Nat) (x:List Int) (w:World) (hx:RdI .i64 w A x) (lx:x.length<=9223372036854775807):
  Calls Tryz.prog 196 #[.slice A x.length c,.func (Fn.func 197) #[] #[]] w fun e w'=>e= .returned (.int .i64 (qE x))/\w=w':=by
 have HX:=Lib.hid hx;clear hx
 go_enter Tryz.func196,Tryz.ntmps196
 go_wp2_with fail
 go_loop [8,5] (fun i _=> ∃k:Nat,k<=x.length/\i= .int .i64 k/\Hid (∀j c,j<k->x[j]?=some c->c=0)) (fun i _=>x.length-(intOf i).toNat)
 case atStart=>exact⟨0,Nat.zero_le _,rfl,Lib.hid (fun j c h=>by omega)⟩
 case round=>
  obtain⟨k,hk,rfl,HR⟩:=hrel;by_cases hlt:k<x.length
  ·obtain⟨a,ha⟩:=getElem?_of_lt hlt;obtain⟨b,off,rfl,hc⟩:=HX.out.at_ ha;have HA:=Lib.hid ha;clear ha;by_cases h0:(a !=0)=true
   ·go_wp2_with (go_at_call 197;refine(sd _ _).mono ?_;rintro e w' ⟨rfl,rfl⟩)
    go_ret
    exact⟨fq (IQ HR.out HA.out h0).symm,rfl⟩
   have h0':(a !=0)=false:=by simpa using h0
   have H0:=Lib.hid h0';clear h0
   go_wp2_with (go_at_call 197;refine(sd _ _).mono ?_;rintro e w' ⟨rfl,rfl⟩)
   go_round
   case rel=>exact⟨k+1,by omega,by go_num,Lib.hid (wE (P:=fun c=>c=0) HR.out HA.out (by simpa using H0.out))⟩
   case measure=>simp[intOf];omega
  go_wp2_with fail
  go_ret
  exact⟨fq (B7 HR.out (by omega)).symm,rfl⟩
def gD (x:List Int):Option (List Int):=
 if AZ x then(match x.find? (fun c=>c !=0)with
  |none=>none
  |some c=>some (if c<0 then x.map (fun a=> -a)else x))else none
theorem zn (x:List Int):(qE x= -1/\x.find? (fun c=>c !=0)=none)\/ ∃(k:Nat) (a:Int),qE x=k/\k<x.length/\x[k]?=some a/\x.find? (fun c=>c !=0)=some a:=by
 unfold qE;cases h:x.findIdx? (fun c=>c !=0)with
 |none=>
  left;refine⟨rfl,?_⟩;rw[List.find?_eq_none];rw[List.findIdx?_eq_none_iff]at h;intro c hc;simpa using h c hc
 |some k=>
  right;rw[List.findIdx?_eq_some_iff_getElem]at h;obtain⟨hlt,h1,h2⟩:=h;refine⟨k,x[k],rfl,hlt,aw hlt,?_⟩;rw[List.find?_eq_some_iff_getElem];exact⟨h1,k,hlt,rfl,fun j hj=>by simpa using h2 j hj⟩
def JB (x:List Int) (k:Nat) (f:Nat->Value):Nat->Value:=fun j=>if j<k then .int .i64 (-(x.getD j 0))else f j
def Ik (w0 w':World) (r:Option (List Int)) (e:Ending):Prop:=match r with
 |none=>e= .returned (.tuple #[.slice none 0 0,.bool false])
 |some z=> ∃A c,e= .returned (.tuple #[.slice A z.length c,.bool true])/\z.length<=c/\RdI .i64 w' A z/\ ∀p,A=some p->w0.heap.size<=p.block/\p.block<w'.heap.size
theorem jo (A:Option Addr) (c:Nat) (x:List Int) (w:World) (hx:RdI .i64 w A x) (hl:x.length*8<=140737488355328):
  Calls Tryz.prog 135 #[.slice A x.length c] w fun e w'=>Ik w w' (gD x) e/\Ext w w':=by
 have HX:=Lib.hid hx;cases hI:AZ x with
 |false=>
  have HF:Hid (gD x=none):=Lib.hid (by simp[gD,hI])
  go_enter Tryz.func135,Tryz.ntmps135
  go_wp2_with (go_at_call 163;refine(jq A c x _ hx (by omega)).mono ?_;rintro e w' ⟨rfl,rfl⟩)
  go_ret2
  exact⟨by rw[HF.out];rfl,Ext.refl _⟩
 |true=>
  have HIB:=Lib.hid hI;rcases zn x with⟨h1,h2⟩|⟨k,a,h1,hk,ha,h2⟩
  ·have HF:Hid (gD x=none):=Lib.hid (by simp[gD,hI,h2]);have HC:=Lib.hid (mQ A c x w hx (by omega));rw[h1]at HC;clear h1 h2
   go_enter Tryz.func135,Tryz.ntmps135
   go_wp2_with (go_at_call 163;refine(jq A c x _ hx (by omega)).mono ?_;rintro e w' ⟨rfl,rfl⟩)
   refine HC.out.mono ?_;rintro e w' ⟨rfl,rfl⟩
   go_wp2_with fail
   go_ret2
   exact⟨by rw[HF.out];rfl,Ext.refl _⟩
  have HC:=Lib.hid (mQ A c x w hx (by omega));rw[h1]at HC;have HF:Hid (gD x=some (if a<0 then x.map (fun a=> -a)else x)):=Lib.hid (by simp[gD,hI,h2]);obtain⟨b,off,rfl,hc⟩:=hx.at_ ha;clear h1 h2 ha
  go_enter Tryz.func135,Tryz.ntmps135
  go_wp2_with (go_at_call 163;refine(jq _ c x _ hx (by omega)).mono ?_;rintro e w' ⟨rfl,rfl⟩)
  refine HC.out.mono ?_;rintro e w' ⟨rfl,rfl⟩
  go_wp2_with fail
  refine(By _ c x _ hx hl).mono ?_;rintro e w1 ⟨v,rfl,hown,he⟩;have hc1:=he.cell hc;obtain⟨g,cap,f,rfl,hcap,hg,hrow,hf⟩:=F1 hown (by omega);have HE:=Lib.hid he;have HROW:=Lib.hid hrow;have HFF:=Lib.hid hf;clear hown he hrow hf hx;by_cases h0:a<0
  ·go_wp2_with fail
   go_loopw [24,6,7] (fun i _ _ wr=> ∃l:Nat,l<=x.length/\i= .int .i64 l/\Hid (wr.rowIs g 2 cap (JB x l f))/\Hid (Ext w wr)) (fun i _ _ _=>x.length-(intOf i).toNat)
   case atStart=>exact⟨0,Nat.zero_le _,rfl,Lib.hid (HROW.out.congr (fun j _=>by simp[JB])),HE⟩
   case round=>
    clear hc1 HROW HE;obtain⟨l,hl',rfl,HROW,HE⟩:=hrel;by_cases hlt:l<x.length
    ·obtain⟨a2,ha2⟩:=getElem?_of_lt hlt;obtain⟨b2,off2,hbb,hc2⟩:=(HX.out.ext HE.out).at_ ha2;cases hbb;have hB:=ko HIB.out ha2;have t1:wr.cell? ⟨g,l,none⟩=some (f l):=by rw[HROW.out.cell (by omega)];simp[JB]
     have t2:wr.frozen? ⟨g,l,none⟩=false:=HROW.out.frozen l;have hlc:(l:Int)<(cap:Int):=by omega
     have HA2:Hid (x.getD l 0=a2):=Lib.hid (by rw[List.getD_eq_getElem?_getD,ha2];rfl);clear ha2;have hB1:=hB.1;have hB2:=hB.2
     go_wp2_with fail
     go_roundw
     case rel=>
      refine⟨l+1,by omega,by go_num,Lib.hid ((HROW.out.set l _).congr (fun j _=>?_)),Lib.hid (HE.out.setCell hg _)⟩;unfold JB;by_cases e:j=l
      ·subst e;rw[if_pos rfl,if_pos (by omega),HA2.out]
      rw[if_neg e];by_cases e2:j<l
      ·rw[if_pos e2,if_pos (by omega)]
      rw[if_neg e2,if_neg (by omega)]
     case measure=>simp[intOf];omega
    go_wp2_with fail
    go_ret2
    refine⟨?_,HE.out⟩;rw[HF.out,if_pos h0];refine⟨some ⟨g,0,none⟩,cap,by simp,by simpa using hcap,RdI.of_row HROW.out (by simpa using hcap) (fun i z hz=>?_),(by rintro p ⟨⟩;exact⟨hg,HROW.out.lt⟩)⟩;rw[List.getElem?_map]at hz;cases hxi:x[i]? with
    |none=>rw[hxi]at hz;cases hz
    |some a3=>
     rw[hxi]at hz;have hi:i<x.length:=(List.getElem?_eq_some_iff.1 hxi).1;unfold JB;rw[if_pos (by omega),List.getD_eq_getElem?_getD,hxi];simp at hz;simp[hz]
  go_wp2_with fail
  go_ret2
  refine⟨?_,HE.out⟩;rw[HF.out,if_neg (by omega)];exact⟨some ⟨g,0,none⟩,cap,rfl,hcap,RdI.of_row HROW.out hcap (fun i z hz=>HFF.out i _ (by simp[hz])),(by rintro p ⟨⟩;exact⟨hg,HROW.out.lt⟩)⟩
theorem kJ {a b A B:Int} (ha: -A<=a/\a<=A) (hb: -B<=b/\b<=B) (hB:0<=B) (hA:0<=A): -(A*B)<=a*b/\a*b<=A*B:=by
 have h1:a.natAbs<=A.toNat:=by omega
 have h2:b.natAbs<=B.toNat:=by omega
 have h3:(a*b).natAbs<=A.toNat*B.toNat:=by rw[Int.natAbs_mul];exact Nat.mul_le_mul h1 h2
 have h4:((A.toNat*B.toNat:Nat):Int)=A*B:=by rw[Int.natCast_mul,Int.toNat_of_nonneg hA,Int.toNat_of_nonneg hB]
 omega
theorem DP {x:List Int} {B:Int} (hB:0<=B) (h: ∀(i:Nat) z,x[i]?=some z-> -B<=z/\z<=B) (j:Nat): -B<=x.getD j 0/\x.getD j 0<=B:=by
 rw[List.getD_eq_getElem?_getD];cases hx:x[j]? with
 |none=>simp;omega
 |some z=>exact h j z hx
theorem m4 {row x:List Int} (hr: ∀(i:Nat) z,row[i]?=some z-> -262144<=z/\z<=262144) (hx: ∀(i:Nat) z,x[i]?=some z-> -1099511627776<=z/\z<=1099511627776):
  ∀l:Nat,l<=8->n4 row x l=fz row x l/\ -(l*288230376151711744)<=fz row x l/\fz row x l<=l*288230376151711744
 |0,_=>⟨rfl,by simp[fz],by simp[fz]⟩
 |l+1,hl=>by
  obtain⟨h1,h2,h3⟩:=m4 hr hx l (by omega);have hp:=kJ (DP (by omega) hr l) (DP (by omega) hx l) (by omega) (by omega);have e:(262144:Int)*1099511627776=288230376151711744:=by decide
  rw[e]at hp;have hw1:wrap64 (row.getD l 0*x.getD l 0)=row.getD l 0*x.getD l 0:=IntWalk.wrap64_in _ ⟨by omega,by omega⟩;have hw2:wrap64 (fz row x l+row.getD l 0*x.getD l 0)=fz row x l+row.getD l 0*x.getD l 0:=IntWalk.wrap64_in _ ⟨by omega,by omega⟩;refine⟨?_,?_,?_⟩
  ·show wrap64 (n4 row x l+wrap64 (row.getD l 0*x.getD l 0))=fz row x l+row.getD l 0*x.getD l 0;rw[hw1,h1,hw2]
  ·show _<=fz row x l+row.getD l 0*x.getD l 0;omega
  show fz row x l+row.getD l 0*x.getD l 0<=_;omega
theorem io.row_len {rows:List (List Int)} (h:io rows) {i:Nat} {r:List Int} (hi:rows[i]?=some r):r.length=rows.length:=(show Sq rows from h.2.2.1).at_ hi
theorem io.row_bd {rows:List (List Int)} (h:io rows) {i:Nat} {r:List Int} (hi:rows[i]?=some r): ∀(j:Nat) z,r[j]?=some z-> -262144<=z/\z<=262144:=by
 intro j z hz;have h1:=(List.getElem?_eq_some_iff.1 hi).1;have h2:=(List.getElem?_eq_some_iff.1 hz).1;rw[h.row_len hi]at h2;have:=h.2.2.2 i h1 j h2;unfold jF at this;rw[nj hi hz]at this;omega
theorem EU {rows:List (List Int)} {x:List Int} (h:io rows) (hx:AZ x=true): ∀(i:Nat) z,(eF rows x)[i]?=some z-> -2305843009213693952<=z/\z<=2305843009213693952:=by
 intro i z hz;obtain⟨row,h1,rfl⟩:=vo hz;have hl:=h.row_len h1;have h8:=h.2.1;obtain⟨e,h2,h3⟩:=m4 (h.row_bd h1) (fun i z hz=>ko hx hz) row.length (by omega);rw[e];have:((row.length:Nat):Int)<=8:=by omega
 omega
theorem nO {n:Nat} {x:List Int}:uF n x=true↔x.length=n/\AZ x=true:=by
 unfold uF;rw[Bool.and_eq_true,decide_eq_true_iff];exact⟨fun h=>⟨by omega,h.2⟩,fun h=>⟨by omega,h.2⟩⟩
theorem gI {rows:List (List Int)} (h:isReducedM rows=true):io rows:=by
 unfold isReducedM at h;simp at h;exact h.1
theorem uJ (rows:List (List Int)) (x:List Int):(eF rows x).length=rows.length:=by simp[eF]
def Di (R:FF) (n t:Nat):Prop:= ∀i,i<n->t<i-> -(dk R (t+1))<=2*bk R t i t/\2*bk R t i t<=dk R (t+1)
def Lq (R:FF) (t:Nat):Prop:=3*dk R (t+1)*dk R (t+1)<=4*(dk R t*dk R (t+1+1)+bk R t (t+1) t*bk R t (t+1) t)
def Lv (R:FF) (n t:Nat):Prop:=0<dk R (t+1)/\dk R (t+1)<65536/\Di R n t
def RedR (R:FF) (n:Nat):Prop:=
 (∀i,i<n-> ∀j,j<n->R i j=R j i)/\(∀k,k<n->0<dk R (k+1))/\dk R n<=10000/\(∀t,t+1<n->Di R n t/\Lq R t)
theorem ip {R:FF} {n:Nat} (hs: ∀i,i<n-> ∀j,j<n->R i j=R j i): ∀k,k<=n->(∀t,t<k->dk R (t+1)≠0)-> ∀i j,i<n->j<n->bk R k i j=bk R k j i
 |0,_,_,i,j,hi,hj=>by rw[cp,cp];exact hs i hi j hj
 |k+1,hk,hd,i,j,hi,hj=>by
  have ih:=ip hs k (by omega) (fun t ht=>hd t (by omega));have h1:=sylv R k (fun t ht=>hd t (by omega)) i j;have h2:=sylv R k (fun t ht=>hd t (by omega)) j i;have e1:=ih i j hi hj;have e2:=ih i k hi (by omega);have e3:=ih k j (by omega) hj;have hne:dk R k≠0:=by
   cases k with
   |zero=>rw[cj];omega
   |succ k=>exact hd k (by omega)
  apply Int.eq_of_mul_eq_mul_left hne;rw[h1,h2,e1,e2,e3,Int.mul_comm (bk R k k i)]
theorem gG {R:FF} {k:Nat} (h: ∀t,t<k->0<dk R (t+1)):0<dk R k:=by
 cases k with
 |zero=>rw[cj];omega
 |succ k=>exact h k (by omega)
theorem No {C D E x a b y:Int} (hC:0<=C) (hD:0<D) (hE:0<E) (hE2:E<65536) (h:D*y=E*x-a*b) (hx: -(C*D)<=x/\x<=C*D) (ha: -E<=2*a/\2*a<=E) (hb: -E<=2*b/\2*b<=E):
  -((C+16384)*E)<=y/\y<=(C+16384)*E:=by
 have hab:=kJ ha hb (by omega) (by omega);have e4:2*a*(2*b)=4*(a*b):=by grind
 rw[e4]at hab;have hEE:E*E<=65536*E:=Int.mul_le_mul_of_nonneg_right (by omega) (by omega);have hED:E*1<=E*D:=Int.mul_le_mul_of_nonneg_left (by omega) (by omega);have h1:E*x<=E*(C*D):=Int.mul_le_mul_of_nonneg_left hx.2 (by omega);have h2:E*(-(C*D))<=E*x:=Int.mul_le_mul_of_nonneg_left hx.1 (by omega);have e5:E*(-(C*D))= -(C*(E*D)):=by grind
 have e6:E*(C*D)=C*(E*D):=by grind
 rw[e6]at h1;rw[e5]at h2;constructor
 ·rcases Int.lt_or_le y (-((C+16384)*E))with hlt|hle
  ·exfalso;have:=Int.mul_le_mul_of_nonneg_left (show y<= -((C+16384)*E)-1 by omega) (show 0<=D by omega);have e7:D*(-((C+16384)*E)-1)= -(C*(E*D))-16384*(E*D)-D:=by grind
   rw[e7,h]at this;omega
  exact hle
 rcases Int.lt_or_le ((C+16384)*E) y with hlt|hle
 ·exfalso;have:=Int.mul_le_mul_of_nonneg_left (show(C+16384)*E+1<=y by omega) (show 0<=D by omega);have e7:D*((C+16384)*E+1)=C*(E*D)+16384*(E*D)+D:=by grind
  rw[e7,h]at this;omega
 exact hle
theorem yM {R:FF} {n:Nat} (hs: ∀i,i<n-> ∀j,j<n->R i j=R j i) (hb: ∀i,i<n-> ∀j,j<n-> -262144<=R i j/\R i j<=262144):
  ∀k,(∀t,t<k->Lv R n t)-> ∀i j,k<=i->i<n->k<=j->j<n-> -((262144+k*16384)*dk R k)<=bk R k i j/\bk R k i j<=(262144+k*16384)*dk R k
 |0,_,i,j,_,hi,_,hj=>by
  rw[cp,cj];have:=hb i hi j hj;simp;omega
 |k+1,hk,i,j,hki,hi,hkj,hj=>by
  have ih:=yM hs hb k (fun t ht=>hk t (by omega)) i j (by omega) hi (by omega) hj;obtain⟨hE,hE2,hsz⟩:=hk k (by omega);have hne: ∀t,t<k->dk R (t+1)≠0:=fun t ht=>by have:=(hk t (by omega)).1;omega
  have hD:0<dk R k:=gG (fun t ht=>(hk t (by omega)).1);have h1:=hsz i hi (by omega);have h2:=hsz j hj (by omega);rw[ip hs k (by omega) hne j k hj (by omega)]at h2;have:=No (C:=262144+k*16384) (by omega) hD hE hE2 (sylv R k hne i j) ih h1 h2;have e:((262144:Int)+(k+1:Nat)*16384)=262144+k*16384+16384:=by omega
  rw[e];exact this
def R6 (R:FF) (n k:Nat) (stg:List (List Int)):Prop:=stg.length=n-k/\ ∀i j,i<n-k->j<n-k->ent stg i j=bk R k (k+i) (k+j)
theorem jm {R:FF} {n:Nat} (hn:n<=8) (hs: ∀i,i<n-> ∀j,j<n->R i j=R j i) (hb: ∀i,i<n-> ∀j,j<n-> -262144<=R i j/\R i j<=262144)
  {k:Nat} (hkn:k<n) (hk: ∀t,t<k->Lv R n t) {i j:Nat} (hki:k<=i) (hi:i<n) (hkj:k<=j) (hj:j<n): -34359738368<=bk R k i j/\bk R k i j<=34359738368:=by
 have h:=yM hs hb k hk i j hki hi hkj hj;have hD:0<dk R k:=gG (fun t ht=>(hk t (by omega)).1);have hD2:dk R k<65536:=by
  cases k with
  |zero=>rw[cj];omega
  |succ k=>exact(hk k (by omega)).2.1
 have h3:((262144:Int)+k*16384)*dk R k<=524288*65536:=Int.mul_le_mul (by omega) (by omega) (by omega) (by omega);omega
theorem FT {R:FF} {n:Nat} (hn:n<=8) (hs: ∀i,i<n-> ∀j,j<n->R i j=R j i) (hb: ∀i,i<n-> ∀j,j<n-> -262144<=R i j/\R i j<=262144)
  {k:Nat} (hkn:k+1<n) (hk: ∀t,t<k+1->Lv R n t) {stg:List (List Int)} (hst:R6 R n k stg) {i j:Nat} (hi:i<n-(k+1)) (hj:j<n-(k+1)):
  MH stg (dk R k) i j=bk R (k+1) (k+1+i) (k+1+j):=by
 have hk': ∀t,t<k->Lv R n t:=fun t ht=>hk t (by omega)
 have hne: ∀t,t<k->dk R (t+1)≠0:=fun t ht=>by have:=(hk t (by omega)).1;omega
 have hD:0<dk R k:=gG (fun t ht=>(hk' t ht).1);obtain⟨hE,hE2,hsz⟩:=hk k (by omega);have e00:=hst.2 0 0 (by omega) (by omega);have eij:=hst.2 (i+1) (j+1) (by omega) (by omega);have ei0:=hst.2 (i+1) 0 (by omega) (by omega);have e0j:=hst.2 0 (j+1) (by omega) (by omega);simp only[ao]at e00 ei0 e0j;rw[<- bT]at e00;rw[show k+(i+1)=k+1+i by omega]at eij ei0;rw[show k+(j+1)=k+1+j by omega]at eij e0j;have b1:=jm hn hs hb (by omega) hk' (i:=k+1+i) (j:=k+1+j) (by omega) (by omega) (by omega) (by omega);have b2:=jm hn hs hb (by omega) hk' (i:=k+1+i) (j:=k) (by omega) (by omega) (by omega) (by omega);have b3:=jm hn hs hb (by omega) hk' (i:=k) (j:=k+1+j) (by omega) (by omega) (by omega) (by omega);have b4:=jm hn hs hb (by omega) hk (i:=k+1+i) (j:=k+1+j) (by omega) (by omega) (by omega) (by omega);have hs1:=hsz (k+1+i) (by omega) (by omega);have m1:=kJ (a:=dk R (k+1)) (A:=65536) ⟨by omega,by omega⟩ b1 (by omega) (by omega);have m2:=kJ (a:=bk R k (k+1+i) k) (A:=65536) ⟨by omega,by omega⟩ b3 (by omega) (by omega);have hsy:=sylv R k hne (k+1+i) (k+1+j);unfold MH;rw[e00,eij,ei0,e0j];rw[IntWalk.wrap64_in (dk R (k+1)*bk R k (k+1+i) (k+1+j)) ⟨by omega,by omega⟩,IntWalk.wrap64_in (bk R k (k+1+i) k*bk R k k (k+1+j)) ⟨by omega,by omega⟩];rw[IntWalk.wrap64_in (dk R (k+1)*bk R k (k+1+i) (k+1+j)-bk R k (k+1+i) k*bk R k k (k+1+j)) ⟨by omega,by omega⟩];rw[<- hsy,Int.mul_tdiv_cancel_left _ (by omega),IntWalk.wrap64_in _ ⟨by omega,by omega⟩]
theorem tJ {R:FF} {n:Nat} (hn:n<=8) (hs: ∀i,i<n-> ∀j,j<n->R i j=R j i) (hb: ∀i,i<n-> ∀j,j<n-> -262144<=R i j/\R i j<=262144):
  ∀f k stg,k<n->n<=f+k->(∀t,t<k->Lv R n t)->R6 R n k stg->
   (o7 f stg (dk R k)=true↔(∀t,k<=t->t+1<n->Lv R n t/\Lq R t)/\0<dk R n/\dk R n<=10000)
 |0,k,stg,hk,hf,_,_=>by omega
 |f+1,k,stg,hk,hf,hok,hst=>by
  have e00:=hst.2 0 0 (by omega) (by omega);simp only[ao]at e00;rw[<- bT]at e00;by_cases hl:n=k+1
  ·subst hl;rw[o7,if_pos (by rw[hst.1];omega),e00];simp only[Bool.and_eq_true,decide_eq_true_iff];exact⟨fun h=>⟨fun t h1 h2=>by omega,h⟩,fun h=>h.2⟩
  rw[o7,if_neg (by rw[hst.1];omega)];have hshort:kp stg↔Lv R n k:=by
   unfold kp Lv Di mY;rw[e00,hst.1];refine and_congr Iff.rfl (and_congr Iff.rfl ⟨fun h i hi hik=>?_,fun h i hi hi1=>?_⟩)
   ·have h1:=h (i-k) (by omega) (by omega);have e:=hst.2 (i-k) 0 (by omega) (by omega);rw[show k+(i-k)=i by omega,ao]at e;have b1:=jm hn hs hb (by omega) hok (i:=i) (j:=k) (by omega) (by omega) (by omega) (by omega);rw[e,IntWalk.wrap64_in (2*bk R k i k) ⟨by omega,by omega⟩,IntWalk.wrap64_in (-2*bk R k i k) ⟨by omega,by omega⟩]at h1;omega
   have h1:=h (k+i) (by omega) (by omega);have e:=hst.2 i 0 (by omega) (by omega);rw[ao]at e;have b1:=jm hn hs hb (by omega) hok (i:=k+i) (j:=k) (by omega) (by omega) (by omega) (by omega);rw[e,IntWalk.wrap64_in (2*bk R k (k+i) k) ⟨by omega,by omega⟩,IntWalk.wrap64_in (-2*bk R k (k+i) k) ⟨by omega,by omega⟩];omega
  by_cases hP:kp stg
  ·rw[if_pos hP];have hok1: ∀t,t<k+1->Lv R n t:=fun t ht=>by
    by_cases e:t=k
    ·subst e;exact hshort.1 hP
    exact hok t (by omega)
   obtain⟨hE,hE2,hsz⟩:=hok1 k (by omega);have hD:0<dk R k:=gG (fun t ht=>(hok t ht).1);have hD2:dk R k<65536:=by
    cases k with
    |zero=>rw[cj];omega
    |succ k=>exact(hok k (by omega)).2.1
   have hnx: ∀i j,i<n-(k+1)->j<n-(k+1)->MH stg (dk R k) i j=bk R (k+1) (k+1+i) (k+1+j):=fun i j hi hj=>FT hn hs hb (by omega) hok1 hst hi hj
   have hst':R6 R n (k+1) (MJ stg (dk R k)):=by
    unfold MJ;rw[hst.1];refine⟨by rw[jN];omega,fun i j hi hj=>?_⟩;rw[ent,BU (by omega) (by omega)];exact hnx i j hi hj
   have hlov:A5 stg (dk R k)↔ ¬Lq R k:=by
    unfold A5 Lq;have e10:ent stg 1 0=bk R k (k+1) k:=hst.2 1 0 (by omega) (by omega);have en:=hnx 0 0 (by omega) (by omega);simp only[ao]at en;rw[<- bT]at en;rw[en,e10,e00];have b4:=jm hn hs hb (by omega) hok1 (i:=k+1) (j:=k+1) (by omega) (by omega) (by omega) (by omega);rw[<- bT]at b4;have hs1:=hsz (k+1) (by omega) (by omega);have m1:=kJ (a:=dk R k) (A:=65536) ⟨by omega,by omega⟩ b4 (by omega) (by omega);have m2:=kJ (a:=bk R k (k+1) k) (b:=bk R k (k+1) k) (A:=65536) (B:=65536) ⟨by omega,by omega⟩ ⟨by omega,by omega⟩ (by omega) (by omega);have m3:=kJ (a:=3*dk R (k+1)) (b:=dk R (k+1)) (A:=196608) (B:=65536) ⟨by omega,by omega⟩ ⟨by omega,by omega⟩ (by omega) (by omega);rw[IntWalk.wrap64_in (dk R k*dk R (k+1+1)) ⟨by omega,by omega⟩,IntWalk.wrap64_in (bk R k (k+1) k*bk R k (k+1) k) ⟨by omega,by omega⟩,IntWalk.wrap64_in (3*dk R (k+1)*dk R (k+1)) ⟨by omega,by omega⟩];rw[IntWalk.wrap64_in (dk R k*dk R (k+1+1)+bk R k (k+1) k*bk R k (k+1) k) ⟨by omega,by omega⟩];rw[IntWalk.wrap64_in (4*_) ⟨by omega,by omega⟩];omega
   by_cases hL:Lq R k
   ·rw[if_neg (by rw[hlov];exact fun h=>h hL),e00,tJ hn hs hb f (k+1) _ (by omega) (by omega) hok1 hst'];refine and_congr ⟨fun h t h1 h2=>?_,fun h t h1 h2=>h t (by omega) h2⟩ Iff.rfl;by_cases e:t=k
    ·subst e;exact⟨hok1 t (by omega),hL⟩
    exact h t (by omega) h2
   rw[if_pos (hlov.2 hL)];exact⟨fun h=>(nomatch h),fun h=>absurd (h.1 k (ae _) (by omega)).2 hL⟩
  rw[if_neg hP];exact⟨fun h=>(nomatch h),fun h=>absurd (hshort.2 (h.1 k (ae _) (by omega)).1) hP⟩
def yk:Nat->Nat
 |0=>0
 |k+1=>yk k+(k+1)
theorem dL {x a b C:Nat} (h:x^a<=C) (hC:C<(b+1)^a):x<=b:=by
 rcases Nat.lt_or_ge b x with hlt|hge
 ·have:=Nat.pow_le_pow_left (show b+1<=x by omega) a;omega
 exact hge
theorem O6 {e:Nat->Nat} (h: ∀k,1<=k->k<1->e k^(k+1)<=2^yk k*e (k+1)^k) (h1:e 1<=10000): ∀k,1<=k->k<=1->e k<65536:=by
 intro k hk1 hk2
 match k,hk1,hk2 with
 |1,_,_=>exact aC h1 (by decide)
 |k+2,_,hk2=>omega
theorem O7 {e:Nat->Nat} (h: ∀k,1<=k->k<2->e k^(k+1)<=2^yk k*e (k+1)^k) (h2:e 2<=10000): ∀k,1<=k->k<=2->e k<65536:=by
 have h1:e 1<=141:=dL (a:=2) (aA (h 1 (by omega) (by omega)) (aB _ (Nat.pow_le_pow_left h2 1))) (by decide+kernel);intro k hk1 hk2
 match k,hk1,hk2 with
 |1,_,_=>exact aC h1 (by decide)
 |2,_,_=>exact aC h2 (by decide)
 |k+3,_,hk2=>omega
theorem O8 {e:Nat->Nat} (h: ∀k,1<=k->k<3->e k^(k+1)<=2^yk k*e (k+1)^k) (h3:e 3<=10000): ∀k,1<=k->k<=3->e k<65536:=by
 have h2:e 2<=928:=dL (a:=3) (aA (h 2 (by omega) (by omega)) (aB _ (Nat.pow_le_pow_left h3 2))) (by decide+kernel);have h1:e 1<=43:=dL (a:=2) (aA (h 1 (by omega) (by omega)) (aB _ (Nat.pow_le_pow_left h2 1))) (by decide+kernel);intro k hk1 hk2
 match k,hk1,hk2 with
 |1,_,_=>exact aC h1 (by decide)
 |2,_,_=>exact aC h2 (by decide)
 |3,_,_=>exact aC h3 (by decide)
 |k+4,_,hk2=>omega
theorem O9 {e:Nat->Nat} (h: ∀k,1<=k->k<4->e k^(k+1)<=2^yk k*e (k+1)^k) (h4:e 4<=10000): ∀k,1<=k->k<=4->e k<65536:=by
 have h3:e 3<=2828:=dL (a:=4) (aA (h 3 (by omega) (by omega)) (aB _ (Nat.pow_le_pow_left h4 3))) (by decide+kernel);have h2:e 2<=399:=dL (a:=3) (aA (h 2 (by omega) (by omega)) (aB _ (Nat.pow_le_pow_left h3 2))) (by decide+kernel);have h1:e 1<=28:=dL (a:=2) (aA (h 1 (by omega) (by omega)) (aB _ (Nat.pow_le_pow_left h2 1))) (by decide+kernel);intro k hk1 hk2
 match k,hk1,hk2 with
 |1,_,_=>exact aC h1 (by decide)
 |2,_,_=>exact aC h2 (by decide)
 |3,_,_=>exact aC h3 (by decide)
 |4,_,_=>exact aC h4 (by decide)
 |k+5,_,hk2=>omega
theorem Pa {e:Nat->Nat} (h: ∀k,1<=k->k<5->e k^(k+1)<=2^yk k*e (k+1)^k) (h5:e 5<=10000): ∀k,1<=k->k<=5->e k<65536:=by
 have h4:e 4<=6339:=dL (a:=5) (aA (h 4 (by omega) (by omega)) (aB _ (Nat.pow_le_pow_left h5 4))) (by decide+kernel);have h3:e 3<=2009:=dL (a:=4) (aA (h 3 (by omega) (by omega)) (aB _ (Nat.pow_le_pow_left h4 3))) (by decide+kernel);have h2:e 2<=318:=dL (a:=3) (aA (h 2 (by omega) (by omega)) (aB _ (Nat.pow_le_pow_left h3 2))) (by decide+kernel);have h1:e 1<=25:=dL (a:=2) (aA (h 1 (by omega) (by omega)) (aB _ (Nat.pow_le_pow_left h2 1))) (by decide+kernel);intro k hk1 hk2
 match k,hk1,hk2 with
 |1,_,_=>exact aC h1 (by decide)
 |2,_,_=>exact aC h2 (by decide)
 |3,_,_=>exact aC h3 (by decide)
 |4,_,_=>exact aC h4 (by decide)
 |5,_,_=>exact aC h5 (by decide)
 |k+6,_,hk2=>omega
theorem Pb {e:Nat->Nat} (h: ∀k,1<=k->k<6->e k^(k+1)<=2^yk k*e (k+1)^k) (h6:e 6<=10000): ∀k,1<=k->k<=6->e k<65536:=by
 have h5:e 5<=12187:=dL (a:=6) (aA (h 5 (by omega) (by omega)) (aB _ (Nat.pow_le_pow_left h6 5))) (by decide+kernel);have h4:e 4<=7426:=dL (a:=5) (aA (h 4 (by omega) (by omega)) (aB _ (Nat.pow_le_pow_left h5 4))) (by decide+kernel);have h3:e 3<=2262:=dL (a:=4) (aA (h 3 (by omega) (by omega)) (aB _ (Nat.pow_le_pow_left h4 3))) (by decide+kernel);have h2:e 2<=344:=dL (a:=3) (aA (h 2 (by omega) (by omega)) (aB _ (Nat.pow_le_pow_left h3 2))) (by decide+kernel);have h1:e 1<=26:=dL (a:=2) (aA (h 1 (by omega) (by omega)) (aB _ (Nat.pow_le_pow_left h2 1))) (by decide+kernel);intro k hk1 hk2
 match k,hk1,hk2 with
 |1,_,_=>exact aC h1 (by decide)
 |2,_,_=>exact aC h2 (by decide)
 |3,_,_=>exact aC h3 (by decide)
 |4,_,_=>exact aC h4 (by decide)
 |5,_,_=>exact aC h5 (by decide)
 |6,_,_=>exact aC h6 (by decide)
 |k+7,_,hk2=>omega
theorem Pc {e:Nat->Nat} (h: ∀k,1<=k->k<7->e k^(k+1)<=2^yk k*e (k+1)^k) (h7:e 7<=10000): ∀k,1<=k->k<=7->e k<65536:=by
 have h6:e 6<=21461:=dL (a:=7) (aA (h 6 (by omega) (by omega)) (aB _ (Nat.pow_le_pow_left h7 6))) (by decide+kernel);have h5:e 5<=23029:=dL (a:=6) (aA (h 5 (by omega) (by omega)) (aB _ (Nat.pow_le_pow_left h6 5))) (by decide+kernel);have h4:e 4<=12356:=dL (a:=5) (aA (h 4 (by omega) (by omega)) (aB _ (Nat.pow_le_pow_left h5 4))) (by decide+kernel);have h3:e 3<=3314:=dL (a:=4) (aA (h 3 (by omega) (by omega)) (aB _ (Nat.pow_le_pow_left h4 3))) (by decide+kernel);have h2:e 2<=444:=dL (a:=3) (aA (h 2 (by omega) (by omega)) (aB _ (Nat.pow_le_pow_left h3 2))) (by decide+kernel);have h1:e 1<=29:=dL (a:=2) (aA (h 1 (by omega) (by omega)) (aB _ (Nat.pow_le_pow_left h2 1))) (by decide+kernel);intro k hk1 hk2
 match k,hk1,hk2 with
 |1,_,_=>exact aC h1 (by decide)
 |2,_,_=>exact aC h2 (by decide)
 |3,_,_=>exact aC h3 (by decide)
 |4,_,_=>exact aC h4 (by decide)
 |5,_,_=>exact aC h5 (by decide)
 |6,_,_=>exact aC h6 (by decide)
 |7,_,_=>exact aC h7 (by decide)
 |k+8,_,hk2=>omega
theorem Pd {e:Nat->Nat} (h: ∀k,1<=k->k<8->e k^(k+1)<=2^yk k*e (k+1)^k) (h8:e 8<=10000): ∀k,1<=k->k<=8->e k<65536:=by
 have h7:e 7<=35777:=dL (a:=8) (aA (h 7 (by omega) (by omega)) (aB _ (Nat.pow_le_pow_left h8 7))) (by decide+kernel);have h6:e 6<=63999:=dL (a:=7) (aA (h 6 (by omega) (by omega)) (aB _ (Nat.pow_le_pow_left h7 6))) (by decide+kernel);have h5:e 5<=57242:=dL (a:=6) (aA (h 5 (by omega) (by omega)) (aB _ (Nat.pow_le_pow_left h6 5))) (by decide+kernel);have h4:e 4<=25599:=dL (a:=5) (aA (h 4 (by omega) (by omega)) (aB _ (Nat.pow_le_pow_left h5 4))) (by decide+kernel);have h3:e 3<=5724:=dL (a:=4) (aA (h 3 (by omega) (by omega)) (aB _ (Nat.pow_le_pow_left h4 3))) (by decide+kernel);have h2:e 2<=639:=dL (a:=3) (aA (h 2 (by omega) (by omega)) (aB _ (Nat.pow_le_pow_left h3 2))) (by decide+kernel);have h1:e 1<=35:=dL (a:=2) (aA (h 1 (by omega) (by omega)) (aB _ (Nat.pow_le_pow_left h2 1))) (by decide+kernel);intro k hk1 hk2
 match k,hk1,hk2 with
 |1,_,_=>exact aC h1 (by decide)
 |2,_,_=>exact aC h2 (by decide)
 |3,_,_=>exact aC h3 (by decide)
 |4,_,_=>exact aC h4 (by decide)
 |5,_,_=>exact aC h5 (by decide)
 |6,_,_=>exact aC h6 (by decide)
 |7,_,_=>exact aC h7 (by decide)
 |8,_,_=>exact aC h8 (by decide)
 |k+9,_,hk2=>omega
theorem Oe {e:Nat->Nat} {n:Nat} (h0:e 0=1) (hp: ∀k,k<=n->0<e k) (h: ∀k,k+1<n->e (k+1)*e (k+1)<=2*(e k*e (k+2))):
  ∀k,k<n->e k^(k+1)<=2^yk k*e (k+1)^k
 |0,_=>by simp[h0,yk]
 |k+1,hk=>by
  have ih:=Oe h0 hp h k (by omega);have h1:=Nat.pow_le_pow_left (h k (by omega)) (k+1);have e1:(e (k+1)*e (k+1))^(k+1)=e (k+1)^k*e (k+1)^(k+1+1):=by
   rw[Nat.mul_pow,<- Nat.pow_add,<- Nat.pow_add];congr 1;omega
  have e2:(2*(e k*e (k+2)))^(k+1)=2^(k+1)*(e k^(k+1)*e (k+2)^(k+1)):=by rw[Nat.mul_pow,Nat.mul_pow]
  rw[e1,e2]at h1;have h2:2^(k+1)*(e k^(k+1)*e (k+2)^(k+1))<=2^(k+1)*((2^yk k*e (k+1)^k)*e (k+2)^(k+1)):=aB _ (Nat.mul_le_mul_right _ ih);have e3:2^(k+1)*((2^yk k*e (k+1)^k)*e (k+2)^(k+1))=e (k+1)^k*(2^yk (k+1)*e (k+1+1)^(k+1)):=by
   rw[yk,Nat.pow_add 2 (yk k)];generalize 2^(k+1)=A;generalize e (k+2)^(k+1)=B;generalize 2^yk k=C;generalize e (k+1)^k=D;grind
  rw[e3]at h2;exact Nat.le_of_mul_le_mul_left (aA h1 h2) (Nat.pow_pos (hp (k+1) (by omega)))
theorem E6 {e:Nat->Nat} {n:Nat} (h1:1<=n) (h8:n<=8) (h: ∀k,1<=k->k<n->e k^(k+1)<=2^yk k*e (k+1)^k) (hn:e n<=10000): ∀k,1<=k->k<=n->e k<65536:=by
 match n,h1,h8 with
 |1,_,_=>exact O6 h hn
 |2,_,_=>exact O7 h hn
 |3,_,_=>exact O8 h hn
 |4,_,_=>exact O9 h hn
 |5,_,_=>exact Pa h hn
 |6,_,_=>exact Pb h hn
 |7,_,_=>exact Pc h hn
 |8,_,_=>exact Pd h hn
 |n+9,_,h8=>omega
theorem j1 {R:FF} {n:Nat} (h1:1<=n) (h8:n<=8) (h:RedR R n): ∀k,k<n->dk R (k+1)<65536:=by
 obtain⟨_,hp,hd,hl⟩:=h;have hpos: ∀k,k<=n->0<dk R k:=fun k hk=>gG (fun t ht=>hp t (by omega))
 intro k hk;have hh:=Oe (e:=fun k=>(dk R k).toNat) (n:=n) (by rw[cj];rfl) (fun k hk=>by have:=hpos k hk;omega) (fun k hk=>?_)
 ·have:=E6 h1 h8 (fun k _ hk=>hh k hk) (by omega) (k+1) (by omega) (by omega);omega
 obtain⟨hs,hlv⟩:=hl k hk;have h1:=hs (k+1) (by omega) (by omega);have m:=kJ h1 h1 (by have:=hpos (k+1) (by omega);omega) (by have:=hpos (k+1) (by omega);omega);unfold Lq at hlv;have e1:2*bk R k (k+1) k*(2*bk R k (k+1) k)=4*(bk R k (k+1) k*bk R k (k+1) k):=by grind
 have e2:3*dk R (k+1)*dk R (k+1)=3*(dk R (k+1)*dk R (k+1)):=by grind
 rw[e1]at m;rw[e2]at hlv;have p0:=hpos k (by omega);have p1:=hpos (k+1) (by omega);have p2:=hpos (k+2) (by omega);have c0:((dk R k).toNat:Int)=dk R k:=Int.toNat_of_nonneg (by omega);have c1:((dk R (k+1)).toNat:Int)=dk R (k+1):=Int.toNat_of_nonneg (by omega);have c2:((dk R (k+2)).toNat:Int)=dk R (k+2):=Int.toNat_of_nonneg (by omega);have:(((dk R (k+1)).toNat*(dk R (k+1)).toNat:Nat):Int)<=((2*((dk R k).toNat*(dk R (k+2)).toNat):Nat):Int):=by
  push_cast
  rw[c0,c1,c2];have:dk R (k+2)=dk R (k+1+1):=rfl;rw[this];omega
 exact Int.ofNat_le.1 this
theorem Nn {C D E x a b y:Int} (hC:0<=C) (hD:0<D) (hE:0<E) (hE2:E<65536) (h:D*y=E*x-a*b) (hy: -(C*E)<=y/\y<=C*E) (ha: -E<=2*a/\2*a<=E) (hb: -E<=2*b/\2*b<=E):
  -((C+16384)*D)<=x/\x<=(C+16384)*D:=by
 have hab:=kJ ha hb (by omega) (by omega);have e4:2*a*(2*b)=4*(a*b):=by grind
 rw[e4]at hab;have hEE:E*E<=65536*E:=Int.mul_le_mul_of_nonneg_right (by omega) (by omega);have hED:E*1<=E*D:=Int.mul_le_mul_of_nonneg_left (by omega) (by omega);have h1:D*y<=D*(C*E):=Int.mul_le_mul_of_nonneg_left hy.2 (by omega);have h2:D*(-(C*E))<=D*y:=Int.mul_le_mul_of_nonneg_left hy.1 (by omega);have e5:D*(-(C*E))= -(C*(E*D)):=by grind
 have e6:D*(C*E)=C*(E*D):=by grind
 rw[e6]at h1;rw[e5]at h2;constructor
 ·rcases Int.lt_or_le x (-((C+16384)*D))with hlt|hle
  ·exfalso;have:=Int.mul_le_mul_of_nonneg_left (show x<= -((C+16384)*D)-1 by omega) (show 0<=E by omega);have e7:E*(-((C+16384)*D)-1)= -(C*(E*D))-16384*(E*D)-E:=by grind
   rw[e7]at this;omega
  exact hle
 rcases Int.lt_or_le ((C+16384)*D) x with hlt|hle
 ·exfalso;have:=Int.mul_le_mul_of_nonneg_left (show(C+16384)*D+1<=x by omega) (show 0<=E by omega);have e7:E*((C+16384)*D+1)=C*(E*D)+16384*(E*D)+E:=by grind
  rw[e7]at this;omega
 exact hle
theorem yL {R:FF} {n:Nat} (hs: ∀i,i<n-> ∀j,j<n->R i j=R j i) (hp: ∀k,k<n->0<dk R (k+1)) (hp2: ∀k,k<n->dk R (k+1)<65536) (hz: ∀t,t+1<n->Di R n t)
  {i:Nat} (hi:i<n): ∀m j k:Nat,j=k+m->j<=i-> -((65535+(m:Int)*16384)*dk R k)<=bk R k i j/\bk R k i j<=(65535+(m:Int)*16384)*dk R k
 |0,j,k,hjk,hj=>by
  have hjk:j=k:=by omega
  subst hjk;have hD:0<dk R j:=gG (fun t ht=>hp t (by omega));have hE:=hp j (by omega);have hE2:=hp2 j (by omega);have hle: -(dk R (j+1))<=bk R j i j/\bk R j i j<=dk R (j+1):=by
   by_cases e:i=j
   ·subst e;rw[<- bT];omega
   have:=hz j (by omega) i hi (by omega);omega
  have:(65535:Int)*1<=65535*dk R j:=Int.mul_le_mul_of_nonneg_left (by omega) (by omega);have e:((65535:Int)+(0:Nat)*16384)=65535:=by omega
  show -((65535+((0:Nat):Int)*16384)*dk R j)<=_/\_<=(65535+((0:Nat):Int)*16384)*dk R j;rw[e];omega
 |m+1,j,k,hjk,hj=>by
  have ih:=yL hs hp hp2 hz hi m j (k+1) (by omega) hj;have hne: ∀t,t<k->dk R (t+1)≠0:=fun t ht=>by have:=hp t (by omega);omega
  have hD:0<dk R k:=gG (fun t ht=>hp t (by omega));have h1:=hz k (by omega) i hi (by omega);have h2:=hz k (by omega) j (by omega) (by omega);rw[ip hs k (by omega) hne j k (by omega) (by omega)]at h2;have:=Nn (C:=65535+m*16384) (by omega) hD (hp k (by omega)) (hp2 k (by omega)) (sylv R k hne i j) ih h1 h2;have e:((65535:Int)+(m+1:Nat)*16384)=65535+m*16384+16384:=by omega
  rw[e];exact this
theorem vA {R:FF} {n:Nat} (h1:1<=n) (h8:n<=8) (h:RedR R n): ∀i,i<n-> ∀j,j<n-> -262144<R i j/\R i j<262144:=by
 have hsm:=j1 h1 h8 h;obtain⟨hs,hp,hd,hl⟩:=h;have key: ∀i,i<n-> ∀j,j<=i-> -262144<R i j/\R i j<262144:=by
  intro i hi j hj;have:=yL hs hp hsm (fun t ht=>(hl t ht).1) hi j j 0 (by omega) hj;rw[cp,cj,Int.mul_one]at this;have hj8:(j:Int)<=7:=by omega
  omega
 intro i hi j hj;rcases Nat.le_total j i with h|h
 ·exact key i hi j h
 rw[hs i hi j hj];exact key j hj i h
def Sn (rows:List (List Int)):Prop:=1<=rows.length/\rows.length<=8/\Sq rows/\RedR (ent rows) rows.length
theorem lK (rows:List (List Int)):isReducedM rows=true↔Sn rows:=by
 have hst:R6 (ent rows) rows.length 0 rows:=⟨by omega,fun i j _ _=>by rw[cp];simp⟩;unfold isReducedM;rw[Bool.and_eq_true,decide_eq_true_iff];constructor
 ·rintro⟨⟨h1,h8,hsq,hsm⟩,hr⟩;have hs: ∀i,i<rows.length-> ∀j,j<rows.length->ent rows i j=ent rows j i:=fun i hi j hj=>(hsm i hi j hj).1
  have:=(tJ h8 hs (fun i hi j hj=>by have:=(hsm i hi j hj).2;omega) rows.length 0 rows (by omega) (by omega) (fun t ht=>by omega) hst).1 hr;refine⟨h1,h8,hsq,hs,fun k hk=>?_,this.2.2,fun t ht=>?_⟩
  ·by_cases e:k+1=rows.length
   ·rw[e];exact this.2.1
   exact(this.1 k (by omega) (by omega)).1.1
  have h:=this.1 t (by omega) ht;exact⟨h.1.2.2,h.2⟩
 rintro⟨h1,h8,hsq,hr⟩;have hes:=vA h1 h8 hr;have hds:=j1 h1 h8 hr;obtain⟨hs,hp,hd,hl⟩:=hr;refine⟨⟨h1,h8,hsq,fun i hi j hj=>⟨hs i hi j hj,hes i hi j hj⟩⟩,?_⟩;refine(tJ h8 hs (fun i hi j hj=>by have:=hes i hi j hj;omega) rows.length 0 rows (by omega) (by omega) (fun t ht=>by omega) hst).2 ⟨fun t _ ht=>?_,?_,hd⟩
 ·exact⟨⟨hp t (by omega),hds t (by omega),(hl t ht).1⟩,(hl t ht).2⟩
 have:=hp (rows.length-1) (by omega);rw[show rows.length-1+1=rows.length by omega]at this;exact this
def be (m:Nat) (g:Nat->Int):List Int:=(List.range m).map g
def mat (n m:Nat) (f:FF):List (List Int):=(List.range n).map fun i=>be m (f i)
theorem aW (m:Nat) (g:Nat->Int):(be m g).length=m:=by simp[be]
theorem bV (n m:Nat) (f:FF):(mat n m f).length=n:=by simp[mat]
theorem aZ {m j:Nat} (g:Nat->Int) (h:j<m):(be m g)[j]?=some (g j):=by simp[be,h]
theorem b6 {n i:Nat} (m:Nat) (f:FF) (h:i<n):(mat n m f)[i]?=some (be m (f i)):=by simp[mat,h]
theorem dv {m:Nat} {g g':Nat->Int} (h: ∀j,j<m->g j=g' j):be m g=be m g':=List.map_congr_left fun j hj=>h j (List.mem_range.1 hj)
theorem gK {n m:Nat} {f f':FF} (h: ∀i j,i<n->j<m->f i j=f' i j):mat n m f=mat n m f':=
 List.map_congr_left fun i hi=>dv fun j hj=>h i j (List.mem_range.1 hi) hj
theorem ke {m j:Nat} (g:Nat->Int) (v:Int):(be m g).set j v=be m (fun c=>if c=j then v else g c):=by
 apply List.ext_getElem?;intro c;rw[List.getElem?_set];by_cases hc:c<m
 ·rw[aZ _ hc,aZ _ hc,aW];by_cases e:j=c
  ·subst e;simp[hc]
  simp[e,Ne.symm e]
 rw[au (l:=be m g) (by rw[aW];omega),au (l:=be m _) (by rw[aW];omega),aW];by_cases e:j=c
 ·subst e;simp[hc]
 simp[e]
theorem D6 {n m i:Nat} (f:FF) (g:Nat->Int):(mat n m f).set i (be m g)=mat n m (fun r=>if r=i then g else f r):=by
 apply List.ext_getElem?;intro c;rw[List.getElem?_set];by_cases hc:c<n
 ·rw[b6 _ _ hc,b6 _ _ hc,bV];by_cases e:i=c
  ·subst e;simp[hc]
  simp[e,Ne.symm e]
 rw[au (l:=mat n m f) (by rw[bV];omega),au (l:=mat n m _) (by rw[bV];omega),bV];by_cases e:i=c
 ·subst e;simp[hc]
 simp[e]
theorem J9 (l:List Int):l=be l.length fun j=>l.getD j 0:=by
 apply List.ext_getElem?;intro c;by_cases hc:c<l.length
 ·rw[aZ _ hc,List.getD_eq_getElem?_getD,aw hc];rfl
 rw[au (by omega),au (by rw[aW];omega)]
theorem D5 {M:List (List Int)} {m:Nat} (h: ∀r∈M,r.length=m):M=mat M.length m (ent M):=by
 apply List.ext_getElem?;intro c;by_cases hc:c<M.length
 ·rw[b6 _ _ hc,aw hc];have e:=J9 M[c];rw[h _ (List.getElem_mem hc)]at e;rw[e]
  congr 1
  refine dv fun j hj=>?_
  simp only[ent,List.getD_eq_getElem?_getD,aw hc,Option.getD_some]
 rw[au (by omega),au (by rw[bV];omega)]
def Hb (f:FF) (n k p:Nat):Nat:=if p<n then(if f p k=0 then Hb f n k (p+1)else p)else n
termination_by n-p
def swp (p k:Nat) (f:FF):Nat->Nat->Int:=fun i=>if i=p then f k else if i=k then f p else f i
def Td (k:Nat) (last:Int) (f:FF):Nat->Nat->Int:=fun i j=>if k<i/\k<j then(f k k*f i j-f i k*f k j)/last else f i j
def SC (n k:Nat) (f:FF):Nat->Nat->Int:=swp (Hb f n k k) k f
def Iq (n k:Nat) (f:FF) (last:Int) (neg:Bool):Int:=
 if k<n then(if Hb f n k k=n then 0 else Iq n (k+1) (Td k last (SC n k f)) (SC n k f k k) (neg !=decide (k<Hb f n k k)))
 else if neg then -last else last
termination_by n-k
def sn (n:Nat) (f:FF):Int:=Iq n 0 f 1 false
theorem P7 {f:FF} {n k p:Nat} (h:p<n) (h0:f p k=0):Hb f n k p=Hb f n k (p+1):=by rw[Hb,if_pos h,if_pos h0]
theorem P6 {f:FF} {n k p:Nat} (h:p<n) (h0:f p k≠0):Hb f n k p=p:=by rw[Hb,if_pos h,if_neg h0]
theorem MU {f:FF} {n k p:Nat} (h: ¬p<n):Hb f n k p=n:=by rw[Hb,if_neg h]
theorem Kv (k:Nat) (f:FF):swp k k f=f:=by
 funext i;unfold swp;by_cases h:i=k
 ·subst h;simp
 simp[h]
theorem DC {f:FF} {n:Nat} (hd: ∀t,t+1<n->dk f (t+1)≠0): ∀m k g,n-k=m->k<=n->(∀i j,k<=i->i<n->k<=j->j<n->g i j=bk f k i j)->Iq n k g (dk f k) false=dk f n
 |0,k,g,hm,hk,_=>by
  have:k=n:=by omega
  subst this;rw[Iq,if_neg (by omega)];rfl
 |m+1,k,g,hm,hk,hg=>by
  have hkk:g k k=dk f (k+1):=by rw[hg k k (by omega) (by omega) (by omega) (by omega),bT]
  rw[Iq,if_pos (show k<n by omega)];by_cases h0:g k k=0
  ·have hn:k+1=n:=by
    by_cases e:k+1<n
    ·exact absurd (hkk▸h0) (hd k e)
    omega
   rw[P7 (by omega) h0,MU (by omega),if_pos rfl,<- hn,<- hkk,h0]
  have hp:Hb g n k k=k:=P6 (by omega) h0;rw[hp,if_neg (by omega),SC,hp,Kv,hkk];have hne:dk f k≠0:=by
   cases k with
   |zero=>rw[cj];omega
   |succ k=>exact hd k (by omega)
  rw[show(false !=decide (k<k))=false by simp];refine DC hd m (k+1) _ (by omega) (by omega) fun i j hi hin hj hjn=>?_
  have hs:=sylv f k (fun t ht=>hd t (by omega)) i j;show(if k<i/\k<j then _ else _)=_;rw[if_pos ⟨by omega,by omega⟩,hkk,hg i j (by omega) hin (by omega) hjn,hg i k (by omega) hin (by omega) (by omega),hg k j (by omega) (by omega) (by omega) hjn,<- hs,Int.mul_ediv_cancel_left _ hne]
theorem xd {f:FF} {n:Nat} (hd: ∀t,t+1<n->dk f (t+1)≠0):sn n f=dk f n:=
 DC hd n 0 f rfl (by omega) fun i j _ _ _ _=>(cp f i j).symm
theorem pS {r s:Nat->Int}: ∀(cs:List Nat) {f g:List Nat->Int},(∀c∈cs,r c=s c)->(∀l,(∀c∈l,c∈cs)->f l=g l)->dc r f cs=dc s g cs
 |[],_,_,_,_=>rfl
 |c::cs,f,g,h,hf=>by
  rw[dc,dc,h c List.mem_cons_self,hf cs (fun c hc=>List.mem_cons_of_mem _ hc),pS cs (fun c hc=>h c (List.mem_cons_of_mem _ hc)) (fun l hl=>hf (c::l) (fun d hd=>by
   rcases List.mem_cons.1 hd with rfl|hd
   ·exact List.mem_cons_self
   exact List.mem_cons_of_mem _ (hl d hd)))]
theorem mA {f g:FF}: ∀{k:Nat} {cs:List Nat},(∀i,i<k-> ∀c∈cs,f i c=g i c)->om f k cs=om g k cs
 |0,_,_=>rfl
 |k+1,cs,h=>by
  show dc (f k) (om f k) cs=dc (g k) (om g k) cs;exact pS cs (fun c hc=>h k (by omega) c hc) (fun l hl=>mA fun i hi c hc=>h i (by omega) c (hl c hc))
theorem ot {f g:FF} {k:Nat} (h: ∀i j,i<k->j<k->f i j=g i j):dk f k=dk g k:=mA fun i hi c hc=>h i c hi (jI hc)
theorem Pp {f g:FF} {i j:Nat} (h: ∀r c,r<j->c<=j->g r c=f r c) (hi: ∀c,c<=j->g j c=f i c):dk g (j+1)=bk f j i j:=by
 rw[bT,bk,bk];refine pS _ (fun c hc=>?_) (fun l hl=>mA fun r hr c hc=>?_)
 ·rcases List.mem_cons.1 hc with rfl|hc
  ·exact hi c (by omega)
  exact hi c (by have:=jI hc;omega)
 have:=hl c hc;rcases List.mem_cons.1 this with rfl|this
 ·exact h r c hr (by omega)
 exact h r c hr (by have:=jI this;omega)
def I2 (f:FF) (i j:Nat):Nat->Nat->Int:=fun r c=>if r<j then f r c else f i c
def lam (f:FF) (i j:Nat):Int:=sn (j+1) (I2 f i j)
def dd (f:FF) (k:Nat):Int:=if k=0 then 1 else sn k f
def SymF (f:FF) (n:Nat):Prop:= ∀i,i<n-> ∀j,j<n->f i j=f j i
def Hi (f:FF) (n:Nat):Prop:= ∀k,k<n->0<sn (k+1) f
def jE (f:FF) (i j:Nat):Prop:=2*((lam f i j).natAbs:Int)<=dd f (j+1)
def mW (f:FF) (i:Nat):Prop:=3*(dd f i*dd f i)<=4*(dd f (i-1)*dd f (i+1)+lam f i (i-1)*lam f i (i-1))
def Re (f:FF) (n:Nat):Prop:= ∀i,i<n->(∀j,j<i->jE f i j)/\(0<i->mW f i)
theorem xE {f:FF} {n:Nat} (h:Hi f n): ∀k,k<n->0<dk f (k+1)/\sn (k+1) f=dk f (k+1):=by
 intro k
 induction k using Nat.strongRecOn with
 |ind k ih=>
  intro hk;have e:sn (k+1) f=dk f (k+1):=xd fun t ht=>by have:=(ih t (by omega) (by omega)).1;omega
  exact⟨e▸h k hk,e⟩
theorem ou {f:FF} {n:Nat} (h: ∀k,k<n->0<dk f (k+1)): ∀k,k<n->sn (k+1) f=dk f (k+1):=fun k hk=>
 xd fun t ht=>by have:=h t (by omega);omega
theorem jZ {f:FF} {n:Nat} (h: ∀k,k<n->0<dk f (k+1)) {k:Nat} (hk:k<=n):dd f k=dk f k:=by
 cases k with
 |zero=>rfl
 |succ k=>exact ou h k (by omega)
theorem nk {f:FF} {n:Nat} (h: ∀k,k<n->0<dk f (k+1)) {i j:Nat} (hj:j<n):lam f i j=bk f j i j:=by
 have e: ∀t,t+1<j+1->dk (I2 f i j) (t+1)=dk f (t+1):=fun t ht=>ot fun r c hr hc=>by
  unfold I2;rw[if_pos (by omega)]
 rw[lam,xd (fun t ht=>by rw[e t ht];have:=h t (by omega);omega)];refine Pp (fun r c hr hc=>?_) (fun c hc=>?_)
 ·unfold I2;rw[if_pos hr]
 unfold I2;rw[if_neg (by omega)]
theorem M4 {f:FF} {n:Nat} (hn:1<=n):(SymF f n/\Hi f n/\sn n f<=10000/\Re f n)↔RedR f n:=by
 constructor
 ·rintro⟨h1,h2,h3,h4⟩;have hp: ∀k,k<n->0<dk f (k+1):=fun k hk=>(xE h2 k hk).1
  have hdn:sn n f=dk f n:=by
   have:=(xE h2 (n-1) (by omega)).2;rwa[show n-1+1=n by omega]at this
  refine⟨h1,hp,hdn▸h3,fun t ht=>⟨fun i hi hti=>?_,?_⟩⟩
  ·have:=(h4 i hi).1 t hti;rw[jE,nk hp (by omega),jZ hp (by omega)]at this;omega
  have:=(h4 (t+1) ht).2 (by omega);rw[mW,nk hp (by omega),jZ hp (by omega),jZ hp (by omega),jZ hp (by omega)]at this;rw[Nat.add_sub_cancel]at this;rw[Lq,Int.mul_assoc];exact this
 rintro⟨h1,hp,h3,h4⟩;have hdn:sn n f=dk f n:=by
  have:=ou hp (n-1) (by omega);rwa[show n-1+1=n by omega]at this
 refine⟨h1,fun k hk=>?_,hdn.symm▸h3,fun i hi=>⟨fun j hj=>?_,fun h0=>?_⟩⟩
 ·rw[ou hp k hk];exact hp k hk
 ·have:=(h4 j (by omega)).1 i hi hj;rw[jE,nk hp (by omega),jZ hp (by omega)];omega
 have:=(h4 (i-1) (by omega)).2;rw[Lq,Int.mul_assoc,show i-1+1=i by omega]at this;rw[mW,nk hp (by omega),jZ hp (by omega),jZ hp (by omega),jZ hp (by omega)];exact this
end Go.Proofs.YtalmoejhjceflaaGreat
